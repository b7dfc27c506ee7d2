/-
  Chapter 54: whether two lists begin alike.
-/
import Derived.Test.YtlpboikonnpjbaaGreatGrpn
import Derived.Test.YtlpboikonnpjbaaGreatRq4
import Derived.Test.YtlpboikonnpjbaaGreatOpq
namespace Go.Proofs.YtlpboikonnpjbaaGreat
open Go.RowKit

/-- A list of records in memory. -/
def Stab.recs (n : Nat) (l : List Rec) : Stab := ⟨fun v W => ∃ D K, v = .slice D n K ∧ RecsAt W D K l, fun _ _ _ hx ⟨D, K, e, h⟩ => ⟨D, K, e, h.mono hx⟩⟩
theorem l54_records_n (A : Option Addr) (c n : Nat) (l : List Rec) (hl : l.length = n) (w : World) (hs : RecsAt w A c l) (hn : n * 552 ≤ 140737488355328) : Calls Tryz.prog 19 #[.slice A n c] w (RetQ w n l) := by
  subst hl
  exact l54_records A c l w hs hn
theorem r54_SameRecords_as (A : Option Addr) (c n : Nat) (l : List Rec) (hn : l.length = n) (B : Option Addr) (d k : Nat) (m : List Rec) (hk : m.length = k) (v : Bool) (hv : sameRs l m = v) (w : World) (h1 : RecsAt w A c l) (h2 : RecsAt w B d m) :
    Calls Tryz.prog 49 #[.slice A n c, .slice B k d] w fun e w' => e = .returned (.bool v) ∧ Ext w w' := by
  subst hv
  exact r54_SameRecords A c n l hn B d k m hk w h1 h2
set_option maxHeartbeats 3200000 in
set_option maxRecDepth 100000 in
theorem l54_begins (A : Option Addr) (c p : Nat) (a : List Rec) (hp : a.length = p) (B : Option Addr) (d q : Nat) (b : List Rec) (hq : b.length = q) (k : Nat) (v : Bool) (hv : sameRs (a.take k) (b.take k) = v) (h1 : k ≤ p) (h2 : k ≤ q) (hk : k * 552 ≤ 140737488355328) (w : World) (ha : RecsAt w A c a) (hb : RecsAt w B d b) :
    Calls Tryz.prog 30 #[.slice A p c, .slice B q d, .int .i64 k] w fun e w' => e = .returned (.bool v) ∧ Ext w w' := by
  subst hp hq
  have hl1 := ha.len
  have hl2 := hb.len
  obtain ⟨pa, la⟩ := ha.part 0 k h1 k (Nat.sub_zero k)
  obtain ⟨pb, lb⟩ := hb.part 0 k h2 k (Nat.sub_zero k)
  rw [partA_zero, Nat.sub_zero, List.drop_zero] at pa pb
  rw [List.drop_zero] at la lb
  have HA := Lib.hid pa
  have HB := Lib.hid pb
  have LA := Lib.hid la
  have LB := Lib.hid lb
  have HV := Lib.hid hv
  have i1 : (k : Int) ≤ (a.length : Int) := by omega
  have i2 : (k : Int) ≤ (b.length : Int) := by omega
  have i3 : (0 : Int) ≤ (k : Int) := by omega
  have i4 : (k : Int) ≤ (c : Int) := by have := ha.le; omega
  have i5 : (k : Int) ≤ (d : Int) := by have := hb.le; omega
  have hd1 : decide ((k : Int) ≤ (a.length : Int)) = true := decide_eq_true i1
  have hd2 : decide ((k : Int) ≤ (b.length : Int)) = true := decide_eq_true i2
  clear pa pb la lb hv ha hb
  go_enter Tryz.func30, Tryz.ntmps30
  go_wp2
  refine wp_region_stab 22 [] [Stab.is (.int .i64 k), Stab.is (.slice A a.length c), Stab.is (.int .i64 a.length), Stab.is (.bool true), Stab.is (.bool true), Stab.is (.int .i64 k), Stab.is (.slice B b.length d), Stab.is (.int .i64 b.length), Stab.is (.bool true), Stab.is (.bool true), Stab.is (.bool true), Stab.is (.slice A a.length c), Stab.is (.int .i64 k), Stab.is (.slice A k c), Stab.recs k (a.take k), Stab.is (.slice B b.length d), Stab.is (.int .i64 k), Stab.is (.slice B k d), Stab.recs k (b.take k), Stab.is (.bool v), Stab.is (.bool v), Stab.is (.bool v)] (fun u => by (simp only [putAll, List.take_succ_cons, List.take_zero, Act.put, Nat.zero_add, Nat.reduceAdd]); (try simp only [List.setIfInBounds_toArray]); (repeat (first | simp only [List.set_cons_succ] | simp only [List.set_cons_zero])); exact rfl) (by kernel_rfl) (by kernel_rfl) (fun _ _ _ _ _ h => h) ?_ ?_
  · refine ⟨?_, ?_, ?_, ?_, ?_, ?_, ?_, ?_, ?_, ?_, ?_, ?_, ?_, ?_, ?_, ?_, ?_, ?_, ?_, ?_, ?_, ?_, trivial⟩
    · (show SlotA _ _ _ _ _ _ _); intro u w1 hx1 hd; obtain ⟨y9, rfl⟩ := hx1.get; clear hx1
      refine slot_run rfl rfl rfl ?_; intro K hK
      go_simp; exact hK _ _ rfl (by repeat (first | exact Ext.refl _ | assumption | apply Ext.xt | apply Ext.alloc | apply Ext.drew | apply Ext.drewN)) rfl
    · (show SlotA _ _ _ _ _ _ _); intro u w1 hx1 hd; obtain ⟨y9, rfl⟩ := hx1.get; clear hx1
      refine slot_run rfl rfl rfl ?_; intro K hK
      go_simp; exact hK _ _ rfl (by repeat (first | exact Ext.refl _ | assumption | apply Ext.xt | apply Ext.alloc | apply Ext.drew | apply Ext.drewN)) rfl
    · (show SlotA _ _ _ _ _ _ _); intro u w1 hx1 hd; obtain ⟨y9, rfl⟩ := hx1.get; clear hx1
      have e1 : u 1 = .slice A a.length c := hd 1 (by kernel_rfl)
      simp only [e1]
      refine slot_run rfl rfl rfl ?_; intro K hK
      go_simp; exact hK _ _ rfl (by repeat (first | exact Ext.refl _ | assumption | apply Ext.xt | apply Ext.alloc | apply Ext.drew | apply Ext.drewN)) rfl
    · (show SlotA _ _ _ _ _ _ _); intro u w1 hx1 hd; obtain ⟨y9, rfl⟩ := hx1.get; clear hx1
      have e0 : u 0 = .int .i64 k := hd 0 (by kernel_rfl)
      have e2 : u 2 = .int .i64 a.length := hd 2 (by kernel_rfl)
      simp only [e0, e2]
      refine slot_run rfl rfl rfl ?_; intro K hK
      go_simp; exact hK _ _ rfl (by repeat (first | exact Ext.refl _ | assumption | apply Ext.xt | apply Ext.alloc | apply Ext.drew | apply Ext.drewN)) rfl
    · (show SlotA _ _ _ _ _ _ _); intro u w1 hx1 hd; obtain ⟨y9, rfl⟩ := hx1.get; clear hx1
      have e3 : u 3 = .bool true := hd 3 (by kernel_rfl)
      simp only [e3]
      refine slot_run rfl rfl rfl ?_; intro K hK
      go_simp; exact hK _ _ rfl (by repeat (first | exact Ext.refl _ | assumption | apply Ext.xt | apply Ext.alloc | apply Ext.drew | apply Ext.drewN)) rfl
    · (show SlotA _ _ _ _ _ _ _); intro u w1 hx1 hd; obtain ⟨y9, rfl⟩ := hx1.get; clear hx1
      have e4 : u 4 = .bool true := hd 4 (by kernel_rfl)
      simp only [e4]
      refine slot_run rfl rfl rfl ?_; intro K hK
      go_simp; exact hK _ _ rfl (by repeat (first | exact Ext.refl _ | assumption | apply Ext.xt | apply Ext.alloc | apply Ext.drew | apply Ext.drewN)) rfl
    · (show SlotA _ _ _ _ _ _ _); intro u w1 hx1 hd; obtain ⟨y9, rfl⟩ := hx1.get; clear hx1
      have e4 : u 4 = .bool true := hd 4 (by kernel_rfl)
      simp only [e4]
      refine slot_run rfl rfl rfl ?_; intro K hK
      go_simp; exact hK _ _ rfl (by repeat (first | exact Ext.refl _ | assumption | apply Ext.xt | apply Ext.alloc | apply Ext.drew | apply Ext.drewN)) rfl
    · (show SlotA _ _ _ _ _ _ _); intro u w1 hx1 hd; obtain ⟨y9, rfl⟩ := hx1.get; clear hx1
      have e4 : u 4 = .bool true := hd 4 (by kernel_rfl)
      have e6 : u 6 = .slice B b.length d := hd 6 (by kernel_rfl)
      simp only [e4, e6]
      refine slot_run rfl rfl rfl ?_; intro K hK
      go_simp; exact hK _ _ rfl (by repeat (first | exact Ext.refl _ | assumption | apply Ext.xt | apply Ext.alloc | apply Ext.drew | apply Ext.drewN)) rfl
    · (show SlotA _ _ _ _ _ _ _); intro u w1 hx1 hd; obtain ⟨y9, rfl⟩ := hx1.get; clear hx1
      have e4 : u 4 = .bool true := hd 4 (by kernel_rfl)
      have e5 : u 5 = .int .i64 k := hd 5 (by kernel_rfl)
      have e7 : u 7 = .int .i64 b.length := hd 7 (by kernel_rfl)
      simp only [e4, e5, e7]
      refine slot_run rfl rfl rfl ?_; intro K hK
      go_simp; exact hK _ _ rfl (by repeat (first | exact Ext.refl _ | assumption | apply Ext.xt | apply Ext.alloc | apply Ext.drew | apply Ext.drewN)) rfl
    · (show SlotA _ _ _ _ _ _ _); intro u w1 hx1 hd; obtain ⟨y9, rfl⟩ := hx1.get; clear hx1
      have e4 : u 4 = .bool true := hd 4 (by kernel_rfl)
      have e8 : u 8 = .bool true := hd 8 (by kernel_rfl)
      simp only [e4, e8]
      refine slot_run rfl rfl rfl ?_; intro K hK
      go_simp; exact hK _ _ rfl (by repeat (first | exact Ext.refl _ | assumption | apply Ext.xt | apply Ext.alloc | apply Ext.drew | apply Ext.drewN)) rfl
    · (show SlotA _ _ _ _ _ _ _); intro u w1 hx1 hd; obtain ⟨y9, rfl⟩ := hx1.get; clear hx1
      have e9 : u 9 = .bool true := hd 9 (by kernel_rfl)
      simp only [e9]
      refine slot_run rfl rfl rfl ?_; intro K hK
      go_simp; exact hK _ _ rfl (by repeat (first | exact Ext.refl _ | assumption | apply Ext.xt | apply Ext.alloc | apply Ext.drew | apply Ext.drewN)) rfl
    · (show SlotA _ _ _ _ _ _ _); intro u w1 hx1 hd; obtain ⟨y9, rfl⟩ := hx1.get; clear hx1
      have e10 : u 10 = .bool true := hd 10 (by kernel_rfl)
      simp only [e10]
      refine slot_run rfl rfl rfl ?_; intro K hK
      go_simp; exact hK _ _ rfl (by repeat (first | exact Ext.refl _ | assumption | apply Ext.xt | apply Ext.alloc | apply Ext.drew | apply Ext.drewN)) rfl
    · (show SlotA _ _ _ _ _ _ _); intro u w1 hx1 hd; obtain ⟨y9, rfl⟩ := hx1.get; clear hx1
      have e10 : u 10 = .bool true := hd 10 (by kernel_rfl)
      simp only [e10]
      refine slot_run rfl rfl rfl ?_; intro K hK
      go_simp; exact hK _ _ rfl (by repeat (first | exact Ext.refl _ | assumption | apply Ext.xt | apply Ext.alloc | apply Ext.drew | apply Ext.drewN)) rfl
    · (show SlotA _ _ _ _ _ _ _); intro u w1 hx1 hd; obtain ⟨y9, rfl⟩ := hx1.get; clear hx1
      have e10 : u 10 = .bool true := hd 10 (by kernel_rfl)
      have e11 : u 11 = .slice A a.length c := hd 11 (by kernel_rfl)
      have e12 : u 12 = .int .i64 k := hd 12 (by kernel_rfl)
      simp only [e10, e11, e12]
      refine slot_run rfl rfl rfl ?_; intro K hK
      go_simp; exact hK _ _ rfl (by repeat (first | exact Ext.refl _ | assumption | apply Ext.xt | apply Ext.alloc | apply Ext.drew | apply Ext.drewN)) rfl
    · (show SlotA _ _ _ _ _ _ _); intro u w1 hx1 hd; obtain ⟨y9, rfl⟩ := hx1.get; clear hx1
      have e10 : u 10 = .bool true := hd 10 (by kernel_rfl)
      have e13 : u 13 = .slice A k c := hd 13 (by kernel_rfl)
      simp only [e10, e13]
      refine slot_run rfl rfl rfl ?_; intro K hK
      go_simp; go_at_call 19; refine (l54_records_n _ _ k (a.take k) LA.out _ (HA.out.mono (by repeat (first | exact Ext.refl _ | assumption | apply Ext.xt | apply Ext.alloc | apply Ext.drew | apply Ext.drewN))) hk).mono ?_; rintro e w' ⟨D1, n1, rfl, hx, hown⟩; exact hK _ _ rfl hx ⟨D1, n1, rfl, Own.recs hown LA.out (fun r hr => (HA.out.el r hr).mono (by first | exact Ext.trans (by repeat (first | exact Ext.refl _ | assumption | apply Ext.xt | apply Ext.alloc | apply Ext.drew | apply Ext.drewN)) hx | exact by repeat (first | exact Ext.refl _ | assumption | apply Ext.xt | apply Ext.alloc | apply Ext.drew | apply Ext.drewN)))⟩
    · (show SlotA _ _ _ _ _ _ _); intro u w1 hx1 hd; obtain ⟨y9, rfl⟩ := hx1.get; clear hx1
      have e10 : u 10 = .bool true := hd 10 (by kernel_rfl)
      simp only [e10]
      refine slot_run rfl rfl rfl ?_; intro K hK
      go_simp; exact hK _ _ rfl (by repeat (first | exact Ext.refl _ | assumption | apply Ext.xt | apply Ext.alloc | apply Ext.drew | apply Ext.drewN)) rfl
    · (show SlotA _ _ _ _ _ _ _); intro u w1 hx1 hd; obtain ⟨y9, rfl⟩ := hx1.get; clear hx1
      have e10 : u 10 = .bool true := hd 10 (by kernel_rfl)
      simp only [e10]
      refine slot_run rfl rfl rfl ?_; intro K hK
      go_simp; exact hK _ _ rfl (by repeat (first | exact Ext.refl _ | assumption | apply Ext.xt | apply Ext.alloc | apply Ext.drew | apply Ext.drewN)) rfl
    · (show SlotA _ _ _ _ _ _ _); intro u w1 hx1 hd; obtain ⟨y9, rfl⟩ := hx1.get; clear hx1
      have e10 : u 10 = .bool true := hd 10 (by kernel_rfl)
      have e15 : u 15 = .slice B b.length d := hd 15 (by kernel_rfl)
      have e16 : u 16 = .int .i64 k := hd 16 (by kernel_rfl)
      simp only [e10, e15, e16]
      refine slot_run rfl rfl rfl ?_; intro K hK
      go_simp; exact hK _ _ rfl (by repeat (first | exact Ext.refl _ | assumption | apply Ext.xt | apply Ext.alloc | apply Ext.drew | apply Ext.drewN)) rfl
    · (show SlotA _ _ _ _ _ _ _); intro u w1 hx1 hd; obtain ⟨y9, rfl⟩ := hx1.get; clear hx1
      have e10 : u 10 = .bool true := hd 10 (by kernel_rfl)
      have e17 : u 17 = .slice B k d := hd 17 (by kernel_rfl)
      simp only [e10, e17]
      refine slot_run rfl rfl rfl ?_; intro K hK
      go_simp; go_at_call 19; refine (l54_records_n _ _ k (b.take k) LB.out _ (HB.out.mono (by repeat (first | exact Ext.refl _ | assumption | apply Ext.xt | apply Ext.alloc | apply Ext.drew | apply Ext.drewN))) hk).mono ?_; rintro e w' ⟨D1, n1, rfl, hx, hown⟩; exact hK _ _ rfl hx ⟨D1, n1, rfl, Own.recs hown LB.out (fun r hr => (HB.out.el r hr).mono (by first | exact Ext.trans (by repeat (first | exact Ext.refl _ | assumption | apply Ext.xt | apply Ext.alloc | apply Ext.drew | apply Ext.drewN)) hx | exact by repeat (first | exact Ext.refl _ | assumption | apply Ext.xt | apply Ext.alloc | apply Ext.drew | apply Ext.drewN)))⟩
    · (show SlotA _ _ _ _ _ _ _); intro u w1 hx1 hd; obtain ⟨y9, rfl⟩ := hx1.get; clear hx1
      have e10 : u 10 = .bool true := hd 10 (by kernel_rfl)
      obtain ⟨D14, K14, e14, h14⟩ := hd 14 (by kernel_rfl)
      obtain ⟨D18, K18, e18, h18⟩ := hd 18 (by kernel_rfl)
      simp only [e10, e14, e18]
      refine slot_run rfl rfl rfl ?_; intro K hK
      go_simp; go_at_call 49; refine (r54_SameRecords_as _ _ _ (a.take k) LA.out _ _ _ (b.take k) LB.out v HV.out _ (h14.mono (by repeat (first | exact Ext.refl _ | assumption | apply Ext.xt | apply Ext.alloc | apply Ext.drew | apply Ext.drewN))) (h18.mono (by repeat (first | exact Ext.refl _ | assumption | apply Ext.xt | apply Ext.alloc | apply Ext.drew | apply Ext.drewN)))).mono ?_; rintro e w' ⟨rfl, hx⟩; exact hK _ _ rfl hx rfl
    · (show SlotA _ _ _ _ _ _ _); intro u w1 hx1 hd; obtain ⟨y9, rfl⟩ := hx1.get; clear hx1
      have e10 : u 10 = .bool true := hd 10 (by kernel_rfl)
      have e19 : u 19 = .bool v := hd 19 (by kernel_rfl)
      simp only [e10, e19]
      refine slot_run rfl rfl rfl ?_; intro K hK
      go_simp; exact hK _ _ rfl (by repeat (first | exact Ext.refl _ | assumption | apply Ext.xt | apply Ext.alloc | apply Ext.drew | apply Ext.drewN)) rfl
    · (show SlotA _ _ _ _ _ _ _); intro u w1 hx1 hd; obtain ⟨y9, rfl⟩ := hx1.get; clear hx1
      have e20 : u 20 = .bool v := hd 20 (by kernel_rfl)
      simp only [e20]
      refine slot_run rfl rfl rfl ?_; intro K hK
      go_simp; exact hK _ _ rfl (by repeat (first | exact Ext.refl _ | assumption | apply Ext.xt | apply Ext.alloc | apply Ext.drew | apply Ext.drewN)) rfl
  · intro u w2 hx2 hT; obtain ⟨t0, t1, t2, t3, t4, t5, t6, t7, t8, t9, t10, t11, t12, t13, t14, t15, t16, t17, t18, t19, t20, t21, -⟩ := hT; obtain ⟨y9, rfl⟩ := hx2.get; clear hx2
    have e21 : u 21 = .bool v := t21
    simp only [e21]
    clear e21 t0 t1 t2 t3 t4 t5 t6 t7 t8 t9 t10 t11 t12 t13 t14 t15 t16 t17 t18 t19 t20 t21
    simp only [List.drop_succ_cons, List.drop_zero]
    refine wpList_nil ?_
    go_wp2
    go_ret
    exact ⟨rfl, by repeat (first | exact Ext.refl _ | assumption | apply Ext.xt | apply Ext.alloc | apply Ext.drew | apply Ext.drewN)⟩
end Go.Proofs.YtlpboikonnpjbaaGreat
