/-
  ReplicaAgrees in plain: what the two Settles leave.
-/
import Derived.Test.YtlpboikonnpjbaaGreatGrag
import Derived.Test.YtlpboikonnpjbaaGreatGrpn
import Derived.Test.YtlpboikonnpjbaaGreatRq4
import Derived.Test.YtlpboikonnpjbaaGreatGopq
import Derived.Test.YtlpboikonnpjbaaGreatParts
import Derived.Test.YtlpboikonnpjbaaGreatGsml
import Derived.Test.YtlpboikonnpjbaaGreatGsetl
import Derived.Test.YtlpboikonnpjbaaGreatGrpj
import Derived.Test.YtlpboikonnpjbaaGreatGrpm
import Derived.Test.YtlpboikonnpjbaaGreatGrpr
namespace Go.Proofs.YtlpboikonnpjbaaGreat

theorem agrees_1 {a b x y : Nod} {cn : Int} (h : settleV a b = (x, y, cn, 0)) :
    x.log.length = a.log.length ∧ sameRs (x.log.take a.log.length) (a.log.take a.log.length) = true ∧ sameRs (y.log.take a.log.length) (a.log.take a.log.length) = true ∧ a.log.length ≤ y.log.length ∧ x.acked = a.log.length ∧ y.acked = a.log.length ∧ nodE x = 0 ∧ nodE y = 0 ∧ Pair x y ∧ settledB x y = true := by
  obtain ⟨-, hp, hl, -, -, -, hs⟩ := settleV_ok h
  obtain ⟨h1, h2, h3⟩ := settled_all hs
  have hxl : x.log.length = a.log.length := by rw [hl]
  rw [hxl] at h1 h2 h3
  have h4 := ((sameRs_iff _ _).1 h1).1
  rw [List.length_take] at h4
  refine ⟨hxl, by rw [hl]; exact sameRs_refl _, ?_, by omega, h2, h3, (nodE_iff x).2 hp.na, (nodE_iff y).2 hp.nb, hp, hs⟩
  rw [List.take_length]
  rw [hl] at h1
  exact sameRs_symm h1
theorem actions_all {p : Nod} (hp : NodOk p) (h : p.acked = p.log.length) : actionsV p = (p.log.map (·.act), 0) := by
  unfold actionsV
  rw [if_neg (by rw [(nodE_iff p).2 hp]; simp), h]
  simp
theorem agrees_2 {x y more p q : Nod} {act : Acn} {c g : Int} (hp : Pair x y) (hs : settledB x y = true) (hm : actV x act = (more, 0)) (hlast : x.log.length < y.log.length → ∀ r, y.log.getLast? = some r → r.term < x.term) (h : settleV more y = (p, q, c, g)) :
    ∃ l1 l2 : List Acn, g = 0 ∧ actionsV p = (l1, 0) ∧ actionsV q = (l2, 0) ∧ l1.length = x.log.length + 1 ∧ l2.length = x.log.length + 1 ∧ q.log.length = x.log.length + 1 ∧ ∀ (k : Nat) (u v : Acn), l1[k]? = some u → l2[k]? = some v → sameA u v = true := by
  obtain ⟨p', q', c', h', hd, hl⟩ := settle_more hp hs hm hlast
  rw [h] at h'
  injection h' with e1 h'
  injection h' with e2 h'
  injection h' with e3 e4
  subst e1 e2 e3 e4
  have hlen := ((sameRs_iff _ _).1 hd.same).1
  refine ⟨_, _, rfl, actions_all hd.np (by rw [hd.pa, hd.log]), actions_all hd.nq (by rw [hd.qa, hlen]), by rw [List.length_map, hd.log, hl], by rw [List.length_map, ← hlen, hl], by rw [← hlen, hl], fun k u v hu hv => ?_⟩
  rw [List.getElem?_map] at hu hv
  rw [hd.log] at hu
  cases h1 : more.log[k]? with
  | none => rw [h1] at hu; cases hu
  | some r =>
    cases h2 : q.log[k]? with
    | none => rw [h2] at hv; cases hv
    | some r2 =>
      rw [h1] at hu; rw [h2] at hv
      injection hu with hu; injection hv with hv
      subst hu hv
      exact sameA_prop.2 (sameR_prop.1 (((sameRs_iff _ _).1 hd.same).2 k r r2 h1 h2)).2
end Go.Proofs.YtlpboikonnpjbaaGreat

/-
  Chapter 54: whether two lists begin alike.
-/
namespace Go.Proofs.YtlpboikonnpjbaaGreat
open Go.RowKit

/-- A list of records in memory. -/
def Stab.recs (n : Nat) (l : List Rec) : Stab := ⟨fun v W => ∃ D K, v = .slice D n K ∧ RecsAt W D K l, fun _ _ _ hx ⟨D, K, e, h⟩ => ⟨D, K, e, h.mono hx⟩⟩
theorem l54_records_n (A : Option Addr) (c n : Nat) (l : List Rec) (hl : l.length = n) (w : World) (hs : RecsAt w A c l) (hn : n * 552 ≤ 140737488355328) : Calls Tryz.prog 19 #[.slice A n c] w (RetQ w n l) := by
  subst hl
  exact l54_records A c l w hs hn
theorem r54_SameRecords_as (A : Option Addr) (c n : Nat) (l : List Rec) (hn : l.length = n) (B : Option Addr) (d k : Nat) (m : List Rec) (hk : m.length = k) (v : Bool) (hv : sameRs l m = v) (w : World) (h1 : RecsAt w A c l) (h2 : RecsAt w B d m) :
    Calls Tryz.prog 49 #[.slice A n c, .slice B k d] w fun e w' => e = .returned (.bool v) ∧ Ext w w' := by
  subst hv
  exact r54_SameRecords A c n l hn B d k m hk w h1 h2
set_option maxHeartbeats 3200000 in
set_option maxRecDepth 100000 in
theorem l54_begins (A : Option Addr) (c p : Nat) (a : List Rec) (hp : a.length = p) (B : Option Addr) (d q : Nat) (b : List Rec) (hq : b.length = q) (k : Nat) (v : Bool) (hv : sameRs (a.take k) (b.take k) = v) (h1 : k ≤ p) (h2 : k ≤ q) (hk : k * 552 ≤ 140737488355328) (w : World) (ha : RecsAt w A c a) (hb : RecsAt w B d b) :
    Calls Tryz.prog 30 #[.slice A p c, .slice B q d, .int .i64 k] w fun e w' => e = .returned (.bool v) ∧ Ext w w' := by
  subst hp hq
  have hl1 := ha.len
  have hl2 := hb.len
  obtain ⟨pa, la⟩ := ha.part 0 k h1 k (Nat.sub_zero k)
  obtain ⟨pb, lb⟩ := hb.part 0 k h2 k (Nat.sub_zero k)
  rw [partA_zero, Nat.sub_zero, List.drop_zero] at pa pb
  rw [List.drop_zero] at la lb
  have HA := Lib.hid pa
  have HB := Lib.hid pb
  have LA := Lib.hid la
  have LB := Lib.hid lb
  have HV := Lib.hid hv
  have i1 : (k : Int) ≤ (a.length : Int) := by omega
  have i2 : (k : Int) ≤ (b.length : Int) := by omega
  have i3 : (0 : Int) ≤ (k : Int) := by omega
  have i4 : (k : Int) ≤ (c : Int) := by have := ha.le; omega
  have i5 : (k : Int) ≤ (d : Int) := by have := hb.le; omega
  have hd1 : decide ((k : Int) ≤ (a.length : Int)) = true := decide_eq_true i1
  have hd2 : decide ((k : Int) ≤ (b.length : Int)) = true := decide_eq_true i2
  clear pa pb la lb hv ha hb
  go_enter Tryz.func30, Tryz.ntmps30
  go_wp2
  refine wp_region_stab 22 [] [Stab.is (.int .i64 k), Stab.is (.slice A a.length c), Stab.is (.int .i64 a.length), Stab.is (.bool true), Stab.is (.bool true), Stab.is (.int .i64 k), Stab.is (.slice B b.length d), Stab.is (.int .i64 b.length), Stab.is (.bool true), Stab.is (.bool true), Stab.is (.bool true), Stab.is (.slice A a.length c), Stab.is (.int .i64 k), Stab.is (.slice A k c), Stab.recs k (a.take k), Stab.is (.slice B b.length d), Stab.is (.int .i64 k), Stab.is (.slice B k d), Stab.recs k (b.take k), Stab.is (.bool v), Stab.is (.bool v), Stab.is (.bool v)] (fun u => by (simp only [putAll, List.take_succ_cons, List.take_zero, Act.put, Nat.zero_add, Nat.reduceAdd]); (try simp only [List.setIfInBounds_toArray]); (repeat (first | simp only [List.set_cons_succ] | simp only [List.set_cons_zero])); exact rfl) (by kernel_rfl) (by kernel_rfl) (fun _ _ _ _ _ h => h) ?_ ?_
  · refine ⟨?_, ?_, ?_, ?_, ?_, ?_, ?_, ?_, ?_, ?_, ?_, ?_, ?_, ?_, ?_, ?_, ?_, ?_, ?_, ?_, ?_, ?_, trivial⟩
    · (show SlotA _ _ _ _ _ _ _); intro u w1 hx1 hd; obtain ⟨y9, rfl⟩ := hx1.get; clear hx1
      refine slot_run rfl rfl rfl ?_; intro K9 hK
      go_simp; exact hK _ _ rfl (by repeat (first | exact Ext.refl _ | assumption | apply Ext.xt | apply Ext.alloc | apply Ext.drew | apply Ext.drewN)) rfl
    · (show SlotA _ _ _ _ _ _ _); intro u w1 hx1 hd; obtain ⟨y9, rfl⟩ := hx1.get; clear hx1
      refine slot_run rfl rfl rfl ?_; intro K9 hK
      go_simp; exact hK _ _ rfl (by repeat (first | exact Ext.refl _ | assumption | apply Ext.xt | apply Ext.alloc | apply Ext.drew | apply Ext.drewN)) rfl
    · (show SlotA _ _ _ _ _ _ _); intro u w1 hx1 hd; obtain ⟨y9, rfl⟩ := hx1.get; clear hx1
      have e1 : u 1 = .slice A a.length c := hd 1 (by kernel_rfl)
      simp only [e1]
      refine slot_run rfl rfl rfl ?_; intro K9 hK
      go_simp; exact hK _ _ rfl (by repeat (first | exact Ext.refl _ | assumption | apply Ext.xt | apply Ext.alloc | apply Ext.drew | apply Ext.drewN)) rfl
    · (show SlotA _ _ _ _ _ _ _); intro u w1 hx1 hd; obtain ⟨y9, rfl⟩ := hx1.get; clear hx1
      have e0 : u 0 = .int .i64 k := hd 0 (by kernel_rfl)
      have e2 : u 2 = .int .i64 a.length := hd 2 (by kernel_rfl)
      simp only [e0, e2]
      refine slot_run rfl rfl rfl ?_; intro K9 hK
      go_simp; exact hK _ _ rfl (by repeat (first | exact Ext.refl _ | assumption | apply Ext.xt | apply Ext.alloc | apply Ext.drew | apply Ext.drewN)) rfl
    · (show SlotA _ _ _ _ _ _ _); intro u w1 hx1 hd; obtain ⟨y9, rfl⟩ := hx1.get; clear hx1
      have e3 : u 3 = .bool true := hd 3 (by kernel_rfl)
      simp only [e3]
      refine slot_run rfl rfl rfl ?_; intro K9 hK
      go_simp; exact hK _ _ rfl (by repeat (first | exact Ext.refl _ | assumption | apply Ext.xt | apply Ext.alloc | apply Ext.drew | apply Ext.drewN)) rfl
    · (show SlotA _ _ _ _ _ _ _); intro u w1 hx1 hd; obtain ⟨y9, rfl⟩ := hx1.get; clear hx1
      have e4 : u 4 = .bool true := hd 4 (by kernel_rfl)
      simp only [e4]
      refine slot_run rfl rfl rfl ?_; intro K9 hK
      go_simp; exact hK _ _ rfl (by repeat (first | exact Ext.refl _ | assumption | apply Ext.xt | apply Ext.alloc | apply Ext.drew | apply Ext.drewN)) rfl
    · (show SlotA _ _ _ _ _ _ _); intro u w1 hx1 hd; obtain ⟨y9, rfl⟩ := hx1.get; clear hx1
      have e4 : u 4 = .bool true := hd 4 (by kernel_rfl)
      simp only [e4]
      refine slot_run rfl rfl rfl ?_; intro K9 hK
      go_simp; exact hK _ _ rfl (by repeat (first | exact Ext.refl _ | assumption | apply Ext.xt | apply Ext.alloc | apply Ext.drew | apply Ext.drewN)) rfl
    · (show SlotA _ _ _ _ _ _ _); intro u w1 hx1 hd; obtain ⟨y9, rfl⟩ := hx1.get; clear hx1
      have e4 : u 4 = .bool true := hd 4 (by kernel_rfl)
      have e6 : u 6 = .slice B b.length d := hd 6 (by kernel_rfl)
      simp only [e4, e6]
      refine slot_run rfl rfl rfl ?_; intro K9 hK
      go_simp; exact hK _ _ rfl (by repeat (first | exact Ext.refl _ | assumption | apply Ext.xt | apply Ext.alloc | apply Ext.drew | apply Ext.drewN)) rfl
    · (show SlotA _ _ _ _ _ _ _); intro u w1 hx1 hd; obtain ⟨y9, rfl⟩ := hx1.get; clear hx1
      have e4 : u 4 = .bool true := hd 4 (by kernel_rfl)
      have e5 : u 5 = .int .i64 k := hd 5 (by kernel_rfl)
      have e7 : u 7 = .int .i64 b.length := hd 7 (by kernel_rfl)
      simp only [e4, e5, e7]
      refine slot_run rfl rfl rfl ?_; intro K9 hK
      go_simp; exact hK _ _ rfl (by repeat (first | exact Ext.refl _ | assumption | apply Ext.xt | apply Ext.alloc | apply Ext.drew | apply Ext.drewN)) rfl
    · (show SlotA _ _ _ _ _ _ _); intro u w1 hx1 hd; obtain ⟨y9, rfl⟩ := hx1.get; clear hx1
      have e4 : u 4 = .bool true := hd 4 (by kernel_rfl)
      have e8 : u 8 = .bool true := hd 8 (by kernel_rfl)
      simp only [e4, e8]
      refine slot_run rfl rfl rfl ?_; intro K9 hK
      go_simp; exact hK _ _ rfl (by repeat (first | exact Ext.refl _ | assumption | apply Ext.xt | apply Ext.alloc | apply Ext.drew | apply Ext.drewN)) rfl
    · (show SlotA _ _ _ _ _ _ _); intro u w1 hx1 hd; obtain ⟨y9, rfl⟩ := hx1.get; clear hx1
      have e9 : u 9 = .bool true := hd 9 (by kernel_rfl)
      simp only [e9]
      refine slot_run rfl rfl rfl ?_; intro K9 hK
      go_simp; exact hK _ _ rfl (by repeat (first | exact Ext.refl _ | assumption | apply Ext.xt | apply Ext.alloc | apply Ext.drew | apply Ext.drewN)) rfl
    · (show SlotA _ _ _ _ _ _ _); intro u w1 hx1 hd; obtain ⟨y9, rfl⟩ := hx1.get; clear hx1
      have e10 : u 10 = .bool true := hd 10 (by kernel_rfl)
      simp only [e10]
      refine slot_run rfl rfl rfl ?_; intro K9 hK
      go_simp; exact hK _ _ rfl (by repeat (first | exact Ext.refl _ | assumption | apply Ext.xt | apply Ext.alloc | apply Ext.drew | apply Ext.drewN)) rfl
    · (show SlotA _ _ _ _ _ _ _); intro u w1 hx1 hd; obtain ⟨y9, rfl⟩ := hx1.get; clear hx1
      have e10 : u 10 = .bool true := hd 10 (by kernel_rfl)
      simp only [e10]
      refine slot_run rfl rfl rfl ?_; intro K9 hK
      go_simp; exact hK _ _ rfl (by repeat (first | exact Ext.refl _ | assumption | apply Ext.xt | apply Ext.alloc | apply Ext.drew | apply Ext.drewN)) rfl
    · (show SlotA _ _ _ _ _ _ _); intro u w1 hx1 hd; obtain ⟨y9, rfl⟩ := hx1.get; clear hx1
      have e10 : u 10 = .bool true := hd 10 (by kernel_rfl)
      have e11 : u 11 = .slice A a.length c := hd 11 (by kernel_rfl)
      have e12 : u 12 = .int .i64 k := hd 12 (by kernel_rfl)
      simp only [e10, e11, e12]
      refine slot_run rfl rfl rfl ?_; intro K9 hK
      go_simp; exact hK _ _ rfl (by repeat (first | exact Ext.refl _ | assumption | apply Ext.xt | apply Ext.alloc | apply Ext.drew | apply Ext.drewN)) rfl
    · (show SlotA _ _ _ _ _ _ _); intro u w1 hx1 hd; obtain ⟨y9, rfl⟩ := hx1.get; clear hx1
      have e10 : u 10 = .bool true := hd 10 (by kernel_rfl)
      have e13 : u 13 = .slice A k c := hd 13 (by kernel_rfl)
      simp only [e10, e13]
      refine slot_run rfl rfl rfl ?_; intro K9 hK
      go_simp; go_at_call 19; refine (l54_records_n _ _ k (a.take k) LA.out _ (HA.out.mono (by repeat (first | exact Ext.refl _ | assumption | apply Ext.xt | apply Ext.alloc | apply Ext.drew | apply Ext.drewN))) hk).mono ?_; rintro e w' ⟨D1, n1, rfl, hx, hown⟩; exact hK _ _ rfl hx ⟨D1, n1, rfl, Own.recs hown LA.out (fun r hr => (HA.out.el r hr).mono (by first | exact Ext.trans (by repeat (first | exact Ext.refl _ | assumption | apply Ext.xt | apply Ext.alloc | apply Ext.drew | apply Ext.drewN)) hx | exact by repeat (first | exact Ext.refl _ | assumption | apply Ext.xt | apply Ext.alloc | apply Ext.drew | apply Ext.drewN)))⟩
    · (show SlotA _ _ _ _ _ _ _); intro u w1 hx1 hd; obtain ⟨y9, rfl⟩ := hx1.get; clear hx1
      have e10 : u 10 = .bool true := hd 10 (by kernel_rfl)
      simp only [e10]
      refine slot_run rfl rfl rfl ?_; intro K9 hK
      go_simp; exact hK _ _ rfl (by repeat (first | exact Ext.refl _ | assumption | apply Ext.xt | apply Ext.alloc | apply Ext.drew | apply Ext.drewN)) rfl
    · (show SlotA _ _ _ _ _ _ _); intro u w1 hx1 hd; obtain ⟨y9, rfl⟩ := hx1.get; clear hx1
      have e10 : u 10 = .bool true := hd 10 (by kernel_rfl)
      simp only [e10]
      refine slot_run rfl rfl rfl ?_; intro K9 hK
      go_simp; exact hK _ _ rfl (by repeat (first | exact Ext.refl _ | assumption | apply Ext.xt | apply Ext.alloc | apply Ext.drew | apply Ext.drewN)) rfl
    · (show SlotA _ _ _ _ _ _ _); intro u w1 hx1 hd; obtain ⟨y9, rfl⟩ := hx1.get; clear hx1
      have e10 : u 10 = .bool true := hd 10 (by kernel_rfl)
      have e15 : u 15 = .slice B b.length d := hd 15 (by kernel_rfl)
      have e16 : u 16 = .int .i64 k := hd 16 (by kernel_rfl)
      simp only [e10, e15, e16]
      refine slot_run rfl rfl rfl ?_; intro K9 hK
      go_simp; exact hK _ _ rfl (by repeat (first | exact Ext.refl _ | assumption | apply Ext.xt | apply Ext.alloc | apply Ext.drew | apply Ext.drewN)) rfl
    · (show SlotA _ _ _ _ _ _ _); intro u w1 hx1 hd; obtain ⟨y9, rfl⟩ := hx1.get; clear hx1
      have e10 : u 10 = .bool true := hd 10 (by kernel_rfl)
      have e17 : u 17 = .slice B k d := hd 17 (by kernel_rfl)
      simp only [e10, e17]
      refine slot_run rfl rfl rfl ?_; intro K9 hK
      go_simp; go_at_call 19; refine (l54_records_n _ _ k (b.take k) LB.out _ (HB.out.mono (by repeat (first | exact Ext.refl _ | assumption | apply Ext.xt | apply Ext.alloc | apply Ext.drew | apply Ext.drewN))) hk).mono ?_; rintro e w' ⟨D1, n1, rfl, hx, hown⟩; exact hK _ _ rfl hx ⟨D1, n1, rfl, Own.recs hown LB.out (fun r hr => (HB.out.el r hr).mono (by first | exact Ext.trans (by repeat (first | exact Ext.refl _ | assumption | apply Ext.xt | apply Ext.alloc | apply Ext.drew | apply Ext.drewN)) hx | exact by repeat (first | exact Ext.refl _ | assumption | apply Ext.xt | apply Ext.alloc | apply Ext.drew | apply Ext.drewN)))⟩
    · (show SlotA _ _ _ _ _ _ _); intro u w1 hx1 hd; obtain ⟨y9, rfl⟩ := hx1.get; clear hx1
      have e10 : u 10 = .bool true := hd 10 (by kernel_rfl)
      obtain ⟨D14, K14, e14, h14⟩ := hd 14 (by kernel_rfl)
      obtain ⟨D18, K18, e18, h18⟩ := hd 18 (by kernel_rfl)
      simp only [e10, e14, e18]
      refine slot_run rfl rfl rfl ?_; intro K9 hK
      go_simp; go_at_call 49; refine (r54_SameRecords_as _ _ _ (a.take k) LA.out _ _ _ (b.take k) LB.out v HV.out _ (h14.mono (by repeat (first | exact Ext.refl _ | assumption | apply Ext.xt | apply Ext.alloc | apply Ext.drew | apply Ext.drewN))) (h18.mono (by repeat (first | exact Ext.refl _ | assumption | apply Ext.xt | apply Ext.alloc | apply Ext.drew | apply Ext.drewN)))).mono ?_; rintro e w' ⟨rfl, hx⟩; exact hK _ _ rfl hx rfl
    · (show SlotA _ _ _ _ _ _ _); intro u w1 hx1 hd; obtain ⟨y9, rfl⟩ := hx1.get; clear hx1
      have e10 : u 10 = .bool true := hd 10 (by kernel_rfl)
      have e19 : u 19 = .bool v := hd 19 (by kernel_rfl)
      simp only [e10, e19]
      refine slot_run rfl rfl rfl ?_; intro K9 hK
      go_simp; exact hK _ _ rfl (by repeat (first | exact Ext.refl _ | assumption | apply Ext.xt | apply Ext.alloc | apply Ext.drew | apply Ext.drewN)) rfl
    · (show SlotA _ _ _ _ _ _ _); intro u w1 hx1 hd; obtain ⟨y9, rfl⟩ := hx1.get; clear hx1
      have e20 : u 20 = .bool v := hd 20 (by kernel_rfl)
      simp only [e20]
      refine slot_run rfl rfl rfl ?_; intro K9 hK
      go_simp; exact hK _ _ rfl (by repeat (first | exact Ext.refl _ | assumption | apply Ext.xt | apply Ext.alloc | apply Ext.drew | apply Ext.drewN)) rfl
  · intro u w2 hx2 hT; obtain ⟨t0, t1, t2, t3, t4, t5, t6, t7, t8, t9, t10, t11, t12, t13, t14, t15, t16, t17, t18, t19, t20, t21, -⟩ := hT; obtain ⟨y9, rfl⟩ := hx2.get; clear hx2
    have e21 : u 21 = .bool v := t21
    simp only [e21]
    clear e21 t0 t1 t2 t3 t4 t5 t6 t7 t8 t9 t10 t11 t12 t13 t14 t15 t16 t17 t18 t19 t20 t21
    simp only [List.drop_succ_cons, List.drop_zero]
    refine wpList_nil ?_
    go_wp2
    go_ret
    exact ⟨rfl, by repeat (first | exact Ext.refl _ | assumption | apply Ext.xt | apply Ext.alloc | apply Ext.drew | apply Ext.drewN)⟩
end Go.Proofs.YtlpboikonnpjbaaGreat

/-
  ReplicaAgrees.
-/
namespace Go.Proofs.YtlpboikonnpjbaaGreat
open Go.RowKit

theorem few_pair (a : Nod) (A : Option Addr) (c : Nat) (b : Nod) (B : Option Addr) (d : Nat) (X : Option Addr) (W : World) (hs : Sl W X 6 ([(a, A, c), (b, B, d)].map nodR)) (h1 : RecsAt W A c a.log) (h2 : RecsAt W B d b.log) (hb1 : a.log.length * 552 ≤ 140737488355328) (hb2 : b.log.length * 552 ≤ 140737488355328) :
    Calls Tryz.prog 17 #[.slice X 2 2] W (FewNs W [(a, A, c), (b, B, d)]) := by
  refine l54_few X 2 [(a, A, c), (b, B, d)] W hs (by simp) (fun x hx => ?_) (fun x hx => ?_)
  · simp only [List.mem_cons, List.not_mem_nil, or_false] at hx
    rcases hx with rfl | rfl
    · exact h1
    · exact h2
  · simp only [List.mem_cons, List.not_mem_nil, or_false] at hx
    rcases hx with rfl | rfl
    · exact hb1
    · exact hb2
theorem rep_Check_no (n : Nod) (h : nodE n = 0) (A : Option Addr) (c : Nat) (w : World) (hs : RecsAt w A c n.log) : Calls Tryz.prog 29 #[.agg #[.int .i64 n.id, .int .i64 n.term, .bool n.speaks, .slice A n.log.length c, .int .i64 n.acked, .int .i64 n.next]] w fun e w' => e = .returned (.int .i64 0) ∧ Ext w w' := by
  have := rep_Check n A c w hs
  rwa [h] at this
section
variable (a : Nod) (A : Option Addr) (c : Nat) (b : Nod) (B : Option Addr) (d : Nat) (act : Acn) (w : World) (hs : RecsAt w A c a.log) (hm : RecsAt w B d b.log) (ha : AcnAt w act) (hb1 : a.log.length * 552 ≤ 140737488355328) (hb2 : b.log.length * 552 ≤ 140737488355328)
include hs hm ha hb1 hb2
set_option maxHeartbeats 6400000 in
set_option maxRecDepth 100000 in
theorem l54_Agrees : Calls Tryz.prog 10 #[.agg #[.int .i64 a.id, .int .i64 a.term, .bool a.speaks, .slice A a.log.length c, .int .i64 a.acked, .int .i64 a.next], .agg #[.int .i64 b.id, .int .i64 b.term, .bool b.speaks, .slice B b.log.length d, .int .i64 b.acked, .int .i64 b.next], .agg (acnR act).toArray] w fun e w' => e = .returned (.bool true) ∧ Ext w w' := by
  have HS := Lib.hid hs
  have HM := Lib.hid hm
  have HA := Lib.hid ha
  have hla := hs.len
  have hlb := hm.len
  obtain ⟨⟨x1, y1, cn, er⟩, hv⟩ : ∃ v, settleV a b = v := ⟨_, rfl⟩
  have hal := settleV_all (R := fun r => AcnAt w r.act) a b hs.el hm.el
  rw [hv] at hal
  have HE1 := Lib.hid hal.1
  have HE2 := Lib.hid hal.2.1
  have hlx : x1.log.length ≤ 256 := hal.2.2.1
  have hly : y1.log.length ≤ 256 := hal.2.2.2
  have HC := Lib.hid (fun (W : World) (hx : Ext w W) => (rep_Settle a A c b B d W (hs.mono hx) (hm.mono hx)).mono fun _ _ h => RetSett.parts h hv hal.1 hal.2.1)
  by_cases he : er = 0
  · subst he
    have HG := Lib.hid (agrees_1 hv)
    clear hv hs hm ha hal
    go_enter Tryz.func10, Tryz.ntmps10
    go_wp2_with (first
      | (go_at_call 17; refine (few_pair a A c b B d _ _ (Sl.alloc' (by simp [go_sem]) (by simp [nodR]) (by simp [nodR])) (HS.out.mono (by repeat (first | exact Ext.refl _ | assumption | apply Ext.xt | apply Ext.alloc | apply Ext.drew | apply Ext.drewN))) (HM.out.mono (by repeat (first | exact Ext.refl _ | assumption | apply Ext.xt | apply Ext.alloc | apply Ext.drew | apply Ext.drewN))) hb1 hb2).mono ?_; rintro e w' ⟨⟨bb, rfl, hbb⟩, hx⟩; have HBB := Lib.hid hbb; obtain ⟨ya, rfl⟩ := hx.get; clear hx hbb)
      | (go_at_call 13; refine (r33_Few act _).mono ?_; rintro e w' ⟨⟨b2, rfl⟩, hx⟩; obtain ⟨yd, rfl⟩ := hx.get; clear hx)
      | (go_at_call 20; refine (l54_awake _).mono ?_; rintro e w' ⟨rfl, hx⟩; obtain ⟨y, rfl⟩ := hx.get; clear hx))
    all_goals try (go_ret; exact ⟨rfl, by repeat (first | exact Ext.refl _ | assumption | apply Ext.xt | apply Ext.alloc | apply Ext.drew | apply Ext.drewN)⟩)
    go_at_call 44; refine (HC.out _ (by repeat (first | exact Ext.refl _ | assumption | apply Ext.xt | apply Ext.alloc | apply Ext.drew | apply Ext.drewN))).mono ?_; rintro e w' ⟨D, K, E, J, rfl, hx, hl1, hl2⟩; have HL1 := Lib.hid hl1; have HL2 := Lib.hid hl2; obtain ⟨ye, rfl⟩ := hx.get; clear hx hl1 hl2
    obtain ⟨⟨more, f⟩, hv2⟩ : ∃ v, actV x1 act = v := ⟨_, rfl⟩
    have he3 : ∀ r ∈ more.log, AcnAt w r.act := by have := actV_log (R := fun r => AcnAt w r.act) x1 act HE1.out HA.out; rwa [hv2] at this
    have HE3 := Lib.hid he3
    have HACT := Lib.hid (fun (W : World) (D : Option Addr) (K : Nat) (h1 : RecsAt W D K x1.log) (hx : Ext w W) => (rep_Act x1 D K act W h1 (HA.out.mono hx)).mono fun _ _ h => RetNod.parts h hv2 he3)
    have HV2 := Lib.hid hv2
    clear hv2 he3
    have Q1 := Lib.hid HG.out.1
    have Q4 := Lib.hid HG.out.2.2.2.1
    have Q5 := Lib.hid HG.out.2.2.2.2.1
    have Q6 := Lib.hid HG.out.2.2.2.2.2.1
    have hz1 : ((x1.log.length : Int) != (a.log.length : Int)) = false := by rw [Q1.out]; simp
    have hz2 : (x1.acked != (a.log.length : Int)) = false := by rw [Q5.out]; simp
    have hz3 : (y1.acked != (a.log.length : Int)) = false := by rw [Q6.out]; simp
    go_upto_region 7 with fail
    refine wp_name (fun W9 hW9 => ?_)
    have k3 : BoxAt W9 w.heap.size [.int .i64 a.id, .int .i64 a.term, .bool a.speaks, .slice A a.log.length c, .int .i64 a.acked, .int .i64 a.next] 55 := by rw [hW9]; exact (by repeat (first | exact BoxAt.new (by first | rfl | (simp [go_sem]; done) | (simp [go_sem]; omega)) _ _ | apply BoxAt.xt | apply BoxAt.drew | apply BoxAt.drewN | apply BoxAt.alloc))
    have k5 : BoxAt W9 (w.heap.size + 1 + 1) (acnR act) 45 := by rw [hW9]; exact (by repeat (first | exact BoxAt.new (by first | rfl | (simp [go_sem]; done) | (simp [go_sem]; omega)) _ _ | apply BoxAt.xt | apply BoxAt.drew | apply BoxAt.drewN | apply BoxAt.alloc))
    have k7 : BoxAt W9 (w.heap.size + 1 + 1 + 1 + 1 + ya.n + yd.n + ye.n) [.int .i64 x1.id, .int .i64 x1.term, .bool x1.speaks, .slice D x1.log.length K, .int .i64 x1.acked, .int .i64 x1.next] 55 := by rw [hW9]; exact (by repeat (first | exact BoxAt.new (by first | rfl | (simp [go_sem]; done) | (simp [go_sem]; omega)) _ _ | apply BoxAt.xt | apply BoxAt.drew | apply BoxAt.drewN | apply BoxAt.alloc))
    have k8 : BoxAt W9 ((w.heap.size + 1 + 1 + 1 + 1 + ya.n + yd.n + ye.n) + 1) [.int .i64 y1.id, .int .i64 y1.term, .bool y1.speaks, .slice E y1.log.length J, .int .i64 y1.acked, .int .i64 y1.next] 55 := by rw [hW9]; exact (by repeat (first | exact BoxAt.new (by first | rfl | (simp [go_sem]; done) | (simp [go_sem]; omega)) _ _ | apply BoxAt.xt | apply BoxAt.drew | apply BoxAt.drewN | apply BoxAt.alloc))
    have hex : Ext w W9 := by rw [hW9]; exact (by repeat (first | exact Ext.refl _ | assumption | apply Ext.xt | apply Ext.alloc | apply Ext.drew | apply Ext.drewN))
    have r1 : RecsAt W9 D K x1.log := by rw [hW9]; exact HL1.out.recs (by repeat (first | exact Ext.refl _ | assumption | apply Ext.xt | apply Ext.alloc | apply Ext.drew | apply Ext.drewN)) (by repeat (first | exact Ext.refl _ | assumption | apply Ext.xt | apply Ext.alloc | apply Ext.drew | apply Ext.drewN))
    have r2 : RecsAt W9 E J y1.log := by rw [hW9]; exact HL2.out.recs (by repeat (first | exact Ext.refl _ | assumption | apply Ext.xt | apply Ext.alloc | apply Ext.drew | apply Ext.drewN)) (by repeat (first | exact Ext.refl _ | assumption | apply Ext.xt | apply Ext.alloc | apply Ext.drew | apply Ext.drewN))
    clear hW9 HL1 HL2
    obtain ⟨a0, a1, a2, a3, a4, a5⟩ := k3.six
    obtain ⟨c0, c1, c2, c3, c4, c5⟩ := k7.six
    obtain ⟨d0, d1, d2, d3, d4, d5⟩ := k8.six
    have hr5 := k5.row rfl
    go_wp2_with fail
    go_at_call 30; refine (l54_begins D K _ x1.log rfl A c _ a.log rfl a.log.length true HG.out.2.1 (by have := Q1.out; omega) (Nat.le_refl _) hb1 _ (r1.mono (by repeat (first | exact Ext.refl _ | assumption | apply Ext.xt | apply Ext.alloc | apply Ext.drew | apply Ext.drewN))) ((HS.out.mono hex).mono (by repeat (first | exact Ext.refl _ | assumption | apply Ext.xt | apply Ext.alloc | apply Ext.drew | apply Ext.drewN)))).mono ?_; rintro e w' ⟨rfl, hx⟩; obtain ⟨yf, rfl⟩ := hx.get; clear hx
    go_wp2_with fail
    go_at_call 30; refine (l54_begins E J _ y1.log rfl A c _ a.log rfl a.log.length true HG.out.2.2.1 Q4.out (Nat.le_refl _) hb1 _ (r2.mono (by repeat (first | exact Ext.refl _ | assumption | apply Ext.xt | apply Ext.alloc | apply Ext.drew | apply Ext.drewN))) ((HS.out.mono hex).mono (by repeat (first | exact Ext.refl _ | assumption | apply Ext.xt | apply Ext.alloc | apply Ext.drew | apply Ext.drewN)))).mono ?_; rintro e w' ⟨rfl, hx⟩; obtain ⟨yg, rfl⟩ := hx.get; clear hx
    go_wp2_with fail
    go_at_call 29; refine (rep_Check_no x1 HG.out.2.2.2.2.2.2.1 D K _ (r1.mono (by repeat (first | exact Ext.refl _ | assumption | apply Ext.xt | apply Ext.alloc | apply Ext.drew | apply Ext.drewN)))).mono ?_; rintro e w' ⟨rfl, hx⟩; obtain ⟨yh, rfl⟩ := hx.get; clear hx
    go_wp2_with fail
    go_at_call 29; refine (rep_Check_no y1 HG.out.2.2.2.2.2.2.2.1 E J _ (r2.mono (by repeat (first | exact Ext.refl _ | assumption | apply Ext.xt | apply Ext.alloc | apply Ext.drew | apply Ext.drewN)))).mono ?_; rintro e w' ⟨rfl, hx⟩; obtain ⟨yi, rfl⟩ := hx.get; clear hx
    have hr9 : rowQ (xt (xt (xt (xt W9 yf) yg) yh) yi) (w.heap.size + 1 + 1) 0 44 = some (acnR act) := (k5.mono (by repeat (first | exact Ext.refl _ | assumption | apply Ext.xt | apply Ext.alloc | apply Ext.drew | apply Ext.drewN))).row rfl
    go_wp2_with fail
    go_at_call 34; refine (HACT.out _ D K (r1.mono (by repeat (first | exact Ext.refl _ | assumption | apply Ext.xt | apply Ext.alloc | apply Ext.drew | apply Ext.drewN))) (hex.trans (by repeat (first | exact Ext.refl _ | assumption | apply Ext.xt | apply Ext.alloc | apply Ext.drew | apply Ext.drewN)))).mono ?_; rintro e w' ⟨D2, K2, rfl, hx, hl⟩; have HL3 := Lib.hid hl; obtain ⟨yj, rfl⟩ := hx.get; clear hx hl
    go_wp2_with fail
    refine wp_name (fun W2 hW2 => ?_)
    have j3 : BoxAt W2 w.heap.size [.int .i64 a.id, .int .i64 a.term, .bool a.speaks, .slice A a.log.length c, .int .i64 a.acked, .int .i64 a.next] 55 := by rw [hW2]; exact k3.mono (by repeat (first | exact Ext.refl _ | assumption | apply Ext.xt | apply Ext.alloc | apply Ext.drew | apply Ext.drewN))
    have j7 : BoxAt W2 (w.heap.size + 1 + 1 + 1 + 1 + ya.n + yd.n + ye.n) [.int .i64 x1.id, .int .i64 x1.term, .bool x1.speaks, .slice D x1.log.length K, .int .i64 x1.acked, .int .i64 x1.next] 55 := by rw [hW2]; exact k7.mono (by repeat (first | exact Ext.refl _ | assumption | apply Ext.xt | apply Ext.alloc | apply Ext.drew | apply Ext.drewN))
    have j8 : BoxAt W2 ((w.heap.size + 1 + 1 + 1 + 1 + ya.n + yd.n + ye.n) + 1) [.int .i64 y1.id, .int .i64 y1.term, .bool y1.speaks, .slice E y1.log.length J, .int .i64 y1.acked, .int .i64 y1.next] 55 := by rw [hW2]; exact k8.mono (by repeat (first | exact Ext.refl _ | assumption | apply Ext.xt | apply Ext.alloc | apply Ext.drew | apply Ext.drewN))
    have j12 : BoxAt W2 (W9.heap.size + yf.n + yg.n + yh.n + yi.n + yj.n) [.int .i64 more.id, .int .i64 more.term, .bool more.speaks, .slice D2 more.log.length K2, .int .i64 more.acked, .int .i64 more.next] 55 := by rw [hW2]; exact (by repeat (first | exact BoxAt.new (by first | rfl | (simp [go_sem]; done) | (simp [go_sem]; omega)) _ _ | apply BoxAt.xt | apply BoxAt.drew | apply BoxAt.drewN | apply BoxAt.alloc))
    have hexB : Ext w W2 := by rw [hW2]; exact hex.trans (by repeat (first | exact Ext.refl _ | assumption | apply Ext.xt | apply Ext.alloc | apply Ext.drew | apply Ext.drewN))
    have r3 : RecsAt W2 D2 K2 more.log := by rw [hW2]; exact HL3.out.recs (hex.trans (by repeat (first | exact Ext.refl _ | assumption | apply Ext.xt | apply Ext.alloc | apply Ext.drew | apply Ext.drewN))) (by repeat (first | exact Ext.refl _ | assumption | apply Ext.xt | apply Ext.alloc | apply Ext.drew | apply Ext.drewN))
    replace r2 : RecsAt W2 E J y1.log := by rw [hW2]; exact r2.mono (by repeat (first | exact Ext.refl _ | assumption | apply Ext.xt | apply Ext.alloc | apply Ext.drew | apply Ext.drewN))
    clear hW2 HL3 hr9 a0 a1 a2 a3 a4 a5 c0 c1 c2 c3 c4 c5 d0 d1 d2 d3 d4 d5 hr5 r1
    obtain ⟨a0, a1, a2, a3, a4, a5⟩ := j3.six
    obtain ⟨c0, c1, c2, c3, c4, c5⟩ := j7.six
    obtain ⟨d0, d1, d2, d3, d4, d5⟩ := j8.six
    obtain ⟨e0, e1, e2, e3, e4, e5⟩ := j12.six
    by_cases hf : f = 0
    · subst hf
      by_cases hk : a.log.length < y1.log.length
      · obtain ⟨r, hr⟩ : ∃ r, y1.log[y1.log.length - 1]? = some r := ⟨_, List.getElem?_eq_getElem (by omega)⟩
        have hgl : y1.log.getLast? = some r := by rw [List.getLast?_eq_getElem?]; exact hr
        have HR2 := Lib.hid r2
        clear r2
        obtain ⟨b2, o2, rfl, hrec, -⟩ := HR2.out.get hr
        have r2 := HR2.out
        have ht : W2.cell? ⟨b2, o2 + (y1.log.length - 1) * 45, none⟩ = some (.int .i64 r.term) := hrec.term
        have hd : decide ((a.log.length : Int) < (y1.log.length : Int)) = true := decide_eq_true (by omega)
        have hi1 : (0 : Int) ≤ (y1.log.length : Int) - 1 := by omega
        have hi2 : (y1.log.length : Int) - 1 < (y1.log.length : Int) := by omega
        have hi3 : ((y1.log.length : Int) - 1).toNat = y1.log.length - 1 := by omega
        have hw : IntKind.i64.wrap ((y1.log.length : Int) - 1) = (y1.log.length : Int) - 1 := IntWalk.i64_in _ (by omega)
        by_cases hT : x1.term ≤ r.term
        · have hd2 : decide (x1.term ≤ r.term) = true := decide_eq_true hT
          (refine wp_region_grows (by kernel_rfl) (by kernel_rfl) ?_; (repeat (go_big_quiet_step (fail))); refine wpQuiet_nil ?_; rintro _ ⟨y, rfl⟩)
          go_wp2_with ((go_at_call 20; refine (l54_awake _).mono ?_; rintro e w' ⟨rfl, hx⟩; obtain ⟨y, rfl⟩ := hx.get; clear hx))
          go_ret
          exact ⟨rfl, hexB.trans (by repeat (first | exact Ext.refl _ | assumption | apply Ext.xt | apply Ext.alloc | apply Ext.drew | apply Ext.drewN))⟩
        · have hd2 : decide (x1.term ≤ r.term) = false := decide_eq_false hT
          have HLAST : x1.log.length < y1.log.length → ∀ r', y1.log.getLast? = some r' → r'.term < x1.term := fun _ r' h => by rw [hgl] at h; injection h with h; subst h; omega
          (refine wp_region_grows (by kernel_rfl) (by kernel_rfl) ?_; (repeat (go_big_quiet_step (fail))); refine wpQuiet_nil ?_; rintro _ ⟨y, rfl⟩)
          obtain ⟨⟨p, q, c3, g⟩, hv3⟩ : ∃ v, settleV more y1 = v := ⟨_, rfl⟩
          obtain ⟨l1, l2, rfl, ha1, ha2, n1, n2, n3, hsm⟩ := agrees_2 HG.out.2.2.2.2.2.2.2.2.1 HG.out.2.2.2.2.2.2.2.2.2 HV2.out HLAST hv3
          have hal3 := settleV_all (R := fun r => AcnAt w r.act) more y1 HE3.out HE2.out
          rw [hv3] at hal3
          have N1 := Lib.hid n1
          have N2 := Lib.hid n2
          have N3 := Lib.hid n3
          have hz4 : ((l1.length : Int) == (a.log.length : Int) + 1) = true := by have := N1.out; have := Q1.out; rw [beq_iff_eq]; omega
          have hz5 : ((q.log.length : Int) == (a.log.length : Int) + 1) = true := by have := N3.out; have := Q1.out; rw [beq_iff_eq]; omega
          have HSM := Lib.hid hsm
          have HST := Lib.hid (fun (W : World) (h1 : RecsAt W D2 K2 more.log) (h2 : RecsAt W (some ⟨b2, o2, none⟩) J y1.log) => (rep_Settle more D2 K2 y1 (some ⟨b2, o2, none⟩) J W h1 h2).mono fun _ _ h => RetSett.parts (w0 := w) h hv3 hal3.1 hal3.2.1)
          have HX1 := Lib.hid (fun (W : World) (D : Option Addr) (K : Nat) (h1 : RecsAt W D K p.log) => (rep_Actions p D K W h1).mono fun _ _ h => RetActs.parts h ha1)
          have HX2 := Lib.hid (fun (W : World) (D : Option Addr) (K : Nat) (h1 : RecsAt W D K q.log) => (rep_Actions q D K W h1).mono fun _ _ h => RetActs.parts h ha2)
          clear hv3 ha1 ha2 n1 n2 n3 hsm hal3
          go_wp2_with fail
          go_at_call 44; refine (HST.out _ (r3.mono (by repeat (first | exact Ext.refl _ | assumption | apply Ext.xt | apply Ext.alloc | apply Ext.drew | apply Ext.drewN))) (r2.mono (by repeat (first | exact Ext.refl _ | assumption | apply Ext.xt | apply Ext.alloc | apply Ext.drew | apply Ext.drewN)))).mono ?_; rintro e w' ⟨D3, K3, E3, J3, rfl, hx, hl1, hl2⟩; have HL3 := Lib.hid hl1; have HL4 := Lib.hid hl2; obtain ⟨yk, rfl⟩ := hx.get; clear hx hl1 hl2
          go_wp2_with fail
          go_at_call 38; refine (HX1.out _ D3 K3 (HL3.out.recs (hexB.trans (by repeat (first | exact Ext.refl _ | assumption | apply Ext.xt | apply Ext.alloc | apply Ext.drew | apply Ext.drewN))) (by repeat (first | exact Ext.refl _ | assumption | apply Ext.xt | apply Ext.alloc | apply Ext.drew | apply Ext.drewN)))).mono ?_; rintro e w' ⟨Ak, kk, rfl, hx, hr⟩; have HG1 := Lib.hid hr; obtain ⟨yl, rfl⟩ := hx.get; clear hx hr
          go_wp2_with fail
          go_at_call 38; refine (HX2.out _ E3 J3 (HL4.out.recs (hexB.trans (by repeat (first | exact Ext.refl _ | assumption | apply Ext.xt | apply Ext.alloc | apply Ext.drew | apply Ext.drewN))) (by repeat (first | exact Ext.refl _ | assumption | apply Ext.xt | apply Ext.alloc | apply Ext.drew | apply Ext.drewN)))).mono ?_; rintro e w' ⟨Bk, kb, rfl, hx, hr⟩; have HG2 := Lib.hid hr; obtain ⟨ym, rfl⟩ := hx.get; clear hx hr
          go_wp2_with fail
          go_at_call 40; refine (r33_SameLog2 Ak Bk kk kb l1 l2 l2.length rfl (by rw [N2.out, N1.out]) HSM.out _ (HG1.out.mono (by repeat (first | exact Ext.refl _ | assumption | apply Ext.xt | apply Ext.alloc | apply Ext.drew | apply Ext.drewN))) (HG2.out.mono (by repeat (first | exact Ext.refl _ | assumption | apply Ext.xt | apply Ext.alloc | apply Ext.drew | apply Ext.drewN)))).mono ?_; rintro e w' ⟨rfl, hx⟩; obtain ⟨yn, rfl⟩ := hx.get; clear hx
          go_wp2_with fail
          go_at_call 20; refine (l54_awake _).mono ?_; rintro e w' ⟨rfl, hx⟩; obtain ⟨yo, rfl⟩ := hx.get; clear hx
          go_wp2
          go_ret
          exact ⟨rfl, hexB.trans (by repeat (first | exact Ext.refl _ | assumption | apply Ext.xt | apply Ext.alloc | apply Ext.drew | apply Ext.drewN))⟩
      · have hd : decide ((a.log.length : Int) < (y1.log.length : Int)) = false := decide_eq_false (by omega)
        have HLAST : x1.log.length < y1.log.length → ∀ r', y1.log.getLast? = some r' → r'.term < x1.term := fun h => absurd h (by have := Q1.out; omega)
        (refine wp_region_grows (by kernel_rfl) (by kernel_rfl) ?_; (repeat (go_big_quiet_step (fail))); refine wpQuiet_nil ?_; rintro _ ⟨y, rfl⟩)
        obtain ⟨⟨p, q, c3, g⟩, hv3⟩ : ∃ v, settleV more y1 = v := ⟨_, rfl⟩
        obtain ⟨l1, l2, rfl, ha1, ha2, n1, n2, n3, hsm⟩ := agrees_2 HG.out.2.2.2.2.2.2.2.2.1 HG.out.2.2.2.2.2.2.2.2.2 HV2.out HLAST hv3
        have hal3 := settleV_all (R := fun r => AcnAt w r.act) more y1 HE3.out HE2.out
        rw [hv3] at hal3
        have N1 := Lib.hid n1
        have N2 := Lib.hid n2
        have N3 := Lib.hid n3
        have hz4 : ((l1.length : Int) == (a.log.length : Int) + 1) = true := by have := N1.out; have := Q1.out; rw [beq_iff_eq]; omega
        have hz5 : ((q.log.length : Int) == (a.log.length : Int) + 1) = true := by have := N3.out; have := Q1.out; rw [beq_iff_eq]; omega
        have HSM := Lib.hid hsm
        have HST := Lib.hid (fun (W : World) (h1 : RecsAt W D2 K2 more.log) (h2 : RecsAt W E J y1.log) => (rep_Settle more D2 K2 y1 E J W h1 h2).mono fun _ _ h => RetSett.parts (w0 := w) h hv3 hal3.1 hal3.2.1)
        have HX1 := Lib.hid (fun (W : World) (D : Option Addr) (K : Nat) (h1 : RecsAt W D K p.log) => (rep_Actions p D K W h1).mono fun _ _ h => RetActs.parts h ha1)
        have HX2 := Lib.hid (fun (W : World) (D : Option Addr) (K : Nat) (h1 : RecsAt W D K q.log) => (rep_Actions q D K W h1).mono fun _ _ h => RetActs.parts h ha2)
        clear hv3 ha1 ha2 n1 n2 n3 hsm hal3
        go_wp2_with fail
        go_at_call 44; refine (HST.out _ (r3.mono (by repeat (first | exact Ext.refl _ | assumption | apply Ext.xt | apply Ext.alloc | apply Ext.drew | apply Ext.drewN))) (r2.mono (by repeat (first | exact Ext.refl _ | assumption | apply Ext.xt | apply Ext.alloc | apply Ext.drew | apply Ext.drewN)))).mono ?_; rintro e w' ⟨D3, K3, E3, J3, rfl, hx, hl1, hl2⟩; have HL3 := Lib.hid hl1; have HL4 := Lib.hid hl2; obtain ⟨yk, rfl⟩ := hx.get; clear hx hl1 hl2
        go_wp2_with fail
        go_at_call 38; refine (HX1.out _ D3 K3 (HL3.out.recs (hexB.trans (by repeat (first | exact Ext.refl _ | assumption | apply Ext.xt | apply Ext.alloc | apply Ext.drew | apply Ext.drewN))) (by repeat (first | exact Ext.refl _ | assumption | apply Ext.xt | apply Ext.alloc | apply Ext.drew | apply Ext.drewN)))).mono ?_; rintro e w' ⟨Ak, kk, rfl, hx, hr⟩; have HG1 := Lib.hid hr; obtain ⟨yl, rfl⟩ := hx.get; clear hx hr
        go_wp2_with fail
        go_at_call 38; refine (HX2.out _ E3 J3 (HL4.out.recs (hexB.trans (by repeat (first | exact Ext.refl _ | assumption | apply Ext.xt | apply Ext.alloc | apply Ext.drew | apply Ext.drewN))) (by repeat (first | exact Ext.refl _ | assumption | apply Ext.xt | apply Ext.alloc | apply Ext.drew | apply Ext.drewN)))).mono ?_; rintro e w' ⟨Bk, kb, rfl, hx, hr⟩; have HG2 := Lib.hid hr; obtain ⟨ym, rfl⟩ := hx.get; clear hx hr
        go_wp2_with fail
        go_at_call 40; refine (r33_SameLog2 Ak Bk kk kb l1 l2 l2.length rfl (by rw [N2.out, N1.out]) HSM.out _ (HG1.out.mono (by repeat (first | exact Ext.refl _ | assumption | apply Ext.xt | apply Ext.alloc | apply Ext.drew | apply Ext.drewN))) (HG2.out.mono (by repeat (first | exact Ext.refl _ | assumption | apply Ext.xt | apply Ext.alloc | apply Ext.drew | apply Ext.drewN)))).mono ?_; rintro e w' ⟨rfl, hx⟩; obtain ⟨yn, rfl⟩ := hx.get; clear hx
        go_wp2_with fail
        go_at_call 20; refine (l54_awake _).mono ?_; rintro e w' ⟨rfl, hx⟩; obtain ⟨yo, rfl⟩ := hx.get; clear hx
        go_wp2
        go_ret
        exact ⟨rfl, hexB.trans (by repeat (first | exact Ext.refl _ | assumption | apply Ext.xt | apply Ext.alloc | apply Ext.drew | apply Ext.drewN))⟩
    · have hd : (f != 0) = true := by simpa using hf
      (refine wp_region_grows (by kernel_rfl) (by kernel_rfl) ?_; (repeat (go_big_quiet_step (fail))); refine wpQuiet_nil ?_; rintro _ ⟨y, rfl⟩)
      go_wp2_with ((go_at_call 20; refine (l54_awake _).mono ?_; rintro e w' ⟨rfl, hx⟩; obtain ⟨y, rfl⟩ := hx.get; clear hx))
      go_ret
      exact ⟨rfl, hexB.trans (by repeat (first | exact Ext.refl _ | assumption | apply Ext.xt | apply Ext.alloc | apply Ext.drew | apply Ext.drewN))⟩
  · have hz9 : (er != 0) = true := by simpa using he
    clear hv hs hm ha hal he
    go_enter Tryz.func10, Tryz.ntmps10
    go_wp2_with (first
      | (go_at_call 17; refine (few_pair a A c b B d _ _ (Sl.alloc' (by simp [go_sem]) (by simp [nodR]) (by simp [nodR])) (HS.out.mono (by repeat (first | exact Ext.refl _ | assumption | apply Ext.xt | apply Ext.alloc | apply Ext.drew | apply Ext.drewN))) (HM.out.mono (by repeat (first | exact Ext.refl _ | assumption | apply Ext.xt | apply Ext.alloc | apply Ext.drew | apply Ext.drewN))) hb1 hb2).mono ?_; rintro e w' ⟨⟨bb, rfl, hbb⟩, hx⟩; have HBB := Lib.hid hbb; obtain ⟨ya, rfl⟩ := hx.get; clear hx hbb)
      | (go_at_call 13; refine (r33_Few act _).mono ?_; rintro e w' ⟨⟨b2, rfl⟩, hx⟩; obtain ⟨yd, rfl⟩ := hx.get; clear hx)
      | (go_at_call 20; refine (l54_awake _).mono ?_; rintro e w' ⟨rfl, hx⟩; obtain ⟨y, rfl⟩ := hx.get; clear hx))
    all_goals try (go_ret; exact ⟨rfl, by repeat (first | exact Ext.refl _ | assumption | apply Ext.xt | apply Ext.alloc | apply Ext.drew | apply Ext.drewN)⟩)
    go_at_call 44; refine (HC.out _ (by repeat (first | exact Ext.refl _ | assumption | apply Ext.xt | apply Ext.alloc | apply Ext.drew | apply Ext.drewN))).mono ?_; rintro e w' ⟨D, K, E, J, rfl, hx, hl1, hl2⟩; have HL1 := Lib.hid hl1; have HL2 := Lib.hid hl2; obtain ⟨ye, rfl⟩ := hx.get; clear hx hl1 hl2
    go_wp2_with (go_at_call 20; refine (l54_awake _).mono ?_; rintro e w' ⟨rfl, hx⟩; obtain ⟨y, rfl⟩ := hx.get; clear hx)
    go_ret
    exact ⟨rfl, by repeat (first | exact Ext.refl _ | assumption | apply Ext.xt | apply Ext.alloc | apply Ext.drew | apply Ext.drewN)⟩
end
end Go.Proofs.YtlpboikonnpjbaaGreat
