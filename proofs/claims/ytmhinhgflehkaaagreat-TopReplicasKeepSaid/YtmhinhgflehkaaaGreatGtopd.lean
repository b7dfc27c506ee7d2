/-
 Two nodes and their mail: one receives.
-/
import Derived.Test.YtmhinhgflehkaaaGreatGtopa
import Derived.Test.YtmhinhgflehkaaaGreatGrpm
namespace Go.Proofs.YtmhinhgflehkaaaGreat
open Go.RowKit

section
variable {w W : World} {g : Nat} {n0 n1 : Nod} {l0 l1 : List Msg} {t : Int} {A B M N : Option Addr} {a b m n : Nat} {xs ys : List (Msg × Option Addr × Nat)} {kd nd pk : Int}
set_option maxHeartbeats 6400000 in
set_option maxRecDepth 100000 in
theorem top_recv0_none (h : CaseAt w W g n0 n1 l0 l1 t A a B b M m xs N n ys) (hn : NodOk n0) (hk0 : 0 ≤ kd) (hk1 : kd ≤ 255) (hi0 : 0 ≤ nd) (hi1 : nd ≤ 255) (hp0 : 0 ≤ pk) (hp1 : pk ≤ 255) (hk : kd % 4 = 3) (hi : nd % 2 = 0) (hL : l0 = []) :
  Calls Tryz.prog 49 #[.pointer (some ⟨g, 0, none⟩), .agg #[.int .u8 kd, .int .u8 nd, .int .u8 pk]] W (StepD w W g n0 n1 l0 l1 t) := by
 have HC := Lib.hid h
 have HN := Lib.hid hn
 have hl0 := (h.q0.recs h.ext (Ext.refl W)).len
 have hl1 := (h.q1.recs h.ext (Ext.refl W)).len
 have ht0 := hn.t0
 have ht1 := hn.t1
 have hd1 := hn.id1
 have hd2 := hn.id2
 have hw1 : IntKind.i64.wrap nd = nd := IntWalk.i64_in _ (by omega)
 have hw2 : IntKind.i64.wrap pk = pk := IntWalk.i64_in _ (by omega)
 have hw3 : IntKind.i64.wrap 1 = 1 := rfl
 have hw4 : IntKind.i64.wrap 0 = 0 := rfl
 have c0:=h.box.c 0 rfl;have c1:=h.box.c 1 rfl;have c2:=h.box.c 2 rfl;have c3:=h.box.c 3 rfl;have c4:=h.box.c 4 rfl;have c5:=h.box.c 5 rfl;have c6:=h.box.c 6 rfl;have c7:=h.box.c 7 rfl;have c8:=h.box.c 8 rfl;have c9:=h.box.c 9 rfl;have c10:=h.box.c 10 rfl;have c11:=h.box.c 11 rfl;have c12:=h.box.c 12 rfl;have c13:=h.box.c 13 rfl;have c14:=h.box.c 14 rfl
 clear h hn
 have hl9 : l0.length = 0 := by rw [hL]; rfl
 rw [hl9] at c12
 clear hl9 hL
 go_enter Tryz.func49, Tryz.ntmps49
 go_wp2
 go_ret
 exact ⟨rfl, Ext.stay (by exact ex), _, _, _, _, _, _, _, _, _, _, HC.out.mono (by exact ex)⟩
set_option maxHeartbeats 6400000 in
set_option maxRecDepth 100000 in
theorem top_recv0_no (h : CaseAt w W g n0 n1 l0 l1 t A a B b M m xs N n ys) (hn : NodOk n0) (hk0 : 0 ≤ kd) (hk1 : kd ≤ 255) (hi0 : 0 ≤ nd) (hi1 : nd ≤ 255) (hp0 : 0 ≤ pk) (hp1 : pk ≤ 255) (hk : kd % 4 = 3) (hi : nd % 2 = 0) {q : Nat} {um : Msg} (hq : l0[q]? = some um) (hj : pk % (l0.length : Int) = q) {x : Nod} {z : Msg} (hv : recvV n0 um = (x, z, false, 0)) (hz : z.recs = [] ∧ z.before = 0 ∧ z.acked = 0) (hL : l0.length ≤ 1000) (_hL2 : l1.length ≤ 1000) :
  Calls Tryz.prog 49 #[.pointer (some ⟨g, 0, none⟩), .agg #[.int .u8 kd, .int .u8 nd, .int .u8 pk]] W (StepD w W g x n1 l0 l1 t) := by
 have HC := Lib.hid h
 have HN := Lib.hid hn
 have hl0 := (h.q0.recs h.ext (Ext.refl W)).len
 have hl1 := (h.q1.recs h.ext (Ext.refl W)).len
 have ht0 := hn.t0
 have ht1 := hn.t1
 have hd1 := hn.id1
 have hd2 := hn.id2
 have hw1 : IntKind.i64.wrap nd = nd := IntWalk.i64_in _ (by omega)
 have hw2 : IntKind.i64.wrap pk = pk := IntWalk.i64_in _ (by omega)
 have hw3 : IntKind.i64.wrap 1 = 1 := rfl
 have hw4 : IntKind.i64.wrap 0 = 0 := rfl
 obtain ⟨v, E, J, hMe, hE, m0, m1, m2, m3, m4, m5⟩ := h.m0.get hq
 have HU := Lib.hid hE
 have HE := Lib.hid (show ∀ r ∈ x.log, AcnAt w r.act from fun r hr => by
  have hr' : r ∈ (recvV n0 um).1.log := by rw [hv]; exact hr
  rcases recvV_log n0 um r hr' with h1 | h1
  ·exact h.q0.el r h1
  ·exact hE.el r h1)
 have HV := Lib.hid hv
 have HZ := Lib.hid hz
 have hql : q < l0.length := (List.getElem?_eq_some_iff.1 hq).1
 have hpos : ((l0.length : Int) == 0) = false := by
  rw [beq_eq_false_iff_ne]; omega
 have hq0 : (0 : Int) ≤ (q : Int) := by omega
 have hq1 : (q : Int) < (l0.length : Int) := by omega
 have hnil : ¬ l0 = [] := fun e => by rw [e] at hql; simp at hql
 have hj2 : Int.tmod pk (l0.length : Int) = q := by rw [Int.tmod_eq_emod_of_nonneg hp0]; exact hj
 have hwq : IntKind.i64.wrap (q : Int) = q := IntWalk.i64_in _ (by omega)
 have HQ := Lib.hid hq
 clear hv hE hz hq
 have c0:=h.box.c 0 rfl;have c1:=h.box.c 1 rfl;have c2:=h.box.c 2 rfl;have c3:=h.box.c 3 rfl;have c4:=h.box.c 4 rfl;have c5:=h.box.c 5 rfl;have c6:=h.box.c 6 rfl;have c7:=h.box.c 7 rfl;have c8:=h.box.c 8 rfl;have c9:=h.box.c 9 rfl;have c10:=h.box.c 10 rfl;have c11:=h.box.c 11 rfl;have c12:=h.box.c 12 rfl;have c13:=h.box.c 13 rfl;have c14:=h.box.c 14 rfl
 clear h hn
 go_enter Tryz.func49, Tryz.ntmps49
 go_wp2_with fail
 (try simp only [hk, hi])
 clear hk hi
 refine wp_name (fun W9 hW9 => ?_)
 have k3 : BoxAt W9 W.heap.size [.int .u8 kd, .int .u8 nd, .int .u8 pk] 121 := by rw [hW9]; exact (by repeat (first | exact BoxAt.new (by first | rfl | (simp [go_sem]; done) | (simp [go_sem]; omega)) _ _ | apply BoxAt.xt | apply BoxAt.drew | apply BoxAt.drewN | apply BoxAt.alloc))
 have k6 : BoxAt W9 (W.heap.size + 1) [.int .i64 n0.id, .int .i64 n0.term, .bool n0.speaks, .slice A n0.log.length a, .int .i64 n0.acked, .int .i64 n0.next] 24 := by rw [hW9]; exact (by repeat (first | exact BoxAt.new (by first | rfl | (simp [go_sem]; done) | (simp [go_sem]; omega)) _ _ | apply BoxAt.xt | apply BoxAt.drew | apply BoxAt.drewN | apply BoxAt.alloc))
 have h9 : CaseAt w W9 g n0 n1 l0 l1 t A a B b M m xs N n ys := by rw [hW9]; exact HC.out.mono (ex)
 have s9 : StayC W W9 := by rw [hW9]; exact Ext.stay (ex)
 have hgl : g < W.heap.size := HC.out.box.lt
 have hs9 : W.heap.size + 2 ≤ W9.heap.size := by rw [hW9]; simp [go_sem]
 have hm9 : Ext W W9 := by rw [hW9]; exact (ex)
 replace m0 := hm9.cell m0
 replace m1 := hm9.cell m1
 replace m2 := hm9.cell m2
 replace m3 := hm9.cell m3
 replace m4 := hm9.cell m4
 replace m5 := hm9.cell m5
 have hu9 : LogW w W9 E um.recs.length J um.recs := HU.out.mono hm9
 clear hW9 c0 c1 c2 c3 c4 c5 c6 c7 c8 c9 c10 c11 c12 c13 c14
 have c0:=h9.box.c 0 rfl;have c1:=h9.box.c 1 rfl;have c2:=h9.box.c 2 rfl;have c3:=h9.box.c 3 rfl;have c4:=h9.box.c 4 rfl;have c5:=h9.box.c 5 rfl;have c6:=h9.box.c 6 rfl;have c7:=h9.box.c 7 rfl;have c8:=h9.box.c 8 rfl;have c9:=h9.box.c 9 rfl;have c10:=h9.box.c 10 rfl;have c11:=h9.box.c 11 rfl;have c12:=h9.box.c 12 rfl;have c13:=h9.box.c 13 rfl;have c14:=h9.box.c 14 rfl
 rw [hMe] at c12
 obtain ⟨d0, d1, d2, d3, d4, d5⟩ := k6.six
 have e0:=k3.c 0 rfl;have e1:=k3.c 1 rfl;have e2:=k3.c 2 rfl
 refine wp_region_stab 28 [23, 24, 25] [Stab.is (.agg #[.int .i64 n0.id, .int .i64 n0.term, .bool n0.speaks, .slice A n0.log.length a, .int .i64 n0.acked, .int .i64 n0.next]), Stab.is (.pointer (some ⟨g, 0, none⟩)), Stab.is (.int .i64 0), Stab.is (.pointer (some ⟨g, 0, none⟩)), Stab.is (.pointer (some ⟨g, 12, none⟩)), Stab.is (.pointer (some ⟨g, 12, none⟩)), Stab.is (.slice (some ⟨v, 0, none⟩) l0.length m), Stab.is (.pointer (some ⟨W.heap.size, 2, none⟩)), Stab.is (.int .u8 pk), Stab.is (.int .i64 pk), Stab.is (.pointer (some ⟨g, 0, none⟩)), Stab.is (.int .i64 0), Stab.is (.pointer (some ⟨g, 0, none⟩)), Stab.is (.pointer (some ⟨g, 12, none⟩)), Stab.is (.pointer (some ⟨g, 12, none⟩)), Stab.is (.slice (some ⟨v, 0, none⟩) l0.length m), Stab.is (.int .i64 l0.length), Stab.is (.int .i64 q), Stab.is (.pointer (some ⟨v, q * 6, none⟩)), Stab.is (.agg #[.int .i64 um.kind, .int .i64 um.term, .int .i64 um.at_, .int .i64 um.before, .slice E um.recs.length J, .int .i64 um.acked]), Stab.recv w x z false 0, Stab.recv w x z false 0, Stab.nod w x, Stab.is (.agg #[.int .i64 z.kind, .int .i64 z.term, .int .i64 z.at_, .int .i64 0, .slice none 0 0, .int .i64 0]), Stab.is (.bool false), Stab.is (.int .i64 0), Stab.box W9.heap.size [.int .i64 0, .int .i64 0, .bool false, .slice none 0 0, .int .i64 0, .int .i64 0] 24, Stab.box W9.heap.size [.int .i64 0, .int .i64 0, .int .i64 0, .int .i64 0, .slice none 0 0, .int .i64 0] 143] (fun u => by (simp only [putAll, List.take_succ_cons, List.take_zero, Act.put, Nat.zero_add, Nat.reduceAdd]); (try simp only [List.setIfInBounds_toArray]); (repeat (first | simp only [List.set_cons_succ] | simp only [List.set_cons_zero])); exact rfl) (by kernel_rfl) (by kernel_rfl) (fun _ _ _ _ _ h => h) ?_ ?_
 ·refine ⟨?_, ?_, ?_, ?_, ?_, ?_, ?_, ?_, ?_, ?_, ?_, ?_, ?_, ?_, ?_, ?_, ?_, ?_, ?_, ?_, ?_, ?_, ?_, ?_, ?_, ?_, ?_, ?_, trivial⟩
  ·(show SlotA _ _ _ _ _ _ _); intro u w1 hx1 hd; obtain ⟨y9, rfl⟩ := hx1.get; clear hx1
   refine slot_run rfl rfl rfl ?_; intro K9 hK
   go_simp; exact hK _ _ rfl (ex) rfl
  ·(show SlotA _ _ _ _ _ _ _); intro u w1 hx1 hd; obtain ⟨y9, rfl⟩ := hx1.get; clear hx1
   refine slot_run rfl rfl rfl ?_; intro K9 hK
   go_simp; exact hK _ _ rfl (ex) rfl
  ·(show SlotA _ _ _ _ _ _ _); intro u w1 hx1 hd; obtain ⟨y9, rfl⟩ := hx1.get; clear hx1
   refine slot_run rfl rfl rfl ?_; intro K9 hK
   go_simp; exact hK _ _ rfl (ex) rfl
  ·(show SlotA _ _ _ _ _ _ _); intro u w1 hx1 hd; obtain ⟨y9, rfl⟩ := hx1.get; clear hx1
   have e1 : u 1 = .pointer (some ⟨g, 0, none⟩) := hd 1 (by kernel_rfl)
   simp only [e1]
   refine slot_run rfl rfl rfl ?_; intro K9 hK
   go_simp; exact hK _ _ rfl (ex) rfl
  ·(show SlotA _ _ _ _ _ _ _); intro u w1 hx1 hd; obtain ⟨y9, rfl⟩ := hx1.get; clear hx1
   have e3 : u 3 = .pointer (some ⟨g, 0, none⟩) := hd 3 (by kernel_rfl)
   simp only [e3]
   refine slot_run rfl rfl rfl ?_; intro K9 hK
   go_simp; exact hK _ _ rfl (ex) rfl
  ·(show SlotA _ _ _ _ _ _ _); intro u w1 hx1 hd; obtain ⟨y9, rfl⟩ := hx1.get; clear hx1
   have e2 : u 2 = .int .i64 0 := hd 2 (by kernel_rfl)
   have e4 : u 4 = .pointer (some ⟨g, 12, none⟩) := hd 4 (by kernel_rfl)
   simp only [e2, e4]
   refine slot_run rfl rfl rfl ?_; intro K9 hK
   go_simp; exact hK _ _ rfl (ex) rfl
  ·(show SlotA _ _ _ _ _ _ _); intro u w1 hx1 hd; obtain ⟨y9, rfl⟩ := hx1.get; clear hx1
   have e5 : u 5 = .pointer (some ⟨g, 12, none⟩) := hd 5 (by kernel_rfl)
   simp only [e5]
   refine slot_run rfl rfl rfl ?_; intro K9 hK
   go_simp; exact hK _ _ rfl (ex) rfl
  ·(show SlotA _ _ _ _ _ _ _); intro u w1 hx1 hd; obtain ⟨y9, rfl⟩ := hx1.get; clear hx1
   refine slot_run rfl rfl rfl ?_; intro K9 hK
   go_simp; exact hK _ _ rfl (ex) rfl
  ·(show SlotA _ _ _ _ _ _ _); intro u w1 hx1 hd; obtain ⟨y9, rfl⟩ := hx1.get; clear hx1
   have e7 : u 7 = .pointer (some ⟨W.heap.size, 2, none⟩) := hd 7 (by kernel_rfl)
   simp only [e7]
   refine slot_run rfl rfl rfl ?_; intro K9 hK
   go_simp; exact hK _ _ rfl (ex) rfl
  ·(show SlotA _ _ _ _ _ _ _); intro u w1 hx1 hd; obtain ⟨y9, rfl⟩ := hx1.get; clear hx1
   have e8 : u 8 = .int .u8 pk := hd 8 (by kernel_rfl)
   simp only [e8]
   refine slot_run rfl rfl rfl ?_; intro K9 hK
   go_simp; exact hK _ _ rfl (ex) rfl
  ·(show SlotA _ _ _ _ _ _ _); intro u w1 hx1 hd; obtain ⟨y9, rfl⟩ := hx1.get; clear hx1
   refine slot_run rfl rfl rfl ?_; intro K9 hK
   go_simp; exact hK _ _ rfl (ex) rfl
  ·(show SlotA _ _ _ _ _ _ _); intro u w1 hx1 hd; obtain ⟨y9, rfl⟩ := hx1.get; clear hx1
   refine slot_run rfl rfl rfl ?_; intro K9 hK
   go_simp; exact hK _ _ rfl (ex) rfl
  ·(show SlotA _ _ _ _ _ _ _); intro u w1 hx1 hd; obtain ⟨y9, rfl⟩ := hx1.get; clear hx1
   have e10 : u 10 = .pointer (some ⟨g, 0, none⟩) := hd 10 (by kernel_rfl)
   simp only [e10]
   refine slot_run rfl rfl rfl ?_; intro K9 hK
   go_simp; exact hK _ _ rfl (ex) rfl
  ·(show SlotA _ _ _ _ _ _ _); intro u w1 hx1 hd; obtain ⟨y9, rfl⟩ := hx1.get; clear hx1
   have e12 : u 12 = .pointer (some ⟨g, 0, none⟩) := hd 12 (by kernel_rfl)
   simp only [e12]
   refine slot_run rfl rfl rfl ?_; intro K9 hK
   go_simp; exact hK _ _ rfl (ex) rfl
  ·(show SlotA _ _ _ _ _ _ _); intro u w1 hx1 hd; obtain ⟨y9, rfl⟩ := hx1.get; clear hx1
   have e11 : u 11 = .int .i64 0 := hd 11 (by kernel_rfl)
   have e13 : u 13 = .pointer (some ⟨g, 12, none⟩) := hd 13 (by kernel_rfl)
   simp only [e11, e13]
   refine slot_run rfl rfl rfl ?_; intro K9 hK
   go_simp; exact hK _ _ rfl (ex) rfl
  ·(show SlotA _ _ _ _ _ _ _); intro u w1 hx1 hd; obtain ⟨y9, rfl⟩ := hx1.get; clear hx1
   have e14 : u 14 = .pointer (some ⟨g, 12, none⟩) := hd 14 (by kernel_rfl)
   simp only [e14]
   refine slot_run rfl rfl rfl ?_; intro K9 hK
   go_simp; exact hK _ _ rfl (ex) rfl
  ·(show SlotA _ _ _ _ _ _ _); intro u w1 hx1 hd; obtain ⟨y9, rfl⟩ := hx1.get; clear hx1
   have e15 : u 15 = .slice (some ⟨v, 0, none⟩) l0.length m := hd 15 (by kernel_rfl)
   simp only [e15]
   refine slot_run rfl rfl rfl ?_; intro K9 hK
   go_simp; exact hK _ _ rfl (ex) rfl
  ·(show SlotA _ _ _ _ _ _ _); intro u w1 hx1 hd; obtain ⟨y9, rfl⟩ := hx1.get; clear hx1
   have e9 : u 9 = .int .i64 pk := hd 9 (by kernel_rfl)
   have e16 : u 16 = .int .i64 l0.length := hd 16 (by kernel_rfl)
   simp only [e9, e16]
   refine slot_run rfl rfl rfl ?_; intro K9 hK
   go_simp; exact hK _ _ rfl (ex) rfl
  ·(show SlotA _ _ _ _ _ _ _); intro u w1 hx1 hd; obtain ⟨y9, rfl⟩ := hx1.get; clear hx1
   have e6 : u 6 = .slice (some ⟨v, 0, none⟩) l0.length m := hd 6 (by kernel_rfl)
   have e17 : u 17 = .int .i64 q := hd 17 (by kernel_rfl)
   simp only [e6, e17]
   refine slot_run rfl rfl rfl ?_; intro K9 hK
   go_simp; exact hK _ _ rfl (ex) rfl
  ·(show SlotA _ _ _ _ _ _ _); intro u w1 hx1 hd; obtain ⟨y9, rfl⟩ := hx1.get; clear hx1
   have e18 : u 18 = .pointer (some ⟨v, q * 6, none⟩) := hd 18 (by kernel_rfl)
   simp only [e18]
   refine slot_run rfl rfl rfl ?_; intro K9 hK
   go_simp; exact hK _ _ rfl (ex) rfl
  ·(show SlotA _ _ _ _ _ _ _); intro u w1 hx1 hd; obtain ⟨y9, rfl⟩ := hx1.get; clear hx1
   have e0 : u 0 = .agg #[.int .i64 n0.id, .int .i64 n0.term, .bool n0.speaks, .slice A n0.log.length a, .int .i64 n0.acked, .int .i64 n0.next] := hd 0 (by kernel_rfl)
   have e19 : u 19 = .agg #[.int .i64 um.kind, .int .i64 um.term, .int .i64 um.at_, .int .i64 um.before, .slice E um.recs.length J, .int .i64 um.acked] := hd 19 (by kernel_rfl)
   simp only [e0, e19]
   refine slot_run rfl rfl rfl ?_; intro K9 hK
   go_simp; go_at_call 102; refine (rep_Receive_as n0 A a um E J _ (h9.q0.recs h9.ext (ex)) (hu9.recs h9.ext (ex)) x z false 0 HV.out).mono ?_; rintro e w' ⟨D, K, rfl, hx, hl⟩; exact hK _ _ rfl hx ⟨D, K, rfl, LogIn.logw hl rfl hx HE.out⟩
  ·(show SlotA _ _ _ _ _ _ _); intro u w1 hx1 hd; obtain ⟨y9, rfl⟩ := hx1.get; clear hx1
   obtain ⟨D20, K20, e20, h20⟩ := hd 20 (by kernel_rfl)
   simp only [e20]
   refine slot_run rfl rfl rfl ?_; intro K9 hK
   go_simp; exact hK _ _ rfl (ex) ⟨D20, K20, rfl, h20⟩
  ·(show SlotA _ _ _ _ _ _ _); intro u w1 hx1 hd; obtain ⟨y9, rfl⟩ := hx1.get; clear hx1
   obtain ⟨D20, K20, e21, h20⟩ := hd 21 (by kernel_rfl)
   simp only [e21]
   refine slot_run rfl rfl rfl ?_; intro K9 hK
   go_simp; exact hK _ _ rfl (ex) ⟨D20, K20, rfl, h20⟩
  ·(show PureA _ _ _ _ _ _); intro u w1 hx1 hd; obtain ⟨y9, rfl⟩ := hx1.get; clear hx1
   obtain ⟨D20, K20, e21, h20⟩ := hd 21 (by kernel_rfl)
   simp only [e21]
   refine pure_run (v := .agg #[.int .i64 z.kind, .int .i64 z.term, .int .i64 z.at_, .int .i64 0, .slice none 0 0, .int .i64 0]) rfl rfl (fun w9 => ?_) rfl
   go_simp
  ·(show PureA _ _ _ _ _ _); intro u w1 hx1 hd; obtain ⟨y9, rfl⟩ := hx1.get; clear hx1
   obtain ⟨D20, K20, e21, h20⟩ := hd 21 (by kernel_rfl)
   simp only [e21]
   refine pure_run (v := .bool false) rfl rfl (fun w9 => ?_) rfl
   go_simp
  ·(show PureA _ _ _ _ _ _); intro u w1 hx1 hd; obtain ⟨y9, rfl⟩ := hx1.get; clear hx1
   obtain ⟨D20, K20, e21, h20⟩ := hd 21 (by kernel_rfl)
   simp only [e21]
   refine pure_run (v := .int .i64 0) rfl rfl (fun w9 => ?_) rfl
   go_simp
  ·(show SlotA _ _ _ _ _ _ _); intro u w1 hx1 hd; obtain ⟨y9, rfl⟩ := hx1.get; clear hx1
   refine slot_run rfl rfl rfl ?_; intro K9 hK
   go_simp; exact hK _ _ rfl (ex) ⟨_, rfl, (by first | exact Nat.le_refl _ | omega | (simp [go_sem]; done) | (simp [go_sem]; omega)), BoxAt.new (by first | rfl | simp [go_sem]) _ _⟩
  ·(show SlotA _ _ _ _ _ _ _); intro u w1 hx1 hd; obtain ⟨y9, rfl⟩ := hx1.get; clear hx1
   refine slot_run rfl rfl rfl ?_; intro K9 hK
   go_simp; exact hK _ _ rfl (ex) ⟨_, rfl, (by first | exact Nat.le_refl _ | omega | (simp [go_sem]; done) | (simp [go_sem]; omega)), BoxAt.new (by first | rfl | simp [go_sem]) _ _⟩
 ·intro u w2 hx2 hT; obtain ⟨t0, t1, t2, t3, t4, t5, t6, t7, t8, t9, t10, t11, t12, t13, t14, t15, t16, t17, t18, t19, t20, t21, t22, t23, t24, t25, t26, t27, -⟩ := hT; obtain ⟨y9, rfl⟩ := hx2.get; clear hx2
  obtain ⟨D22, K22, e22, h22⟩ := t22
  have e23 : u 23 = .agg #[.int .i64 z.kind, .int .i64 z.term, .int .i64 z.at_, .int .i64 0, .slice none 0 0, .int .i64 0] := t23
  have e24 : u 24 = .bool false := t24
  have e25 : u 25 = .int .i64 0 := t25
  obtain ⟨g26, e26, hg26, b26⟩ := t26
  obtain ⟨g27, e27, hg27, b27⟩ := t27
  simp only [e22, e23, e24, e25, e26, e27]
  clear e22 e23 e24 e25 e26 e27 t0 t1 t2 t3 t4 t5 t6 t7 t8 t9 t10 t11 t12 t13 t14 t15 t16 t17 t18 t19 t20 t21 t23 t24 t25
  simp only [List.drop_succ_cons, List.drop_zero]
  have hxx : Ext W9 (xt W9.drew y9) := ex
  go_wp2_with (first
   | (refine wpList_store_at rfl 24 (.tmp 14) (.tmp 149) rfl b26 rfl [.int .i64 x.id, .int .i64 x.term, .bool x.speaks, .slice D22 x.log.length K22, .int .i64 x.acked, .int .i64 x.next] rfl rfl (show 6 < 44 by decide) (by kernel_rfl) (nodl_one x D22 K22) ?_; intro W1 ht1 hb1)
   | (refine wpList_store_at rfl 143 (.tmp 15) (.tmp 150) rfl (b27.turn ht1 (b27.differ b26 (by decide))) rfl [.int .i64 z.kind, .int .i64 z.term, .int .i64 z.at_, .int .i64 0, .slice none 0 0, .int .i64 0] rfl rfl (show 6 < 44 by decide) (by kernel_rfl) (ansl_one z) ?_; intro W2 ht2 hb2))
  have hne := b27.differ b26 (by decide)
  have i8 := hb1.turn ht2 (Ne.symm hne)
  have m8 := (h22.turn ht1).turn ht2
  have x2 : Ext W9 W2 := ht2.ext (ht1.ext hxx hg26) hg27
  have h2 := h9.mono x2
  have s2 : StayC W W2 := s9.ext x2
  clear ht1 ht2 hb1 c0 c1 c2 c3 c4 c5 c6 c7 c8 c9 c10 c11 c12 c13 c14 d0 d1 d2 d3 d4 d5 e0 e1 e2 hxx m0 m1 m2 m3 m4 m5 b26 b27 h22
  have c0:=h2.box.c 0 rfl;have c1:=h2.box.c 1 rfl;have c2:=h2.box.c 2 rfl;have c3:=h2.box.c 3 rfl;have c4:=h2.box.c 4 rfl;have c5:=h2.box.c 5 rfl;have c6:=h2.box.c 6 rfl;have c7:=h2.box.c 7 rfl;have c8:=h2.box.c 8 rfl;have c9:=h2.box.c 9 rfl;have c10:=h2.box.c 10 rfl;have c11:=h2.box.c 11 rfl;have c12:=h2.box.c 12 rfl;have c13:=h2.box.c 13 rfl;have c14:=h2.box.c 14 rfl
  obtain ⟨d0, d1, d2, d3, d4, d5⟩ := i8.six
  go_wp2_with fail
  (refine wp_region_tail 6 (by kernel_rfl) (by kernel_rfl) ?_; simp only [List.take_succ_cons, List.take_zero, List.drop_succ_cons, List.drop_zero]; (repeat (go_big_quiet_step (fail))); refine wpQuiet_nil ?_; rintro _ ⟨y, rfl⟩)
  refine wpList_store_part rfl 24 (.tmp 160) (.tmp 157) rfl (h2.box.mono (ex)) 0 rfl [.int .i64 x.id, .int .i64 x.term, .bool x.speaks, .slice D22 x.log.length K22, .int .i64 x.acked, .int .i64 x.next] rfl (show 6 ≤ 15 by decide) (show 15 < 44 by decide) (by kernel_rfl) (nodl_one x D22 K22) [.int .i64 x.id, .int .i64 x.term, .bool x.speaks, .slice D22 x.log.length K22, .int .i64 x.acked, .int .i64 x.next, .int .i64 n1.id, .int .i64 n1.term, .bool n1.speaks, .slice B n1.log.length b, .int .i64 n1.acked, .int .i64 n1.next, .slice M l0.length m, .slice N l1.length n, .int .i64 t] rfl ?_; intro W5 ht5 hb5
  go_wp2
  go_ret
  exact ⟨rfl, (s2.ext (by exact ex)).trans ((h2.mono (by exact ex)).stay ht5), _, _, _, _, _, _, _, _, _, _, CaseAt.put0 (h2.mono (by exact ex)) ht5 (m8.mono (by exact ex)) hb5⟩
set_option maxHeartbeats 6400000 in
set_option maxRecDepth 100000 in
theorem top_recv0_yes (h : CaseAt w W g n0 n1 l0 l1 t A a B b M m xs N n ys) (hn : NodOk n0) (hk0 : 0 ≤ kd) (hk1 : kd ≤ 255) (hi0 : 0 ≤ nd) (hi1 : nd ≤ 255) (hp0 : 0 ≤ pk) (hp1 : pk ≤ 255) (hk : kd % 4 = 3) (hi : nd % 2 = 0) {q : Nat} {um : Msg} (hq : l0[q]? = some um) (hj : pk % (l0.length : Int) = q) {x : Nod} {z : Msg} (hv : recvV n0 um = (x, z, true, 0)) (hz : z.recs = [] ∧ z.before = 0 ∧ z.acked = 0) (hL : l0.length ≤ 1000) (hL2 : l1.length ≤ 1000) :
  Calls Tryz.prog 49 #[.pointer (some ⟨g, 0, none⟩), .agg #[.int .u8 kd, .int .u8 nd, .int .u8 pk]] W (StepD w W g x n1 l0 (l1 ++ [z]) t) := by
 have HC := Lib.hid h
 have HN := Lib.hid hn
 have hl0 := (h.q0.recs h.ext (Ext.refl W)).len
 have hl1 := (h.q1.recs h.ext (Ext.refl W)).len
 have ht0 := hn.t0
 have ht1 := hn.t1
 have hd1 := hn.id1
 have hd2 := hn.id2
 have hw1 : IntKind.i64.wrap nd = nd := IntWalk.i64_in _ (by omega)
 have hw2 : IntKind.i64.wrap pk = pk := IntWalk.i64_in _ (by omega)
 have hw3 : IntKind.i64.wrap 1 = 1 := rfl
 have hw4 : IntKind.i64.wrap 0 = 0 := rfl
 obtain ⟨v, E, J, hMe, hE, m0, m1, m2, m3, m4, m5⟩ := h.m0.get hq
 have HU := Lib.hid hE
 have HE := Lib.hid (show ∀ r ∈ x.log, AcnAt w r.act from fun r hr => by
  have hr' : r ∈ (recvV n0 um).1.log := by rw [hv]; exact hr
  rcases recvV_log n0 um r hr' with h1 | h1
  ·exact h.q0.el r h1
  ·exact hE.el r h1)
 have HV := Lib.hid hv
 have HZ := Lib.hid hz
 have hql : q < l0.length := (List.getElem?_eq_some_iff.1 hq).1
 have hpos : ((l0.length : Int) == 0) = false := by
  rw [beq_eq_false_iff_ne]; omega
 have hq0 : (0 : Int) ≤ (q : Int) := by omega
 have hq1 : (q : Int) < (l0.length : Int) := by omega
 have hnil : ¬ l0 = [] := fun e => by rw [e] at hql; simp at hql
 have hj2 : Int.tmod pk (l0.length : Int) = q := by rw [Int.tmod_eq_emod_of_nonneg hp0]; exact hj
 have hwq : IntKind.i64.wrap (q : Int) = q := IntWalk.i64_in _ (by omega)
 have HQ := Lib.hid hq
 clear hv hE hz hq
 have c0:=h.box.c 0 rfl;have c1:=h.box.c 1 rfl;have c2:=h.box.c 2 rfl;have c3:=h.box.c 3 rfl;have c4:=h.box.c 4 rfl;have c5:=h.box.c 5 rfl;have c6:=h.box.c 6 rfl;have c7:=h.box.c 7 rfl;have c8:=h.box.c 8 rfl;have c9:=h.box.c 9 rfl;have c10:=h.box.c 10 rfl;have c11:=h.box.c 11 rfl;have c12:=h.box.c 12 rfl;have c13:=h.box.c 13 rfl;have c14:=h.box.c 14 rfl
 clear h hn
 go_enter Tryz.func49, Tryz.ntmps49
 go_wp2_with fail
 (try simp only [hk, hi])
 clear hk hi
 refine wp_name (fun W9 hW9 => ?_)
 have k3 : BoxAt W9 W.heap.size [.int .u8 kd, .int .u8 nd, .int .u8 pk] 121 := by rw [hW9]; exact (by repeat (first | exact BoxAt.new (by first | rfl | (simp [go_sem]; done) | (simp [go_sem]; omega)) _ _ | apply BoxAt.xt | apply BoxAt.drew | apply BoxAt.drewN | apply BoxAt.alloc))
 have k6 : BoxAt W9 (W.heap.size + 1) [.int .i64 n0.id, .int .i64 n0.term, .bool n0.speaks, .slice A n0.log.length a, .int .i64 n0.acked, .int .i64 n0.next] 24 := by rw [hW9]; exact (by repeat (first | exact BoxAt.new (by first | rfl | (simp [go_sem]; done) | (simp [go_sem]; omega)) _ _ | apply BoxAt.xt | apply BoxAt.drew | apply BoxAt.drewN | apply BoxAt.alloc))
 have h9 : CaseAt w W9 g n0 n1 l0 l1 t A a B b M m xs N n ys := by rw [hW9]; exact HC.out.mono (ex)
 have s9 : StayC W W9 := by rw [hW9]; exact Ext.stay (ex)
 have hgl : g < W.heap.size := HC.out.box.lt
 have hs9 : W.heap.size + 2 ≤ W9.heap.size := by rw [hW9]; simp [go_sem]
 have hm9 : Ext W W9 := by rw [hW9]; exact (ex)
 replace m0 := hm9.cell m0
 replace m1 := hm9.cell m1
 replace m2 := hm9.cell m2
 replace m3 := hm9.cell m3
 replace m4 := hm9.cell m4
 replace m5 := hm9.cell m5
 have hu9 : LogW w W9 E um.recs.length J um.recs := HU.out.mono hm9
 clear hW9 c0 c1 c2 c3 c4 c5 c6 c7 c8 c9 c10 c11 c12 c13 c14
 have c0:=h9.box.c 0 rfl;have c1:=h9.box.c 1 rfl;have c2:=h9.box.c 2 rfl;have c3:=h9.box.c 3 rfl;have c4:=h9.box.c 4 rfl;have c5:=h9.box.c 5 rfl;have c6:=h9.box.c 6 rfl;have c7:=h9.box.c 7 rfl;have c8:=h9.box.c 8 rfl;have c9:=h9.box.c 9 rfl;have c10:=h9.box.c 10 rfl;have c11:=h9.box.c 11 rfl;have c12:=h9.box.c 12 rfl;have c13:=h9.box.c 13 rfl;have c14:=h9.box.c 14 rfl
 rw [hMe] at c12
 obtain ⟨d0, d1, d2, d3, d4, d5⟩ := k6.six
 have e0:=k3.c 0 rfl;have e1:=k3.c 1 rfl;have e2:=k3.c 2 rfl
 refine wp_region_stab 28 [23, 24, 25] [Stab.is (.agg #[.int .i64 n0.id, .int .i64 n0.term, .bool n0.speaks, .slice A n0.log.length a, .int .i64 n0.acked, .int .i64 n0.next]), Stab.is (.pointer (some ⟨g, 0, none⟩)), Stab.is (.int .i64 0), Stab.is (.pointer (some ⟨g, 0, none⟩)), Stab.is (.pointer (some ⟨g, 12, none⟩)), Stab.is (.pointer (some ⟨g, 12, none⟩)), Stab.is (.slice (some ⟨v, 0, none⟩) l0.length m), Stab.is (.pointer (some ⟨W.heap.size, 2, none⟩)), Stab.is (.int .u8 pk), Stab.is (.int .i64 pk), Stab.is (.pointer (some ⟨g, 0, none⟩)), Stab.is (.int .i64 0), Stab.is (.pointer (some ⟨g, 0, none⟩)), Stab.is (.pointer (some ⟨g, 12, none⟩)), Stab.is (.pointer (some ⟨g, 12, none⟩)), Stab.is (.slice (some ⟨v, 0, none⟩) l0.length m), Stab.is (.int .i64 l0.length), Stab.is (.int .i64 q), Stab.is (.pointer (some ⟨v, q * 6, none⟩)), Stab.is (.agg #[.int .i64 um.kind, .int .i64 um.term, .int .i64 um.at_, .int .i64 um.before, .slice E um.recs.length J, .int .i64 um.acked]), Stab.recv w x z true 0, Stab.recv w x z true 0, Stab.nod w x, Stab.is (.agg #[.int .i64 z.kind, .int .i64 z.term, .int .i64 z.at_, .int .i64 0, .slice none 0 0, .int .i64 0]), Stab.is (.bool true), Stab.is (.int .i64 0), Stab.box W9.heap.size [.int .i64 0, .int .i64 0, .bool false, .slice none 0 0, .int .i64 0, .int .i64 0] 24, Stab.box W9.heap.size [.int .i64 0, .int .i64 0, .int .i64 0, .int .i64 0, .slice none 0 0, .int .i64 0] 143] (fun u => by (simp only [putAll, List.take_succ_cons, List.take_zero, Act.put, Nat.zero_add, Nat.reduceAdd]); (try simp only [List.setIfInBounds_toArray]); (repeat (first | simp only [List.set_cons_succ] | simp only [List.set_cons_zero])); exact rfl) (by kernel_rfl) (by kernel_rfl) (fun _ _ _ _ _ h => h) ?_ ?_
 ·refine ⟨?_, ?_, ?_, ?_, ?_, ?_, ?_, ?_, ?_, ?_, ?_, ?_, ?_, ?_, ?_, ?_, ?_, ?_, ?_, ?_, ?_, ?_, ?_, ?_, ?_, ?_, ?_, ?_, trivial⟩
  ·(show SlotA _ _ _ _ _ _ _); intro u w1 hx1 hd; obtain ⟨y9, rfl⟩ := hx1.get; clear hx1
   refine slot_run rfl rfl rfl ?_; intro K9 hK
   go_simp; exact hK _ _ rfl (ex) rfl
  ·(show SlotA _ _ _ _ _ _ _); intro u w1 hx1 hd; obtain ⟨y9, rfl⟩ := hx1.get; clear hx1
   refine slot_run rfl rfl rfl ?_; intro K9 hK
   go_simp; exact hK _ _ rfl (ex) rfl
  ·(show SlotA _ _ _ _ _ _ _); intro u w1 hx1 hd; obtain ⟨y9, rfl⟩ := hx1.get; clear hx1
   refine slot_run rfl rfl rfl ?_; intro K9 hK
   go_simp; exact hK _ _ rfl (ex) rfl
  ·(show SlotA _ _ _ _ _ _ _); intro u w1 hx1 hd; obtain ⟨y9, rfl⟩ := hx1.get; clear hx1
   have e1 : u 1 = .pointer (some ⟨g, 0, none⟩) := hd 1 (by kernel_rfl)
   simp only [e1]
   refine slot_run rfl rfl rfl ?_; intro K9 hK
   go_simp; exact hK _ _ rfl (ex) rfl
  ·(show SlotA _ _ _ _ _ _ _); intro u w1 hx1 hd; obtain ⟨y9, rfl⟩ := hx1.get; clear hx1
   have e3 : u 3 = .pointer (some ⟨g, 0, none⟩) := hd 3 (by kernel_rfl)
   simp only [e3]
   refine slot_run rfl rfl rfl ?_; intro K9 hK
   go_simp; exact hK _ _ rfl (ex) rfl
  ·(show SlotA _ _ _ _ _ _ _); intro u w1 hx1 hd; obtain ⟨y9, rfl⟩ := hx1.get; clear hx1
   have e2 : u 2 = .int .i64 0 := hd 2 (by kernel_rfl)
   have e4 : u 4 = .pointer (some ⟨g, 12, none⟩) := hd 4 (by kernel_rfl)
   simp only [e2, e4]
   refine slot_run rfl rfl rfl ?_; intro K9 hK
   go_simp; exact hK _ _ rfl (ex) rfl
  ·(show SlotA _ _ _ _ _ _ _); intro u w1 hx1 hd; obtain ⟨y9, rfl⟩ := hx1.get; clear hx1
   have e5 : u 5 = .pointer (some ⟨g, 12, none⟩) := hd 5 (by kernel_rfl)
   simp only [e5]
   refine slot_run rfl rfl rfl ?_; intro K9 hK
   go_simp; exact hK _ _ rfl (ex) rfl
  ·(show SlotA _ _ _ _ _ _ _); intro u w1 hx1 hd; obtain ⟨y9, rfl⟩ := hx1.get; clear hx1
   refine slot_run rfl rfl rfl ?_; intro K9 hK
   go_simp; exact hK _ _ rfl (ex) rfl
  ·(show SlotA _ _ _ _ _ _ _); intro u w1 hx1 hd; obtain ⟨y9, rfl⟩ := hx1.get; clear hx1
   have e7 : u 7 = .pointer (some ⟨W.heap.size, 2, none⟩) := hd 7 (by kernel_rfl)
   simp only [e7]
   refine slot_run rfl rfl rfl ?_; intro K9 hK
   go_simp; exact hK _ _ rfl (ex) rfl
  ·(show SlotA _ _ _ _ _ _ _); intro u w1 hx1 hd; obtain ⟨y9, rfl⟩ := hx1.get; clear hx1
   have e8 : u 8 = .int .u8 pk := hd 8 (by kernel_rfl)
   simp only [e8]
   refine slot_run rfl rfl rfl ?_; intro K9 hK
   go_simp; exact hK _ _ rfl (ex) rfl
  ·(show SlotA _ _ _ _ _ _ _); intro u w1 hx1 hd; obtain ⟨y9, rfl⟩ := hx1.get; clear hx1
   refine slot_run rfl rfl rfl ?_; intro K9 hK
   go_simp; exact hK _ _ rfl (ex) rfl
  ·(show SlotA _ _ _ _ _ _ _); intro u w1 hx1 hd; obtain ⟨y9, rfl⟩ := hx1.get; clear hx1
   refine slot_run rfl rfl rfl ?_; intro K9 hK
   go_simp; exact hK _ _ rfl (ex) rfl
  ·(show SlotA _ _ _ _ _ _ _); intro u w1 hx1 hd; obtain ⟨y9, rfl⟩ := hx1.get; clear hx1
   have e10 : u 10 = .pointer (some ⟨g, 0, none⟩) := hd 10 (by kernel_rfl)
   simp only [e10]
   refine slot_run rfl rfl rfl ?_; intro K9 hK
   go_simp; exact hK _ _ rfl (ex) rfl
  ·(show SlotA _ _ _ _ _ _ _); intro u w1 hx1 hd; obtain ⟨y9, rfl⟩ := hx1.get; clear hx1
   have e12 : u 12 = .pointer (some ⟨g, 0, none⟩) := hd 12 (by kernel_rfl)
   simp only [e12]
   refine slot_run rfl rfl rfl ?_; intro K9 hK
   go_simp; exact hK _ _ rfl (ex) rfl
  ·(show SlotA _ _ _ _ _ _ _); intro u w1 hx1 hd; obtain ⟨y9, rfl⟩ := hx1.get; clear hx1
   have e11 : u 11 = .int .i64 0 := hd 11 (by kernel_rfl)
   have e13 : u 13 = .pointer (some ⟨g, 12, none⟩) := hd 13 (by kernel_rfl)
   simp only [e11, e13]
   refine slot_run rfl rfl rfl ?_; intro K9 hK
   go_simp; exact hK _ _ rfl (ex) rfl
  ·(show SlotA _ _ _ _ _ _ _); intro u w1 hx1 hd; obtain ⟨y9, rfl⟩ := hx1.get; clear hx1
   have e14 : u 14 = .pointer (some ⟨g, 12, none⟩) := hd 14 (by kernel_rfl)
   simp only [e14]
   refine slot_run rfl rfl rfl ?_; intro K9 hK
   go_simp; exact hK _ _ rfl (ex) rfl
  ·(show SlotA _ _ _ _ _ _ _); intro u w1 hx1 hd; obtain ⟨y9, rfl⟩ := hx1.get; clear hx1
   have e15 : u 15 = .slice (some ⟨v, 0, none⟩) l0.length m := hd 15 (by kernel_rfl)
   simp only [e15]
   refine slot_run rfl rfl rfl ?_; intro K9 hK
   go_simp; exact hK _ _ rfl (ex) rfl
  ·(show SlotA _ _ _ _ _ _ _); intro u w1 hx1 hd; obtain ⟨y9, rfl⟩ := hx1.get; clear hx1
   have e9 : u 9 = .int .i64 pk := hd 9 (by kernel_rfl)
   have e16 : u 16 = .int .i64 l0.length := hd 16 (by kernel_rfl)
   simp only [e9, e16]
   refine slot_run rfl rfl rfl ?_; intro K9 hK
   go_simp; exact hK _ _ rfl (ex) rfl
  ·(show SlotA _ _ _ _ _ _ _); intro u w1 hx1 hd; obtain ⟨y9, rfl⟩ := hx1.get; clear hx1
   have e6 : u 6 = .slice (some ⟨v, 0, none⟩) l0.length m := hd 6 (by kernel_rfl)
   have e17 : u 17 = .int .i64 q := hd 17 (by kernel_rfl)
   simp only [e6, e17]
   refine slot_run rfl rfl rfl ?_; intro K9 hK
   go_simp; exact hK _ _ rfl (ex) rfl
  ·(show SlotA _ _ _ _ _ _ _); intro u w1 hx1 hd; obtain ⟨y9, rfl⟩ := hx1.get; clear hx1
   have e18 : u 18 = .pointer (some ⟨v, q * 6, none⟩) := hd 18 (by kernel_rfl)
   simp only [e18]
   refine slot_run rfl rfl rfl ?_; intro K9 hK
   go_simp; exact hK _ _ rfl (ex) rfl
  ·(show SlotA _ _ _ _ _ _ _); intro u w1 hx1 hd; obtain ⟨y9, rfl⟩ := hx1.get; clear hx1
   have e0 : u 0 = .agg #[.int .i64 n0.id, .int .i64 n0.term, .bool n0.speaks, .slice A n0.log.length a, .int .i64 n0.acked, .int .i64 n0.next] := hd 0 (by kernel_rfl)
   have e19 : u 19 = .agg #[.int .i64 um.kind, .int .i64 um.term, .int .i64 um.at_, .int .i64 um.before, .slice E um.recs.length J, .int .i64 um.acked] := hd 19 (by kernel_rfl)
   simp only [e0, e19]
   refine slot_run rfl rfl rfl ?_; intro K9 hK
   go_simp; go_at_call 102; refine (rep_Receive_as n0 A a um E J _ (h9.q0.recs h9.ext (ex)) (hu9.recs h9.ext (ex)) x z true 0 HV.out).mono ?_; rintro e w' ⟨D, K, rfl, hx, hl⟩; exact hK _ _ rfl hx ⟨D, K, rfl, LogIn.logw hl rfl hx HE.out⟩
  ·(show SlotA _ _ _ _ _ _ _); intro u w1 hx1 hd; obtain ⟨y9, rfl⟩ := hx1.get; clear hx1
   obtain ⟨D20, K20, e20, h20⟩ := hd 20 (by kernel_rfl)
   simp only [e20]
   refine slot_run rfl rfl rfl ?_; intro K9 hK
   go_simp; exact hK _ _ rfl (ex) ⟨D20, K20, rfl, h20⟩
  ·(show SlotA _ _ _ _ _ _ _); intro u w1 hx1 hd; obtain ⟨y9, rfl⟩ := hx1.get; clear hx1
   obtain ⟨D20, K20, e21, h20⟩ := hd 21 (by kernel_rfl)
   simp only [e21]
   refine slot_run rfl rfl rfl ?_; intro K9 hK
   go_simp; exact hK _ _ rfl (ex) ⟨D20, K20, rfl, h20⟩
  ·(show PureA _ _ _ _ _ _); intro u w1 hx1 hd; obtain ⟨y9, rfl⟩ := hx1.get; clear hx1
   obtain ⟨D20, K20, e21, h20⟩ := hd 21 (by kernel_rfl)
   simp only [e21]
   refine pure_run (v := .agg #[.int .i64 z.kind, .int .i64 z.term, .int .i64 z.at_, .int .i64 0, .slice none 0 0, .int .i64 0]) rfl rfl (fun w9 => ?_) rfl
   go_simp
  ·(show PureA _ _ _ _ _ _); intro u w1 hx1 hd; obtain ⟨y9, rfl⟩ := hx1.get; clear hx1
   obtain ⟨D20, K20, e21, h20⟩ := hd 21 (by kernel_rfl)
   simp only [e21]
   refine pure_run (v := .bool true) rfl rfl (fun w9 => ?_) rfl
   go_simp
  ·(show PureA _ _ _ _ _ _); intro u w1 hx1 hd; obtain ⟨y9, rfl⟩ := hx1.get; clear hx1
   obtain ⟨D20, K20, e21, h20⟩ := hd 21 (by kernel_rfl)
   simp only [e21]
   refine pure_run (v := .int .i64 0) rfl rfl (fun w9 => ?_) rfl
   go_simp
  ·(show SlotA _ _ _ _ _ _ _); intro u w1 hx1 hd; obtain ⟨y9, rfl⟩ := hx1.get; clear hx1
   refine slot_run rfl rfl rfl ?_; intro K9 hK
   go_simp; exact hK _ _ rfl (ex) ⟨_, rfl, (by first | exact Nat.le_refl _ | omega | (simp [go_sem]; done) | (simp [go_sem]; omega)), BoxAt.new (by first | rfl | simp [go_sem]) _ _⟩
  ·(show SlotA _ _ _ _ _ _ _); intro u w1 hx1 hd; obtain ⟨y9, rfl⟩ := hx1.get; clear hx1
   refine slot_run rfl rfl rfl ?_; intro K9 hK
   go_simp; exact hK _ _ rfl (ex) ⟨_, rfl, (by first | exact Nat.le_refl _ | omega | (simp [go_sem]; done) | (simp [go_sem]; omega)), BoxAt.new (by first | rfl | simp [go_sem]) _ _⟩
 ·intro u w2 hx2 hT; obtain ⟨t0, t1, t2, t3, t4, t5, t6, t7, t8, t9, t10, t11, t12, t13, t14, t15, t16, t17, t18, t19, t20, t21, t22, t23, t24, t25, t26, t27, -⟩ := hT; obtain ⟨y9, rfl⟩ := hx2.get; clear hx2
  obtain ⟨D22, K22, e22, h22⟩ := t22
  have e23 : u 23 = .agg #[.int .i64 z.kind, .int .i64 z.term, .int .i64 z.at_, .int .i64 0, .slice none 0 0, .int .i64 0] := t23
  have e24 : u 24 = .bool true := t24
  have e25 : u 25 = .int .i64 0 := t25
  obtain ⟨g26, e26, hg26, b26⟩ := t26
  obtain ⟨g27, e27, hg27, b27⟩ := t27
  simp only [e22, e23, e24, e25, e26, e27]
  clear e22 e23 e24 e25 e26 e27 t0 t1 t2 t3 t4 t5 t6 t7 t8 t9 t10 t11 t12 t13 t14 t15 t16 t17 t18 t19 t20 t21 t23 t24 t25
  simp only [List.drop_succ_cons, List.drop_zero]
  have hxx : Ext W9 (xt W9.drew y9) := ex
  go_wp2_with (first
   | (refine wpList_store_at rfl 24 (.tmp 14) (.tmp 149) rfl b26 rfl [.int .i64 x.id, .int .i64 x.term, .bool x.speaks, .slice D22 x.log.length K22, .int .i64 x.acked, .int .i64 x.next] rfl rfl (show 6 < 44 by decide) (by kernel_rfl) (nodl_one x D22 K22) ?_; intro W1 ht1 hb1)
   | (refine wpList_store_at rfl 143 (.tmp 15) (.tmp 150) rfl (b27.turn ht1 (b27.differ b26 (by decide))) rfl [.int .i64 z.kind, .int .i64 z.term, .int .i64 z.at_, .int .i64 0, .slice none 0 0, .int .i64 0] rfl rfl (show 6 < 44 by decide) (by kernel_rfl) (ansl_one z) ?_; intro W2 ht2 hb2))
  have hne := b27.differ b26 (by decide)
  have i8 := hb1.turn ht2 (Ne.symm hne)
  have m8 := (h22.turn ht1).turn ht2
  have x2 : Ext W9 W2 := ht2.ext (ht1.ext hxx hg26) hg27
  have h2 := h9.mono x2
  have s2 : StayC W W2 := s9.ext x2
  clear ht1 ht2 hb1 c0 c1 c2 c3 c4 c5 c6 c7 c8 c9 c10 c11 c12 c13 c14 d0 d1 d2 d3 d4 d5 e0 e1 e2 hxx m0 m1 m2 m3 m4 m5 b26 b27 h22
  have c0:=h2.box.c 0 rfl;have c1:=h2.box.c 1 rfl;have c2:=h2.box.c 2 rfl;have c3:=h2.box.c 3 rfl;have c4:=h2.box.c 4 rfl;have c5:=h2.box.c 5 rfl;have c6:=h2.box.c 6 rfl;have c7:=h2.box.c 7 rfl;have c8:=h2.box.c 8 rfl;have c9:=h2.box.c 9 rfl;have c10:=h2.box.c 10 rfl;have c11:=h2.box.c 11 rfl;have c12:=h2.box.c 12 rfl;have c13:=h2.box.c 13 rfl;have c14:=h2.box.c 14 rfl
  obtain ⟨d0, d1, d2, d3, d4, d5⟩ := i8.six
  go_wp2_with fail
  (refine wp_region_tail 6 (by kernel_rfl) (by kernel_rfl) ?_; simp only [List.take_succ_cons, List.take_zero, List.drop_succ_cons, List.drop_zero]; (repeat (go_big_quiet_step (fail))); refine wpQuiet_nil ?_; rintro _ ⟨y, rfl⟩)
  refine wpList_store_part rfl 24 (.tmp 160) (.tmp 157) rfl (h2.box.mono (ex)) 0 rfl [.int .i64 x.id, .int .i64 x.term, .bool x.speaks, .slice D22 x.log.length K22, .int .i64 x.acked, .int .i64 x.next] rfl (show 6 ≤ 15 by decide) (show 15 < 44 by decide) (by kernel_rfl) (nodl_one x D22 K22) [.int .i64 x.id, .int .i64 x.term, .bool x.speaks, .slice D22 x.log.length K22, .int .i64 x.acked, .int .i64 x.next, .int .i64 n1.id, .int .i64 n1.term, .bool n1.speaks, .slice B n1.log.length b, .int .i64 n1.acked, .int .i64 n1.next, .slice M l0.length m, .slice N l1.length n, .int .i64 t] rfl ?_; intro W5 ht5 hb5
  have h5 := CaseAt.put0 (h2.mono (by exact ex)) ht5 (m8.mono (by exact ex)) hb5
  have s5 := (s2.ext (by exact ex)).trans ((h2.mono (by exact ex)).stay ht5)
  have j15 : BoxAt W5 g27 [.int .i64 z.kind, .int .i64 z.term, .int .i64 z.at_, .int .i64 z.before, .slice none z.recs.length 0, .int .i64 z.acked] 143 := by
   have e : ([.int .i64 z.kind, .int .i64 z.term, .int .i64 z.at_, .int .i64 0, .slice none 0 0, .int .i64 0] : List Value) = [.int .i64 z.kind, .int .i64 z.term, .int .i64 z.at_, .int .i64 z.before, .slice none z.recs.length 0, .int .i64 z.acked] := by rw [HZ.out.1, HZ.out.2.1, HZ.out.2.2]; rfl
   rw [← e]
   exact (hb2.mono (ex)).turn ht5 (fun e => (hb2.differ h2.box (by decide)) e)
  clear c0 c1 c2 c3 c4 c5 c6 c7 c8 c9 c10 c11 c12 c13 c14 d0 d1 d2 d3 d4 d5 hb2 ht5 hb5
  go_wp2_with fail
  refine wp_region_L (S := SS 16 11 (fun w9 => BoxAt w9 g [.int .i64 x.id, .int .i64 x.term, .bool x.speaks, .slice D22 x.log.length K22, .int .i64 x.acked, .int .i64 x.next, .int .i64 n1.id, .int .i64 n1.term, .bool n1.speaks, .slice B n1.log.length b, .int .i64 n1.acked, .int .i64 n1.next, .slice M l0.length m, .slice N l1.length n, .int .i64 t] 117) (fun w9 => BoxAt w9 g27 [.int .i64 z.kind, .int .i64 z.term, .int .i64 z.at_, .int .i64 z.before, .slice none z.recs.length 0, .int .i64 z.acked] 143) (fun _ => True)) (by kernel_rfl) ⟨fun _ => h5.box.mono (ex), fun _ => j15.mono (ex), trivial⟩ (fun hcl hS => ?_)
  refine wpAnyL_take (i := 0) (T := (fun _ => True)) (v := ?_) rfl (by kernel_rfl) (by kernel_rfl) (by kernel_rfl) (fun _ _ _ h => h) (fun _ _ _ _ _ => trivial) (SS.up (by decide) (by decide)) (SS.down (by decide) (by decide)) (Or.inl ⟨by rfl, ?_⟩) hcl hS ?_
  rotate_left
  ·(intro w9 hw9; (try dsimp only at hw9); go_simp; try with_reducible rfl)
  clear hcl hS
  intro hcl hS
  (try simp only [Act.put]); (try simp only [List.setIfInBounds_toArray]); (repeat (first | simp only [List.set_cons_succ] | simp only [List.set_cons_zero]))
  refine wpAnyL_take (i := 1) (T := (fun _ => True)) (v := ?_) rfl (by kernel_rfl) (by kernel_rfl) (by kernel_rfl) (fun _ _ _ h => h) (fun _ _ _ _ _ => trivial) (SS.up (by decide) (by decide)) (SS.down (by decide) (by decide)) (Or.inl ⟨by rfl, ?_⟩) hcl hS ?_
  rotate_left
  ·(intro w9 hw9; (try dsimp only at hw9); go_simp; try with_reducible rfl)
  clear hcl hS
  intro hcl hS
  (try simp only [Act.put]); (try simp only [List.setIfInBounds_toArray]); (repeat (first | simp only [List.set_cons_succ] | simp only [List.set_cons_zero]))
  refine wpAnyL_take (i := 2) (T := (fun _ => True)) (v := ?_) rfl (by kernel_rfl) (by kernel_rfl) (by kernel_rfl) (fun _ _ _ h => h) (fun _ _ _ _ _ => trivial) (SS.up (by decide) (by decide)) (SS.down (by decide) (by decide)) (Or.inl ⟨by rfl, ?_⟩) hcl hS ?_
  rotate_left
  ·(intro w9 hw9; (try dsimp only at hw9); go_simp; try with_reducible rfl)
  clear hcl hS
  intro hcl hS
  (try simp only [Act.put]); (try simp only [List.setIfInBounds_toArray]); (repeat (first | simp only [List.set_cons_succ] | simp only [List.set_cons_zero]))
  refine wpAnyL_take (i := 3) (T := (fun _ => True)) (v := ?_) rfl (by kernel_rfl) (by kernel_rfl) (by kernel_rfl) (fun _ _ _ h => h) (fun _ _ _ _ _ => trivial) (SS.up (by decide) (by decide)) (SS.down (by decide) (by decide)) (Or.inl ⟨by rfl, ?_⟩) hcl hS ?_
  rotate_left
  ·(intro w9 hw9; (try dsimp only at hw9); go_simp; try with_reducible rfl)
  clear hcl hS
  intro hcl hS
  (try simp only [Act.put]); (try simp only [List.setIfInBounds_toArray]); (repeat (first | simp only [List.set_cons_succ] | simp only [List.set_cons_zero]))
  refine wpAnyL_take (i := 4) (T := (fun _ => True)) (v := ?_) rfl (by kernel_rfl) (by kernel_rfl) (by kernel_rfl) (fun _ _ _ h => h) (fun _ _ _ _ _ => trivial) (SS.up (by decide) (by decide)) (SS.down (by decide) (by decide)) (Or.inl ⟨by rfl, ?_⟩) hcl hS ?_
  rotate_left
  ·(intro w9 hw9; (try dsimp only at hw9); go_simp; try with_reducible rfl)
  clear hcl hS
  intro hcl hS
  (try simp only [Act.put]); (try simp only [List.setIfInBounds_toArray]); (repeat (first | simp only [List.set_cons_succ] | simp only [List.set_cons_zero]))
  refine wpAnyL_take (i := 5) (T := (fun _ => True)) (v := ?_) rfl (by kernel_rfl) (by kernel_rfl) (by kernel_rfl) (fun _ _ _ h => h) (fun _ _ _ _ _ => trivial) (SS.up (by decide) (by decide)) (SS.down (by decide) (by decide)) (Or.inl ⟨by rfl, ?_⟩) hcl hS ?_
  rotate_left
  ·(intro w9 hw9; (try dsimp only at hw9); go_simp; try with_reducible rfl)
  clear hcl hS
  intro hcl hS
  (try simp only [Act.put]); (try simp only [List.setIfInBounds_toArray]); (repeat (first | simp only [List.set_cons_succ] | simp only [List.set_cons_zero]))
  refine wpAnyL_take (i := 6) (T := (fun _ => True)) (v := ?_) rfl (by kernel_rfl) (by kernel_rfl) (by kernel_rfl) (fun _ _ _ h => h) (fun _ _ _ _ _ => trivial) (SS.up (by decide) (by decide)) (SS.down (by decide) (by decide)) (Or.inl ⟨by rfl, ?_⟩) hcl hS ?_
  rotate_left
  ·(intro w9 hw9; (try dsimp only at hw9); go_simp; try with_reducible rfl)
  clear hcl hS
  intro hcl hS
  (try simp only [Act.put]); (try simp only [List.setIfInBounds_toArray]); (repeat (first | simp only [List.set_cons_succ] | simp only [List.set_cons_zero]))
  refine wpAnyL_take (i := 7) (T := (fun _ => True)) (v := ?_) rfl (by kernel_rfl) (by kernel_rfl) (by kernel_rfl) (fun _ _ _ h => h) (fun _ _ _ _ _ => trivial) (SS.up (by decide) (by decide)) (SS.down (by decide) (by decide)) (Or.inl ⟨by rfl, ?_⟩) hcl hS ?_
  rotate_left
  ·(intro w9 hw9; (try dsimp only at hw9); go_simp; try with_reducible rfl)
  clear hcl hS
  intro hcl hS
  (try simp only [Act.put]); (try simp only [List.setIfInBounds_toArray]); (repeat (first | simp only [List.set_cons_succ] | simp only [List.set_cons_zero]))
  refine wpAnyL_take (i := 8) (T := (fun _ => True)) (v := ?_) rfl (by kernel_rfl) (by kernel_rfl) (by kernel_rfl) (fun _ _ _ h => h) (fun _ _ _ _ _ => trivial) (SS.up (by decide) (by decide)) (SS.down (by decide) (by decide)) (Or.inl ⟨by rfl, ?_⟩) hcl hS ?_
  rotate_left
  ·(intro w9 hw9; (try dsimp only at hw9); go_simp; try with_reducible rfl)
  clear hcl hS
  intro hcl hS
  (try simp only [Act.put]); (try simp only [List.setIfInBounds_toArray]); (repeat (first | simp only [List.set_cons_succ] | simp only [List.set_cons_zero]))
  refine wpAnyL_take (i := 9) (T := (fun w9 => BoxAt w9 g [.int .i64 x.id, .int .i64 x.term, .bool x.speaks, .slice D22 x.log.length K22, .int .i64 x.acked, .int .i64 x.next, .int .i64 n1.id, .int .i64 n1.term, .bool n1.speaks, .slice B n1.log.length b, .int .i64 n1.acked, .int .i64 n1.next, .slice M l0.length m, .slice N l1.length n, .int .i64 t] 117)) (v := ?_) rfl (by kernel_rfl) (by kernel_rfl) (by kernel_rfl) (fun _ _ _ h => h) (fun _ _ hc hi hS => hS.1 (hc.not (k := 16) (by kernel_rfl) hi)) (SS.up (by decide) (by decide)) (SS.down (by decide) (by decide)) (Or.inl ⟨by rfl, ?_⟩) hcl hS ?_
  rotate_left
  ·(intro w9 hw9; (try dsimp only at hw9); have z9:=hw9.c 13 rfl; go_simp; try with_reducible rfl)
  clear hcl hS
  intro hcl hS
  (try simp only [Act.put]); (try simp only [List.setIfInBounds_toArray]); (repeat (first | simp only [List.set_cons_succ] | simp only [List.set_cons_zero]))
  refine wpAnyL_take (i := 10) (T := (fun w9 => BoxAt w9 g27 [.int .i64 z.kind, .int .i64 z.term, .int .i64 z.at_, .int .i64 z.before, .slice none z.recs.length 0, .int .i64 z.acked] 143)) (v := ?_) rfl (by kernel_rfl) (by kernel_rfl) (by kernel_rfl) (fun _ _ _ h => h) (fun _ _ hc hi hS => hS.2.1 (hc.not (k := 11) (by kernel_rfl) hi)) (SS.up (by decide) (by decide)) (SS.down (by decide) (by decide)) (Or.inl ⟨by rfl, ?_⟩) hcl hS ?_
  rotate_left
  ·(intro w9 hw9; (try dsimp only at hw9); obtain ⟨z0, z1, z2, z3, z4, z5⟩ := hw9.six; go_simp; try with_reducible rfl)
  clear hcl hS
  intro hcl hS
  (try simp only [Act.put]); (try simp only [List.setIfInBounds_toArray]); (repeat (first | simp only [List.set_cons_succ] | simp only [List.set_cons_zero]))
  refine wpAnyL_take (i := 13) (T := (fun _ => True)) (v := ?_) rfl (by kernel_rfl) (by kernel_rfl) (by kernel_rfl) (fun _ _ _ h => h) (fun _ _ _ _ _ => trivial) (SS.up (by decide) (by decide)) (SS.down (by decide) (by decide)) (Or.inl ⟨by rfl, ?_⟩) hcl hS ?_
  rotate_left
  ·(intro w9 hw9; (try dsimp only at hw9); go_simp; try with_reducible rfl)
  clear hcl hS
  intro hcl hS
  (try simp only [Act.put]); (try simp only [List.setIfInBounds_toArray]); (repeat (first | simp only [List.set_cons_succ] | simp only [List.set_cons_zero]))
  refine wpAnyL_take (i := 14) (T := (fun _ => True)) (v := ?_) rfl (by kernel_rfl) (by kernel_rfl) (by kernel_rfl) (fun _ _ _ h => h) (fun _ _ _ _ _ => trivial) (SS.up (by decide) (by decide)) (SS.down (by decide) (by decide)) (Or.inl ⟨by rfl, ?_⟩) hcl hS ?_
  rotate_left
  ·(intro w9 hw9; (try dsimp only at hw9); go_simp; try with_reducible rfl)
  clear hcl hS
  intro hcl hS
  (try simp only [Act.put]); (try simp only [List.setIfInBounds_toArray]); (repeat (first | simp only [List.set_cons_succ] | simp only [List.set_cons_zero]))
  refine wpAnyL_only (i := 11) (by kernel_rfl) rfl rfl hcl (fun K9 hK9 => ?_)
  go_simp
  clear hS hcl
  refine hK9 _ _ ⟨fun _ => h5.box.mono (ex), fun hh => absurd hh (by decide), trivial⟩ (fun hcl hS => ?_)
  clear hK9
  refine wpAnyL_only (i := 12) (by kernel_rfl) rfl rfl hcl (fun K9 hK9 => ?_)
  clear hS hcl
  refine wp_append_mute (w0 := w) 117 (.tmp 171) (.tmp 173) 114 114 rfl 143 143 6 64 Tryz.underlying114 Tryz.underlying114 info_Msg zero_Msg (by decide) (h5.ext.trans (ex)) N l1.length n (ys.map msgRw) rfl (h5.m1.own.mono (ex)) h5.m1.room (msgRw_mute _) _ 1 1 [[.int .i64 z.kind, .int .i64 z.term, .int .i64 z.at_, .int .i64 z.before, .slice none z.recs.length 0, .int .i64 z.acked]] rfl (Sl.drawn (Sl.alloc' (by simp [go_sem]) (by simp) (by simp))) rfl (by decide) (msgRw_one [(z, none, 0)]) (msgRw_mute [(z, none, 0)]) (by unfold maxLen; omega) (by omega) _ rfl _ rfl ?_; intro M5 m5 V5 hx5 hown5 hk5 hs5 hgr5 hA5
  have hg9 := CaseAt.box1 (h5.mono (by exact ex)) hgr5
  refine hK9 _ _ ⟨fun _ => hg9, fun hh => absurd hh (by decide), trivial⟩ (fun hcl hS => ?_)
  clear hK9
  refine wpAnyL_only (i := 15) (by kernel_rfl) rfl rfl hcl (fun K9 hK9 => ?_)
  clear hS hcl
  go_simp
  refine hK9 _ _ ⟨fun _ => hg9, fun hh => absurd hh (by decide), trivial⟩ (fun hcl hS => ?_)
  clear hK9
  refine wpAnyL_only (i := 16) (by kernel_rfl) rfl rfl hcl (fun K9 hK9 => ?_)
  clear hS hcl
  refine wp_store_cell 114 (.tmp 177) (.tmp 174) rfl hg9 13 rfl (.slice M5 (l1 ++ [z]).length m5) (by simp [Act.eval, List.length_append]) (show 13 < 15 by decide) (show 15 < 44 by decide) (by kernel_rfl) rfl [.int .i64 x.id, .int .i64 x.term, .bool x.speaks, .slice D22 x.log.length K22, .int .i64 x.acked, .int .i64 x.next, .int .i64 n1.id, .int .i64 n1.term, .bool n1.speaks, .slice B n1.log.length b, .int .i64 n1.acked, .int .i64 n1.next, .slice M l0.length m, .slice M5 (l1 ++ [z]).length m5, .int .i64 t] rfl ?_; intro V6 ht6 hb6
  refine hK9 _ _ ⟨fun hh => absurd hh (by decide), fun hh => absurd hh (by decide), trivial⟩ (fun hcl hS => ?_)
  clear hK9 hcl hS
  refine wpAnyL_done (by kernel_rfl) ?_ _
  go_wp2
  go_ret
  exact ⟨rfl, (((s5.ext (by exact ex)).trans hs5).trans (ht6.stay hg9 (.inr rfl) (noStr_at (cas_mute _ _ _ _ _ _ _ _ _ _ _ _ _ _ _ _ _ _ _ _ _ _ _)))), CaseAt.mail1 (h5.mono (by exact ex)) hs5 hgr5 hx5 hown5 hk5 hA5 (by rw [HZ.out.1]; exact LogW.nil _ _) ht6 hb6⟩
set_option maxHeartbeats 6400000 in
set_option maxRecDepth 100000 in
theorem top_recv1_none (h : CaseAt w W g n0 n1 l0 l1 t A a B b M m xs N n ys) (hn : NodOk n1) (hk0 : 0 ≤ kd) (hk1 : kd ≤ 255) (hi0 : 0 ≤ nd) (hi1 : nd ≤ 255) (hp0 : 0 ≤ pk) (hp1 : pk ≤ 255) (hk : kd % 4 = 3) (hi : nd % 2 = 1) (hL : l1 = []) :
  Calls Tryz.prog 49 #[.pointer (some ⟨g, 0, none⟩), .agg #[.int .u8 kd, .int .u8 nd, .int .u8 pk]] W (StepD w W g n0 n1 l0 l1 t) := by
 have HC := Lib.hid h
 have HN := Lib.hid hn
 have hl0 := (h.q0.recs h.ext (Ext.refl W)).len
 have hl1 := (h.q1.recs h.ext (Ext.refl W)).len
 have ht0 := hn.t0
 have ht1 := hn.t1
 have hd1 := hn.id1
 have hd2 := hn.id2
 have hw1 : IntKind.i64.wrap nd = nd := IntWalk.i64_in _ (by omega)
 have hw2 : IntKind.i64.wrap pk = pk := IntWalk.i64_in _ (by omega)
 have hw3 : IntKind.i64.wrap 1 = 1 := rfl
 have hw4 : IntKind.i64.wrap 0 = 0 := rfl
 have c0:=h.box.c 0 rfl;have c1:=h.box.c 1 rfl;have c2:=h.box.c 2 rfl;have c3:=h.box.c 3 rfl;have c4:=h.box.c 4 rfl;have c5:=h.box.c 5 rfl;have c6:=h.box.c 6 rfl;have c7:=h.box.c 7 rfl;have c8:=h.box.c 8 rfl;have c9:=h.box.c 9 rfl;have c10:=h.box.c 10 rfl;have c11:=h.box.c 11 rfl;have c12:=h.box.c 12 rfl;have c13:=h.box.c 13 rfl;have c14:=h.box.c 14 rfl
 clear h hn
 have hl9 : l1.length = 0 := by rw [hL]; rfl
 rw [hl9] at c13
 clear hl9 hL
 go_enter Tryz.func49, Tryz.ntmps49
 go_wp2
 go_ret
 exact ⟨rfl, Ext.stay (by exact ex), _, _, _, _, _, _, _, _, _, _, HC.out.mono (by exact ex)⟩
set_option maxHeartbeats 6400000 in
set_option maxRecDepth 100000 in
theorem top_recv1_no (h : CaseAt w W g n0 n1 l0 l1 t A a B b M m xs N n ys) (hn : NodOk n1) (hk0 : 0 ≤ kd) (hk1 : kd ≤ 255) (hi0 : 0 ≤ nd) (hi1 : nd ≤ 255) (hp0 : 0 ≤ pk) (hp1 : pk ≤ 255) (hk : kd % 4 = 3) (hi : nd % 2 = 1) {q : Nat} {um : Msg} (hq : l1[q]? = some um) (hj : pk % (l1.length : Int) = q) {x : Nod} {z : Msg} (hv : recvV n1 um = (x, z, false, 0)) (hz : z.recs = [] ∧ z.before = 0 ∧ z.acked = 0) (hL : l1.length ≤ 1000) (_hL2 : l0.length ≤ 1000) :
  Calls Tryz.prog 49 #[.pointer (some ⟨g, 0, none⟩), .agg #[.int .u8 kd, .int .u8 nd, .int .u8 pk]] W (StepD w W g n0 x l0 l1 t) := by
 have HC := Lib.hid h
 have HN := Lib.hid hn
 have hl0 := (h.q0.recs h.ext (Ext.refl W)).len
 have hl1 := (h.q1.recs h.ext (Ext.refl W)).len
 have ht0 := hn.t0
 have ht1 := hn.t1
 have hd1 := hn.id1
 have hd2 := hn.id2
 have hw1 : IntKind.i64.wrap nd = nd := IntWalk.i64_in _ (by omega)
 have hw2 : IntKind.i64.wrap pk = pk := IntWalk.i64_in _ (by omega)
 have hw3 : IntKind.i64.wrap 1 = 1 := rfl
 have hw4 : IntKind.i64.wrap 0 = 0 := rfl
 obtain ⟨v, E, J, hMe, hE, m0, m1, m2, m3, m4, m5⟩ := h.m1.get hq
 have HU := Lib.hid hE
 have HE := Lib.hid (show ∀ r ∈ x.log, AcnAt w r.act from fun r hr => by
  have hr' : r ∈ (recvV n1 um).1.log := by rw [hv]; exact hr
  rcases recvV_log n1 um r hr' with h1 | h1
  ·exact h.q1.el r h1
  ·exact hE.el r h1)
 have HV := Lib.hid hv
 have HZ := Lib.hid hz
 have hql : q < l1.length := (List.getElem?_eq_some_iff.1 hq).1
 have hpos : ((l1.length : Int) == 0) = false := by
  rw [beq_eq_false_iff_ne]; omega
 have hq0 : (0 : Int) ≤ (q : Int) := by omega
 have hq1 : (q : Int) < (l1.length : Int) := by omega
 have hnil : ¬ l1 = [] := fun e => by rw [e] at hql; simp at hql
 have hj2 : Int.tmod pk (l1.length : Int) = q := by rw [Int.tmod_eq_emod_of_nonneg hp0]; exact hj
 have hwq : IntKind.i64.wrap (q : Int) = q := IntWalk.i64_in _ (by omega)
 have HQ := Lib.hid hq
 clear hv hE hz hq
 have c0:=h.box.c 0 rfl;have c1:=h.box.c 1 rfl;have c2:=h.box.c 2 rfl;have c3:=h.box.c 3 rfl;have c4:=h.box.c 4 rfl;have c5:=h.box.c 5 rfl;have c6:=h.box.c 6 rfl;have c7:=h.box.c 7 rfl;have c8:=h.box.c 8 rfl;have c9:=h.box.c 9 rfl;have c10:=h.box.c 10 rfl;have c11:=h.box.c 11 rfl;have c12:=h.box.c 12 rfl;have c13:=h.box.c 13 rfl;have c14:=h.box.c 14 rfl
 clear h hn
 go_enter Tryz.func49, Tryz.ntmps49
 go_wp2_with fail
 (try simp only [hk, hi])
 clear hk hi
 refine wp_name (fun W9 hW9 => ?_)
 have k3 : BoxAt W9 W.heap.size [.int .u8 kd, .int .u8 nd, .int .u8 pk] 121 := by rw [hW9]; exact (by repeat (first | exact BoxAt.new (by first | rfl | (simp [go_sem]; done) | (simp [go_sem]; omega)) _ _ | apply BoxAt.xt | apply BoxAt.drew | apply BoxAt.drewN | apply BoxAt.alloc))
 have k6 : BoxAt W9 (W.heap.size + 1) [.int .i64 n1.id, .int .i64 n1.term, .bool n1.speaks, .slice B n1.log.length b, .int .i64 n1.acked, .int .i64 n1.next] 24 := by rw [hW9]; exact (by repeat (first | exact BoxAt.new (by first | rfl | (simp [go_sem]; done) | (simp [go_sem]; omega)) _ _ | apply BoxAt.xt | apply BoxAt.drew | apply BoxAt.drewN | apply BoxAt.alloc))
 have h9 : CaseAt w W9 g n0 n1 l0 l1 t A a B b M m xs N n ys := by rw [hW9]; exact HC.out.mono (ex)
 have s9 : StayC W W9 := by rw [hW9]; exact Ext.stay (ex)
 have hgl : g < W.heap.size := HC.out.box.lt
 have hs9 : W.heap.size + 2 ≤ W9.heap.size := by rw [hW9]; simp [go_sem]
 have hm9 : Ext W W9 := by rw [hW9]; exact (ex)
 replace m0 := hm9.cell m0
 replace m1 := hm9.cell m1
 replace m2 := hm9.cell m2
 replace m3 := hm9.cell m3
 replace m4 := hm9.cell m4
 replace m5 := hm9.cell m5
 have hu9 : LogW w W9 E um.recs.length J um.recs := HU.out.mono hm9
 clear hW9 c0 c1 c2 c3 c4 c5 c6 c7 c8 c9 c10 c11 c12 c13 c14
 have c0:=h9.box.c 0 rfl;have c1:=h9.box.c 1 rfl;have c2:=h9.box.c 2 rfl;have c3:=h9.box.c 3 rfl;have c4:=h9.box.c 4 rfl;have c5:=h9.box.c 5 rfl;have c6:=h9.box.c 6 rfl;have c7:=h9.box.c 7 rfl;have c8:=h9.box.c 8 rfl;have c9:=h9.box.c 9 rfl;have c10:=h9.box.c 10 rfl;have c11:=h9.box.c 11 rfl;have c12:=h9.box.c 12 rfl;have c13:=h9.box.c 13 rfl;have c14:=h9.box.c 14 rfl
 rw [hMe] at c13
 obtain ⟨d0, d1, d2, d3, d4, d5⟩ := k6.six
 have e0:=k3.c 0 rfl;have e1:=k3.c 1 rfl;have e2:=k3.c 2 rfl
 refine wp_region_stab 28 [23, 24, 25] [Stab.is (.agg #[.int .i64 n1.id, .int .i64 n1.term, .bool n1.speaks, .slice B n1.log.length b, .int .i64 n1.acked, .int .i64 n1.next]), Stab.is (.pointer (some ⟨g, 0, none⟩)), Stab.is (.int .i64 1), Stab.is (.pointer (some ⟨g, 0, none⟩)), Stab.is (.pointer (some ⟨g, 12, none⟩)), Stab.is (.pointer (some ⟨g, 13, none⟩)), Stab.is (.slice (some ⟨v, 0, none⟩) l1.length n), Stab.is (.pointer (some ⟨W.heap.size, 2, none⟩)), Stab.is (.int .u8 pk), Stab.is (.int .i64 pk), Stab.is (.pointer (some ⟨g, 0, none⟩)), Stab.is (.int .i64 1), Stab.is (.pointer (some ⟨g, 0, none⟩)), Stab.is (.pointer (some ⟨g, 12, none⟩)), Stab.is (.pointer (some ⟨g, 13, none⟩)), Stab.is (.slice (some ⟨v, 0, none⟩) l1.length n), Stab.is (.int .i64 l1.length), Stab.is (.int .i64 q), Stab.is (.pointer (some ⟨v, q * 6, none⟩)), Stab.is (.agg #[.int .i64 um.kind, .int .i64 um.term, .int .i64 um.at_, .int .i64 um.before, .slice E um.recs.length J, .int .i64 um.acked]), Stab.recv w x z false 0, Stab.recv w x z false 0, Stab.nod w x, Stab.is (.agg #[.int .i64 z.kind, .int .i64 z.term, .int .i64 z.at_, .int .i64 0, .slice none 0 0, .int .i64 0]), Stab.is (.bool false), Stab.is (.int .i64 0), Stab.box W9.heap.size [.int .i64 0, .int .i64 0, .bool false, .slice none 0 0, .int .i64 0, .int .i64 0] 24, Stab.box W9.heap.size [.int .i64 0, .int .i64 0, .int .i64 0, .int .i64 0, .slice none 0 0, .int .i64 0] 143] (fun u => by (simp only [putAll, List.take_succ_cons, List.take_zero, Act.put, Nat.zero_add, Nat.reduceAdd]); (try simp only [List.setIfInBounds_toArray]); (repeat (first | simp only [List.set_cons_succ] | simp only [List.set_cons_zero])); exact rfl) (by kernel_rfl) (by kernel_rfl) (fun _ _ _ _ _ h => h) ?_ ?_
 ·refine ⟨?_, ?_, ?_, ?_, ?_, ?_, ?_, ?_, ?_, ?_, ?_, ?_, ?_, ?_, ?_, ?_, ?_, ?_, ?_, ?_, ?_, ?_, ?_, ?_, ?_, ?_, ?_, ?_, trivial⟩
  ·(show SlotA _ _ _ _ _ _ _); intro u w1 hx1 hd; obtain ⟨y9, rfl⟩ := hx1.get; clear hx1
   refine slot_run rfl rfl rfl ?_; intro K9 hK
   go_simp; exact hK _ _ rfl (ex) rfl
  ·(show SlotA _ _ _ _ _ _ _); intro u w1 hx1 hd; obtain ⟨y9, rfl⟩ := hx1.get; clear hx1
   refine slot_run rfl rfl rfl ?_; intro K9 hK
   go_simp; exact hK _ _ rfl (ex) rfl
  ·(show SlotA _ _ _ _ _ _ _); intro u w1 hx1 hd; obtain ⟨y9, rfl⟩ := hx1.get; clear hx1
   refine slot_run rfl rfl rfl ?_; intro K9 hK
   go_simp; exact hK _ _ rfl (ex) rfl
  ·(show SlotA _ _ _ _ _ _ _); intro u w1 hx1 hd; obtain ⟨y9, rfl⟩ := hx1.get; clear hx1
   have e1 : u 1 = .pointer (some ⟨g, 0, none⟩) := hd 1 (by kernel_rfl)
   simp only [e1]
   refine slot_run rfl rfl rfl ?_; intro K9 hK
   go_simp; exact hK _ _ rfl (ex) rfl
  ·(show SlotA _ _ _ _ _ _ _); intro u w1 hx1 hd; obtain ⟨y9, rfl⟩ := hx1.get; clear hx1
   have e3 : u 3 = .pointer (some ⟨g, 0, none⟩) := hd 3 (by kernel_rfl)
   simp only [e3]
   refine slot_run rfl rfl rfl ?_; intro K9 hK
   go_simp; exact hK _ _ rfl (ex) rfl
  ·(show SlotA _ _ _ _ _ _ _); intro u w1 hx1 hd; obtain ⟨y9, rfl⟩ := hx1.get; clear hx1
   have e2 : u 2 = .int .i64 1 := hd 2 (by kernel_rfl)
   have e4 : u 4 = .pointer (some ⟨g, 12, none⟩) := hd 4 (by kernel_rfl)
   simp only [e2, e4]
   refine slot_run rfl rfl rfl ?_; intro K9 hK
   go_simp; exact hK _ _ rfl (ex) rfl
  ·(show SlotA _ _ _ _ _ _ _); intro u w1 hx1 hd; obtain ⟨y9, rfl⟩ := hx1.get; clear hx1
   have e5 : u 5 = .pointer (some ⟨g, 13, none⟩) := hd 5 (by kernel_rfl)
   simp only [e5]
   refine slot_run rfl rfl rfl ?_; intro K9 hK
   go_simp; exact hK _ _ rfl (ex) rfl
  ·(show SlotA _ _ _ _ _ _ _); intro u w1 hx1 hd; obtain ⟨y9, rfl⟩ := hx1.get; clear hx1
   refine slot_run rfl rfl rfl ?_; intro K9 hK
   go_simp; exact hK _ _ rfl (ex) rfl
  ·(show SlotA _ _ _ _ _ _ _); intro u w1 hx1 hd; obtain ⟨y9, rfl⟩ := hx1.get; clear hx1
   have e7 : u 7 = .pointer (some ⟨W.heap.size, 2, none⟩) := hd 7 (by kernel_rfl)
   simp only [e7]
   refine slot_run rfl rfl rfl ?_; intro K9 hK
   go_simp; exact hK _ _ rfl (ex) rfl
  ·(show SlotA _ _ _ _ _ _ _); intro u w1 hx1 hd; obtain ⟨y9, rfl⟩ := hx1.get; clear hx1
   have e8 : u 8 = .int .u8 pk := hd 8 (by kernel_rfl)
   simp only [e8]
   refine slot_run rfl rfl rfl ?_; intro K9 hK
   go_simp; exact hK _ _ rfl (ex) rfl
  ·(show SlotA _ _ _ _ _ _ _); intro u w1 hx1 hd; obtain ⟨y9, rfl⟩ := hx1.get; clear hx1
   refine slot_run rfl rfl rfl ?_; intro K9 hK
   go_simp; exact hK _ _ rfl (ex) rfl
  ·(show SlotA _ _ _ _ _ _ _); intro u w1 hx1 hd; obtain ⟨y9, rfl⟩ := hx1.get; clear hx1
   refine slot_run rfl rfl rfl ?_; intro K9 hK
   go_simp; exact hK _ _ rfl (ex) rfl
  ·(show SlotA _ _ _ _ _ _ _); intro u w1 hx1 hd; obtain ⟨y9, rfl⟩ := hx1.get; clear hx1
   have e10 : u 10 = .pointer (some ⟨g, 0, none⟩) := hd 10 (by kernel_rfl)
   simp only [e10]
   refine slot_run rfl rfl rfl ?_; intro K9 hK
   go_simp; exact hK _ _ rfl (ex) rfl
  ·(show SlotA _ _ _ _ _ _ _); intro u w1 hx1 hd; obtain ⟨y9, rfl⟩ := hx1.get; clear hx1
   have e12 : u 12 = .pointer (some ⟨g, 0, none⟩) := hd 12 (by kernel_rfl)
   simp only [e12]
   refine slot_run rfl rfl rfl ?_; intro K9 hK
   go_simp; exact hK _ _ rfl (ex) rfl
  ·(show SlotA _ _ _ _ _ _ _); intro u w1 hx1 hd; obtain ⟨y9, rfl⟩ := hx1.get; clear hx1
   have e11 : u 11 = .int .i64 1 := hd 11 (by kernel_rfl)
   have e13 : u 13 = .pointer (some ⟨g, 12, none⟩) := hd 13 (by kernel_rfl)
   simp only [e11, e13]
   refine slot_run rfl rfl rfl ?_; intro K9 hK
   go_simp; exact hK _ _ rfl (ex) rfl
  ·(show SlotA _ _ _ _ _ _ _); intro u w1 hx1 hd; obtain ⟨y9, rfl⟩ := hx1.get; clear hx1
   have e14 : u 14 = .pointer (some ⟨g, 13, none⟩) := hd 14 (by kernel_rfl)
   simp only [e14]
   refine slot_run rfl rfl rfl ?_; intro K9 hK
   go_simp; exact hK _ _ rfl (ex) rfl
  ·(show SlotA _ _ _ _ _ _ _); intro u w1 hx1 hd; obtain ⟨y9, rfl⟩ := hx1.get; clear hx1
   have e15 : u 15 = .slice (some ⟨v, 0, none⟩) l1.length n := hd 15 (by kernel_rfl)
   simp only [e15]
   refine slot_run rfl rfl rfl ?_; intro K9 hK
   go_simp; exact hK _ _ rfl (ex) rfl
  ·(show SlotA _ _ _ _ _ _ _); intro u w1 hx1 hd; obtain ⟨y9, rfl⟩ := hx1.get; clear hx1
   have e9 : u 9 = .int .i64 pk := hd 9 (by kernel_rfl)
   have e16 : u 16 = .int .i64 l1.length := hd 16 (by kernel_rfl)
   simp only [e9, e16]
   refine slot_run rfl rfl rfl ?_; intro K9 hK
   go_simp; exact hK _ _ rfl (ex) rfl
  ·(show SlotA _ _ _ _ _ _ _); intro u w1 hx1 hd; obtain ⟨y9, rfl⟩ := hx1.get; clear hx1
   have e6 : u 6 = .slice (some ⟨v, 0, none⟩) l1.length n := hd 6 (by kernel_rfl)
   have e17 : u 17 = .int .i64 q := hd 17 (by kernel_rfl)
   simp only [e6, e17]
   refine slot_run rfl rfl rfl ?_; intro K9 hK
   go_simp; exact hK _ _ rfl (ex) rfl
  ·(show SlotA _ _ _ _ _ _ _); intro u w1 hx1 hd; obtain ⟨y9, rfl⟩ := hx1.get; clear hx1
   have e18 : u 18 = .pointer (some ⟨v, q * 6, none⟩) := hd 18 (by kernel_rfl)
   simp only [e18]
   refine slot_run rfl rfl rfl ?_; intro K9 hK
   go_simp; exact hK _ _ rfl (ex) rfl
  ·(show SlotA _ _ _ _ _ _ _); intro u w1 hx1 hd; obtain ⟨y9, rfl⟩ := hx1.get; clear hx1
   have e0 : u 0 = .agg #[.int .i64 n1.id, .int .i64 n1.term, .bool n1.speaks, .slice B n1.log.length b, .int .i64 n1.acked, .int .i64 n1.next] := hd 0 (by kernel_rfl)
   have e19 : u 19 = .agg #[.int .i64 um.kind, .int .i64 um.term, .int .i64 um.at_, .int .i64 um.before, .slice E um.recs.length J, .int .i64 um.acked] := hd 19 (by kernel_rfl)
   simp only [e0, e19]
   refine slot_run rfl rfl rfl ?_; intro K9 hK
   go_simp; go_at_call 102; refine (rep_Receive_as n1 B b um E J _ (h9.q1.recs h9.ext (ex)) (hu9.recs h9.ext (ex)) x z false 0 HV.out).mono ?_; rintro e w' ⟨D, K, rfl, hx, hl⟩; exact hK _ _ rfl hx ⟨D, K, rfl, LogIn.logw hl rfl hx HE.out⟩
  ·(show SlotA _ _ _ _ _ _ _); intro u w1 hx1 hd; obtain ⟨y9, rfl⟩ := hx1.get; clear hx1
   obtain ⟨D20, K20, e20, h20⟩ := hd 20 (by kernel_rfl)
   simp only [e20]
   refine slot_run rfl rfl rfl ?_; intro K9 hK
   go_simp; exact hK _ _ rfl (ex) ⟨D20, K20, rfl, h20⟩
  ·(show SlotA _ _ _ _ _ _ _); intro u w1 hx1 hd; obtain ⟨y9, rfl⟩ := hx1.get; clear hx1
   obtain ⟨D20, K20, e21, h20⟩ := hd 21 (by kernel_rfl)
   simp only [e21]
   refine slot_run rfl rfl rfl ?_; intro K9 hK
   go_simp; exact hK _ _ rfl (ex) ⟨D20, K20, rfl, h20⟩
  ·(show PureA _ _ _ _ _ _); intro u w1 hx1 hd; obtain ⟨y9, rfl⟩ := hx1.get; clear hx1
   obtain ⟨D20, K20, e21, h20⟩ := hd 21 (by kernel_rfl)
   simp only [e21]
   refine pure_run (v := .agg #[.int .i64 z.kind, .int .i64 z.term, .int .i64 z.at_, .int .i64 0, .slice none 0 0, .int .i64 0]) rfl rfl (fun w9 => ?_) rfl
   go_simp
  ·(show PureA _ _ _ _ _ _); intro u w1 hx1 hd; obtain ⟨y9, rfl⟩ := hx1.get; clear hx1
   obtain ⟨D20, K20, e21, h20⟩ := hd 21 (by kernel_rfl)
   simp only [e21]
   refine pure_run (v := .bool false) rfl rfl (fun w9 => ?_) rfl
   go_simp
  ·(show PureA _ _ _ _ _ _); intro u w1 hx1 hd; obtain ⟨y9, rfl⟩ := hx1.get; clear hx1
   obtain ⟨D20, K20, e21, h20⟩ := hd 21 (by kernel_rfl)
   simp only [e21]
   refine pure_run (v := .int .i64 0) rfl rfl (fun w9 => ?_) rfl
   go_simp
  ·(show SlotA _ _ _ _ _ _ _); intro u w1 hx1 hd; obtain ⟨y9, rfl⟩ := hx1.get; clear hx1
   refine slot_run rfl rfl rfl ?_; intro K9 hK
   go_simp; exact hK _ _ rfl (ex) ⟨_, rfl, (by first | exact Nat.le_refl _ | omega | (simp [go_sem]; done) | (simp [go_sem]; omega)), BoxAt.new (by first | rfl | simp [go_sem]) _ _⟩
  ·(show SlotA _ _ _ _ _ _ _); intro u w1 hx1 hd; obtain ⟨y9, rfl⟩ := hx1.get; clear hx1
   refine slot_run rfl rfl rfl ?_; intro K9 hK
   go_simp; exact hK _ _ rfl (ex) ⟨_, rfl, (by first | exact Nat.le_refl _ | omega | (simp [go_sem]; done) | (simp [go_sem]; omega)), BoxAt.new (by first | rfl | simp [go_sem]) _ _⟩
 ·intro u w2 hx2 hT; obtain ⟨t0, t1, t2, t3, t4, t5, t6, t7, t8, t9, t10, t11, t12, t13, t14, t15, t16, t17, t18, t19, t20, t21, t22, t23, t24, t25, t26, t27, -⟩ := hT; obtain ⟨y9, rfl⟩ := hx2.get; clear hx2
  obtain ⟨D22, K22, e22, h22⟩ := t22
  have e23 : u 23 = .agg #[.int .i64 z.kind, .int .i64 z.term, .int .i64 z.at_, .int .i64 0, .slice none 0 0, .int .i64 0] := t23
  have e24 : u 24 = .bool false := t24
  have e25 : u 25 = .int .i64 0 := t25
  obtain ⟨g26, e26, hg26, b26⟩ := t26
  obtain ⟨g27, e27, hg27, b27⟩ := t27
  simp only [e22, e23, e24, e25, e26, e27]
  clear e22 e23 e24 e25 e26 e27 t0 t1 t2 t3 t4 t5 t6 t7 t8 t9 t10 t11 t12 t13 t14 t15 t16 t17 t18 t19 t20 t21 t23 t24 t25
  simp only [List.drop_succ_cons, List.drop_zero]
  have hxx : Ext W9 (xt W9.drew y9) := ex
  go_wp2_with (first
   | (refine wpList_store_at rfl 24 (.tmp 14) (.tmp 149) rfl b26 rfl [.int .i64 x.id, .int .i64 x.term, .bool x.speaks, .slice D22 x.log.length K22, .int .i64 x.acked, .int .i64 x.next] rfl rfl (show 6 < 44 by decide) (by kernel_rfl) (nodl_one x D22 K22) ?_; intro W1 ht1 hb1)
   | (refine wpList_store_at rfl 143 (.tmp 15) (.tmp 150) rfl (b27.turn ht1 (b27.differ b26 (by decide))) rfl [.int .i64 z.kind, .int .i64 z.term, .int .i64 z.at_, .int .i64 0, .slice none 0 0, .int .i64 0] rfl rfl (show 6 < 44 by decide) (by kernel_rfl) (ansl_one z) ?_; intro W2 ht2 hb2))
  have hne := b27.differ b26 (by decide)
  have i8 := hb1.turn ht2 (Ne.symm hne)
  have m8 := (h22.turn ht1).turn ht2
  have x2 : Ext W9 W2 := ht2.ext (ht1.ext hxx hg26) hg27
  have h2 := h9.mono x2
  have s2 : StayC W W2 := s9.ext x2
  clear ht1 ht2 hb1 c0 c1 c2 c3 c4 c5 c6 c7 c8 c9 c10 c11 c12 c13 c14 d0 d1 d2 d3 d4 d5 e0 e1 e2 hxx m0 m1 m2 m3 m4 m5 b26 b27 h22
  have c0:=h2.box.c 0 rfl;have c1:=h2.box.c 1 rfl;have c2:=h2.box.c 2 rfl;have c3:=h2.box.c 3 rfl;have c4:=h2.box.c 4 rfl;have c5:=h2.box.c 5 rfl;have c6:=h2.box.c 6 rfl;have c7:=h2.box.c 7 rfl;have c8:=h2.box.c 8 rfl;have c9:=h2.box.c 9 rfl;have c10:=h2.box.c 10 rfl;have c11:=h2.box.c 11 rfl;have c12:=h2.box.c 12 rfl;have c13:=h2.box.c 13 rfl;have c14:=h2.box.c 14 rfl
  obtain ⟨d0, d1, d2, d3, d4, d5⟩ := i8.six
  go_wp2_with fail
  (refine wp_region_tail 6 (by kernel_rfl) (by kernel_rfl) ?_; simp only [List.take_succ_cons, List.take_zero, List.drop_succ_cons, List.drop_zero]; (repeat (go_big_quiet_step (fail))); refine wpQuiet_nil ?_; rintro _ ⟨y, rfl⟩)
  refine wpList_store_part rfl 24 (.tmp 160) (.tmp 157) rfl (h2.box.mono (ex)) 6 rfl [.int .i64 x.id, .int .i64 x.term, .bool x.speaks, .slice D22 x.log.length K22, .int .i64 x.acked, .int .i64 x.next] rfl (show 12 ≤ 15 by decide) (show 15 < 44 by decide) (by kernel_rfl) (nodl_one x D22 K22) [.int .i64 n0.id, .int .i64 n0.term, .bool n0.speaks, .slice A n0.log.length a, .int .i64 n0.acked, .int .i64 n0.next, .int .i64 x.id, .int .i64 x.term, .bool x.speaks, .slice D22 x.log.length K22, .int .i64 x.acked, .int .i64 x.next, .slice M l0.length m, .slice N l1.length n, .int .i64 t] rfl ?_; intro W5 ht5 hb5
  go_wp2
  go_ret
  exact ⟨rfl, (s2.ext (by exact ex)).trans ((h2.mono (by exact ex)).stay ht5), _, _, _, _, _, _, _, _, _, _, CaseAt.put1 (h2.mono (by exact ex)) ht5 (m8.mono (by exact ex)) hb5⟩
set_option maxHeartbeats 6400000 in
set_option maxRecDepth 100000 in
theorem top_recv1_yes (h : CaseAt w W g n0 n1 l0 l1 t A a B b M m xs N n ys) (hn : NodOk n1) (hk0 : 0 ≤ kd) (hk1 : kd ≤ 255) (hi0 : 0 ≤ nd) (hi1 : nd ≤ 255) (hp0 : 0 ≤ pk) (hp1 : pk ≤ 255) (hk : kd % 4 = 3) (hi : nd % 2 = 1) {q : Nat} {um : Msg} (hq : l1[q]? = some um) (hj : pk % (l1.length : Int) = q) {x : Nod} {z : Msg} (hv : recvV n1 um = (x, z, true, 0)) (hz : z.recs = [] ∧ z.before = 0 ∧ z.acked = 0) (hL : l1.length ≤ 1000) (hL2 : l0.length ≤ 1000) :
  Calls Tryz.prog 49 #[.pointer (some ⟨g, 0, none⟩), .agg #[.int .u8 kd, .int .u8 nd, .int .u8 pk]] W (StepD w W g n0 x (l0 ++ [z]) l1 t) := by
 have HC := Lib.hid h
 have HN := Lib.hid hn
 have hl0 := (h.q0.recs h.ext (Ext.refl W)).len
 have hl1 := (h.q1.recs h.ext (Ext.refl W)).len
 have ht0 := hn.t0
 have ht1 := hn.t1
 have hd1 := hn.id1
 have hd2 := hn.id2
 have hw1 : IntKind.i64.wrap nd = nd := IntWalk.i64_in _ (by omega)
 have hw2 : IntKind.i64.wrap pk = pk := IntWalk.i64_in _ (by omega)
 have hw3 : IntKind.i64.wrap 1 = 1 := rfl
 have hw4 : IntKind.i64.wrap 0 = 0 := rfl
 obtain ⟨v, E, J, hMe, hE, m0, m1, m2, m3, m4, m5⟩ := h.m1.get hq
 have HU := Lib.hid hE
 have HE := Lib.hid (show ∀ r ∈ x.log, AcnAt w r.act from fun r hr => by
  have hr' : r ∈ (recvV n1 um).1.log := by rw [hv]; exact hr
  rcases recvV_log n1 um r hr' with h1 | h1
  ·exact h.q1.el r h1
  ·exact hE.el r h1)
 have HV := Lib.hid hv
 have HZ := Lib.hid hz
 have hql : q < l1.length := (List.getElem?_eq_some_iff.1 hq).1
 have hpos : ((l1.length : Int) == 0) = false := by
  rw [beq_eq_false_iff_ne]; omega
 have hq0 : (0 : Int) ≤ (q : Int) := by omega
 have hq1 : (q : Int) < (l1.length : Int) := by omega
 have hnil : ¬ l1 = [] := fun e => by rw [e] at hql; simp at hql
 have hj2 : Int.tmod pk (l1.length : Int) = q := by rw [Int.tmod_eq_emod_of_nonneg hp0]; exact hj
 have hwq : IntKind.i64.wrap (q : Int) = q := IntWalk.i64_in _ (by omega)
 have HQ := Lib.hid hq
 clear hv hE hz hq
 have c0:=h.box.c 0 rfl;have c1:=h.box.c 1 rfl;have c2:=h.box.c 2 rfl;have c3:=h.box.c 3 rfl;have c4:=h.box.c 4 rfl;have c5:=h.box.c 5 rfl;have c6:=h.box.c 6 rfl;have c7:=h.box.c 7 rfl;have c8:=h.box.c 8 rfl;have c9:=h.box.c 9 rfl;have c10:=h.box.c 10 rfl;have c11:=h.box.c 11 rfl;have c12:=h.box.c 12 rfl;have c13:=h.box.c 13 rfl;have c14:=h.box.c 14 rfl
 clear h hn
 go_enter Tryz.func49, Tryz.ntmps49
 go_wp2_with fail
 (try simp only [hk, hi])
 clear hk hi
 refine wp_name (fun W9 hW9 => ?_)
 have k3 : BoxAt W9 W.heap.size [.int .u8 kd, .int .u8 nd, .int .u8 pk] 121 := by rw [hW9]; exact (by repeat (first | exact BoxAt.new (by first | rfl | (simp [go_sem]; done) | (simp [go_sem]; omega)) _ _ | apply BoxAt.xt | apply BoxAt.drew | apply BoxAt.drewN | apply BoxAt.alloc))
 have k6 : BoxAt W9 (W.heap.size + 1) [.int .i64 n1.id, .int .i64 n1.term, .bool n1.speaks, .slice B n1.log.length b, .int .i64 n1.acked, .int .i64 n1.next] 24 := by rw [hW9]; exact (by repeat (first | exact BoxAt.new (by first | rfl | (simp [go_sem]; done) | (simp [go_sem]; omega)) _ _ | apply BoxAt.xt | apply BoxAt.drew | apply BoxAt.drewN | apply BoxAt.alloc))
 have h9 : CaseAt w W9 g n0 n1 l0 l1 t A a B b M m xs N n ys := by rw [hW9]; exact HC.out.mono (ex)
 have s9 : StayC W W9 := by rw [hW9]; exact Ext.stay (ex)
 have hgl : g < W.heap.size := HC.out.box.lt
 have hs9 : W.heap.size + 2 ≤ W9.heap.size := by rw [hW9]; simp [go_sem]
 have hm9 : Ext W W9 := by rw [hW9]; exact (ex)
 replace m0 := hm9.cell m0
 replace m1 := hm9.cell m1
 replace m2 := hm9.cell m2
 replace m3 := hm9.cell m3
 replace m4 := hm9.cell m4
 replace m5 := hm9.cell m5
 have hu9 : LogW w W9 E um.recs.length J um.recs := HU.out.mono hm9
 clear hW9 c0 c1 c2 c3 c4 c5 c6 c7 c8 c9 c10 c11 c12 c13 c14
 have c0:=h9.box.c 0 rfl;have c1:=h9.box.c 1 rfl;have c2:=h9.box.c 2 rfl;have c3:=h9.box.c 3 rfl;have c4:=h9.box.c 4 rfl;have c5:=h9.box.c 5 rfl;have c6:=h9.box.c 6 rfl;have c7:=h9.box.c 7 rfl;have c8:=h9.box.c 8 rfl;have c9:=h9.box.c 9 rfl;have c10:=h9.box.c 10 rfl;have c11:=h9.box.c 11 rfl;have c12:=h9.box.c 12 rfl;have c13:=h9.box.c 13 rfl;have c14:=h9.box.c 14 rfl
 rw [hMe] at c13
 obtain ⟨d0, d1, d2, d3, d4, d5⟩ := k6.six
 have e0:=k3.c 0 rfl;have e1:=k3.c 1 rfl;have e2:=k3.c 2 rfl
 refine wp_region_stab 28 [23, 24, 25] [Stab.is (.agg #[.int .i64 n1.id, .int .i64 n1.term, .bool n1.speaks, .slice B n1.log.length b, .int .i64 n1.acked, .int .i64 n1.next]), Stab.is (.pointer (some ⟨g, 0, none⟩)), Stab.is (.int .i64 1), Stab.is (.pointer (some ⟨g, 0, none⟩)), Stab.is (.pointer (some ⟨g, 12, none⟩)), Stab.is (.pointer (some ⟨g, 13, none⟩)), Stab.is (.slice (some ⟨v, 0, none⟩) l1.length n), Stab.is (.pointer (some ⟨W.heap.size, 2, none⟩)), Stab.is (.int .u8 pk), Stab.is (.int .i64 pk), Stab.is (.pointer (some ⟨g, 0, none⟩)), Stab.is (.int .i64 1), Stab.is (.pointer (some ⟨g, 0, none⟩)), Stab.is (.pointer (some ⟨g, 12, none⟩)), Stab.is (.pointer (some ⟨g, 13, none⟩)), Stab.is (.slice (some ⟨v, 0, none⟩) l1.length n), Stab.is (.int .i64 l1.length), Stab.is (.int .i64 q), Stab.is (.pointer (some ⟨v, q * 6, none⟩)), Stab.is (.agg #[.int .i64 um.kind, .int .i64 um.term, .int .i64 um.at_, .int .i64 um.before, .slice E um.recs.length J, .int .i64 um.acked]), Stab.recv w x z true 0, Stab.recv w x z true 0, Stab.nod w x, Stab.is (.agg #[.int .i64 z.kind, .int .i64 z.term, .int .i64 z.at_, .int .i64 0, .slice none 0 0, .int .i64 0]), Stab.is (.bool true), Stab.is (.int .i64 0), Stab.box W9.heap.size [.int .i64 0, .int .i64 0, .bool false, .slice none 0 0, .int .i64 0, .int .i64 0] 24, Stab.box W9.heap.size [.int .i64 0, .int .i64 0, .int .i64 0, .int .i64 0, .slice none 0 0, .int .i64 0] 143] (fun u => by (simp only [putAll, List.take_succ_cons, List.take_zero, Act.put, Nat.zero_add, Nat.reduceAdd]); (try simp only [List.setIfInBounds_toArray]); (repeat (first | simp only [List.set_cons_succ] | simp only [List.set_cons_zero])); exact rfl) (by kernel_rfl) (by kernel_rfl) (fun _ _ _ _ _ h => h) ?_ ?_
 ·refine ⟨?_, ?_, ?_, ?_, ?_, ?_, ?_, ?_, ?_, ?_, ?_, ?_, ?_, ?_, ?_, ?_, ?_, ?_, ?_, ?_, ?_, ?_, ?_, ?_, ?_, ?_, ?_, ?_, trivial⟩
  ·(show SlotA _ _ _ _ _ _ _); intro u w1 hx1 hd; obtain ⟨y9, rfl⟩ := hx1.get; clear hx1
   refine slot_run rfl rfl rfl ?_; intro K9 hK
   go_simp; exact hK _ _ rfl (ex) rfl
  ·(show SlotA _ _ _ _ _ _ _); intro u w1 hx1 hd; obtain ⟨y9, rfl⟩ := hx1.get; clear hx1
   refine slot_run rfl rfl rfl ?_; intro K9 hK
   go_simp; exact hK _ _ rfl (ex) rfl
  ·(show SlotA _ _ _ _ _ _ _); intro u w1 hx1 hd; obtain ⟨y9, rfl⟩ := hx1.get; clear hx1
   refine slot_run rfl rfl rfl ?_; intro K9 hK
   go_simp; exact hK _ _ rfl (ex) rfl
  ·(show SlotA _ _ _ _ _ _ _); intro u w1 hx1 hd; obtain ⟨y9, rfl⟩ := hx1.get; clear hx1
   have e1 : u 1 = .pointer (some ⟨g, 0, none⟩) := hd 1 (by kernel_rfl)
   simp only [e1]
   refine slot_run rfl rfl rfl ?_; intro K9 hK
   go_simp; exact hK _ _ rfl (ex) rfl
  ·(show SlotA _ _ _ _ _ _ _); intro u w1 hx1 hd; obtain ⟨y9, rfl⟩ := hx1.get; clear hx1
   have e3 : u 3 = .pointer (some ⟨g, 0, none⟩) := hd 3 (by kernel_rfl)
   simp only [e3]
   refine slot_run rfl rfl rfl ?_; intro K9 hK
   go_simp; exact hK _ _ rfl (ex) rfl
  ·(show SlotA _ _ _ _ _ _ _); intro u w1 hx1 hd; obtain ⟨y9, rfl⟩ := hx1.get; clear hx1
   have e2 : u 2 = .int .i64 1 := hd 2 (by kernel_rfl)
   have e4 : u 4 = .pointer (some ⟨g, 12, none⟩) := hd 4 (by kernel_rfl)
   simp only [e2, e4]
   refine slot_run rfl rfl rfl ?_; intro K9 hK
   go_simp; exact hK _ _ rfl (ex) rfl
  ·(show SlotA _ _ _ _ _ _ _); intro u w1 hx1 hd; obtain ⟨y9, rfl⟩ := hx1.get; clear hx1
   have e5 : u 5 = .pointer (some ⟨g, 13, none⟩) := hd 5 (by kernel_rfl)
   simp only [e5]
   refine slot_run rfl rfl rfl ?_; intro K9 hK
   go_simp; exact hK _ _ rfl (ex) rfl
  ·(show SlotA _ _ _ _ _ _ _); intro u w1 hx1 hd; obtain ⟨y9, rfl⟩ := hx1.get; clear hx1
   refine slot_run rfl rfl rfl ?_; intro K9 hK
   go_simp; exact hK _ _ rfl (ex) rfl
  ·(show SlotA _ _ _ _ _ _ _); intro u w1 hx1 hd; obtain ⟨y9, rfl⟩ := hx1.get; clear hx1
   have e7 : u 7 = .pointer (some ⟨W.heap.size, 2, none⟩) := hd 7 (by kernel_rfl)
   simp only [e7]
   refine slot_run rfl rfl rfl ?_; intro K9 hK
   go_simp; exact hK _ _ rfl (ex) rfl
  ·(show SlotA _ _ _ _ _ _ _); intro u w1 hx1 hd; obtain ⟨y9, rfl⟩ := hx1.get; clear hx1
   have e8 : u 8 = .int .u8 pk := hd 8 (by kernel_rfl)
   simp only [e8]
   refine slot_run rfl rfl rfl ?_; intro K9 hK
   go_simp; exact hK _ _ rfl (ex) rfl
  ·(show SlotA _ _ _ _ _ _ _); intro u w1 hx1 hd; obtain ⟨y9, rfl⟩ := hx1.get; clear hx1
   refine slot_run rfl rfl rfl ?_; intro K9 hK
   go_simp; exact hK _ _ rfl (ex) rfl
  ·(show SlotA _ _ _ _ _ _ _); intro u w1 hx1 hd; obtain ⟨y9, rfl⟩ := hx1.get; clear hx1
   refine slot_run rfl rfl rfl ?_; intro K9 hK
   go_simp; exact hK _ _ rfl (ex) rfl
  ·(show SlotA _ _ _ _ _ _ _); intro u w1 hx1 hd; obtain ⟨y9, rfl⟩ := hx1.get; clear hx1
   have e10 : u 10 = .pointer (some ⟨g, 0, none⟩) := hd 10 (by kernel_rfl)
   simp only [e10]
   refine slot_run rfl rfl rfl ?_; intro K9 hK
   go_simp; exact hK _ _ rfl (ex) rfl
  ·(show SlotA _ _ _ _ _ _ _); intro u w1 hx1 hd; obtain ⟨y9, rfl⟩ := hx1.get; clear hx1
   have e12 : u 12 = .pointer (some ⟨g, 0, none⟩) := hd 12 (by kernel_rfl)
   simp only [e12]
   refine slot_run rfl rfl rfl ?_; intro K9 hK
   go_simp; exact hK _ _ rfl (ex) rfl
  ·(show SlotA _ _ _ _ _ _ _); intro u w1 hx1 hd; obtain ⟨y9, rfl⟩ := hx1.get; clear hx1
   have e11 : u 11 = .int .i64 1 := hd 11 (by kernel_rfl)
   have e13 : u 13 = .pointer (some ⟨g, 12, none⟩) := hd 13 (by kernel_rfl)
   simp only [e11, e13]
   refine slot_run rfl rfl rfl ?_; intro K9 hK
   go_simp; exact hK _ _ rfl (ex) rfl
  ·(show SlotA _ _ _ _ _ _ _); intro u w1 hx1 hd; obtain ⟨y9, rfl⟩ := hx1.get; clear hx1
   have e14 : u 14 = .pointer (some ⟨g, 13, none⟩) := hd 14 (by kernel_rfl)
   simp only [e14]
   refine slot_run rfl rfl rfl ?_; intro K9 hK
   go_simp; exact hK _ _ rfl (ex) rfl
  ·(show SlotA _ _ _ _ _ _ _); intro u w1 hx1 hd; obtain ⟨y9, rfl⟩ := hx1.get; clear hx1
   have e15 : u 15 = .slice (some ⟨v, 0, none⟩) l1.length n := hd 15 (by kernel_rfl)
   simp only [e15]
   refine slot_run rfl rfl rfl ?_; intro K9 hK
   go_simp; exact hK _ _ rfl (ex) rfl
  ·(show SlotA _ _ _ _ _ _ _); intro u w1 hx1 hd; obtain ⟨y9, rfl⟩ := hx1.get; clear hx1
   have e9 : u 9 = .int .i64 pk := hd 9 (by kernel_rfl)
   have e16 : u 16 = .int .i64 l1.length := hd 16 (by kernel_rfl)
   simp only [e9, e16]
   refine slot_run rfl rfl rfl ?_; intro K9 hK
   go_simp; exact hK _ _ rfl (ex) rfl
  ·(show SlotA _ _ _ _ _ _ _); intro u w1 hx1 hd; obtain ⟨y9, rfl⟩ := hx1.get; clear hx1
   have e6 : u 6 = .slice (some ⟨v, 0, none⟩) l1.length n := hd 6 (by kernel_rfl)
   have e17 : u 17 = .int .i64 q := hd 17 (by kernel_rfl)
   simp only [e6, e17]
   refine slot_run rfl rfl rfl ?_; intro K9 hK
   go_simp; exact hK _ _ rfl (ex) rfl
  ·(show SlotA _ _ _ _ _ _ _); intro u w1 hx1 hd; obtain ⟨y9, rfl⟩ := hx1.get; clear hx1
   have e18 : u 18 = .pointer (some ⟨v, q * 6, none⟩) := hd 18 (by kernel_rfl)
   simp only [e18]
   refine slot_run rfl rfl rfl ?_; intro K9 hK
   go_simp; exact hK _ _ rfl (ex) rfl
  ·(show SlotA _ _ _ _ _ _ _); intro u w1 hx1 hd; obtain ⟨y9, rfl⟩ := hx1.get; clear hx1
   have e0 : u 0 = .agg #[.int .i64 n1.id, .int .i64 n1.term, .bool n1.speaks, .slice B n1.log.length b, .int .i64 n1.acked, .int .i64 n1.next] := hd 0 (by kernel_rfl)
   have e19 : u 19 = .agg #[.int .i64 um.kind, .int .i64 um.term, .int .i64 um.at_, .int .i64 um.before, .slice E um.recs.length J, .int .i64 um.acked] := hd 19 (by kernel_rfl)
   simp only [e0, e19]
   refine slot_run rfl rfl rfl ?_; intro K9 hK
   go_simp; go_at_call 102; refine (rep_Receive_as n1 B b um E J _ (h9.q1.recs h9.ext (ex)) (hu9.recs h9.ext (ex)) x z true 0 HV.out).mono ?_; rintro e w' ⟨D, K, rfl, hx, hl⟩; exact hK _ _ rfl hx ⟨D, K, rfl, LogIn.logw hl rfl hx HE.out⟩
  ·(show SlotA _ _ _ _ _ _ _); intro u w1 hx1 hd; obtain ⟨y9, rfl⟩ := hx1.get; clear hx1
   obtain ⟨D20, K20, e20, h20⟩ := hd 20 (by kernel_rfl)
   simp only [e20]
   refine slot_run rfl rfl rfl ?_; intro K9 hK
   go_simp; exact hK _ _ rfl (ex) ⟨D20, K20, rfl, h20⟩
  ·(show SlotA _ _ _ _ _ _ _); intro u w1 hx1 hd; obtain ⟨y9, rfl⟩ := hx1.get; clear hx1
   obtain ⟨D20, K20, e21, h20⟩ := hd 21 (by kernel_rfl)
   simp only [e21]
   refine slot_run rfl rfl rfl ?_; intro K9 hK
   go_simp; exact hK _ _ rfl (ex) ⟨D20, K20, rfl, h20⟩
  ·(show PureA _ _ _ _ _ _); intro u w1 hx1 hd; obtain ⟨y9, rfl⟩ := hx1.get; clear hx1
   obtain ⟨D20, K20, e21, h20⟩ := hd 21 (by kernel_rfl)
   simp only [e21]
   refine pure_run (v := .agg #[.int .i64 z.kind, .int .i64 z.term, .int .i64 z.at_, .int .i64 0, .slice none 0 0, .int .i64 0]) rfl rfl (fun w9 => ?_) rfl
   go_simp
  ·(show PureA _ _ _ _ _ _); intro u w1 hx1 hd; obtain ⟨y9, rfl⟩ := hx1.get; clear hx1
   obtain ⟨D20, K20, e21, h20⟩ := hd 21 (by kernel_rfl)
   simp only [e21]
   refine pure_run (v := .bool true) rfl rfl (fun w9 => ?_) rfl
   go_simp
  ·(show PureA _ _ _ _ _ _); intro u w1 hx1 hd; obtain ⟨y9, rfl⟩ := hx1.get; clear hx1
   obtain ⟨D20, K20, e21, h20⟩ := hd 21 (by kernel_rfl)
   simp only [e21]
   refine pure_run (v := .int .i64 0) rfl rfl (fun w9 => ?_) rfl
   go_simp
  ·(show SlotA _ _ _ _ _ _ _); intro u w1 hx1 hd; obtain ⟨y9, rfl⟩ := hx1.get; clear hx1
   refine slot_run rfl rfl rfl ?_; intro K9 hK
   go_simp; exact hK _ _ rfl (ex) ⟨_, rfl, (by first | exact Nat.le_refl _ | omega | (simp [go_sem]; done) | (simp [go_sem]; omega)), BoxAt.new (by first | rfl | simp [go_sem]) _ _⟩
  ·(show SlotA _ _ _ _ _ _ _); intro u w1 hx1 hd; obtain ⟨y9, rfl⟩ := hx1.get; clear hx1
   refine slot_run rfl rfl rfl ?_; intro K9 hK
   go_simp; exact hK _ _ rfl (ex) ⟨_, rfl, (by first | exact Nat.le_refl _ | omega | (simp [go_sem]; done) | (simp [go_sem]; omega)), BoxAt.new (by first | rfl | simp [go_sem]) _ _⟩
 ·intro u w2 hx2 hT; obtain ⟨t0, t1, t2, t3, t4, t5, t6, t7, t8, t9, t10, t11, t12, t13, t14, t15, t16, t17, t18, t19, t20, t21, t22, t23, t24, t25, t26, t27, -⟩ := hT; obtain ⟨y9, rfl⟩ := hx2.get; clear hx2
  obtain ⟨D22, K22, e22, h22⟩ := t22
  have e23 : u 23 = .agg #[.int .i64 z.kind, .int .i64 z.term, .int .i64 z.at_, .int .i64 0, .slice none 0 0, .int .i64 0] := t23
  have e24 : u 24 = .bool true := t24
  have e25 : u 25 = .int .i64 0 := t25
  obtain ⟨g26, e26, hg26, b26⟩ := t26
  obtain ⟨g27, e27, hg27, b27⟩ := t27
  simp only [e22, e23, e24, e25, e26, e27]
  clear e22 e23 e24 e25 e26 e27 t0 t1 t2 t3 t4 t5 t6 t7 t8 t9 t10 t11 t12 t13 t14 t15 t16 t17 t18 t19 t20 t21 t23 t24 t25
  simp only [List.drop_succ_cons, List.drop_zero]
  have hxx : Ext W9 (xt W9.drew y9) := ex
  go_wp2_with (first
   | (refine wpList_store_at rfl 24 (.tmp 14) (.tmp 149) rfl b26 rfl [.int .i64 x.id, .int .i64 x.term, .bool x.speaks, .slice D22 x.log.length K22, .int .i64 x.acked, .int .i64 x.next] rfl rfl (show 6 < 44 by decide) (by kernel_rfl) (nodl_one x D22 K22) ?_; intro W1 ht1 hb1)
   | (refine wpList_store_at rfl 143 (.tmp 15) (.tmp 150) rfl (b27.turn ht1 (b27.differ b26 (by decide))) rfl [.int .i64 z.kind, .int .i64 z.term, .int .i64 z.at_, .int .i64 0, .slice none 0 0, .int .i64 0] rfl rfl (show 6 < 44 by decide) (by kernel_rfl) (ansl_one z) ?_; intro W2 ht2 hb2))
  have hne := b27.differ b26 (by decide)
  have i8 := hb1.turn ht2 (Ne.symm hne)
  have m8 := (h22.turn ht1).turn ht2
  have x2 : Ext W9 W2 := ht2.ext (ht1.ext hxx hg26) hg27
  have h2 := h9.mono x2
  have s2 : StayC W W2 := s9.ext x2
  clear ht1 ht2 hb1 c0 c1 c2 c3 c4 c5 c6 c7 c8 c9 c10 c11 c12 c13 c14 d0 d1 d2 d3 d4 d5 e0 e1 e2 hxx m0 m1 m2 m3 m4 m5 b26 b27 h22
  have c0:=h2.box.c 0 rfl;have c1:=h2.box.c 1 rfl;have c2:=h2.box.c 2 rfl;have c3:=h2.box.c 3 rfl;have c4:=h2.box.c 4 rfl;have c5:=h2.box.c 5 rfl;have c6:=h2.box.c 6 rfl;have c7:=h2.box.c 7 rfl;have c8:=h2.box.c 8 rfl;have c9:=h2.box.c 9 rfl;have c10:=h2.box.c 10 rfl;have c11:=h2.box.c 11 rfl;have c12:=h2.box.c 12 rfl;have c13:=h2.box.c 13 rfl;have c14:=h2.box.c 14 rfl
  obtain ⟨d0, d1, d2, d3, d4, d5⟩ := i8.six
  go_wp2_with fail
  (refine wp_region_tail 6 (by kernel_rfl) (by kernel_rfl) ?_; simp only [List.take_succ_cons, List.take_zero, List.drop_succ_cons, List.drop_zero]; (repeat (go_big_quiet_step (fail))); refine wpQuiet_nil ?_; rintro _ ⟨y, rfl⟩)
  refine wpList_store_part rfl 24 (.tmp 160) (.tmp 157) rfl (h2.box.mono (ex)) 6 rfl [.int .i64 x.id, .int .i64 x.term, .bool x.speaks, .slice D22 x.log.length K22, .int .i64 x.acked, .int .i64 x.next] rfl (show 12 ≤ 15 by decide) (show 15 < 44 by decide) (by kernel_rfl) (nodl_one x D22 K22) [.int .i64 n0.id, .int .i64 n0.term, .bool n0.speaks, .slice A n0.log.length a, .int .i64 n0.acked, .int .i64 n0.next, .int .i64 x.id, .int .i64 x.term, .bool x.speaks, .slice D22 x.log.length K22, .int .i64 x.acked, .int .i64 x.next, .slice M l0.length m, .slice N l1.length n, .int .i64 t] rfl ?_; intro W5 ht5 hb5
  have h5 := CaseAt.put1 (h2.mono (by exact ex)) ht5 (m8.mono (by exact ex)) hb5
  have s5 := (s2.ext (by exact ex)).trans ((h2.mono (by exact ex)).stay ht5)
  have j15 : BoxAt W5 g27 [.int .i64 z.kind, .int .i64 z.term, .int .i64 z.at_, .int .i64 z.before, .slice none z.recs.length 0, .int .i64 z.acked] 143 := by
   have e : ([.int .i64 z.kind, .int .i64 z.term, .int .i64 z.at_, .int .i64 0, .slice none 0 0, .int .i64 0] : List Value) = [.int .i64 z.kind, .int .i64 z.term, .int .i64 z.at_, .int .i64 z.before, .slice none z.recs.length 0, .int .i64 z.acked] := by rw [HZ.out.1, HZ.out.2.1, HZ.out.2.2]; rfl
   rw [← e]
   exact (hb2.mono (ex)).turn ht5 (fun e => (hb2.differ h2.box (by decide)) e)
  clear c0 c1 c2 c3 c4 c5 c6 c7 c8 c9 c10 c11 c12 c13 c14 d0 d1 d2 d3 d4 d5 hb2 ht5 hb5
  go_wp2_with fail
  refine wp_region_L (S := SS 16 11 (fun w9 => BoxAt w9 g [.int .i64 n0.id, .int .i64 n0.term, .bool n0.speaks, .slice A n0.log.length a, .int .i64 n0.acked, .int .i64 n0.next, .int .i64 x.id, .int .i64 x.term, .bool x.speaks, .slice D22 x.log.length K22, .int .i64 x.acked, .int .i64 x.next, .slice M l0.length m, .slice N l1.length n, .int .i64 t] 117) (fun w9 => BoxAt w9 g27 [.int .i64 z.kind, .int .i64 z.term, .int .i64 z.at_, .int .i64 z.before, .slice none z.recs.length 0, .int .i64 z.acked] 143) (fun _ => True)) (by kernel_rfl) ⟨fun _ => h5.box.mono (ex), fun _ => j15.mono (ex), trivial⟩ (fun hcl hS => ?_)
  refine wpAnyL_take (i := 0) (T := (fun _ => True)) (v := ?_) rfl (by kernel_rfl) (by kernel_rfl) (by kernel_rfl) (fun _ _ _ h => h) (fun _ _ _ _ _ => trivial) (SS.up (by decide) (by decide)) (SS.down (by decide) (by decide)) (Or.inl ⟨by rfl, ?_⟩) hcl hS ?_
  rotate_left
  ·(intro w9 hw9; (try dsimp only at hw9); go_simp; try with_reducible rfl)
  clear hcl hS
  intro hcl hS
  (try simp only [Act.put]); (try simp only [List.setIfInBounds_toArray]); (repeat (first | simp only [List.set_cons_succ] | simp only [List.set_cons_zero]))
  refine wpAnyL_take (i := 1) (T := (fun _ => True)) (v := ?_) rfl (by kernel_rfl) (by kernel_rfl) (by kernel_rfl) (fun _ _ _ h => h) (fun _ _ _ _ _ => trivial) (SS.up (by decide) (by decide)) (SS.down (by decide) (by decide)) (Or.inl ⟨by rfl, ?_⟩) hcl hS ?_
  rotate_left
  ·(intro w9 hw9; (try dsimp only at hw9); go_simp; try with_reducible rfl)
  clear hcl hS
  intro hcl hS
  (try simp only [Act.put]); (try simp only [List.setIfInBounds_toArray]); (repeat (first | simp only [List.set_cons_succ] | simp only [List.set_cons_zero]))
  refine wpAnyL_take (i := 2) (T := (fun _ => True)) (v := ?_) rfl (by kernel_rfl) (by kernel_rfl) (by kernel_rfl) (fun _ _ _ h => h) (fun _ _ _ _ _ => trivial) (SS.up (by decide) (by decide)) (SS.down (by decide) (by decide)) (Or.inl ⟨by rfl, ?_⟩) hcl hS ?_
  rotate_left
  ·(intro w9 hw9; (try dsimp only at hw9); go_simp; try with_reducible rfl)
  clear hcl hS
  intro hcl hS
  (try simp only [Act.put]); (try simp only [List.setIfInBounds_toArray]); (repeat (first | simp only [List.set_cons_succ] | simp only [List.set_cons_zero]))
  refine wpAnyL_take (i := 3) (T := (fun _ => True)) (v := ?_) rfl (by kernel_rfl) (by kernel_rfl) (by kernel_rfl) (fun _ _ _ h => h) (fun _ _ _ _ _ => trivial) (SS.up (by decide) (by decide)) (SS.down (by decide) (by decide)) (Or.inl ⟨by rfl, ?_⟩) hcl hS ?_
  rotate_left
  ·(intro w9 hw9; (try dsimp only at hw9); go_simp; try with_reducible rfl)
  clear hcl hS
  intro hcl hS
  (try simp only [Act.put]); (try simp only [List.setIfInBounds_toArray]); (repeat (first | simp only [List.set_cons_succ] | simp only [List.set_cons_zero]))
  refine wpAnyL_take (i := 4) (T := (fun _ => True)) (v := ?_) rfl (by kernel_rfl) (by kernel_rfl) (by kernel_rfl) (fun _ _ _ h => h) (fun _ _ _ _ _ => trivial) (SS.up (by decide) (by decide)) (SS.down (by decide) (by decide)) (Or.inl ⟨by rfl, ?_⟩) hcl hS ?_
  rotate_left
  ·(intro w9 hw9; (try dsimp only at hw9); go_simp; try with_reducible rfl)
  clear hcl hS
  intro hcl hS
  (try simp only [Act.put]); (try simp only [List.setIfInBounds_toArray]); (repeat (first | simp only [List.set_cons_succ] | simp only [List.set_cons_zero]))
  refine wpAnyL_take (i := 5) (T := (fun _ => True)) (v := ?_) rfl (by kernel_rfl) (by kernel_rfl) (by kernel_rfl) (fun _ _ _ h => h) (fun _ _ _ _ _ => trivial) (SS.up (by decide) (by decide)) (SS.down (by decide) (by decide)) (Or.inl ⟨by rfl, ?_⟩) hcl hS ?_
  rotate_left
  ·(intro w9 hw9; (try dsimp only at hw9); go_simp; try with_reducible rfl)
  clear hcl hS
  intro hcl hS
  (try simp only [Act.put]); (try simp only [List.setIfInBounds_toArray]); (repeat (first | simp only [List.set_cons_succ] | simp only [List.set_cons_zero]))
  refine wpAnyL_take (i := 6) (T := (fun _ => True)) (v := ?_) rfl (by kernel_rfl) (by kernel_rfl) (by kernel_rfl) (fun _ _ _ h => h) (fun _ _ _ _ _ => trivial) (SS.up (by decide) (by decide)) (SS.down (by decide) (by decide)) (Or.inl ⟨by rfl, ?_⟩) hcl hS ?_
  rotate_left
  ·(intro w9 hw9; (try dsimp only at hw9); go_simp; try with_reducible rfl)
  clear hcl hS
  intro hcl hS
  (try simp only [Act.put]); (try simp only [List.setIfInBounds_toArray]); (repeat (first | simp only [List.set_cons_succ] | simp only [List.set_cons_zero]))
  refine wpAnyL_take (i := 7) (T := (fun _ => True)) (v := ?_) rfl (by kernel_rfl) (by kernel_rfl) (by kernel_rfl) (fun _ _ _ h => h) (fun _ _ _ _ _ => trivial) (SS.up (by decide) (by decide)) (SS.down (by decide) (by decide)) (Or.inl ⟨by rfl, ?_⟩) hcl hS ?_
  rotate_left
  ·(intro w9 hw9; (try dsimp only at hw9); go_simp; try with_reducible rfl)
  clear hcl hS
  intro hcl hS
  (try simp only [Act.put]); (try simp only [List.setIfInBounds_toArray]); (repeat (first | simp only [List.set_cons_succ] | simp only [List.set_cons_zero]))
  refine wpAnyL_take (i := 8) (T := (fun _ => True)) (v := ?_) rfl (by kernel_rfl) (by kernel_rfl) (by kernel_rfl) (fun _ _ _ h => h) (fun _ _ _ _ _ => trivial) (SS.up (by decide) (by decide)) (SS.down (by decide) (by decide)) (Or.inl ⟨by rfl, ?_⟩) hcl hS ?_
  rotate_left
  ·(intro w9 hw9; (try dsimp only at hw9); go_simp; try with_reducible rfl)
  clear hcl hS
  intro hcl hS
  (try simp only [Act.put]); (try simp only [List.setIfInBounds_toArray]); (repeat (first | simp only [List.set_cons_succ] | simp only [List.set_cons_zero]))
  refine wpAnyL_take (i := 9) (T := (fun w9 => BoxAt w9 g [.int .i64 n0.id, .int .i64 n0.term, .bool n0.speaks, .slice A n0.log.length a, .int .i64 n0.acked, .int .i64 n0.next, .int .i64 x.id, .int .i64 x.term, .bool x.speaks, .slice D22 x.log.length K22, .int .i64 x.acked, .int .i64 x.next, .slice M l0.length m, .slice N l1.length n, .int .i64 t] 117)) (v := ?_) rfl (by kernel_rfl) (by kernel_rfl) (by kernel_rfl) (fun _ _ _ h => h) (fun _ _ hc hi hS => hS.1 (hc.not (k := 16) (by kernel_rfl) hi)) (SS.up (by decide) (by decide)) (SS.down (by decide) (by decide)) (Or.inl ⟨by rfl, ?_⟩) hcl hS ?_
  rotate_left
  ·(intro w9 hw9; (try dsimp only at hw9); have z9:=hw9.c 12 rfl; go_simp; try with_reducible rfl)
  clear hcl hS
  intro hcl hS
  (try simp only [Act.put]); (try simp only [List.setIfInBounds_toArray]); (repeat (first | simp only [List.set_cons_succ] | simp only [List.set_cons_zero]))
  refine wpAnyL_take (i := 10) (T := (fun w9 => BoxAt w9 g27 [.int .i64 z.kind, .int .i64 z.term, .int .i64 z.at_, .int .i64 z.before, .slice none z.recs.length 0, .int .i64 z.acked] 143)) (v := ?_) rfl (by kernel_rfl) (by kernel_rfl) (by kernel_rfl) (fun _ _ _ h => h) (fun _ _ hc hi hS => hS.2.1 (hc.not (k := 11) (by kernel_rfl) hi)) (SS.up (by decide) (by decide)) (SS.down (by decide) (by decide)) (Or.inl ⟨by rfl, ?_⟩) hcl hS ?_
  rotate_left
  ·(intro w9 hw9; (try dsimp only at hw9); obtain ⟨z0, z1, z2, z3, z4, z5⟩ := hw9.six; go_simp; try with_reducible rfl)
  clear hcl hS
  intro hcl hS
  (try simp only [Act.put]); (try simp only [List.setIfInBounds_toArray]); (repeat (first | simp only [List.set_cons_succ] | simp only [List.set_cons_zero]))
  refine wpAnyL_take (i := 13) (T := (fun _ => True)) (v := ?_) rfl (by kernel_rfl) (by kernel_rfl) (by kernel_rfl) (fun _ _ _ h => h) (fun _ _ _ _ _ => trivial) (SS.up (by decide) (by decide)) (SS.down (by decide) (by decide)) (Or.inl ⟨by rfl, ?_⟩) hcl hS ?_
  rotate_left
  ·(intro w9 hw9; (try dsimp only at hw9); go_simp; try with_reducible rfl)
  clear hcl hS
  intro hcl hS
  (try simp only [Act.put]); (try simp only [List.setIfInBounds_toArray]); (repeat (first | simp only [List.set_cons_succ] | simp only [List.set_cons_zero]))
  refine wpAnyL_take (i := 14) (T := (fun _ => True)) (v := ?_) rfl (by kernel_rfl) (by kernel_rfl) (by kernel_rfl) (fun _ _ _ h => h) (fun _ _ _ _ _ => trivial) (SS.up (by decide) (by decide)) (SS.down (by decide) (by decide)) (Or.inl ⟨by rfl, ?_⟩) hcl hS ?_
  rotate_left
  ·(intro w9 hw9; (try dsimp only at hw9); go_simp; try with_reducible rfl)
  clear hcl hS
  intro hcl hS
  (try simp only [Act.put]); (try simp only [List.setIfInBounds_toArray]); (repeat (first | simp only [List.set_cons_succ] | simp only [List.set_cons_zero]))
  refine wpAnyL_only (i := 11) (by kernel_rfl) rfl rfl hcl (fun K9 hK9 => ?_)
  go_simp
  clear hS hcl
  refine hK9 _ _ ⟨fun _ => h5.box.mono (ex), fun hh => absurd hh (by decide), trivial⟩ (fun hcl hS => ?_)
  clear hK9
  refine wpAnyL_only (i := 12) (by kernel_rfl) rfl rfl hcl (fun K9 hK9 => ?_)
  clear hS hcl
  refine wp_append_mute (w0 := w) 117 (.tmp 171) (.tmp 173) 114 114 rfl 143 143 6 64 Tryz.underlying114 Tryz.underlying114 info_Msg zero_Msg (by decide) (h5.ext.trans (ex)) M l0.length m (xs.map msgRw) rfl (h5.m0.own.mono (ex)) h5.m0.room (msgRw_mute _) _ 1 1 [[.int .i64 z.kind, .int .i64 z.term, .int .i64 z.at_, .int .i64 z.before, .slice none z.recs.length 0, .int .i64 z.acked]] rfl (Sl.drawn (Sl.alloc' (by simp [go_sem]) (by simp) (by simp))) rfl (by decide) (msgRw_one [(z, none, 0)]) (msgRw_mute [(z, none, 0)]) (by unfold maxLen; omega) (by omega) _ rfl _ rfl ?_; intro M5 m5 V5 hx5 hown5 hk5 hs5 hgr5 hA5
  have hg9 := CaseAt.box0 (h5.mono (by exact ex)) hgr5
  refine hK9 _ _ ⟨fun _ => hg9, fun hh => absurd hh (by decide), trivial⟩ (fun hcl hS => ?_)
  clear hK9
  refine wpAnyL_only (i := 15) (by kernel_rfl) rfl rfl hcl (fun K9 hK9 => ?_)
  clear hS hcl
  go_simp
  refine hK9 _ _ ⟨fun _ => hg9, fun hh => absurd hh (by decide), trivial⟩ (fun hcl hS => ?_)
  clear hK9
  refine wpAnyL_only (i := 16) (by kernel_rfl) rfl rfl hcl (fun K9 hK9 => ?_)
  clear hS hcl
  refine wp_store_cell 114 (.tmp 177) (.tmp 174) rfl hg9 12 rfl (.slice M5 (l0 ++ [z]).length m5) (by simp [Act.eval, List.length_append]) (show 12 < 15 by decide) (show 15 < 44 by decide) (by kernel_rfl) rfl [.int .i64 n0.id, .int .i64 n0.term, .bool n0.speaks, .slice A n0.log.length a, .int .i64 n0.acked, .int .i64 n0.next, .int .i64 x.id, .int .i64 x.term, .bool x.speaks, .slice D22 x.log.length K22, .int .i64 x.acked, .int .i64 x.next, .slice M5 (l0 ++ [z]).length m5, .slice N l1.length n, .int .i64 t] rfl ?_; intro V6 ht6 hb6
  refine hK9 _ _ ⟨fun hh => absurd hh (by decide), fun hh => absurd hh (by decide), trivial⟩ (fun hcl hS => ?_)
  clear hK9 hcl hS
  refine wpAnyL_done (by kernel_rfl) ?_ _
  go_wp2
  go_ret
  exact ⟨rfl, (((s5.ext (by exact ex)).trans hs5).trans (ht6.stay hg9 (.inr rfl) (noStr_at (cas_mute _ _ _ _ _ _ _ _ _ _ _ _ _ _ _ _ _ _ _ _ _ _ _)))), CaseAt.mail0 (h5.mono (by exact ex)) hs5 hgr5 hx5 hown5 hk5 hA5 (by rw [HZ.out.1]; exact LogW.nil _ _) ht6 hb6⟩
end
end Go.Proofs.YtmhinhgflehkaaaGreat

/-
 Two nodes and their mail: a step.
-/
namespace Go.Proofs.YtmhinhgflehkaaaGreat
open Go.RowKit

theorem recvV_plain (n : Nod) (m : Msg) : (recvV n m).2.1.recs = [] ∧ (recvV n m).2.1.before = 0 ∧ (recvV n m).2.1.acked = 0 := by
 have ht : ∀ x : Nod, (takeV x m).2.1.recs = [] ∧ (takeV x m).2.1.before = 0 ∧ (takeV x m).2.1.acked = 0 := fun x => by
  unfold takeV
  simp only
  repeat' split
  all_goals exact ⟨rfl, rfl, rfl⟩
 have hr : (recdV n m).2.1.recs = [] ∧ (recdV n m).2.1.before = 0 ∧ (recdV n m).2.1.acked = 0 := by
  unfold recdV
  split
  ·split <;> exact ⟨rfl, rfl, rfl⟩
  split
  ·exact ht _
  split <;> exact ⟨rfl, rfl, rfl⟩
 unfold recvV
 split
 ·exact ⟨rfl, rfl, rfl⟩
 split
 ·exact ⟨rfl, rfl, rfl⟩
 split
 ·exact ⟨rfl, rfl, rfl⟩
 split
 ·exact ⟨rfl, rfl, rfl⟩
 ·exact hr
theorem step_mail {c c' : CW} {s : Stp} (hv : stepV c s = some c') (i : Bool) : (c'.mail i).length ≤ (c.mail i).length + 1 := by
 have hp : ∀ (d : CW) (j : Bool) (m : Msg), ((postM d j m).mail i).length ≤ (d.mail i).length + 1 := fun d j m => by
  show (if i = j then d.mail i ++ [m] else d.mail i).length ≤ _
  split <;> simp
 unfold stepV at hv
 repeat' split at hv
 all_goals first
  | (injection hv with hv; subst hv; first | exact hp _ _ _ | exact Nat.le_succ _)
  | cases hv
section
variable {w W : World} {g : Nat} {G : Int → Option (List Rec)} {K : Nat} {c c' : CW} {s : Stp}
theorem Stp.zero (h : s.i = false) : (s.node : Int) % 2 = 0 := by
 unfold Stp.i at h
 have := of_decide_eq_false h
 omega
theorem Stp.one (h : s.i = true) : (s.node : Int) % 2 = 1 := by
 unfold Stp.i at h
 have := of_decide_eq_true h
 omega
theorem top_step (hI : Inv G K c) (hK : K ≤ 100) (ho : StpOk s) (hv : stepV c s = some c') (hl0 : (c.mail false).length ≤ 1000) (hl1 : (c.mail true).length ≤ 1000) (h : CaseIn w W g (c.n false) (c.n true) (c.mail false) (c.mail true) c.time) :
  Calls Tryz.prog 49 #[.pointer (some ⟨g, 0, none⟩), .agg #[.int .u8 s.kind, .int .u8 s.node, .int .u8 s.pick]] W (StepD w W g (c'.n false) (c'.n true) (c'.mail false) (c'.mail true) c'.time) := by
 obtain ⟨A, a, B, b, M, m, xs, N, n, ys, hC⟩ := h
 obtain ⟨o1, o2, o3⟩ := ho
 have b1 : (0 : Int) ≤ s.kind := by omega
 have b2 : (s.kind : Int) ≤ 255 := by omega
 have b3 : (0 : Int) ≤ s.node := by omega
 have b4 : (s.node : Int) ≤ 255 := by omega
 have b5 : (0 : Int) ≤ s.pick := by omega
 have b6 : (s.pick : Int) ≤ 255 := by omega
 have ht0 := hI.t0
 have ht1 := hI.t1
 unfold stepV at hv
 by_cases k0 : s.kind % 4 = 0
 ·rw [if_pos k0] at hv
  have hk : (s.kind : Int) % 4 = 0 := by omega
  split at hv
  ·rename_i he
   injection hv with hv
   subst hv
   cases hi : s.i with
   | false => exact top_lead0 hC (hI.node false) b1 b2 b3 b4 b5 b6 hk (Stp.zero hi) rfl (by rw [hi] at he; exact Prod.ext rfl he)
   | true => exact top_lead1 hC (hI.node true) b1 b2 b3 b4 b5 b6 hk (Stp.one hi) rfl (by rw [hi] at he; exact Prod.ext rfl he)
  ·cases hv
 rw [if_neg k0] at hv
 by_cases k1 : s.kind % 4 = 1
 ·rw [if_pos k1] at hv
  have hk : (s.kind : Int) % 4 = 1 := by omega
  split at hv
  ·rename_i he
   injection hv with hv
   subst hv
   cases hi : s.i with
   | false => exact top_act0_yes hC (hI.node false) b1 b2 b3 b4 b5 b6 hk (Stp.zero hi) rfl ht0 (by omega) (x := (actV (c.n false) (goA (c.time + s.pick))).1) (er := (actV (c.n false) (goA (c.time + s.pick))).2) rfl (by rw [hi] at he; exact he)
   | true => exact top_act1_yes hC (hI.node true) b1 b2 b3 b4 b5 b6 hk (Stp.one hi) rfl ht0 (by omega) (x := (actV (c.n true) (goA (c.time + s.pick))).1) (er := (actV (c.n true) (goA (c.time + s.pick))).2) rfl (by rw [hi] at he; exact he)
  ·rename_i he
   split at hv
   ·cases hv
   ·rename_i hs
    injection hv with hv
    subst hv
    cases hi : s.i with
    | false => exact top_act0_no hC (hI.node false) b1 b2 b3 b4 b5 b6 hk (Stp.zero hi) rfl ht0 (by omega) rfl (by rw [hi] at he; exact he) (by rw [hi] at hs; simpa using hs)
    | true => exact top_act1_no hC (hI.node true) b1 b2 b3 b4 b5 b6 hk (Stp.one hi) rfl ht0 (by omega) rfl (by rw [hi] at he; exact he) (by rw [hi] at hs; simpa using hs)
 rw [if_neg k1] at hv
 by_cases k2 : s.kind % 4 = 2
 ·rw [if_pos k2] at hv
  have hk : (s.kind : Int) % 4 = 2 := by omega
  split at hv
  ·rename_i he
   injection hv with hv
   subst hv
   cases hi : s.i with
   | false => exact top_send0_yes hC (hI.node false) b1 b2 b3 b4 b5 b6 hk (Stp.zero hi) (by rw [hi] at he; exact Prod.ext rfl he) hl1
   | true => exact top_send1_yes hC (hI.node true) b1 b2 b3 b4 b5 b6 hk (Stp.one hi) (by rw [hi] at he; exact Prod.ext rfl he) hl0
  ·rename_i he
   split at hv
   ·cases hv
   ·rename_i hs
    injection hv with hv
    subst hv
    cases hi : s.i with
    | false => exact top_send0_no hC (hI.node false) b1 b2 b3 b4 b5 b6 hk (Stp.zero hi) rfl (by rw [hi] at he; exact he) (by rw [hi] at hs; simpa using hs) hl1
    | true => exact top_send1_no hC (hI.node true) b1 b2 b3 b4 b5 b6 hk (Stp.one hi) rfl (by rw [hi] at he; exact he) (by rw [hi] at hs; simpa using hs) hl0
 rw [if_neg k2] at hv
 have hk : (s.kind : Int) % 4 = 3 := by omega
 split at hv
 ·rename_i hq
  injection hv with hv
  subst hv
  have hnil : c.mail s.i = [] := by
   rw [List.getElem?_eq_none_iff] at hq
   by_cases h0 : (c.mail s.i).length = 0
   ·exact List.eq_nil_of_length_eq_zero h0
   ·have := Nat.mod_lt s.pick (Nat.pos_of_ne_zero h0); omega
  cases hi : s.i with
  | false => exact top_recv0_none hC (hI.node false) b1 b2 b3 b4 b5 b6 hk (Stp.zero hi) (by rw [hi] at hnil; exact hnil)
  | true => exact top_recv1_none hC (hI.node true) b1 b2 b3 b4 b5 b6 hk (Stp.one hi) (by rw [hi] at hnil; exact hnil)
 ·rename_i u hq
  split at hv
  ·rename_i he
   have hp := recvV_plain (c.n s.i) u
   split at hv
   ·rename_i hok
    injection hv with hv
    subst hv
    cases hi : s.i with
    | false =>
     rw [hi] at hq he hok hp
     exact top_recv0_yes hC (hI.node false) b1 b2 b3 b4 b5 b6 hk (Stp.zero hi) hq (by omega) (Prod.ext rfl (Prod.ext rfl (Prod.ext hok he))) hp hl0 hl1
    | true =>
     rw [hi] at hq he hok hp
     exact top_recv1_yes hC (hI.node true) b1 b2 b3 b4 b5 b6 hk (Stp.one hi) hq (by omega) (Prod.ext rfl (Prod.ext rfl (Prod.ext hok he))) hp hl1 hl0
   ·rename_i hok
    have hok : (recvV (c.n s.i) u).2.2.1 = false := by simpa using hok
    injection hv with hv
    subst hv
    cases hi : s.i with
    | false =>
     rw [hi] at hq he hok hp
     exact top_recv0_no hC (hI.node false) b1 b2 b3 b4 b5 b6 hk (Stp.zero hi) hq (by omega) (Prod.ext rfl (Prod.ext rfl (Prod.ext hok he))) hp hl0 hl1
    | true =>
     rw [hi] at hq he hok hp
     exact top_recv1_no hC (hI.node true) b1 b2 b3 b4 b5 b6 hk (Stp.one hi) hq (by omega) (Prod.ext rfl (Prod.ext rfl (Prod.ext hok he))) hp hl1 hl0
  ·cases hv
end
end Go.Proofs.YtmhinhgflehkaaaGreat
