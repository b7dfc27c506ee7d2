/-
  ReplicaSettles.
-/
import Derived.Test.YtlpboikonnpjbaaGreatGqs
import Derived.Test.YtlpboikonnpjbaaGreatGsetl
import Derived.Test.YtlpboikonnpjbaaGreatGrpn
import Derived.Test.YtlpboikonnpjbaaGreatRq4
import Derived.Test.YtlpboikonnpjbaaGreatGrpj
import Derived.Test.YtlpboikonnpjbaaGreatGrpm
import Derived.Test.YtlpboikonnpjbaaGreatGrpr
import Derived.Test.YtlpboikonnpjbaaGreatGopq
namespace Go.Proofs.YtlpboikonnpjbaaGreat
open Go.RowKit

/-- What Settle returns. -/
def Stab.sett (w : World) (x y : Nod) (k er : Int) : Stab := ⟨fun v W => ∃ D K E J, v = .tuple #[.agg #[.int .i64 x.id, .int .i64 x.term, .bool x.speaks, .slice D x.log.length K, .int .i64 x.acked, .int .i64 x.next], .agg #[.int .i64 y.id, .int .i64 y.term, .bool y.speaks, .slice E y.log.length J, .int .i64 y.acked, .int .i64 y.next], .int .i64 k, .int .i64 er] ∧ LogW w W D x.log.length K x.log ∧ LogW w W E y.log.length J y.log, fun _ _ _ hx ⟨D, K, E, J, e, h, h'⟩ => ⟨D, K, E, J, e, h.mono hx, h'.mono hx⟩⟩
theorem few_two (a : Nod) (A : Option Addr) (c : Nat) (b : Nod) (B : Option Addr) (d : Nat) (X : Option Addr) (W : World) (hs : Sl W X 6 ([(a, A, c), (b, B, d)].map nodR)) (h1 : RecsAt W A c a.log) (h2 : RecsAt W B d b.log) (hb1 : a.log.length * 552 ≤ 140737488355328) (hb2 : b.log.length * 552 ≤ 140737488355328) :
    Calls Tryz.prog 17 #[.slice X 2 2] W (FewNs W [(a, A, c), (b, B, d)]) := by
  refine l54_few X 2 [(a, A, c), (b, B, d)] W hs (by simp) (fun x hx => ?_) (fun x hx => ?_)
  · simp only [List.mem_cons, List.not_mem_nil, or_false] at hx
    rcases hx with rfl | rfl
    · exact h1
    · exact h2
  · simp only [List.mem_cons, List.not_mem_nil, or_false] at hx
    rcases hx with rfl | rfl
    · exact hb1
    · exact hb2
section
variable (a : Nod) (A : Option Addr) (c : Nat) (b : Nod) (B : Option Addr) (d : Nat) (w : World) (hs : RecsAt w A c a.log) (hm : RecsAt w B d b.log) (hb1 : a.log.length * 552 ≤ 140737488355328) (hb2 : b.log.length * 552 ≤ 140737488355328)
include hs hm hb1 hb2
set_option maxHeartbeats 6400000 in
set_option maxRecDepth 100000 in
theorem l54_Settles : Calls Tryz.prog 9 #[.agg #[.int .i64 a.id, .int .i64 a.term, .bool a.speaks, .slice A a.log.length c, .int .i64 a.acked, .int .i64 a.next], .agg #[.int .i64 b.id, .int .i64 b.term, .bool b.speaks, .slice B b.log.length d, .int .i64 b.acked, .int .i64 b.next]] w fun e w' => e = .returned (.bool true) ∧ Ext w w' := by
  have HS := Lib.hid hs
  have HM := Lib.hid hm
  have hla := hs.len
  have hlb := hm.len
  obtain ⟨⟨x1, y1, cn, er⟩, hv⟩ : ∃ v, settleV a b = v := ⟨_, rfl⟩
  have hal := settleV_all (R := fun r => AcnAt w r.act) a b hs.el hm.el
  rw [hv] at hal
  have HE1 := Lib.hid hal.1
  have HE2 := Lib.hid hal.2.1
  have hb3 : x1.log.length * 552 ≤ 140737488355328 := by have := hal.2.2.1; simp only at this; omega
  have hb4 : y1.log.length * 552 ≤ 140737488355328 := by have := hal.2.2.2; simp only at this; omega
  have HC := Lib.hid (fun (W : World) (hx : Ext w W) => (rep_Settle a A c b B d W (hs.mono hx) (hm.mono hx)).mono fun _ _ h => RetSett.parts h hv hal.1 hal.2.1)
  have HQ := Lib.hid (fun (W : World) (D : Option Addr) (K : Nat) (E : Option Addr) (J : Nat) (h1 : RecsAt W D K a.log) (h2 : RecsAt W E J b.log) => (r54_Settle a D K b E J W h1 h2).mono fun _ _ h => RetSett.parts h hv hal.1 hal.2.1)
  clear hv hs hm hal
  go_enter Tryz.func9, Tryz.ntmps9
  go_wp2_with (first
    | (go_at_call 17; refine (few_two a A c b B d _ _ (Sl.alloc' (by simp [go_sem]) (by simp [nodR]) (by simp [nodR])) (HS.out.mono (by repeat (first | exact Ext.refl _ | assumption | apply Ext.xt | apply Ext.alloc | apply Ext.drew | apply Ext.drewN))) (HM.out.mono (by repeat (first | exact Ext.refl _ | assumption | apply Ext.xt | apply Ext.alloc | apply Ext.drew | apply Ext.drewN))) hb1 hb2).mono ?_; rintro e w' ⟨⟨bb, rfl, hbb⟩, hx⟩; have HBB := Lib.hid hbb; obtain ⟨ya, rfl⟩ := hx.get; clear hx hbb)
    | (go_at_call 20; refine (l54_awake _).mono ?_; rintro e w' ⟨rfl, hx⟩; obtain ⟨y, rfl⟩ := hx.get; clear hx))
  all_goals try (go_ret; exact ⟨rfl, by repeat (first | exact Ext.refl _ | assumption | apply Ext.xt | apply Ext.alloc | apply Ext.drew | apply Ext.drewN)⟩)
  go_at_call 44; refine (HC.out _ (by repeat (first | exact Ext.refl _ | assumption | apply Ext.xt | apply Ext.alloc | apply Ext.drew | apply Ext.drewN))).mono ?_; rintro e w' ⟨D, K, E, J, rfl, hx, hl1, hl2⟩; have HL1 := Lib.hid hl1; have HL2 := Lib.hid hl2; obtain ⟨ye, rfl⟩ := hx.get; clear hx hl1 hl2
  go_wp2_with fail
  refine wp_name (fun W9 hW9 => ?_)
  have k2 : BoxAt W9 w.heap.size [.int .i64 a.id, .int .i64 a.term, .bool a.speaks, .slice A a.log.length c, .int .i64 a.acked, .int .i64 a.next] 55 := by rw [hW9]; exact (by repeat (first | exact BoxAt.new (by first | rfl | (simp [go_sem]; done) | (simp [go_sem]; omega)) _ _ | apply BoxAt.xt | apply BoxAt.drew | apply BoxAt.drewN | apply BoxAt.alloc))
  have k3 : BoxAt W9 (w.heap.size + 1) [.int .i64 b.id, .int .i64 b.term, .bool b.speaks, .slice B b.log.length d, .int .i64 b.acked, .int .i64 b.next] 55 := by rw [hW9]; exact (by repeat (first | exact BoxAt.new (by first | rfl | (simp [go_sem]; done) | (simp [go_sem]; omega)) _ _ | apply BoxAt.xt | apply BoxAt.drew | apply BoxAt.drewN | apply BoxAt.alloc))
  have k5 : BoxAt W9 (w.heap.size + 1 + 1 + 1 + ya.n + ye.n) [.int .i64 x1.id, .int .i64 x1.term, .bool x1.speaks, .slice D x1.log.length K, .int .i64 x1.acked, .int .i64 x1.next] 55 := by rw [hW9]; exact (by repeat (first | exact BoxAt.new (by first | rfl | (simp [go_sem]; done) | (simp [go_sem]; omega)) _ _ | apply BoxAt.xt | apply BoxAt.drew | apply BoxAt.drewN | apply BoxAt.alloc))
  have k6 : BoxAt W9 (w.heap.size + 1 + 1 + 1 + ya.n + ye.n + 1) [.int .i64 y1.id, .int .i64 y1.term, .bool y1.speaks, .slice E y1.log.length J, .int .i64 y1.acked, .int .i64 y1.next] 55 := by rw [hW9]; exact (by repeat (first | exact BoxAt.new (by first | rfl | (simp [go_sem]; done) | (simp [go_sem]; omega)) _ _ | apply BoxAt.xt | apply BoxAt.drew | apply BoxAt.drewN | apply BoxAt.alloc))
  have hex : Ext w W9 := by rw [hW9]; exact (by repeat (first | exact Ext.refl _ | assumption | apply Ext.xt | apply Ext.alloc | apply Ext.drew | apply Ext.drewN))
  have hl5 : LogW w W9 D x1.log.length K x1.log := by rw [hW9]; exact HL1.out.mono (by repeat (first | exact Ext.refl _ | assumption | apply Ext.xt | apply Ext.alloc | apply Ext.drew | apply Ext.drewN))
  have hl6 : LogW w W9 E y1.log.length J y1.log := by rw [hW9]; exact HL2.out.mono (by repeat (first | exact Ext.refl _ | assumption | apply Ext.xt | apply Ext.alloc | apply Ext.drew | apply Ext.drewN))
  clear hW9 HL1 HL2
  obtain ⟨c0, c1, c2, c3, c4, c5⟩ := k2.six
  obtain ⟨d0, d1, d2, d3, d4, d5⟩ := k3.six
  refine wp_region_boxes 12 [7, 8, 9] [10, 11] [Stab.is (.agg #[.int .i64 a.id, .int .i64 a.term, .bool a.speaks, .slice A a.log.length c, .int .i64 a.acked, .int .i64 a.next]), Stab.nodR a, Stab.is (.agg #[.int .i64 b.id, .int .i64 b.term, .bool b.speaks, .slice B b.log.length d, .int .i64 b.acked, .int .i64 b.next]), Stab.nodR b, Stab.sett w x1 y1 cn er, Stab.sett w x1 y1 cn er, Stab.nod w x1, Stab.nod w y1, Stab.is (.int .i64 cn), Stab.is (.int .i64 er), Stab.box W9.heap.size [.int .i64 0, .int .i64 0, .bool false, .slice none 0 0, .int .i64 0, .int .i64 0] 65, Stab.box W9.heap.size [.int .i64 0, .int .i64 0, .bool false, .slice none 0 0, .int .i64 0, .int .i64 0] 65] (fun u => by (simp only [putAll, List.take_succ_cons, List.take_zero, Act.put, Nat.zero_add, Nat.reduceAdd]); (try simp only [List.setIfInBounds_toArray]); (repeat (first | simp only [List.set_cons_succ] | simp only [List.set_cons_zero])); exact rfl) (by kernel_rfl) (by kernel_rfl) (by kernel_rfl) (fun _ _ _ _ _ h => h) ?_ ?_ ?_
  · intro j9 hj9 v9 w9 h9
    have hj9' : j9 = 10 ∨ j9 = 11 := by simpa using hj9
    rcases hj9' with rfl | rfl
    · obtain ⟨g, rfl, -, h⟩ := h9; exact ⟨g, rfl, h.lt⟩
    · obtain ⟨g, rfl, -, h⟩ := h9; exact ⟨g, rfl, h.lt⟩
  · refine ⟨?_, ?_, ?_, ?_, ?_, ?_, ?_, ?_, ?_, ?_, ?_, ?_, trivial⟩
    · (show SlotB _ _ _ _ _ _ _ _); intro u w1 hx1 hd; obtain ⟨y9, rfl⟩ := hx1.get; clear hx1
      refine slot_runB rfl rfl rfl ?_; intro K9 hK0
      have hK := fun a9 w9 h1 h2 h3 => hK0 a9 w9 h1 h2 h3 (fun h => by cases h); clear hK0
      go_simp; exact hK _ _ rfl (by repeat (first | exact Ext.refl _ | assumption | apply Ext.xt | apply Ext.alloc | apply Ext.drew | apply Ext.drewN)) rfl
    · (show SlotB _ _ _ _ _ _ _ _); intro u w1 hx1 hd; obtain ⟨y9, rfl⟩ := hx1.get; clear hx1
      have e0 : u 0 = .agg #[.int .i64 a.id, .int .i64 a.term, .bool a.speaks, .slice A a.log.length c, .int .i64 a.acked, .int .i64 a.next] := hd 0 (by kernel_rfl)
      simp only [e0]
      refine slot_runB rfl rfl rfl ?_; intro K9 hK0
      have hK := fun a9 w9 h1 h2 h3 => hK0 a9 w9 h1 h2 h3 (fun h => by cases h); clear hK0
      go_simp; go_at_call 23; refine (l54_Of a A c _ ((HS.out.mono hex).mono (by repeat (first | exact Ext.refl _ | assumption | apply Ext.xt | apply Ext.alloc | apply Ext.drew | apply Ext.drewN))) hb1).mono ?_; rintro e w' ⟨D, K, rfl, hx, hown⟩; exact hK _ _ rfl hx ⟨D, K, rfl, Own.recs hown rfl (fun r hr => (HS.out.el r hr).mono (hex.trans (Ext.trans (by repeat (first | exact Ext.refl _ | assumption | apply Ext.xt | apply Ext.alloc | apply Ext.drew | apply Ext.drewN)) hx)))⟩
    · (show SlotB _ _ _ _ _ _ _ _); intro u w1 hx1 hd; obtain ⟨y9, rfl⟩ := hx1.get; clear hx1
      refine slot_runB rfl rfl rfl ?_; intro K9 hK0
      have hK := fun a9 w9 h1 h2 h3 => hK0 a9 w9 h1 h2 h3 (fun h => by cases h); clear hK0
      go_simp; exact hK _ _ rfl (by repeat (first | exact Ext.refl _ | assumption | apply Ext.xt | apply Ext.alloc | apply Ext.drew | apply Ext.drewN)) rfl
    · (show SlotB _ _ _ _ _ _ _ _); intro u w1 hx1 hd; obtain ⟨y9, rfl⟩ := hx1.get; clear hx1
      have e2 : u 2 = .agg #[.int .i64 b.id, .int .i64 b.term, .bool b.speaks, .slice B b.log.length d, .int .i64 b.acked, .int .i64 b.next] := hd 2 (by kernel_rfl)
      simp only [e2]
      refine slot_runB rfl rfl rfl ?_; intro K9 hK0
      have hK := fun a9 w9 h1 h2 h3 => hK0 a9 w9 h1 h2 h3 (fun h => by cases h); clear hK0
      go_simp; go_at_call 23; refine (l54_Of b B d _ ((HM.out.mono hex).mono (by repeat (first | exact Ext.refl _ | assumption | apply Ext.xt | apply Ext.alloc | apply Ext.drew | apply Ext.drewN))) hb2).mono ?_; rintro e w' ⟨D, K, rfl, hx, hown⟩; exact hK _ _ rfl hx ⟨D, K, rfl, Own.recs hown rfl (fun r hr => (HM.out.el r hr).mono (hex.trans (Ext.trans (by repeat (first | exact Ext.refl _ | assumption | apply Ext.xt | apply Ext.alloc | apply Ext.drew | apply Ext.drewN)) hx)))⟩
    · (show SlotB _ _ _ _ _ _ _ _); intro u w1 hx1 hd; obtain ⟨y9, rfl⟩ := hx1.get; clear hx1
      obtain ⟨D1, K1, e1, h1⟩ := hd 1 (by kernel_rfl)
      obtain ⟨D3, K3, e3, h3⟩ := hd 3 (by kernel_rfl)
      simp only [e1, e3]
      refine slot_runB rfl rfl rfl ?_; intro K9 hK0
      have hK := fun a9 w9 h1 h2 h3 => hK0 a9 w9 h1 h2 h3 (fun h => by cases h); clear hK0
      go_simp; go_at_call 45; refine (HQ.out _ D1 K1 D3 K3 (h1.mono (by repeat (first | exact Ext.refl _ | assumption | apply Ext.xt | apply Ext.alloc | apply Ext.drew | apply Ext.drewN))) (h3.mono (by repeat (first | exact Ext.refl _ | assumption | apply Ext.xt | apply Ext.alloc | apply Ext.drew | apply Ext.drewN)))).mono ?_; rintro e w' ⟨D, K, E, J, rfl, hx, q1, q2⟩; exact hK _ _ rfl hx ⟨D, K, E, J, rfl, q1, q2⟩
    · (show SlotB _ _ _ _ _ _ _ _); intro u w1 hx1 hd; obtain ⟨y9, rfl⟩ := hx1.get; clear hx1
      obtain ⟨D4, K4, E4, J4, e4, h4, h4b⟩ := hd 4 (by kernel_rfl)
      simp only [e4]
      refine slot_runB rfl rfl rfl ?_; intro K9 hK0
      have hK := fun a9 w9 h1 h2 h3 => hK0 a9 w9 h1 h2 h3 (fun h => by cases h); clear hK0
      go_simp; exact hK _ _ rfl (by repeat (first | exact Ext.refl _ | assumption | apply Ext.xt | apply Ext.alloc | apply Ext.drew | apply Ext.drewN)) ⟨D4, K4, E4, J4, rfl, h4, h4b⟩
    · (show SlotB _ _ _ _ _ _ _ _); intro u w1 hx1 hd; obtain ⟨y9, rfl⟩ := hx1.get; clear hx1
      obtain ⟨D4, K4, E4, J4, e5, h4, h4b⟩ := hd 5 (by kernel_rfl)
      simp only [e5]
      refine slot_runB rfl rfl rfl ?_; intro K9 hK0
      have hK := fun a9 w9 h1 h2 h3 => hK0 a9 w9 h1 h2 h3 (fun h => by cases h); clear hK0
      go_simp; exact hK _ _ rfl (by repeat (first | exact Ext.refl _ | assumption | apply Ext.xt | apply Ext.alloc | apply Ext.drew | apply Ext.drewN)) ⟨D4, K4, rfl, h4⟩
    · (show PureA _ _ _ _ _ _); intro u w1 hx1 hd; obtain ⟨y9, rfl⟩ := hx1.get; clear hx1
      obtain ⟨D4, K4, E4, J4, e5, h4, h4b⟩ := hd 5 (by kernel_rfl)
      simp only [e5]
      refine pure_run (v := .agg #[.int .i64 y1.id, .int .i64 y1.term, .bool y1.speaks, .slice E4 y1.log.length J4, .int .i64 y1.acked, .int .i64 y1.next]) rfl rfl (fun w9 => ?_) ⟨E4, J4, rfl, h4b⟩
      go_simp
    · (show PureA _ _ _ _ _ _); intro u w1 hx1 hd; obtain ⟨y9, rfl⟩ := hx1.get; clear hx1
      obtain ⟨D4, K4, E4, J4, e5, h4, h4b⟩ := hd 5 (by kernel_rfl)
      simp only [e5]
      refine pure_run (v := .int .i64 cn) rfl rfl (fun w9 => ?_) rfl
      go_simp
    · (show PureA _ _ _ _ _ _); intro u w1 hx1 hd; obtain ⟨y9, rfl⟩ := hx1.get; clear hx1
      obtain ⟨D4, K4, E4, J4, e5, h4, h4b⟩ := hd 5 (by kernel_rfl)
      simp only [e5]
      refine pure_run (v := .int .i64 er) rfl rfl (fun w9 => ?_) rfl
      go_simp
    · (show SlotB _ _ _ _ _ _ _ _); intro u w1 hx1 hd; obtain ⟨y9, rfl⟩ := hx1.get; clear hx1
      refine slot_runB rfl rfl rfl ?_; intro K9 hK0
      go_simp; exact hK0 _ _ rfl (by repeat (first | exact Ext.refl _ | assumption | apply Ext.xt | apply Ext.alloc | apply Ext.drew | apply Ext.drewN)) ⟨_, rfl, (by first | omega | (simp [go_sem]; done) | (simp [go_sem]; omega)), BoxAt.new (by first | rfl | simp [go_sem]) _ _⟩ (fun _ => ⟨_, rfl, by first | exact Nat.le_refl _ | simp [go_sem]⟩)
    · (show SlotB _ _ _ _ _ _ _ _); intro u w1 hx1 hd; obtain ⟨y9, rfl⟩ := hx1.get; clear hx1
      refine slot_runB rfl rfl rfl ?_; intro K9 hK0
      go_simp; exact hK0 _ _ rfl (by repeat (first | exact Ext.refl _ | assumption | apply Ext.xt | apply Ext.alloc | apply Ext.drew | apply Ext.drewN)) ⟨_, rfl, (by first | omega | (simp [go_sem]; done) | (simp [go_sem]; omega)), BoxAt.new (by first | rfl | simp [go_sem]) _ _⟩ (fun _ => ⟨_, rfl, by first | exact Nat.le_refl _ | simp [go_sem]⟩)
  · intro u w2 hx2 hT hdd; obtain ⟨t0, t1, t2, t3, t4, t5, t6, t7, t8, t9, t10, t11, -⟩ := hT; obtain ⟨y9, rfl⟩ := hx2.get; clear hx2
    obtain ⟨D6, K6, e6, h6⟩ := t6
    obtain ⟨D7, K7, e7, h7⟩ := t7
    have e8 : u 8 = .int .i64 cn := t8
    have e9 : u 9 = .int .i64 er := t9
    obtain ⟨g10, e10, hg10, b10⟩ := t10
    obtain ⟨g11, e11, hg11, b11⟩ := t11
    have hne0 := hdd 10 11 (by decide) (by decide) (by kernel_rfl) (by kernel_rfl) (by decide)
    rw [e10, e11] at hne0
    replace hne0 : g10 ≠ g11 := fun h => hne0 (by rw [h])
    clear hdd
    simp only [e6, e7, e8, e9, e10, e11]
    clear e6 e7 e8 e9 e10 e11 t0 t1 t2 t3 t4 t5 t8 t9
    simp only [List.drop_succ_cons, List.drop_zero]
    have hxx : Ext W9 (xt W9.drew y9) := by repeat (first | exact Ext.refl _ | assumption | apply Ext.xt | apply Ext.alloc | apply Ext.drew | apply Ext.drewN)
    go_wp2_with (first
      | (refine wpList_store_at rfl 65 (.tmp 9) (.tmp 45) rfl b10 rfl [.int .i64 x1.id, .int .i64 x1.term, .bool x1.speaks, .slice D6 x1.log.length K6, .int .i64 x1.acked, .int .i64 x1.next] rfl rfl (show 6 < 44 by decide) (by kernel_rfl) (nodl_one x1 D6 K6) ?_; intro W1 ht1 hb1')
      | (refine wpList_store_at rfl 65 (.tmp 10) (.tmp 46) rfl (b11.turn ht1 (by omega)) rfl [.int .i64 y1.id, .int .i64 y1.term, .bool y1.speaks, .slice D7 y1.log.length K7, .int .i64 y1.acked, .int .i64 y1.next] rfl rfl (show 6 < 44 by decide) (by kernel_rfl) (nodl_one y1 D7 K7) ?_; intro W2 ht2 hb2'))
    have j5 := ((k5.mono hxx).turn ht1 (by have := k5.lt; omega)).turn ht2 (by have := k5.lt; omega)
    have j6 := ((k6.mono hxx).turn ht1 (by have := k6.lt; omega)).turn ht2 (by have := k6.lt; omega)
    have j9 := hb1'.turn ht2 (by omega)
    have hex2 : Ext w W2 := ht2.ext (ht1.ext (hex.trans hxx) (by have := hex.size; omega)) (by have := hex.size; omega)
    have l5 := ((hl5.mono hxx).turn ht1).turn ht2
    have l5y := ((hl6.mono hxx).turn ht1).turn ht2
    have l6 := (h6.turn ht1).turn ht2
    have l7 := (h7.turn ht1).turn ht2
    obtain ⟨q0, q1, q2, q3, q4, q5⟩ := j5.six
    obtain ⟨r0, r1, r2, r3, r4, r5⟩ := j6.six
    obtain ⟨s0, s1, s2, s3, s4, s5⟩ := j9.six
    obtain ⟨v0, v1, v2, v3, v4, v5⟩ := hb2'.six
    clear c0 c1 c2 c3 c4 c5 d0 d1 d2 d3 d4 d5
    refine wp_region_stab 24 [] [Stab.is (.agg #[.int .i64 x1.id, .int .i64 x1.term, .bool x1.speaks, .slice D x1.log.length K, .int .i64 x1.acked, .int .i64 x1.next]), Stab.nodR x1, Stab.is (.agg #[.int .i64 x1.id, .int .i64 x1.term, .bool x1.speaks, .slice D6 x1.log.length K6, .int .i64 x1.acked, .int .i64 x1.next]), Stab.is (.bool true), Stab.is (.bool true), Stab.is (.agg #[.int .i64 y1.id, .int .i64 y1.term, .bool y1.speaks, .slice E y1.log.length J, .int .i64 y1.acked, .int .i64 y1.next]), Stab.nodR y1, Stab.is (.agg #[.int .i64 y1.id, .int .i64 y1.term, .bool y1.speaks, .slice D7 y1.log.length K7, .int .i64 y1.acked, .int .i64 y1.next]), Stab.is (.bool true), Stab.is (.bool true), Stab.is (.bool true), Stab.is (.int .i64 cn), Stab.is (.int .i64 cn), Stab.is (.bool true), Stab.is (.bool true), Stab.is (.bool true), Stab.is (.int .i64 er), Stab.is (.int .i64 er), Stab.is (.bool true), Stab.is (.bool true), Stab.is (.bool true), Stab.is (.bool true), Stab.is (.bool true), Stab.is (.bool true)] (fun u => by (simp only [putAll, List.take_succ_cons, List.take_zero, Act.put, Nat.zero_add, Nat.reduceAdd]); (try simp only [List.setIfInBounds_toArray]); (repeat (first | simp only [List.set_cons_succ] | simp only [List.set_cons_zero])); exact rfl) (by kernel_rfl) (by kernel_rfl) (fun _ _ _ _ _ h => h) ?_ ?_
    · refine ⟨?_, ?_, ?_, ?_, ?_, ?_, ?_, ?_, ?_, ?_, ?_, ?_, ?_, ?_, ?_, ?_, ?_, ?_, ?_, ?_, ?_, ?_, ?_, ?_, trivial⟩
      · (show SlotA _ _ _ _ _ _ _); intro u w1 hx1 hd; obtain ⟨y9, rfl⟩ := hx1.get; clear hx1
        refine slot_run rfl rfl rfl ?_; intro K9 hK
        go_simp; exact hK _ _ rfl (by repeat (first | exact Ext.refl _ | assumption | apply Ext.xt | apply Ext.alloc | apply Ext.drew | apply Ext.drewN)) rfl
      · (show SlotA _ _ _ _ _ _ _); intro u w1 hx1 hd; obtain ⟨y9, rfl⟩ := hx1.get; clear hx1
        have e0 : u 0 = .agg #[.int .i64 x1.id, .int .i64 x1.term, .bool x1.speaks, .slice D x1.log.length K, .int .i64 x1.acked, .int .i64 x1.next] := hd 0 (by kernel_rfl)
        simp only [e0]
        refine slot_run rfl rfl rfl ?_; intro K9 hK
        go_simp; go_at_call 23; refine (l54_Of x1 D K _ (l5.recs hex2 (by repeat (first | exact Ext.refl _ | assumption | apply Ext.xt | apply Ext.alloc | apply Ext.drew | apply Ext.drewN))) hb3).mono ?_; rintro e w' ⟨D, K, rfl, hx, hown⟩; exact hK _ _ rfl hx ⟨D, K, rfl, Own.recs hown rfl (fun r hr => (HE1.out r hr).mono (hex2.trans (Ext.trans (by repeat (first | exact Ext.refl _ | assumption | apply Ext.xt | apply Ext.alloc | apply Ext.drew | apply Ext.drewN)) hx)))⟩
      · (show SlotA _ _ _ _ _ _ _); intro u w1 hx1 hd; obtain ⟨y9, rfl⟩ := hx1.get; clear hx1
        refine slot_run rfl rfl rfl ?_; intro K9 hK
        go_simp; exact hK _ _ rfl (by repeat (first | exact Ext.refl _ | assumption | apply Ext.xt | apply Ext.alloc | apply Ext.drew | apply Ext.drewN)) rfl
      · (show SlotA _ _ _ _ _ _ _); intro u w1 hx1 hd; obtain ⟨y9, rfl⟩ := hx1.get; clear hx1
        obtain ⟨D1, K1, e1, h1⟩ := hd 1 (by kernel_rfl)
        have e2 : u 2 = .agg #[.int .i64 x1.id, .int .i64 x1.term, .bool x1.speaks, .slice D6 x1.log.length K6, .int .i64 x1.acked, .int .i64 x1.next] := hd 2 (by kernel_rfl)
        simp only [e1, e2]
        refine slot_run rfl rfl rfl ?_; intro K9 hK
        go_simp; go_at_call 25; refine (r54_Same_self x1 D1 K1 D6 K6 _ (h1.mono (by repeat (first | exact Ext.refl _ | assumption | apply Ext.xt | apply Ext.alloc | apply Ext.drew | apply Ext.drewN))) (l6.recs hex2 (by repeat (first | exact Ext.refl _ | assumption | apply Ext.xt | apply Ext.alloc | apply Ext.drew | apply Ext.drewN)))).mono ?_; rintro e w' ⟨rfl, hx⟩; exact hK _ _ rfl hx rfl
      · (show SlotA _ _ _ _ _ _ _); intro u w1 hx1 hd; obtain ⟨y9, rfl⟩ := hx1.get; clear hx1
        have e3 : u 3 = .bool true := hd 3 (by kernel_rfl)
        simp only [e3]
        refine slot_run rfl rfl rfl ?_; intro K9 hK
        go_simp; exact hK _ _ rfl (by repeat (first | exact Ext.refl _ | assumption | apply Ext.xt | apply Ext.alloc | apply Ext.drew | apply Ext.drewN)) rfl
      · (show SlotA _ _ _ _ _ _ _); intro u w1 hx1 hd; obtain ⟨y9, rfl⟩ := hx1.get; clear hx1
        have e4 : u 4 = .bool true := hd 4 (by kernel_rfl)
        simp only [e4]
        refine slot_run rfl rfl rfl ?_; intro K9 hK
        go_simp; exact hK _ _ rfl (by repeat (first | exact Ext.refl _ | assumption | apply Ext.xt | apply Ext.alloc | apply Ext.drew | apply Ext.drewN)) rfl
      · (show SlotA _ _ _ _ _ _ _); intro u w1 hx1 hd; obtain ⟨y9, rfl⟩ := hx1.get; clear hx1
        have e4 : u 4 = .bool true := hd 4 (by kernel_rfl)
        have e5 : u 5 = .agg #[.int .i64 y1.id, .int .i64 y1.term, .bool y1.speaks, .slice E y1.log.length J, .int .i64 y1.acked, .int .i64 y1.next] := hd 5 (by kernel_rfl)
        simp only [e4, e5]
        refine slot_run rfl rfl rfl ?_; intro K9 hK
        go_simp; go_at_call 23; refine (l54_Of y1 E J _ (l5y.recs hex2 (by repeat (first | exact Ext.refl _ | assumption | apply Ext.xt | apply Ext.alloc | apply Ext.drew | apply Ext.drewN))) hb4).mono ?_; rintro e w' ⟨D, K, rfl, hx, hown⟩; exact hK _ _ rfl hx ⟨D, K, rfl, Own.recs hown rfl (fun r hr => (HE2.out r hr).mono (hex2.trans (Ext.trans (by repeat (first | exact Ext.refl _ | assumption | apply Ext.xt | apply Ext.alloc | apply Ext.drew | apply Ext.drewN)) hx)))⟩
      · (show SlotA _ _ _ _ _ _ _); intro u w1 hx1 hd; obtain ⟨y9, rfl⟩ := hx1.get; clear hx1
        have e4 : u 4 = .bool true := hd 4 (by kernel_rfl)
        simp only [e4]
        refine slot_run rfl rfl rfl ?_; intro K9 hK
        go_simp; exact hK _ _ rfl (by repeat (first | exact Ext.refl _ | assumption | apply Ext.xt | apply Ext.alloc | apply Ext.drew | apply Ext.drewN)) rfl
      · (show SlotA _ _ _ _ _ _ _); intro u w1 hx1 hd; obtain ⟨y9, rfl⟩ := hx1.get; clear hx1
        have e4 : u 4 = .bool true := hd 4 (by kernel_rfl)
        obtain ⟨D5, K5, e6, h5⟩ := hd 6 (by kernel_rfl)
        have e7 : u 7 = .agg #[.int .i64 y1.id, .int .i64 y1.term, .bool y1.speaks, .slice D7 y1.log.length K7, .int .i64 y1.acked, .int .i64 y1.next] := hd 7 (by kernel_rfl)
        simp only [e4, e6, e7]
        refine slot_run rfl rfl rfl ?_; intro K9 hK
        go_simp; go_at_call 25; refine (r54_Same_self y1 D5 K5 D7 K7 _ (h5.mono (by repeat (first | exact Ext.refl _ | assumption | apply Ext.xt | apply Ext.alloc | apply Ext.drew | apply Ext.drewN))) (l7.recs hex2 (by repeat (first | exact Ext.refl _ | assumption | apply Ext.xt | apply Ext.alloc | apply Ext.drew | apply Ext.drewN)))).mono ?_; rintro e w' ⟨rfl, hx⟩; exact hK _ _ rfl hx rfl
      · (show SlotA _ _ _ _ _ _ _); intro u w1 hx1 hd; obtain ⟨y9, rfl⟩ := hx1.get; clear hx1
        have e4 : u 4 = .bool true := hd 4 (by kernel_rfl)
        have e8 : u 8 = .bool true := hd 8 (by kernel_rfl)
        simp only [e4, e8]
        refine slot_run rfl rfl rfl ?_; intro K9 hK
        go_simp; exact hK _ _ rfl (by repeat (first | exact Ext.refl _ | assumption | apply Ext.xt | apply Ext.alloc | apply Ext.drew | apply Ext.drewN)) rfl
      · (show SlotA _ _ _ _ _ _ _); intro u w1 hx1 hd; obtain ⟨y9, rfl⟩ := hx1.get; clear hx1
        have e9 : u 9 = .bool true := hd 9 (by kernel_rfl)
        simp only [e9]
        refine slot_run rfl rfl rfl ?_; intro K9 hK
        go_simp; exact hK _ _ rfl (by repeat (first | exact Ext.refl _ | assumption | apply Ext.xt | apply Ext.alloc | apply Ext.drew | apply Ext.drewN)) rfl
      · (show SlotA _ _ _ _ _ _ _); intro u w1 hx1 hd; obtain ⟨y9, rfl⟩ := hx1.get; clear hx1
        have e10 : u 10 = .bool true := hd 10 (by kernel_rfl)
        simp only [e10]
        refine slot_run rfl rfl rfl ?_; intro K9 hK
        go_simp; exact hK _ _ rfl (by repeat (first | exact Ext.refl _ | assumption | apply Ext.xt | apply Ext.alloc | apply Ext.drew | apply Ext.drewN)) rfl
      · (show SlotA _ _ _ _ _ _ _); intro u w1 hx1 hd; obtain ⟨y9, rfl⟩ := hx1.get; clear hx1
        have e10 : u 10 = .bool true := hd 10 (by kernel_rfl)
        simp only [e10]
        refine slot_run rfl rfl rfl ?_; intro K9 hK
        go_simp; exact hK _ _ rfl (by repeat (first | exact Ext.refl _ | assumption | apply Ext.xt | apply Ext.alloc | apply Ext.drew | apply Ext.drewN)) rfl
      · (show SlotA _ _ _ _ _ _ _); intro u w1 hx1 hd; obtain ⟨y9, rfl⟩ := hx1.get; clear hx1
        have e10 : u 10 = .bool true := hd 10 (by kernel_rfl)
        have e11 : u 11 = .int .i64 cn := hd 11 (by kernel_rfl)
        have e12 : u 12 = .int .i64 cn := hd 12 (by kernel_rfl)
        simp only [e10, e11, e12]
        refine slot_run rfl rfl rfl ?_; intro K9 hK
        go_simp; exact hK _ _ rfl (by repeat (first | exact Ext.refl _ | assumption | apply Ext.xt | apply Ext.alloc | apply Ext.drew | apply Ext.drewN)) rfl
      · (show SlotA _ _ _ _ _ _ _); intro u w1 hx1 hd; obtain ⟨y9, rfl⟩ := hx1.get; clear hx1
        have e10 : u 10 = .bool true := hd 10 (by kernel_rfl)
        have e13 : u 13 = .bool true := hd 13 (by kernel_rfl)
        simp only [e10, e13]
        refine slot_run rfl rfl rfl ?_; intro K9 hK
        go_simp; exact hK _ _ rfl (by repeat (first | exact Ext.refl _ | assumption | apply Ext.xt | apply Ext.alloc | apply Ext.drew | apply Ext.drewN)) rfl
      · (show SlotA _ _ _ _ _ _ _); intro u w1 hx1 hd; obtain ⟨y9, rfl⟩ := hx1.get; clear hx1
        have e14 : u 14 = .bool true := hd 14 (by kernel_rfl)
        simp only [e14]
        refine slot_run rfl rfl rfl ?_; intro K9 hK
        go_simp; exact hK _ _ rfl (by repeat (first | exact Ext.refl _ | assumption | apply Ext.xt | apply Ext.alloc | apply Ext.drew | apply Ext.drewN)) rfl
      · (show SlotA _ _ _ _ _ _ _); intro u w1 hx1 hd; obtain ⟨y9, rfl⟩ := hx1.get; clear hx1
        have e15 : u 15 = .bool true := hd 15 (by kernel_rfl)
        simp only [e15]
        refine slot_run rfl rfl rfl ?_; intro K9 hK
        go_simp; exact hK _ _ rfl (by repeat (first | exact Ext.refl _ | assumption | apply Ext.xt | apply Ext.alloc | apply Ext.drew | apply Ext.drewN)) rfl
      · (show SlotA _ _ _ _ _ _ _); intro u w1 hx1 hd; obtain ⟨y9, rfl⟩ := hx1.get; clear hx1
        have e15 : u 15 = .bool true := hd 15 (by kernel_rfl)
        simp only [e15]
        refine slot_run rfl rfl rfl ?_; intro K9 hK
        go_simp; exact hK _ _ rfl (by repeat (first | exact Ext.refl _ | assumption | apply Ext.xt | apply Ext.alloc | apply Ext.drew | apply Ext.drewN)) rfl
      · (show SlotA _ _ _ _ _ _ _); intro u w1 hx1 hd; obtain ⟨y9, rfl⟩ := hx1.get; clear hx1
        have e15 : u 15 = .bool true := hd 15 (by kernel_rfl)
        have e16 : u 16 = .int .i64 er := hd 16 (by kernel_rfl)
        have e17 : u 17 = .int .i64 er := hd 17 (by kernel_rfl)
        simp only [e15, e16, e17]
        refine slot_run rfl rfl rfl ?_; intro K9 hK
        go_simp; exact hK _ _ rfl (by repeat (first | exact Ext.refl _ | assumption | apply Ext.xt | apply Ext.alloc | apply Ext.drew | apply Ext.drewN)) rfl
      · (show SlotA _ _ _ _ _ _ _); intro u w1 hx1 hd; obtain ⟨y9, rfl⟩ := hx1.get; clear hx1
        have e15 : u 15 = .bool true := hd 15 (by kernel_rfl)
        have e18 : u 18 = .bool true := hd 18 (by kernel_rfl)
        simp only [e15, e18]
        refine slot_run rfl rfl rfl ?_; intro K9 hK
        go_simp; exact hK _ _ rfl (by repeat (first | exact Ext.refl _ | assumption | apply Ext.xt | apply Ext.alloc | apply Ext.drew | apply Ext.drewN)) rfl
      · (show SlotA _ _ _ _ _ _ _); intro u w1 hx1 hd; obtain ⟨y9, rfl⟩ := hx1.get; clear hx1
        have e19 : u 19 = .bool true := hd 19 (by kernel_rfl)
        simp only [e19]
        refine slot_run rfl rfl rfl ?_; intro K9 hK
        go_simp; exact hK _ _ rfl (by repeat (first | exact Ext.refl _ | assumption | apply Ext.xt | apply Ext.alloc | apply Ext.drew | apply Ext.drewN)) rfl
      · (show SlotA _ _ _ _ _ _ _); intro u w1 hx1 hd; obtain ⟨y9, rfl⟩ := hx1.get; clear hx1
        have e20 : u 20 = .bool true := hd 20 (by kernel_rfl)
        simp only [e20]
        refine slot_run rfl rfl rfl ?_; intro K9 hK
        go_simp; go_at_call 20; refine (l54_awake _).mono ?_; rintro e w' ⟨rfl, hx⟩; exact hK _ _ rfl hx rfl
      · (show SlotA _ _ _ _ _ _ _); intro u w1 hx1 hd; obtain ⟨y9, rfl⟩ := hx1.get; clear hx1
        have e20 : u 20 = .bool true := hd 20 (by kernel_rfl)
        have e21 : u 21 = .bool true := hd 21 (by kernel_rfl)
        simp only [e20, e21]
        refine slot_run rfl rfl rfl ?_; intro K9 hK
        go_simp; exact hK _ _ rfl (by repeat (first | exact Ext.refl _ | assumption | apply Ext.xt | apply Ext.alloc | apply Ext.drew | apply Ext.drewN)) rfl
      · (show SlotA _ _ _ _ _ _ _); intro u w1 hx1 hd; obtain ⟨y9, rfl⟩ := hx1.get; clear hx1
        have e22 : u 22 = .bool true := hd 22 (by kernel_rfl)
        simp only [e22]
        refine slot_run rfl rfl rfl ?_; intro K9 hK
        go_simp; exact hK _ _ rfl (by repeat (first | exact Ext.refl _ | assumption | apply Ext.xt | apply Ext.alloc | apply Ext.drew | apply Ext.drewN)) rfl
    · intro u w2 hx2 hT; obtain ⟨t0, t1, t2, t3, t4, t5, t6, t7, t8, t9, t10, t11, t12, t13, t14, t15, t16, t17, t18, t19, t20, t21, t22, t23, -⟩ := hT; obtain ⟨y9, rfl⟩ := hx2.get; clear hx2
      have e23 : u 23 = .bool true := t23
      simp only [e23]
      clear e23 t0 t1 t2 t3 t4 t5 t6 t7 t8 t9 t10 t11 t12 t13 t14 t15 t16 t17 t18 t19 t20 t21 t22 t23
      simp only [List.drop_succ_cons, List.drop_zero]
      refine wpList_nil ?_
      go_wp2
      go_ret
      exact ⟨rfl, hex2.trans (by repeat (first | exact Ext.refl _ | assumption | apply Ext.xt | apply Ext.alloc | apply Ext.drew | apply Ext.drewN))⟩
end
end Go.Proofs.YtlpboikonnpjbaaGreat
