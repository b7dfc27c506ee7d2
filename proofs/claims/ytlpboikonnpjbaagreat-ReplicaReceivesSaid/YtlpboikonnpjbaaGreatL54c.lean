/-
  ReplicaReceives.
-/
import Derived.Test.YtlpboikonnpjbaaGreatQStab
import Derived.Test.YtlpboikonnpjbaaGreatL54a
namespace Go.Proofs.YtlpboikonnpjbaaGreat
open Go.RowKit

section
variable (n : Nod) (A : Option Addr) (c : Nat) (m : Msg) (B : Option Addr) (d : Nat) (w : World) (hs : RecsAt w A c n.log) (hm : RecsAt w B d m.recs) (hb1 : n.log.length * 552 ≤ 140737488355328) (hb2 : m.recs.length * 552 ≤ 140737488355328)
include hs hm hb1 hb2
set_option maxHeartbeats 6400000 in
set_option maxRecDepth 100000 in
theorem l54_Receives : Calls Tryz.prog 4 #[.agg #[.int .i64 n.id, .int .i64 n.term, .bool n.speaks, .slice A n.log.length c, .int .i64 n.acked, .int .i64 n.next], .agg #[.int .i64 m.kind, .int .i64 m.term, .int .i64 m.at_, .int .i64 m.before, .slice B m.recs.length d, .int .i64 m.acked]] w fun e w' => e = .returned (.bool true) ∧ Ext w w' := by
  have HS := Lib.hid hs
  have HM := Lib.hid hm
  obtain ⟨⟨x1, a1, ok, er⟩, hv⟩ : ∃ v, recvV n m = v := ⟨_, rfl⟩
  have HC := Lib.hid (fun (W : World) (hx : Ext w W) => rep_Receive_as n A c m B d W (hs.mono hx) (hm.mono hx) x1 a1 ok er hv)
  have HV := Lib.hid hv
  have HEL := Lib.hid (show ∀ r ∈ x1.log, AcnAt w r.act from fun r hr => by
    have hr' : r ∈ (recvV n m).1.log := by rw [hv]; exact hr
    rcases recvV_log n m r hr' with h | h
    · exact hs.el r h
    · exact hm.el r h)
  have hb3 : x1.log.length * 552 ≤ 140737488355328 := by
    have := recvV_len n m
    rw [hv] at this
    simp only at this
    omega
  clear hv hs hm
  go_enter Tryz.func4, Tryz.ntmps4
  go_wp2_with (first
    | (go_at_call 17; refine (l54_few _ 1 [(n, A, c)] _ (Sl.alloc' (by simp [go_sem]) (by simp [nodR]) (by simp [nodR])) (by simp) (fun x hx => by rw [List.mem_singleton.1 hx]; exact HS.out.mono (by repeat (first | exact Ext.refl _ | assumption | apply Ext.xt | apply Ext.alloc | apply Ext.drew | apply Ext.drewN))) (fun x hx => by rw [List.mem_singleton.1 hx]; exact hb1)).mono ?_; rintro e w' ⟨⟨bb, rfl, hbb⟩, hx⟩; have HBB := Lib.hid hbb; obtain ⟨ya, rfl⟩ := hx.get; clear hx hbb)
    | (go_at_call 19; refine (l54_records B d m.recs _ (HM.out.mono (by repeat (first | exact Ext.refl _ | assumption | apply Ext.xt | apply Ext.alloc | apply Ext.drew | apply Ext.drewN))) hb2).mono ?_; rintro e w' ⟨D, n', rfl, hx, hown⟩; have HO := Lib.hid hown; obtain ⟨yc, rfl⟩ := hx.get; clear hx hown)
    | (go_at_call 18; refine (r54_FewRecords D n' _ m.recs rfl _ (Own.recs (HO.out.mono (by repeat (first | exact Ext.refl _ | assumption | apply Ext.xt | apply Ext.alloc | apply Ext.drew | apply Ext.drewN))) rfl (fun r hr => (HM.out.el r hr).mono (by repeat (first | exact Ext.refl _ | assumption | apply Ext.xt | apply Ext.alloc | apply Ext.drew | apply Ext.drewN))))).mono ?_; rintro e w' ⟨⟨b2, rfl, -⟩, hx⟩; obtain ⟨yd, rfl⟩ := hx.get; clear hx)
    | (go_at_call 20; refine (l54_awake _).mono ?_; rintro e w' ⟨rfl, hx⟩; obtain ⟨y, rfl⟩ := hx.get; clear hx))
  all_goals try (go_ret; exact ⟨rfl, by repeat (first | exact Ext.refl _ | assumption | apply Ext.xt | apply Ext.alloc | apply Ext.drew | apply Ext.drewN)⟩)
  go_at_call 21; refine (HC.out _ (by repeat (first | exact Ext.refl _ | assumption | apply Ext.xt | apply Ext.alloc | apply Ext.drew | apply Ext.drewN))).mono ?_; rintro e w' ⟨D, K, rfl, hx, hl⟩; have HL := Lib.hid (LogIn.logw (w := w) hl rfl hx HEL.out); obtain ⟨ye, rfl⟩ := hx.get; clear hx hl
  go_wp2_with fail
  refine wp_name (fun W9 hW9 => ?_)
  have k2 : BoxAt W9 w.heap.size [.int .i64 n.id, .int .i64 n.term, .bool n.speaks, .slice A n.log.length c, .int .i64 n.acked, .int .i64 n.next] 55 := by rw [hW9]; exact (by repeat (first | exact BoxAt.new (by first | rfl | (simp [go_sem]; done) | (simp [go_sem]; omega)) _ _ | apply BoxAt.xt | apply BoxAt.drew | apply BoxAt.drewN | apply BoxAt.alloc))
  have k3 : BoxAt W9 (w.heap.size + 1) [.int .i64 m.kind, .int .i64 m.term, .int .i64 m.at_, .int .i64 m.before, .slice B m.recs.length d, .int .i64 m.acked] 57 := by rw [hW9]; exact (by repeat (first | exact BoxAt.new (by first | rfl | (simp [go_sem]; done) | (simp [go_sem]; omega)) _ _ | apply BoxAt.xt | apply BoxAt.drew | apply BoxAt.drewN | apply BoxAt.alloc))
  have k5 : BoxAt W9 (w.heap.size + 1 + 1 + 1 + ya.n + yc.n + yd.n + ye.n) [.int .i64 x1.id, .int .i64 x1.term, .bool x1.speaks, .slice D x1.log.length K, .int .i64 x1.acked, .int .i64 x1.next] 55 := by rw [hW9]; exact (by repeat (first | exact BoxAt.new (by first | rfl | (simp [go_sem]; done) | (simp [go_sem]; omega)) _ _ | apply BoxAt.xt | apply BoxAt.drew | apply BoxAt.drewN | apply BoxAt.alloc))
  have k6 : BoxAt W9 (w.heap.size + 1 + 1 + 1 + ya.n + yc.n + yd.n + ye.n + 1) [.int .i64 a1.kind, .int .i64 a1.term, .int .i64 a1.at_, .int .i64 0, .slice none 0 0, .int .i64 0] 57 := by rw [hW9]; exact (by repeat (first | exact BoxAt.new (by first | rfl | (simp [go_sem]; done) | (simp [go_sem]; omega)) _ _ | apply BoxAt.xt | apply BoxAt.drew | apply BoxAt.drewN | apply BoxAt.alloc))
  have hex : Ext w W9 := by rw [hW9]; exact (by repeat (first | exact Ext.refl _ | assumption | apply Ext.xt | apply Ext.alloc | apply Ext.drew | apply Ext.drewN))
  have hl5 : LogW w W9 D x1.log.length K x1.log := by rw [hW9]; exact HL.out.mono (by repeat (first | exact Ext.refl _ | assumption | apply Ext.xt | apply Ext.alloc | apply Ext.drew | apply Ext.drewN))
  clear hW9 HL
  obtain ⟨c0, c1, c2, c3, c4, c5⟩ := k2.six
  obtain ⟨d0, d1, d2, d3, d4, d5⟩ := k3.six
  refine wp_region_stab 12 [7, 8, 9] [Stab.is (.agg #[.int .i64 n.id, .int .i64 n.term, .bool n.speaks, .slice A n.log.length c, .int .i64 n.acked, .int .i64 n.next]), Stab.nodR n, Stab.is (.agg #[.int .i64 m.kind, .int .i64 m.term, .int .i64 m.at_, .int .i64 m.before, .slice B m.recs.length d, .int .i64 m.acked]), Stab.msg m, Stab.recv w x1 a1 ok er, Stab.recv w x1 a1 ok er, Stab.nod w x1, Stab.is (.agg #[.int .i64 a1.kind, .int .i64 a1.term, .int .i64 a1.at_, .int .i64 0, .slice none 0 0, .int .i64 0]), Stab.is (.bool ok), Stab.is (.int .i64 er), Stab.box W9.heap.size [.int .i64 0, .int .i64 0, .bool false, .slice none 0 0, .int .i64 0, .int .i64 0] 65, Stab.box W9.heap.size [.int .i64 0, .int .i64 0, .int .i64 0, .int .i64 0, .slice none 0 0, .int .i64 0] 67] (fun u => by (simp only [putAll, List.take_succ_cons, List.take_zero, Act.put, Nat.zero_add, Nat.reduceAdd]); (try simp only [List.setIfInBounds_toArray]); (repeat (first | simp only [List.set_cons_succ] | simp only [List.set_cons_zero])); exact rfl) (by kernel_rfl) (by kernel_rfl) (fun _ _ _ _ _ h => h) ?_ ?_
  · refine ⟨?_, ?_, ?_, ?_, ?_, ?_, ?_, ?_, ?_, ?_, ?_, ?_, trivial⟩
    · (show SlotA _ _ _ _ _ _ _); intro u w1 hx1 hd; obtain ⟨y9, rfl⟩ := hx1.get; clear hx1
      refine slot_run rfl rfl rfl ?_; intro K9 hK
      go_simp; exact hK _ _ rfl (by repeat (first | exact Ext.refl _ | assumption | apply Ext.xt | apply Ext.alloc | apply Ext.drew | apply Ext.drewN)) rfl
    · (show SlotA _ _ _ _ _ _ _); intro u w1 hx1 hd; obtain ⟨y9, rfl⟩ := hx1.get; clear hx1
      have e0 : u 0 = .agg #[.int .i64 n.id, .int .i64 n.term, .bool n.speaks, .slice A n.log.length c, .int .i64 n.acked, .int .i64 n.next] := hd 0 (by kernel_rfl)
      simp only [e0]
      refine slot_run rfl rfl rfl ?_; intro K9 hK
      go_simp; go_at_call 23; refine (l54_Of n A c _ ((HS.out.mono hex).mono (by repeat (first | exact Ext.refl _ | assumption | apply Ext.xt | apply Ext.alloc | apply Ext.drew | apply Ext.drewN))) hb1).mono ?_; rintro e w' ⟨D, K, rfl, hx, hown⟩; exact hK _ _ rfl hx ⟨D, K, rfl, Own.recs hown rfl (fun r hr => (HS.out.el r hr).mono (hex.trans (Ext.trans (by repeat (first | exact Ext.refl _ | assumption | apply Ext.xt | apply Ext.alloc | apply Ext.drew | apply Ext.drewN)) hx)))⟩
    · (show SlotA _ _ _ _ _ _ _); intro u w1 hx1 hd; obtain ⟨y9, rfl⟩ := hx1.get; clear hx1
      refine slot_run rfl rfl rfl ?_; intro K9 hK
      go_simp; exact hK _ _ rfl (by repeat (first | exact Ext.refl _ | assumption | apply Ext.xt | apply Ext.alloc | apply Ext.drew | apply Ext.drewN)) rfl
    · (show SlotA _ _ _ _ _ _ _); intro u w1 hx1 hd; obtain ⟨y9, rfl⟩ := hx1.get; clear hx1
      have e2 : u 2 = .agg #[.int .i64 m.kind, .int .i64 m.term, .int .i64 m.at_, .int .i64 m.before, .slice B m.recs.length d, .int .i64 m.acked] := hd 2 (by kernel_rfl)
      simp only [e2]
      refine slot_run rfl rfl rfl ?_; intro K9 hK
      go_simp; go_at_call 24; refine (l54_Said m B d _ ((HM.out.mono hex).mono (by repeat (first | exact Ext.refl _ | assumption | apply Ext.xt | apply Ext.alloc | apply Ext.drew | apply Ext.drewN))) hb2).mono ?_; rintro e w' ⟨D, K, rfl, hx, hown⟩; exact hK _ _ rfl hx ⟨D, K, rfl, Own.recs hown rfl (fun r hr => (HM.out.el r hr).mono (hex.trans (Ext.trans (by repeat (first | exact Ext.refl _ | assumption | apply Ext.xt | apply Ext.alloc | apply Ext.drew | apply Ext.drewN)) hx)))⟩
    · (show SlotA _ _ _ _ _ _ _); intro u w1 hx1 hd; obtain ⟨y9, rfl⟩ := hx1.get; clear hx1
      obtain ⟨D1, K1, e1, h1⟩ := hd 1 (by kernel_rfl)
      obtain ⟨D3, K3, e3, h3⟩ := hd 3 (by kernel_rfl)
      simp only [e1, e3]
      refine slot_run rfl rfl rfl ?_; intro K9 hK
      go_simp; go_at_call 22; refine (r54_Receive_as n D1 K1 m D3 K3 _ (h1.mono (by repeat (first | exact Ext.refl _ | assumption | apply Ext.xt | apply Ext.alloc | apply Ext.drew | apply Ext.drewN))) (h3.mono (by repeat (first | exact Ext.refl _ | assumption | apply Ext.xt | apply Ext.alloc | apply Ext.drew | apply Ext.drewN))) x1 a1 ok er HV.out).mono ?_; rintro e w' ⟨D, K, rfl, hx, hl⟩; exact hK _ _ rfl hx ⟨D, K, rfl, LogQ.logw hl rfl hx HEL.out⟩
    · (show SlotA _ _ _ _ _ _ _); intro u w1 hx1 hd; obtain ⟨y9, rfl⟩ := hx1.get; clear hx1
      obtain ⟨D4, K4, e4, h4⟩ := hd 4 (by kernel_rfl)
      simp only [e4]
      refine slot_run rfl rfl rfl ?_; intro K9 hK
      go_simp; exact hK _ _ rfl (by repeat (first | exact Ext.refl _ | assumption | apply Ext.xt | apply Ext.alloc | apply Ext.drew | apply Ext.drewN)) ⟨D4, K4, rfl, h4⟩
    · (show SlotA _ _ _ _ _ _ _); intro u w1 hx1 hd; obtain ⟨y9, rfl⟩ := hx1.get; clear hx1
      obtain ⟨D4, K4, e5, h4⟩ := hd 5 (by kernel_rfl)
      simp only [e5]
      refine slot_run rfl rfl rfl ?_; intro K9 hK
      go_simp; exact hK _ _ rfl (by repeat (first | exact Ext.refl _ | assumption | apply Ext.xt | apply Ext.alloc | apply Ext.drew | apply Ext.drewN)) ⟨D4, K4, rfl, h4⟩
    · (show PureA _ _ _ _ _ _); intro u w1 hx1 hd; obtain ⟨y9, rfl⟩ := hx1.get; clear hx1
      obtain ⟨D4, K4, e5, h4⟩ := hd 5 (by kernel_rfl)
      simp only [e5]
      refine pure_run (v := .agg #[.int .i64 a1.kind, .int .i64 a1.term, .int .i64 a1.at_, .int .i64 0, .slice none 0 0, .int .i64 0]) rfl rfl (fun w9 => ?_) rfl
      go_simp
    · (show PureA _ _ _ _ _ _); intro u w1 hx1 hd; obtain ⟨y9, rfl⟩ := hx1.get; clear hx1
      obtain ⟨D4, K4, e5, h4⟩ := hd 5 (by kernel_rfl)
      simp only [e5]
      refine pure_run (v := .bool ok) rfl rfl (fun w9 => ?_) rfl
      go_simp
    · (show PureA _ _ _ _ _ _); intro u w1 hx1 hd; obtain ⟨y9, rfl⟩ := hx1.get; clear hx1
      obtain ⟨D4, K4, e5, h4⟩ := hd 5 (by kernel_rfl)
      simp only [e5]
      refine pure_run (v := .int .i64 er) rfl rfl (fun w9 => ?_) rfl
      go_simp
    · (show SlotA _ _ _ _ _ _ _); intro u w1 hx1 hd; obtain ⟨y9, rfl⟩ := hx1.get; clear hx1
      refine slot_run rfl rfl rfl ?_; intro K9 hK
      go_simp; exact hK _ _ rfl (by repeat (first | exact Ext.refl _ | assumption | apply Ext.xt | apply Ext.alloc | apply Ext.drew | apply Ext.drewN)) ⟨_, rfl, (by first | omega | (simp [go_sem]; done) | (simp [go_sem]; omega)), BoxAt.new (by first | rfl | simp [go_sem]) _ _⟩
    · (show SlotA _ _ _ _ _ _ _); intro u w1 hx1 hd; obtain ⟨y9, rfl⟩ := hx1.get; clear hx1
      refine slot_run rfl rfl rfl ?_; intro K9 hK
      go_simp; exact hK _ _ rfl (by repeat (first | exact Ext.refl _ | assumption | apply Ext.xt | apply Ext.alloc | apply Ext.drew | apply Ext.drewN)) ⟨_, rfl, (by first | omega | (simp [go_sem]; done) | (simp [go_sem]; omega)), BoxAt.new (by first | rfl | simp [go_sem]) _ _⟩
  · intro u w2 hx2 hT; obtain ⟨t0, t1, t2, t3, t4, t5, t6, t7, t8, t9, t10, t11, -⟩ := hT; obtain ⟨y9, rfl⟩ := hx2.get; clear hx2
    obtain ⟨D6, K6, e6, h6⟩ := t6
    have e7 : u 7 = .agg #[.int .i64 a1.kind, .int .i64 a1.term, .int .i64 a1.at_, .int .i64 0, .slice none 0 0, .int .i64 0] := t7
    have e8 : u 8 = .bool ok := t8
    have e9 : u 9 = .int .i64 er := t9
    obtain ⟨g10, e10, hg10, b10⟩ := t10
    obtain ⟨g11, e11, hg11, b11⟩ := t11
    simp only [e6, e7, e8, e9, e10, e11]
    clear e6 e7 e8 e9 e10 e11 t0 t1 t2 t3 t4 t5 t7 t8 t9
    simp only [List.drop_succ_cons, List.drop_zero]
    have hxx : Ext W9 (xt W9.drew y9) := by repeat (first | exact Ext.refl _ | assumption | apply Ext.xt | apply Ext.alloc | apply Ext.drew | apply Ext.drewN)
    go_wp2_with (first
      | (refine wpList_store_at rfl 65 (.tmp 9) (.tmp 39) rfl b10 rfl [.int .i64 x1.id, .int .i64 x1.term, .bool x1.speaks, .slice D6 x1.log.length K6, .int .i64 x1.acked, .int .i64 x1.next] rfl rfl (show 6 < 44 by decide) (by kernel_rfl) (nodl_one x1 D6 K6) ?_; intro W1 ht1 hb1)
      | (refine wpList_store_at rfl 67 (.tmp 10) (.tmp 40) rfl (b11.turn ht1 (BoxAt.differ b11 b10 (by decide))) rfl [.int .i64 a1.kind, .int .i64 a1.term, .int .i64 a1.at_, .int .i64 0, .slice none 0 0, .int .i64 0] rfl rfl (show 6 < 44 by decide) (by kernel_rfl) (ansl_one a1) ?_; intro W2 ht2 hb2))
    have j5 := ((k5.mono hxx).turn ht1 (by have := k5.lt; omega)).turn ht2 (by have := k5.lt; omega)
    have j6 := ((k6.mono hxx).turn ht1 (by have := k6.lt; omega)).turn ht2 (by have := k6.lt; omega)
    have j9 := hb1.turn ht2 (BoxAt.differ b10 b11 (by decide))
    have hex2 : Ext w W2 := ht2.ext (ht1.ext (hex.trans hxx) (by have := hex.size; omega)) (by have := hex.size; omega)
    have l5 := ((hl5.mono hxx).turn ht1).turn ht2
    have l6 := (h6.turn ht1).turn ht2
    obtain ⟨q0, q1, q2, q3, q4, q5⟩ := j5.six
    obtain ⟨r0, r1, r2, r3, r4, r5⟩ := j6.six
    obtain ⟨s0, s1, s2, s3, s4, s5⟩ := j9.six
    obtain ⟨v0, v1, v2, v3, v4, v5⟩ := hb2.six
    clear c0 c1 c2 c3 c4 c5 d0 d1 d2 d3 d4 d5
    refine wp_region_stab 24 [] [Stab.is (.agg #[.int .i64 x1.id, .int .i64 x1.term, .bool x1.speaks, .slice D x1.log.length K, .int .i64 x1.acked, .int .i64 x1.next]), Stab.nodR x1, Stab.is (.agg #[.int .i64 x1.id, .int .i64 x1.term, .bool x1.speaks, .slice D6 x1.log.length K6, .int .i64 x1.acked, .int .i64 x1.next]), Stab.is (.bool true), Stab.is (.bool true), Stab.is (.agg #[.int .i64 a1.kind, .int .i64 a1.term, .int .i64 a1.at_, .int .i64 0, .slice none 0 0, .int .i64 0]), Stab.is (.agg #[.int .i64 a1.kind, .int .i64 a1.term, .int .i64 a1.at_, .int .i64 0, .slice none 0 0, .int .i64 0]), Stab.is (.agg #[.int .i64 a1.kind, .int .i64 a1.term, .int .i64 a1.at_, .int .i64 0, .slice none 0 0, .int .i64 0]), Stab.is (.bool true), Stab.is (.bool true), Stab.is (.bool true), Stab.is (.bool ok), Stab.is (.bool ok), Stab.is (.bool true), Stab.is (.bool true), Stab.is (.bool true), Stab.is (.int .i64 er), Stab.is (.int .i64 er), Stab.is (.bool true), Stab.is (.bool true), Stab.is (.bool true), Stab.is (.bool true), Stab.is (.bool true), Stab.is (.bool true)] (fun u => by (simp only [putAll, List.take_succ_cons, List.take_zero, Act.put, Nat.zero_add, Nat.reduceAdd]); (try simp only [List.setIfInBounds_toArray]); (repeat (first | simp only [List.set_cons_succ] | simp only [List.set_cons_zero])); exact rfl) (by kernel_rfl) (by kernel_rfl) (fun _ _ _ _ _ h => h) ?_ ?_
    · refine ⟨?_, ?_, ?_, ?_, ?_, ?_, ?_, ?_, ?_, ?_, ?_, ?_, ?_, ?_, ?_, ?_, ?_, ?_, ?_, ?_, ?_, ?_, ?_, ?_, trivial⟩
      · (show SlotA _ _ _ _ _ _ _); intro u w1 hx1 hd; obtain ⟨y9, rfl⟩ := hx1.get; clear hx1
        refine slot_run rfl rfl rfl ?_; intro K9 hK
        go_simp; exact hK _ _ rfl (by repeat (first | exact Ext.refl _ | assumption | apply Ext.xt | apply Ext.alloc | apply Ext.drew | apply Ext.drewN)) rfl
      · (show SlotA _ _ _ _ _ _ _); intro u w1 hx1 hd; obtain ⟨y9, rfl⟩ := hx1.get; clear hx1
        have e0 : u 0 = .agg #[.int .i64 x1.id, .int .i64 x1.term, .bool x1.speaks, .slice D x1.log.length K, .int .i64 x1.acked, .int .i64 x1.next] := hd 0 (by kernel_rfl)
        simp only [e0]
        refine slot_run rfl rfl rfl ?_; intro K9 hK
        go_simp; go_at_call 23; refine (l54_Of x1 D K _ (l5.recs hex2 (by repeat (first | exact Ext.refl _ | assumption | apply Ext.xt | apply Ext.alloc | apply Ext.drew | apply Ext.drewN))) hb3).mono ?_; rintro e w' ⟨D, K, rfl, hx, hown⟩; exact hK _ _ rfl hx ⟨D, K, rfl, Own.recs hown rfl (fun r hr => (HEL.out r hr).mono (hex2.trans (Ext.trans (by repeat (first | exact Ext.refl _ | assumption | apply Ext.xt | apply Ext.alloc | apply Ext.drew | apply Ext.drewN)) hx)))⟩
      · (show SlotA _ _ _ _ _ _ _); intro u w1 hx1 hd; obtain ⟨y9, rfl⟩ := hx1.get; clear hx1
        refine slot_run rfl rfl rfl ?_; intro K9 hK
        go_simp; exact hK _ _ rfl (by repeat (first | exact Ext.refl _ | assumption | apply Ext.xt | apply Ext.alloc | apply Ext.drew | apply Ext.drewN)) rfl
      · (show SlotA _ _ _ _ _ _ _); intro u w1 hx1 hd; obtain ⟨y9, rfl⟩ := hx1.get; clear hx1
        obtain ⟨D1, K1, e1, h1⟩ := hd 1 (by kernel_rfl)
        have e2 : u 2 = .agg #[.int .i64 x1.id, .int .i64 x1.term, .bool x1.speaks, .slice D6 x1.log.length K6, .int .i64 x1.acked, .int .i64 x1.next] := hd 2 (by kernel_rfl)
        simp only [e1, e2]
        refine slot_run rfl rfl rfl ?_; intro K9 hK
        go_simp; go_at_call 25; refine (r54_Same_self x1 D1 K1 D6 K6 _ (h1.mono (by repeat (first | exact Ext.refl _ | assumption | apply Ext.xt | apply Ext.alloc | apply Ext.drew | apply Ext.drewN))) (l6.recs hex2 (by repeat (first | exact Ext.refl _ | assumption | apply Ext.xt | apply Ext.alloc | apply Ext.drew | apply Ext.drewN)))).mono ?_; rintro e w' ⟨rfl, hx⟩; exact hK _ _ rfl hx rfl
      · (show SlotA _ _ _ _ _ _ _); intro u w1 hx1 hd; obtain ⟨y9, rfl⟩ := hx1.get; clear hx1
        have e3 : u 3 = .bool true := hd 3 (by kernel_rfl)
        simp only [e3]
        refine slot_run rfl rfl rfl ?_; intro K9 hK
        go_simp; exact hK _ _ rfl (by repeat (first | exact Ext.refl _ | assumption | apply Ext.xt | apply Ext.alloc | apply Ext.drew | apply Ext.drewN)) rfl
      · (show SlotA _ _ _ _ _ _ _); intro u w1 hx1 hd; obtain ⟨y9, rfl⟩ := hx1.get; clear hx1
        have e4 : u 4 = .bool true := hd 4 (by kernel_rfl)
        simp only [e4]
        refine slot_run rfl rfl rfl ?_; intro K9 hK
        go_simp; exact hK _ _ rfl (by repeat (first | exact Ext.refl _ | assumption | apply Ext.xt | apply Ext.alloc | apply Ext.drew | apply Ext.drewN)) rfl
      · (show SlotA _ _ _ _ _ _ _); intro u w1 hx1 hd; obtain ⟨y9, rfl⟩ := hx1.get; clear hx1
        have e4 : u 4 = .bool true := hd 4 (by kernel_rfl)
        have e5 : u 5 = .agg #[.int .i64 a1.kind, .int .i64 a1.term, .int .i64 a1.at_, .int .i64 0, .slice none 0 0, .int .i64 0] := hd 5 (by kernel_rfl)
        simp only [e4, e5]
        refine slot_run rfl rfl rfl ?_; intro K9 hK
        go_simp; go_at_call 24; refine (l54_Said_nil _ _ _ _ _ _).mono ?_; rintro e w' ⟨rfl, hx⟩; exact hK _ _ rfl hx rfl
      · (show SlotA _ _ _ _ _ _ _); intro u w1 hx1 hd; obtain ⟨y9, rfl⟩ := hx1.get; clear hx1
        have e4 : u 4 = .bool true := hd 4 (by kernel_rfl)
        simp only [e4]
        refine slot_run rfl rfl rfl ?_; intro K9 hK
        go_simp; exact hK _ _ rfl (by repeat (first | exact Ext.refl _ | assumption | apply Ext.xt | apply Ext.alloc | apply Ext.drew | apply Ext.drewN)) rfl
      · (show SlotA _ _ _ _ _ _ _); intro u w1 hx1 hd; obtain ⟨y9, rfl⟩ := hx1.get; clear hx1
        have e4 : u 4 = .bool true := hd 4 (by kernel_rfl)
        have e6 : u 6 = .agg #[.int .i64 a1.kind, .int .i64 a1.term, .int .i64 a1.at_, .int .i64 0, .slice none 0 0, .int .i64 0] := hd 6 (by kernel_rfl)
        have e7 : u 7 = .agg #[.int .i64 a1.kind, .int .i64 a1.term, .int .i64 a1.at_, .int .i64 0, .slice none 0 0, .int .i64 0] := hd 7 (by kernel_rfl)
        simp only [e4, e6, e7]
        refine slot_run rfl rfl rfl ?_; intro K9 hK
        go_simp; go_at_call 26; refine (r54_SameMessage_nil _ _ _ _ _ _).mono ?_; rintro e w' ⟨rfl, hx⟩; exact hK _ _ rfl hx rfl
      · (show SlotA _ _ _ _ _ _ _); intro u w1 hx1 hd; obtain ⟨y9, rfl⟩ := hx1.get; clear hx1
        have e4 : u 4 = .bool true := hd 4 (by kernel_rfl)
        have e8 : u 8 = .bool true := hd 8 (by kernel_rfl)
        simp only [e4, e8]
        refine slot_run rfl rfl rfl ?_; intro K9 hK
        go_simp; exact hK _ _ rfl (by repeat (first | exact Ext.refl _ | assumption | apply Ext.xt | apply Ext.alloc | apply Ext.drew | apply Ext.drewN)) rfl
      · (show SlotA _ _ _ _ _ _ _); intro u w1 hx1 hd; obtain ⟨y9, rfl⟩ := hx1.get; clear hx1
        have e9 : u 9 = .bool true := hd 9 (by kernel_rfl)
        simp only [e9]
        refine slot_run rfl rfl rfl ?_; intro K9 hK
        go_simp; exact hK _ _ rfl (by repeat (first | exact Ext.refl _ | assumption | apply Ext.xt | apply Ext.alloc | apply Ext.drew | apply Ext.drewN)) rfl
      · (show SlotA _ _ _ _ _ _ _); intro u w1 hx1 hd; obtain ⟨y9, rfl⟩ := hx1.get; clear hx1
        have e10 : u 10 = .bool true := hd 10 (by kernel_rfl)
        simp only [e10]
        refine slot_run rfl rfl rfl ?_; intro K9 hK
        go_simp; exact hK _ _ rfl (by repeat (first | exact Ext.refl _ | assumption | apply Ext.xt | apply Ext.alloc | apply Ext.drew | apply Ext.drewN)) rfl
      · (show SlotA _ _ _ _ _ _ _); intro u w1 hx1 hd; obtain ⟨y9, rfl⟩ := hx1.get; clear hx1
        have e10 : u 10 = .bool true := hd 10 (by kernel_rfl)
        simp only [e10]
        refine slot_run rfl rfl rfl ?_; intro K9 hK
        go_simp; exact hK _ _ rfl (by repeat (first | exact Ext.refl _ | assumption | apply Ext.xt | apply Ext.alloc | apply Ext.drew | apply Ext.drewN)) rfl
      · (show SlotA _ _ _ _ _ _ _); intro u w1 hx1 hd; obtain ⟨y9, rfl⟩ := hx1.get; clear hx1
        have e10 : u 10 = .bool true := hd 10 (by kernel_rfl)
        have e11 : u 11 = .bool ok := hd 11 (by kernel_rfl)
        have e12 : u 12 = .bool ok := hd 12 (by kernel_rfl)
        simp only [e10, e11, e12]
        refine slot_run rfl rfl rfl ?_; intro K9 hK
        go_simp; exact hK _ _ rfl (by repeat (first | exact Ext.refl _ | assumption | apply Ext.xt | apply Ext.alloc | apply Ext.drew | apply Ext.drewN)) rfl
      · (show SlotA _ _ _ _ _ _ _); intro u w1 hx1 hd; obtain ⟨y9, rfl⟩ := hx1.get; clear hx1
        have e10 : u 10 = .bool true := hd 10 (by kernel_rfl)
        have e13 : u 13 = .bool true := hd 13 (by kernel_rfl)
        simp only [e10, e13]
        refine slot_run rfl rfl rfl ?_; intro K9 hK
        go_simp; exact hK _ _ rfl (by repeat (first | exact Ext.refl _ | assumption | apply Ext.xt | apply Ext.alloc | apply Ext.drew | apply Ext.drewN)) rfl
      · (show SlotA _ _ _ _ _ _ _); intro u w1 hx1 hd; obtain ⟨y9, rfl⟩ := hx1.get; clear hx1
        have e14 : u 14 = .bool true := hd 14 (by kernel_rfl)
        simp only [e14]
        refine slot_run rfl rfl rfl ?_; intro K9 hK
        go_simp; exact hK _ _ rfl (by repeat (first | exact Ext.refl _ | assumption | apply Ext.xt | apply Ext.alloc | apply Ext.drew | apply Ext.drewN)) rfl
      · (show SlotA _ _ _ _ _ _ _); intro u w1 hx1 hd; obtain ⟨y9, rfl⟩ := hx1.get; clear hx1
        have e15 : u 15 = .bool true := hd 15 (by kernel_rfl)
        simp only [e15]
        refine slot_run rfl rfl rfl ?_; intro K9 hK
        go_simp; exact hK _ _ rfl (by repeat (first | exact Ext.refl _ | assumption | apply Ext.xt | apply Ext.alloc | apply Ext.drew | apply Ext.drewN)) rfl
      · (show SlotA _ _ _ _ _ _ _); intro u w1 hx1 hd; obtain ⟨y9, rfl⟩ := hx1.get; clear hx1
        have e15 : u 15 = .bool true := hd 15 (by kernel_rfl)
        simp only [e15]
        refine slot_run rfl rfl rfl ?_; intro K9 hK
        go_simp; exact hK _ _ rfl (by repeat (first | exact Ext.refl _ | assumption | apply Ext.xt | apply Ext.alloc | apply Ext.drew | apply Ext.drewN)) rfl
      · (show SlotA _ _ _ _ _ _ _); intro u w1 hx1 hd; obtain ⟨y9, rfl⟩ := hx1.get; clear hx1
        have e15 : u 15 = .bool true := hd 15 (by kernel_rfl)
        have e16 : u 16 = .int .i64 er := hd 16 (by kernel_rfl)
        have e17 : u 17 = .int .i64 er := hd 17 (by kernel_rfl)
        simp only [e15, e16, e17]
        refine slot_run rfl rfl rfl ?_; intro K9 hK
        go_simp; exact hK _ _ rfl (by repeat (first | exact Ext.refl _ | assumption | apply Ext.xt | apply Ext.alloc | apply Ext.drew | apply Ext.drewN)) rfl
      · (show SlotA _ _ _ _ _ _ _); intro u w1 hx1 hd; obtain ⟨y9, rfl⟩ := hx1.get; clear hx1
        have e15 : u 15 = .bool true := hd 15 (by kernel_rfl)
        have e18 : u 18 = .bool true := hd 18 (by kernel_rfl)
        simp only [e15, e18]
        refine slot_run rfl rfl rfl ?_; intro K9 hK
        go_simp; exact hK _ _ rfl (by repeat (first | exact Ext.refl _ | assumption | apply Ext.xt | apply Ext.alloc | apply Ext.drew | apply Ext.drewN)) rfl
      · (show SlotA _ _ _ _ _ _ _); intro u w1 hx1 hd; obtain ⟨y9, rfl⟩ := hx1.get; clear hx1
        have e19 : u 19 = .bool true := hd 19 (by kernel_rfl)
        simp only [e19]
        refine slot_run rfl rfl rfl ?_; intro K9 hK
        go_simp; exact hK _ _ rfl (by repeat (first | exact Ext.refl _ | assumption | apply Ext.xt | apply Ext.alloc | apply Ext.drew | apply Ext.drewN)) rfl
      · (show SlotA _ _ _ _ _ _ _); intro u w1 hx1 hd; obtain ⟨y9, rfl⟩ := hx1.get; clear hx1
        have e20 : u 20 = .bool true := hd 20 (by kernel_rfl)
        simp only [e20]
        refine slot_run rfl rfl rfl ?_; intro K9 hK
        go_simp; go_at_call 20; refine (l54_awake _).mono ?_; rintro e w' ⟨rfl, hx⟩; exact hK _ _ rfl hx rfl
      · (show SlotA _ _ _ _ _ _ _); intro u w1 hx1 hd; obtain ⟨y9, rfl⟩ := hx1.get; clear hx1
        have e20 : u 20 = .bool true := hd 20 (by kernel_rfl)
        have e21 : u 21 = .bool true := hd 21 (by kernel_rfl)
        simp only [e20, e21]
        refine slot_run rfl rfl rfl ?_; intro K9 hK
        go_simp; exact hK _ _ rfl (by repeat (first | exact Ext.refl _ | assumption | apply Ext.xt | apply Ext.alloc | apply Ext.drew | apply Ext.drewN)) rfl
      · (show SlotA _ _ _ _ _ _ _); intro u w1 hx1 hd; obtain ⟨y9, rfl⟩ := hx1.get; clear hx1
        have e22 : u 22 = .bool true := hd 22 (by kernel_rfl)
        simp only [e22]
        refine slot_run rfl rfl rfl ?_; intro K9 hK
        go_simp; exact hK _ _ rfl (by repeat (first | exact Ext.refl _ | assumption | apply Ext.xt | apply Ext.alloc | apply Ext.drew | apply Ext.drewN)) rfl
    · intro u w2 hx2 hT; obtain ⟨t0, t1, t2, t3, t4, t5, t6, t7, t8, t9, t10, t11, t12, t13, t14, t15, t16, t17, t18, t19, t20, t21, t22, t23, -⟩ := hT; obtain ⟨y9, rfl⟩ := hx2.get; clear hx2
      have e23 : u 23 = .bool true := t23
      simp only [e23]
      clear e23 t0 t1 t2 t3 t4 t5 t6 t7 t8 t9 t10 t11 t12 t13 t14 t15 t16 t17 t18 t19 t20 t21 t22 t23
      simp only [List.drop_succ_cons, List.drop_zero]
      refine wpList_nil ?_
      go_wp2
      go_ret
      exact ⟨rfl, hex2.trans (by repeat (first | exact Ext.refl _ | assumption | apply Ext.xt | apply Ext.alloc | apply Ext.drew | apply Ext.drewN))⟩
end
end Go.Proofs.YtlpboikonnpjbaaGreat
