/-
  The fixed example of two nodes and a new world, in plain and by value.
-/
import Derived.Test.YtmhinhgflehkaaaGreatGtak
import Derived.Test.YtmhinhgflehkaaaGreatGsetl
import Derived.Test.YtmhinhgflehkaaaGreatRep12
import Derived.Test.YtmhinhgflehkaaaGreatGrag
import Derived.Test.YtmhinhgflehkaaaGreatGtopa
import Derived.Test.YtmhinhgflehkaaaGreatGrpm
import Derived.Test.YtmhinhgflehkaaaGreatGtops
import Derived.Test.YtmhinhgflehkaaaGreatGtopd
import Derived.Test.YtmhinhgflehkaaaGreatGsml
import Derived.Test.YtmhinhgflehkaaaGreatRow
import Derived.Test.YtmhinhgflehkaaaGreatRow2
namespace Go.Proofs.YtmhinhgflehkaaaGreat
open Go.RowKit

noncomputable def exR5 : Rec := ⟨1, goA 5⟩
theorem exE5 : acnE (goA 5) = 0 := acnE_goA (by omega) (by omega)
theorem ex5_recs (lo : Int) (h : lo ≤ 1) : recsE lo 1 [exR5] = 0 := by
  have h2 : ¬ 1 < lo := by omega
  simp [recsE, scan, recS, exR5, exE5, h2]
theorem ex5_nil (a b : Int) : recsE a b [] = 0 := by simp [recsE, scan]
theorem ex5_act : actV ⟨1, 1, true, [], 0, 0⟩ (goA 5) = (⟨1, 1, true, [exR5], 0, 0⟩, 0) := by
  simp [actV, nodE, ex5_nil, ownB, exE5, early, actN, exR5]
theorem ex5_r1 : recvV ⟨2, 0, false, [], 0, 0⟩ ⟨0, 1, 0, 0, [exR5], 0⟩ = (⟨2, 1, false, [exR5], 0, 0⟩, ⟨1, 1, 1, 0, [], 0⟩, true, 0) := by
  have h : max (0 : Int) (min 0 1) = 0 := by decide
  simp [recvV, nodE, msgE, appE, ex5_nil, ex5_recs, ownB, recdV, inTerm, takeV, tookL, keepN, ansM, h]
theorem ex5_r2 : recvV ⟨1, 1, true, [exR5], 0, 0⟩ ⟨1, 1, 1, 0, [], 0⟩ = (⟨1, 1, true, [exR5], 1, 1⟩, msg0, false, 0) := by
  have h : max (0 : Int) 1 = 1 := by decide
  simp [recvV, nodE, msgE, ansE, ex5_recs, ownB, recdV, inTerm, ackN, h]
theorem ex5_r3 : recvV ⟨2, 1, false, [exR5], 0, 0⟩ ⟨0, 1, 1, 1, [], 1⟩ = (⟨2, 1, false, [exR5], 1, 0⟩, ⟨1, 1, 1, 0, [], 0⟩, true, 0) := by
  have h : max (0 : Int) 1 = 1 := by decide
  simp [recvV, nodE, msgE, appE, ex5_nil, ex5_recs, ownB, recdV, inTerm, takeV, tookL, keepN, ansM, termAt, show exR5.term = 1 from rfl, h]
theorem ex5_r4 : recvV ⟨1, 1, true, [exR5], 1, 1⟩ ⟨1, 1, 1, 0, [], 0⟩ = (⟨1, 1, true, [exR5], 1, 1⟩, msg0, false, 0) := by
  simp [recvV, nodE, msgE, ansE, ex5_recs, ownB, recdV, inTerm, ackN]
theorem ex5_s1 : sentM ⟨1, 1, true, [exR5], 0, 0⟩ = ⟨0, 1, 0, 0, [exR5], 0⟩ := by simp [sentM]
theorem ex5_s2 : sentM ⟨1, 1, true, [exR5], 1, 1⟩ = ⟨0, 1, 1, 1, [], 1⟩ := by simp [sentM, termAt, show exR5.term = 1 from rfl]
theorem ex5_n1 : nodE ⟨1, 1, true, [exR5], 0, 0⟩ = 0 := by simp [nodE, ex5_recs, ownB]
theorem ex5_n2 : nodE ⟨2, 0, false, [], 0, 0⟩ = 0 := nodE_fresh (by omega) (by omega)
theorem ex5_settle : settleV ⟨1, 1, true, [exR5], 0, 0⟩ ⟨2, 0, false, [], 0, 0⟩ = (⟨1, 1, true, [exR5], 1, 1⟩, ⟨2, 1, false, [exR5], 1, 0⟩, 2, 0) := by
  have b0 : settledB ⟨1, 1, true, [exR5], 0, 0⟩ ⟨2, 0, false, [], 0, 0⟩ = false := by simp [settledB, sameRs]
  have b1 : settledB ⟨1, 1, true, [exR5], 1, 1⟩ ⟨2, 1, false, [exR5], 0, 0⟩ = false := by simp [settledB]
  have b2 : settledB ⟨1, 1, true, [exR5], 1, 1⟩ ⟨2, 1, false, [exR5], 1, 0⟩ = true := by
    have : sameRs [exR5] [exR5] = true := sameRs_refl _
    simp [settledB, this]
  unfold settleV
  rw [ex5_n1, ex5_n2, if_neg (by simp), if_neg (by simp), if_neg (by simp), if_neg (by simp)]
  conv => lhs; unfold settleR
  rw [b0, ex5_s1, ex5_r1]
  simp only [Bool.false_eq_true, if_false, ne_eq, not_true_eq_false]
  rw [ex5_r2]
  simp only [if_false, not_true_eq_false]
  conv => lhs; unfold settleR
  rw [b1, ex5_s2, ex5_r3]
  simp only [Bool.false_eq_true, if_false, ne_eq, not_true_eq_false]
  rw [ex5_r4]
  simp only [if_false, not_true_eq_false]
  conv => lhs; unfold settleR
  rw [b2]
  simp
def wld31 : Wld := ⟨0, 3, 1, false, ⟨⟨1, 1, true, [], 0, 0⟩, true, 0⟩, ⟨⟨2, 0, false, [], 0, 0⟩, true, 0⟩, []⟩
theorem ex5_w : newW 3 1 = (wld31, 0) := by unfold newW; rw [if_neg (by omega)]; rfl
theorem ex5_wE : wldE wld31 = 0 := by
  have h1 : nodE ⟨1, 1, true, [], 0, 0⟩ = 0 := by simp [nodE, ex5_nil, ownB]
  have h2 : nodE ⟨2, 0, false, [], 0, 0⟩ = 0 := ex5_n2
  simp [wldE, wld31, staE, h1, h2, scan]
theorem ex5_sp : speakerV wld31 = (1, 0) := by
  unfold speakerV
  rw [if_neg (by rw [ex5_wE]; simp)]
  simp [spokenW, wld31]
theorem ex5_el (w : World) : ∀ r ∈ [exR5], AcnAt w r.act := fun r hr => by
  simp at hr; subst hr; exact mkA_at _ _ _ _ w

/-! ### By value -/
theorem ex5_Act (w0 w : World) (D : Option Addr) (K : Nat) (hK : K ≤ maxLen) : Calls Tryz.prog 99 #[.agg #[.int .i64 1, .int .i64 1, .bool true, .slice D 0 K, .int .i64 0, .int .i64 0], .agg (acnR (goA 5)).toArray] w fun e w' => ∃ D K, e = .returned (.tuple #[.agg #[.int .i64 1, .int .i64 1, .bool true, .slice D 1 K, .int .i64 0, .int .i64 0], .int .i64 0]) ∧ Ext w w' ∧ LogW w0 w' D 1 K [exR5] := by
  refine (rep_Act ⟨1, 1, true, [], 0, 0⟩ D K (goA 5) w ⟨Sl.nil _ _ _, Nat.zero_le _, hK, by simp⟩ (mkA_at _ _ _ _ _)).mono fun e w' h => ?_
  obtain ⟨A, c, he, hx, hl⟩ := RetNod.parts (w0 := w0) h ex5_act (ex5_el w0)
  exact ⟨A, c, he, hx, hl⟩
theorem ex5_Settle (w0 w : World) (D : Option Addr) (K : Nat) (E : Option Addr) (J : Nat) (hJ : J ≤ maxLen) (hl : RecsAt w D K [exR5]) : Calls Tryz.prog 53 #[.agg #[.int .i64 1, .int .i64 1, .bool true, .slice D 1 K, .int .i64 0, .int .i64 0], .agg #[.int .i64 2, .int .i64 0, .bool false, .slice E 0 J, .int .i64 0, .int .i64 0]] w fun e w' => ∃ D K E J, e = .returned (.tuple #[.agg #[.int .i64 1, .int .i64 1, .bool true, .slice D 1 K, .int .i64 1, .int .i64 1], .agg #[.int .i64 2, .int .i64 1, .bool false, .slice E 1 J, .int .i64 1, .int .i64 0], .int .i64 2, .int .i64 0]) ∧ Ext w w' := by
  refine (rep_Settle ⟨1, 1, true, [exR5], 0, 0⟩ D K ⟨2, 0, false, [], 0, 0⟩ E J w hl ⟨Sl.nil _ _ _, Nat.zero_le _, hJ, by simp⟩).mono fun e w' h => ?_
  obtain ⟨A, c, B, d, he, hx, -, -⟩ := RetSett.parts (w0 := w0) h ex5_settle (ex5_el w0) (ex5_el w0)
  exact ⟨A, c, B, d, he, hx⟩
theorem ex5_New (w : World) : Calls Tryz.prog 17 #[.int .i64 3, .int .i64 1] w fun e w' => ∃ A a B b M k, e = .returned (.tuple #[.agg #[.int .i64 wld31.now, .int .i64 wld31.limit, .int .i64 wld31.delay, .bool wld31.cut, .int .i64 wld31.a.node.id, .int .i64 wld31.a.node.term, .bool wld31.a.node.speaks, .slice A wld31.a.node.log.length a, .int .i64 wld31.a.node.acked, .int .i64 wld31.a.node.next, .bool wld31.a.up, .int .i64 wld31.a.quiet, .int .i64 wld31.b.node.id, .int .i64 wld31.b.node.term, .bool wld31.b.node.speaks, .slice B wld31.b.node.log.length b, .int .i64 wld31.b.node.acked, .int .i64 wld31.b.node.next, .bool wld31.b.up, .int .i64 wld31.b.quiet, .slice M wld31.mail.length k], .int .i64 0]) ∧ Ext w w' ∧ a ≤ maxLen ∧ b ≤ maxLen ∧ k ≤ maxLen := by
  have h := tak_New 3 1 w
  rw [ex5_w] at h
  exact h
theorem ex5_Speaker (w : World) (A : Option Addr) (a : Nat) (B : Option Addr) (b : Nat) (M : Option Addr) (k : Nat) (h1 : a ≤ maxLen) (h2 : b ≤ maxLen) (h3 : k ≤ maxLen) : Calls Tryz.prog 19 #[.agg #[.int .i64 wld31.now, .int .i64 wld31.limit, .int .i64 wld31.delay, .bool wld31.cut, .int .i64 wld31.a.node.id, .int .i64 wld31.a.node.term, .bool wld31.a.node.speaks, .slice A wld31.a.node.log.length a, .int .i64 wld31.a.node.acked, .int .i64 wld31.a.node.next, .bool wld31.a.up, .int .i64 wld31.a.quiet, .int .i64 wld31.b.node.id, .int .i64 wld31.b.node.term, .bool wld31.b.node.speaks, .slice B wld31.b.node.log.length b, .int .i64 wld31.b.node.acked, .int .i64 wld31.b.node.next, .bool wld31.b.up, .int .i64 wld31.b.quiet, .slice M wld31.mail.length k]] w fun e w' => e = .returned (.tuple #[.int .i64 1, .int .i64 0]) ∧ Ext w w' := by
  have h := tak_Speaker (w := wld31) (W := w) (A := A) (B := B) (M := M) (c := a) (d := b) (k := k) (xs := []) ⟨⟨Sl.nil _ _ _, Nat.zero_le _, h1, by simp [wld31]⟩, ⟨Sl.nil _ _ _, Nat.zero_le _, h2, by simp [wld31]⟩, ⟨Sl.nil _ _ _, Nat.zero_le _, h3, by simp⟩, rfl⟩
  rw [ex5_sp] at h
  exact h
end Go.Proofs.YtmhinhgflehkaaaGreat

/-
  The fixed example of two nodes and a new world.
-/
namespace Go.Proofs.YtmhinhgflehkaaaGreat
open Go.RowKit

/-- What Act returns, and its node. -/
def Stab.actx (w : World) : Stab := ⟨fun v W => ∃ D K, v = .tuple #[.agg #[.int .i64 1, .int .i64 1, .bool true, .slice D 1 K, .int .i64 0, .int .i64 0], .int .i64 0] ∧ LogW w W D 1 K [exR5], fun _ _ _ hx ⟨D, K, e, h⟩ => ⟨D, K, e, h.mono hx⟩⟩
def Stab.nodx (w : World) : Stab := ⟨fun v W => ∃ D K, v = .agg #[.int .i64 1, .int .i64 1, .bool true, .slice D 1 K, .int .i64 0, .int .i64 0] ∧ LogW w W D 1 K [exR5], fun _ _ _ hx ⟨D, K, e, h⟩ => ⟨D, K, e, h.mono hx⟩⟩
set_option maxHeartbeats 6400000 in
set_option maxRecDepth 100000 in
theorem top_caseReplicas (w : World) : Calls Tryz.prog 47 #[] w fun e w' => e = .returned (.bool true) ∧ Ext w w' := by
  go_enter Tryz.func47, Tryz.ntmps47
  go_wp2_with fail
  go_at_call 48; refine (rep_New_as 1 (by omega) (by omega) _).mono ?_; rintro e w' ⟨D1, K1, rfl, hx, h1⟩; obtain ⟨ya, rfl⟩ := hx.get; clear hx
  go_wp2_with fail
  go_at_call 48; refine (rep_New_as 2 (by omega) (by omega) _).mono ?_; rintro e w' ⟨D2, K2, rfl, hx, h2⟩; obtain ⟨yb, rfl⟩ := hx.get; clear hx
  go_wp2_with fail
  go_at_call 52; refine (rep_Lead_as D1 K1 h1 _).mono ?_; rintro e w' ⟨D3, K3, rfl, hx, h3⟩; obtain ⟨yc, rfl⟩ := hx.get; clear hx
  go_wp2_with (refine wpList_store_at rfl 24 (.tmp 1) (.tmp 25) rfl ((BoxAt.new (W := xt w ya) (b := (w.heap.size + ya.n)) (by simp [go_sem]) [.int .i64 1, .int .i64 0, .bool false, .slice D1 0 K1, .int .i64 0, .int .i64 0] 24).mono (ex)) rfl [.int .i64 1, .int .i64 1, .bool true, .slice D3 0 K3, .int .i64 0, .int .i64 0] rfl rfl (show 6 < 44 by decide) (by kernel_rfl) (cells_one _ rfl) ?_; intro W1 ht1 hb1; have hex1 : Ext w W1 := ht1.ext (ex) (by omega); have k3 := BoxAt.turn ht1 (by omega) ((BoxAt.new (W := xt ((xt w ya).alloc (.cells #[.int .i64 1, .int .i64 0, .bool false, .slice D1 0 K1, .int .i64 0, .int .i64 0] 24)) yb) (b := (w.heap.size + ya.n + 1 + yb.n)) (by simp [go_sem]) [.int .i64 2, .int .i64 0, .bool false, .slice D2 0 K2, .int .i64 0, .int .i64 0] 24).mono (ex)))
  have hs3 := k3.lt
  obtain ⟨c0, c1, c2, c3, c4, c5⟩ := hb1.six
  refine wp_region_stab 6 [5] [Stab.is (.agg #[.int .i64 1, .int .i64 1, .bool true, .slice D3 0 K3, .int .i64 0, .int .i64 0]), Stab.is (.agg (acnR (goA 5)).toArray), Stab.actx w, Stab.actx w, Stab.nodx w, Stab.is (.int .i64 0)] (fun u => by (simp only [putAll, List.take_succ_cons, List.take_zero, Act.put, Nat.zero_add, Nat.reduceAdd]); (try simp only [List.setIfInBounds_toArray]); (repeat (first | simp only [List.set_cons_succ] | simp only [List.set_cons_zero])); exact rfl) (by kernel_rfl) (by kernel_rfl) (fun _ _ _ _ _ h => h) ?_ ?_
  · refine ⟨?_, ?_, ?_, ?_, ?_, ?_, trivial⟩
    · (show SlotA _ _ _ _ _ _ _); intro u w1 hx1 hd; obtain ⟨y9, rfl⟩ := hx1.get; clear hx1
      refine slot_run rfl rfl rfl ?_; intro K9 hK
      go_simp; exact hK _ _ rfl (ex) rfl
    · (show SlotA _ _ _ _ _ _ _); intro u w1 hx1 hd; obtain ⟨y9, rfl⟩ := hx1.get; clear hx1
      refine slot_run rfl rfl rfl ?_; intro K9 hK
      go_simp; go_at_call 57; refine (l54_Go _ _).mono ?_; rintro e w' ⟨rfl, hx⟩; exact hK _ _ rfl hx rfl
    · (show SlotA _ _ _ _ _ _ _); intro u w1 hx1 hd; obtain ⟨y9, rfl⟩ := hx1.get; clear hx1
      have e0 : u 0 = .agg #[.int .i64 1, .int .i64 1, .bool true, .slice D3 0 K3, .int .i64 0, .int .i64 0] := hd 0 (by kernel_rfl)
      have e1 : u 1 = .agg (acnR (goA 5)).toArray := hd 1 (by kernel_rfl)
      simp only [e0, e1]
      refine slot_run rfl rfl rfl ?_; intro K9 hK
      go_simp; go_at_call 99; refine (ex5_Act w _ D3 K3 h3).mono ?_; rintro e w' ⟨D, K, rfl, hx, hl⟩; exact hK _ _ rfl hx ⟨D, K, rfl, hl⟩
    · (show SlotA _ _ _ _ _ _ _); intro u w1 hx1 hd; obtain ⟨y9, rfl⟩ := hx1.get; clear hx1
      obtain ⟨D4, K4, e2, h4⟩ := hd 2 (by kernel_rfl)
      simp only [e2]
      refine slot_run rfl rfl rfl ?_; intro K9 hK
      go_simp; exact hK _ _ rfl (ex) ⟨D4, K4, rfl, h4⟩
    · (show SlotA _ _ _ _ _ _ _); intro u w1 hx1 hd; obtain ⟨y9, rfl⟩ := hx1.get; clear hx1
      obtain ⟨D4, K4, e3, h4⟩ := hd 3 (by kernel_rfl)
      simp only [e3]
      refine slot_run rfl rfl rfl ?_; intro K9 hK
      go_simp; exact hK _ _ rfl (ex) ⟨D4, K4, rfl, h4⟩
    · (show PureA _ _ _ _ _ _); intro u w1 hx1 hd; obtain ⟨y9, rfl⟩ := hx1.get; clear hx1
      obtain ⟨D4, K4, e3, h4⟩ := hd 3 (by kernel_rfl)
      simp only [e3]
      refine pure_run (v := .int .i64 0) rfl rfl (fun w9 => ?_) rfl
      go_simp
  · intro u w2 hx2 hT; obtain ⟨t0, t1, t2, t3, t4, t5, -⟩ := hT; obtain ⟨y9, rfl⟩ := hx2.get; clear hx2
    obtain ⟨D5, K5, e4, h5⟩ := t4
    have e5 : u 5 = .int .i64 0 := t5
    simp only [e4, e5]
    clear e4 e5 t0 t1 t2 t3 t5
    simp only [List.drop_succ_cons, List.drop_zero]
    have hxx : Ext W1 (xt W1.drew y9) := ex
    go_wp2_with (refine wpList_store_at rfl 24 (.tmp 1) (.tmp 31) rfl (hb1.mono hxx) rfl [.int .i64 1, .int .i64 1, .bool true, .slice D5 1 K5, .int .i64 0, .int .i64 0] rfl rfl (show 6 < 44 by decide) (by kernel_rfl) (cells_one _ rfl) ?_; intro W2 ht2 hb2; have j3 := (k3.mono hxx).turn ht2 (by omega); have hs4 := j3.lt; have hex2 : Ext w W2 := ht2.ext (hex1.trans hxx) (by omega); have m5 := h5.turn ht2; obtain ⟨d0, d1, d2, d3, d4, d5⟩ := hb2.six; obtain ⟨e0, e1, e2, e3, e4, e5⟩ := j3.six)
    go_at_call 53; refine (ex5_Settle w _ D5 K5 D2 K2 h2 (m5.recs hex2 (ex))).mono ?_; rintro e w' ⟨D6, K6, D7, K7, rfl, hx⟩; obtain ⟨yd, rfl⟩ := hx.get; clear hx
    clear c0 c1 c2 c3 c4 c5
    go_wp2_with (first
      | (refine wpList_store_at rfl 24 (.tmp 7) (.tmp 37) rfl ((BoxAt.new (W := xt W2 yd) (b := W2.heap.size + yd.n) (by simp [go_sem]) [.int .i64 0, .int .i64 0, .bool false, .slice none 0 0, .int .i64 0, .int .i64 0] 24).mono (ex)) rfl [.int .i64 1, .int .i64 1, .bool true, .slice D6 1 K6, .int .i64 1, .int .i64 1] rfl rfl (show 6 < 44 by decide) (by kernel_rfl) (cells_one _ rfl) ?_; intro W3 ht3 hb3; have i3 := BoxAt.turn ht3 (by omega) (j3.mono (show Ext W2 _ from ex)); have hex3 : Ext w W3 := ht3.ext (hex2.trans (ex)) (by have := hex2.size; omega))
      | (refine wpList_store_at rfl 24 (.tmp 3) (.tmp 38) rfl i3 rfl [.int .i64 2, .int .i64 1, .bool false, .slice D7 1 K7, .int .i64 1, .int .i64 0] rfl rfl (show 6 < 44 by decide) (by kernel_rfl) (cells_one _ rfl) ?_; intro W4 ht4 hb4; have hex4 : Ext w W4 := ht4.ext hex3 (by omega); obtain ⟨f0, f1, f2, f3, f4, f5⟩ := hb4.six))
    go_at_call 17; refine (ex5_New _).mono ?_; rintro e w' ⟨A9, a9, B9, b9, M9, k9, rfl, hx, q1, q2, q3⟩; obtain ⟨ye, rfl⟩ := hx.get; clear hx
    go_wp2_with (refine wpList_store_top rfl 30 (.tmp 10) (.tmp 43) rfl rfl (by simp [go_sem]) [.int .i64 wld31.now, .int .i64 wld31.limit, .int .i64 wld31.delay, .bool wld31.cut, .int .i64 wld31.a.node.id, .int .i64 wld31.a.node.term, .bool wld31.a.node.speaks, .slice A9 wld31.a.node.log.length a9, .int .i64 wld31.a.node.acked, .int .i64 wld31.a.node.next, .bool wld31.a.up, .int .i64 wld31.a.quiet, .int .i64 wld31.b.node.id, .int .i64 wld31.b.node.term, .bool wld31.b.node.speaks, .slice B9 wld31.b.node.log.length b9, .int .i64 wld31.b.node.acked, .int .i64 wld31.b.node.next, .bool wld31.b.up, .int .i64 wld31.b.quiet, .slice M9 wld31.mail.length k9] rfl rfl (by kernel_rfl) (cells_one _ rfl) ?_)
    go_at_call 19; refine (ex5_Speaker _ A9 a9 B9 b9 M9 k9 q1 q2 q3).mono ?_; rintro e w' ⟨rfl, hx⟩; obtain ⟨yf, rfl⟩ := hx.get; clear hx
    go_wp2
    go_ret
    exact ⟨rfl, hex4.trans (ex)⟩
end Go.Proofs.YtmhinhgflehkaaaGreat

/-
  Two nodes that have settled, in plain; a mailbox's world goes on.
-/
namespace Go.Proofs.YtmhinhgflehkaaaGreat
open Go.RowKit

theorem maxT_own {id t : Int} (h0 : 0 ≤ t) : ownB id (if (t + 1) % 2 = id % 2 then t + 1 else t + 2) = true ∧ t < (if (t + 1) % 2 = id % 2 then t + 1 else t + 2) ∧ (if (t + 1) % 2 = id % 2 then t + 1 else t + 2) ≤ t + 2 := by
  split
  · exact ⟨by unfold ownB; exact decide_eq_true ⟨by omega, by omega⟩, by omega, by omega⟩
  · exact ⟨by unfold ownB; exact decide_eq_true ⟨by omega, by omega⟩, by omega, by omega⟩
theorem ends_acts {L : List Rec} {x y : Nod} (h : Ends L x y) : actionsV x = (L.map (·.act), 0) ∧ actionsV y = (L.map (·.act), 0) := by
  constructor
  · unfold actionsV
    rw [if_neg (by rw [(nodE_iff x).2 h.nx]; simp), h.xa, h.log, Int.toNat_natCast, List.take_of_length_le (Nat.le_refl _)]
  · unfold actionsV
    rw [if_neg (by rw [(nodE_iff y).2 h.ny]; simp), h.ya, Int.toNat_natCast, h.same]
/-- The term in which one leads behind both. -/
def bothT (a b : Nod) : Int := if (max a.term b.term + 1) % 2 = a.id % 2 then max a.term b.term + 1 else max a.term b.term + 2
theorem settles_end {G : Int → Option (List Rec)} {K : Nat} {w : CW} (h : Inv G K w) (hK : K ≤ 100) (i : Bool) :
    leadV (w.n i) (bothT (w.n i) (w.n (!i))) = (ledN (w.n i) (bothT (w.n i) (w.n (!i))), 0) ∧ ∃ x y c, settleV (ledN (w.n i) (bothT (w.n i) (w.n (!i)))) (w.n (!i)) = (x, y, c, 0) ∧ actionsV x = ((w.n i).log.map (·.act), 0) ∧ actionsV y = ((w.n i).log.map (·.act), 0) := by
  have hn := h.node i
  have hm := h.node (!i)
  have h0 := hn.t0
  have h1 := h.terms i
  have h2 := h.terms (!i)
  obtain ⟨q1, q2, q3⟩ := maxT_own (t := max (w.n i).term (w.n (!i)).term) (id := (w.n i).id) (by omega)
  have e : bothT (w.n i) (w.n (!i)) = (if (max (w.n i).term (w.n (!i)).term + 1) % 2 = (w.n i).id % 2 then max (w.n i).term (w.n (!i)).term + 1 else max (w.n i).term (w.n (!i)).term + 2) := rfl
  rw [← e] at q1 q2 q3
  rw [h.id i] at q1
  obtain ⟨hl, x, y, c, hs, he⟩ := settles_led h hK i q1 (by omega) (by omega) (by omega)
  exact ⟨hl, x, y, c, hs, ends_acts he⟩
theorem wpAnyL_name {P : Program} {md : Region.Mode} {ops : Array Oper} {Q : Exit → Act → World → Prop} {S : Array Bool → World → Prop} {f : Nat} {L : Array Bool} {a : Act} {W : World} (h : ∀ W', W' = W → wpAnyL P md ops Q S f L a W') : wpAnyL P md ops Q S f L a W := h W rfl
theorem CaseIn.mono {w W V : World} {g : Nat} {n0 n1 : Nod} {l0 l1 : List Msg} {t : Int} (h : CaseIn w W g n0 n1 l0 l1 t) (hx : Ext W V) : CaseIn w V g n0 n1 l0 l1 t := by
  obtain ⟨A, a, B, b, M, m, xs, N, n, ys, h⟩ := h
  exact ⟨A, a, B, b, M, m, xs, N, n, ys, h.mono hx⟩
theorem CaseIn.ext {w W : World} {g : Nat} {n0 n1 : Nod} {l0 l1 : List Msg} {t : Int} (h : CaseIn w W g n0 n1 l0 l1 t) : Ext w W := by
  obtain ⟨A, a, B, b, M, m, xs, N, n, ys, h⟩ := h
  exact h.ext
end Go.Proofs.YtmhinhgflehkaaaGreat

/-
  Two nodes settle behind any steps.
-/
namespace Go.Proofs.YtmhinhgflehkaaaGreat
open Go.RowKit

set_option maxHeartbeats 6400000 in
set_option maxRecDepth 100000 in
theorem top_Settle_yes (A0 : Option Addr) (k0 : Nat) (l : List Stp) (w : World) (hs : Sl w A0 3 (l.map stpR)) (ho : ∀ s ∈ l, StpOk s) : Calls Tryz.prog 11 #[.slice A0 l.length k0, .bool true] w fun e w' => e = .returned (.bool true) ∧ Ext w w' := by
  have HS := Lib.hid hs
  have HO := Lib.hid ho
  clear ho
  by_cases h60 : 60 < l.length
  · have hd : decide ((60 : Int) < (l.length : Int)) = true := decide_eq_true (by omega)
    clear hs
    go_enter Tryz.func11, Tryz.ntmps11
    go_wp2_with (go_at_call 47; refine (top_caseReplicas _).mono ?_; rintro e w' ⟨rfl, hx⟩; obtain ⟨y, rfl⟩ := hx.get; clear hx)
    go_ret
    exact ⟨rfl, ex⟩
  · have hd : decide ((60 : Int) < (l.length : Int)) = false := decide_eq_false (by omega)
    clear hs
    go_enter Tryz.func11, Tryz.ntmps11
    go_wp2_with (refine wpList_built rfl 117 _ rfl [] rfl #[.int .i64 0, .int .i64 0, .bool false, .slice none 0 0, .int .i64 0, .int .i64 0, .int .i64 0, .int .i64 0, .bool false, .slice none 0 0, .int .i64 0, .int .i64 0, .slice none 0 0, .slice none 0 0, .int .i64 0] (by kernel_rfl) ?_)
    go_loopw [28] (fun i wr => (i = .int .i64 0 ∧ CaseIn w wr w.heap.size nod0 nod0 [] [] 0) ∨ (i = .int .i64 1 ∧ CaseIn w wr w.heap.size nod1 nod0 [] [] 0) ∨ (i = .int .i64 2 ∧ CaseIn w wr w.heap.size nod1 nod2 [] [] 0)) (fun i _ => 2 - (intOf i).toNat)
    case atStart => exact .inl ⟨rfl, none, 0, none, 0, none, 0, [], none, 0, [], ⟨ex, Nat.le_refl _, BoxAt.new rfl [.int .i64 0, .int .i64 0, .bool false, .slice none 0 0, .int .i64 0, .int .i64 0, .int .i64 0, .int .i64 0, .bool false, .slice none 0 0, .int .i64 0, .int .i64 0, .slice none 0 0, .slice none 0 0, .int .i64 0] 117, LogW.nil _ _, LogW.nil _ _, BoxM.nil _ _, BoxM.nil _ _, fun p q h => (by cases h)⟩⟩
    case round =>
      rcases hrel with ⟨rfl, hc⟩ | ⟨rfl, hc⟩ | ⟨rfl, hc⟩
      · obtain ⟨A, a, B, b, M, m, xs, N, n, ys, hC⟩ := hc
        go_wp2_with (go_at_call 48; refine (rep_New_as 1 (by omega) (by omega) _).mono ?_; rintro e w' ⟨D, K, rfl, hx, hK⟩; obtain ⟨ya, rfl⟩ := hx.get; clear hx)
        (refine wp_region_tail 6 (by kernel_rfl) (by kernel_rfl) ?_; simp only [List.take_succ_cons, List.take_zero, List.drop_succ_cons, List.drop_zero]; (repeat (go_big_quiet_step (fail))); refine wpQuiet_nil ?_; rintro _ ⟨y, rfl⟩)
        refine wpList_store_part rfl 24 (.tmp 44) (.tmp 41) rfl (hC.box.mono (ex)) 0 rfl [.int .i64 1, .int .i64 0, .bool false, .slice D 0 K, .int .i64 0, .int .i64 0] rfl (show 6 ≤ 15 by decide) (show 15 < 44 by decide) (by kernel_rfl) (cells_one _ rfl) [.int .i64 nod1.id, .int .i64 nod1.term, .bool nod1.speaks, .slice D nod1.log.length K, .int .i64 nod1.acked, .int .i64 nod1.next, .int .i64 nod0.id, .int .i64 nod0.term, .bool nod0.speaks, .slice B nod0.log.length b, .int .i64 nod0.acked, .int .i64 nod0.next, .slice M 0 m, .slice N 0 n, .int .i64 0] rfl ?_; intro W5 ht5 hb5
        go_wp2
        go_light
        exact ⟨.inr (.inl ⟨rfl, _, _, _, _, _, _, _, _, _, _, CaseAt.put0 (x := nod1) (hC.mono (ex)) ht5 ⟨Sl.nil _ _ _, rfl, Nat.zero_le _, hK, by simp [nod1]⟩ hb5⟩), by simp [intOf]⟩
      · obtain ⟨A, a, B, b, M, m, xs, N, n, ys, hC⟩ := hc
        go_wp2_with (go_at_call 48; refine (rep_New_as 2 (by omega) (by omega) _).mono ?_; rintro e w' ⟨D, K, rfl, hx, hK⟩; obtain ⟨ya, rfl⟩ := hx.get; clear hx)
        (refine wp_region_tail 6 (by kernel_rfl) (by kernel_rfl) ?_; simp only [List.take_succ_cons, List.take_zero, List.drop_succ_cons, List.drop_zero]; (repeat (go_big_quiet_step (fail))); refine wpQuiet_nil ?_; rintro _ ⟨y, rfl⟩)
        refine wpList_store_part rfl 24 (.tmp 44) (.tmp 41) rfl (hC.box.mono (ex)) 6 rfl [.int .i64 2, .int .i64 0, .bool false, .slice D 0 K, .int .i64 0, .int .i64 0] rfl (show 12 ≤ 15 by decide) (show 15 < 44 by decide) (by kernel_rfl) (cells_one _ rfl) [.int .i64 nod1.id, .int .i64 nod1.term, .bool nod1.speaks, .slice A nod1.log.length a, .int .i64 nod1.acked, .int .i64 nod1.next, .int .i64 nod2.id, .int .i64 nod2.term, .bool nod2.speaks, .slice D nod2.log.length K, .int .i64 nod2.acked, .int .i64 nod2.next, .slice M 0 m, .slice N 0 n, .int .i64 0] rfl ?_; intro W5 ht5 hb5
        go_wp2
        go_light
        exact ⟨.inr (.inr ⟨rfl, _, _, _, _, _, _, _, _, _, _, CaseAt.put1 (x := nod2) (hC.mono (ex)) ht5 ⟨Sl.nil _ _ _, rfl, Nat.zero_le _, hK, by simp [nod2]⟩ hb5⟩), by simp [intOf]⟩
      · go_wp2
        clear hd
        go_loopw [48] (fun i wr => ∃ (k : Nat) (c : CW) (G : Int → Option (List Rec)), k ≤ l.length ∧ i = .int .i64 k ∧ Hid (Inv G k c ∧ (c.mail false).length ≤ k ∧ (c.mail true).length ≤ k) ∧ CaseIn w wr w.heap.size (c.n false) (c.n true) (c.mail false) (c.mail true) c.time) (fun i _ => l.length - (intOf i).toNat)
        case atStart => exact ⟨0, start, _, by omega, rfl, Lib.hid ⟨start_inv, Nat.le_refl _, Nat.le_refl _⟩, hc⟩
        case round =>
          clear hc
          obtain ⟨k, c, G, hk, rfl, HI, hc⟩ := hrel
          by_cases hlt : k < l.length
          · obtain ⟨s, hsk⟩ : ∃ s, l[k]? = some s := ⟨_, List.getElem?_eq_getElem hlt⟩
            have hso := HO.out s (List.mem_of_getElem? hsk)
            obtain ⟨c', G', hv, hI', -⟩ := step_inv HI.out.1 (by omega) s hso.2.2
            obtain ⟨b0, o0, rfl, c0, c1, c2⟩ := HS.out.row3 (i := k) (v0 := .int .u8 s.kind) (v1 := .int .u8 s.node) (v2 := .int .u8 s.pick) (by rw [List.getElem?_map, hsk]; rfl)
            have hext := hc.ext
            replace c0 := hext.cell c0
            replace c1 := hext.cell c1
            replace c2 := hext.cell c2
            have hm0 := step_mail hv false
            have hm1 := step_mail hv true
            have HM := Lib.hid (show Inv G' (k + 1) c' ∧ (c'.mail false).length ≤ k + 1 ∧ (c'.mail true).length ≤ k + 1 from ⟨hI', by have := HI.out.2.1; omega, by have := HI.out.2.2; omega⟩)
            have HC := Lib.hid (fun (V : World) (h : CaseIn w V w.heap.size (c.n false) (c.n true) (c.mail false) (c.mail true) c.time) => top_step HI.out.1 (by omega) hso hv (by have := HI.out.2.1; omega) (by have := HI.out.2.2; omega) h)
            have HCI := Lib.hid hc
            have hb1 : (0 : Int) ≤ (k : Int) := by omega
            have hb2 : (k : Int) < (l.length : Int) := by omega
            clear hc hext hso hv hI' hm0 hm1 hsk HI
            go_wp2_with (go_at_call 49; refine (HC.out _ (HCI.out.mono (ex))).mono ?_; rintro e w' ⟨rfl, hst, hcn⟩; have HN := Lib.hid hcn; clear hst hcn)
            go_light
            exact ⟨⟨k + 1, c', G', by omega, by go_num, HM, HN.out⟩, by simp [intOf]; omega⟩
          · obtain ⟨n0, hn0⟩ : ∃ n0, c.n false = n0 := ⟨_, rfl⟩
            obtain ⟨n1, hn1⟩ : ∃ n1, c.n true = n1 := ⟨_, rfl⟩
            have HK : k ≤ 60 := by omega
            obtain ⟨hlead, x, y, cn, hset, hax, hay⟩ := settles_end HI.out.1 (by omega) false
            rw [show (!false) = true from rfl] at hlead hset
            rw [hn0, hn1] at hc
            rw [hn0, hn1] at hlead hset
            rw [hn0] at hax hay
            have hl0 := (HI.out.1.log false).len
            have hl1 := (HI.out.1.log true).len
            have hok0 := HI.out.1.node false
            have hok1 := HI.out.1.node true
            have htm0 := HI.out.1.terms false
            have htm1 := HI.out.1.terms true
            rw [hn0] at hl0 hok0 htm0
            rw [hn1] at hl1 hok1 htm1
            clear hn0 hn1 HI
            obtain ⟨A, a, B, b, M, m, xs, N, n, ys, hC⟩ := hc
            obtain ⟨tm, htm⟩ : ∃ tm, max n0.term n1.term = tm := ⟨_, rfl⟩
            have hb0 := hok0.t0
            have hb1 := hok1.t0
            have t0 : 0 ≤ tm := by omega
            have t1 : tm ≤ 200 := by omega
            have hw1 : IntKind.i64.wrap (tm + 1) = tm + 1 := IntWalk.i64_in _ (by omega)
            have hw2 : IntKind.i64.wrap (tm + 1 + 1) = tm + 1 + 1 := IntWalk.i64_in _ (by omega)
            have hd1 := hok0.id1
            have hd2 := hok0.id2
            have hd3 := hok1.id1
            have hd4 := hok1.id2
            clear hok0 hok1 htm0 htm1 hb0 hb1
            have hel0 := hC.q0.el
            have hel1 := hC.q1.el
            obtain ⟨la, hla⟩ : ∃ la, n0.log.map (·.act) = la := ⟨_, rfl⟩
            rw [hla] at hax hay
            have hll : la.length = n0.log.length := by rw [← hla, List.length_map]
            have hal0 : ∀ r ∈ x.log, AcnAt w r.act := by have := (settleV_all (R := fun r => AcnAt w r.act) (ledN n0 (bothT n0 n1)) n1 (by exact hel0) (by exact hel1)).1; rwa [hset] at this
            have hal1 : ∀ r ∈ y.log, AcnAt w r.act := by have := (settleV_all (R := fun r => AcnAt w r.act) (ledN n0 (bothT n0 n1)) n1 (by exact hel0) (by exact hel1)).2.1; rwa [hset] at this
            obtain ⟨x1, hx1⟩ : ∃ x1, ledN n0 (bothT n0 n1) = x1 := ⟨_, rfl⟩
            have hx1l : ∀ r ∈ x1.log, AcnAt w r.act := by rw [← hx1]; exact hel0
            have hz5 : ((la.length : Int) == (x1.log.length : Int)) = true := by rw [hll, ← hx1]; simp [ledN]
            rw [hx1] at hlead hset
            clear hla hll hx1 hel0 hel1
            rename_i wr
            have c0 := hC.box.cell (i := 0) rfl
            have c1 := hC.box.cell (i := 1) rfl
            have c2 := hC.box.cell (i := 2) rfl
            have c3 := hC.box.cell (i := 3) rfl
            have c4 := hC.box.cell (i := 4) rfl
            have c5 := hC.box.cell (i := 5) rfl
            have c6 := hC.box.cell (i := 6) rfl
            have c7 := hC.box.cell (i := 7) rfl
            have c8 := hC.box.cell (i := 8) rfl
            have c9 := hC.box.cell (i := 9) rfl
            have c10 := hC.box.cell (i := 10) rfl
            have c11 := hC.box.cell (i := 11) rfl
            have c12 := hC.box.cell (i := 12) rfl
            have c13 := hC.box.cell (i := 13) rfl
            have c14 := hC.box.cell (i := 14) rfl
            by_cases hp : (tm + 1) % 2 = n0.id % 2
            · have HE := Lib.hid (show bothT n0 n1 = tm + 1 by unfold bothT; rw [htm, if_pos hp])
              have hpq : ((tm + 1) % 2 != n0.id % 2) = false := by simpa using hp
              clear hp
              rw [HE.out] at hlead
              have HLD := Lib.hid (fun (V : World) (hr : RecsAt V A a n0.log) => (rep_Lead n0 A a (tm + 1) V hr).mono fun _ _ q => RetNod.parts q hlead hx1l)
              have HST := Lib.hid (fun (V : World) (D : Option Addr) (K : Nat) (h1 : RecsAt V D K x1.log) (h2 : RecsAt V B b n1.log) => (rep_Settle x1 D K n1 B b V h1 h2).mono fun _ _ q => RetSett.parts (w0 := w) q hset hal0 hal1)
              have HX1 := Lib.hid (fun (V : World) (D : Option Addr) (K : Nat) (h1 : RecsAt V D K x.log) => (rep_Actions x D K V h1).mono fun _ _ q => RetActs.parts q hax)
              have HX2 := Lib.hid (fun (V : World) (D : Option Addr) (K : Nat) (h1 : RecsAt V D K y.log) => (rep_Actions y D K V h1).mono fun _ _ q => RetActs.parts q hay)
              clear hlead hset hax hay hx1l hal0 hal1
              go_wp2_with fail
              refine wp_region_L (S := fun _ w9 => Ext wr w9) (by kernel_rfl) (ex) (fun hcl hS => ?_)
              refine wpAnyL_take (i := 0) (T := (fun w9 => Ext wr w9)) (v := ?_) rfl (by kernel_rfl) (by kernel_rfl) (by kernel_rfl) (fun _ _ _ h => h) (fun _ _ _ _ hS => hS) (fun _ _ h => h) (fun _ _ h => h) (Or.inl ⟨by rfl, ?_⟩) hcl hS ?_
              rotate_left
              · (intro w9 hw9; (try dsimp only at hw9); go_simp; try with_reducible rfl)
              clear hcl hS
              intro hcl hS
              (try simp only [Act.put]); (try simp only [List.setIfInBounds_toArray]); (repeat (first | simp only [List.set_cons_succ] | simp only [List.set_cons_zero]))
              refine wpAnyL_take (i := 1) (T := (fun w9 => Ext wr w9)) (v := ?_) rfl (by kernel_rfl) (by kernel_rfl) (by kernel_rfl) (fun _ _ _ h => h) (fun _ _ _ _ hS => hS) (fun _ _ h => h) (fun _ _ h => h) (Or.inl ⟨by rfl, ?_⟩) hcl hS ?_
              rotate_left
              · (intro w9 hw9; (try dsimp only at hw9); go_simp; try with_reducible rfl)
              clear hcl hS
              intro hcl hS
              (try simp only [Act.put]); (try simp only [List.setIfInBounds_toArray]); (repeat (first | simp only [List.set_cons_succ] | simp only [List.set_cons_zero]))
              refine wpAnyL_take (i := 2) (T := (fun w9 => Ext wr w9)) (v := ?_) rfl (by kernel_rfl) (by kernel_rfl) (by kernel_rfl) (fun _ _ _ h => h) (fun _ _ _ _ hS => hS) (fun _ _ h => h) (fun _ _ h => h) (Or.inl ⟨by rfl, ?_⟩) hcl hS ?_
              rotate_left
              · (intro w9 hw9; (try dsimp only at hw9); go_simp; try with_reducible rfl)
              clear hcl hS
              intro hcl hS
              (try simp only [Act.put]); (try simp only [List.setIfInBounds_toArray]); (repeat (first | simp only [List.set_cons_succ] | simp only [List.set_cons_zero]))
              refine wpAnyL_take (i := 3) (T := (fun w9 => Ext wr w9)) (v := ?_) rfl (by kernel_rfl) (by kernel_rfl) (by kernel_rfl) (fun _ _ _ h => h) (fun _ _ _ _ hS => hS) (fun _ _ h => h) (fun _ _ h => h) (Or.inl ⟨by rfl, ?_⟩) hcl hS ?_
              rotate_left
              · (intro w9 hw9; (try dsimp only at hw9); go_simp; try with_reducible rfl)
              clear hcl hS
              intro hcl hS
              (try simp only [Act.put]); (try simp only [List.setIfInBounds_toArray]); (repeat (first | simp only [List.set_cons_succ] | simp only [List.set_cons_zero]))
              refine wpAnyL_take (i := 4) (T := (fun w9 => Ext wr w9)) (v := ?_) rfl (by kernel_rfl) (by kernel_rfl) (by kernel_rfl) (fun _ _ _ h => h) (fun _ _ _ _ hS => hS) (fun _ _ h => h) (fun _ _ h => h) (Or.inl ⟨by rfl, ?_⟩) hcl hS ?_
              rotate_left
              · (intro w9 hw9; (try dsimp only at hw9); have z0 := hw9.cell c0; have z1 := hw9.cell c1; have z2 := hw9.cell c2; have z3 := hw9.cell c3; have z4 := hw9.cell c4; have z5 := hw9.cell c5; go_simp; try with_reducible rfl)
              clear hcl hS
              intro hcl hS
              (try simp only [Act.put]); (try simp only [List.setIfInBounds_toArray]); (repeat (first | simp only [List.set_cons_succ] | simp only [List.set_cons_zero]))
              refine wpAnyL_take (i := 5) (T := (fun w9 => Ext wr w9)) (v := ?_) rfl (by kernel_rfl) (by kernel_rfl) (by kernel_rfl) (fun _ _ _ h => h) (fun _ _ _ _ hS => hS) (fun _ _ h => h) (fun _ _ h => h) (Or.inl ⟨by rfl, ?_⟩) hcl hS ?_
              rotate_left
              · (intro w9 hw9; (try dsimp only at hw9); go_simp; try with_reducible rfl)
              clear hcl hS
              intro hcl hS
              (try simp only [Act.put]); (try simp only [List.setIfInBounds_toArray]); (repeat (first | simp only [List.set_cons_succ] | simp only [List.set_cons_zero]))
              refine wpAnyL_take (i := 6) (T := (fun w9 => Ext wr w9)) (v := ?_) rfl (by kernel_rfl) (by kernel_rfl) (by kernel_rfl) (fun _ _ _ h => h) (fun _ _ _ _ hS => hS) (fun _ _ h => h) (fun _ _ h => h) (Or.inl ⟨by rfl, ?_⟩) hcl hS ?_
              rotate_left
              · (intro w9 hw9; (try dsimp only at hw9); go_simp; try with_reducible rfl)
              clear hcl hS
              intro hcl hS
              (try simp only [Act.put]); (try simp only [List.setIfInBounds_toArray]); (repeat (first | simp only [List.set_cons_succ] | simp only [List.set_cons_zero]))
              refine wpAnyL_take (i := 7) (T := (fun w9 => Ext wr w9)) (v := ?_) rfl (by kernel_rfl) (by kernel_rfl) (by kernel_rfl) (fun _ _ _ h => h) (fun _ _ _ _ hS => hS) (fun _ _ h => h) (fun _ _ h => h) (Or.inl ⟨by rfl, ?_⟩) hcl hS ?_
              rotate_left
              · (intro w9 hw9; (try dsimp only at hw9); go_simp; try with_reducible rfl)
              clear hcl hS
              intro hcl hS
              (try simp only [Act.put]); (try simp only [List.setIfInBounds_toArray]); (repeat (first | simp only [List.set_cons_succ] | simp only [List.set_cons_zero]))
              refine wpAnyL_take (i := 8) (T := (fun w9 => Ext wr w9)) (v := ?_) rfl (by kernel_rfl) (by kernel_rfl) (by kernel_rfl) (fun _ _ _ h => h) (fun _ _ _ _ hS => hS) (fun _ _ h => h) (fun _ _ h => h) (Or.inl ⟨by rfl, ?_⟩) hcl hS ?_
              rotate_left
              · (intro w9 hw9; (try dsimp only at hw9); go_simp; try with_reducible rfl)
              clear hcl hS
              intro hcl hS
              (try simp only [Act.put]); (try simp only [List.setIfInBounds_toArray]); (repeat (first | simp only [List.set_cons_succ] | simp only [List.set_cons_zero]))
              refine wpAnyL_take (i := 9) (T := (fun w9 => Ext wr w9)) (v := ?_) rfl (by kernel_rfl) (by kernel_rfl) (by kernel_rfl) (fun _ _ _ h => h) (fun _ _ _ _ hS => hS) (fun _ _ h => h) (fun _ _ h => h) (Or.inl ⟨by rfl, ?_⟩) hcl hS ?_
              rotate_left
              · (intro w9 hw9; (try dsimp only at hw9); have z6 := hw9.cell c6; have z7 := hw9.cell c7; have z8 := hw9.cell c8; have z9 := hw9.cell c9; have z10 := hw9.cell c10; have z11 := hw9.cell c11; go_simp; try with_reducible rfl)
              clear hcl hS
              intro hcl hS
              (try simp only [Act.put]); (try simp only [List.setIfInBounds_toArray]); (repeat (first | simp only [List.set_cons_succ] | simp only [List.set_cons_zero]))
              refine wpAnyL_two (i := 10) (j := 11) (by kernel_rfl) rfl rfl rfl rfl hcl (fun K9 hK9 => ?_) (fun K9 hK9 => ?_)
              clear hS hcl
              go_simp
              refine hK9 _ _ (by exact ex) (fun hcl hS => ?_)
              clear hK9
              refine wpAnyL_only (i := 11) (by kernel_rfl) rfl rfl hcl (fun K9 hK9 => ?_)
              clear hS hcl
              go_simp
              refine hK9 _ _ (by exact ex) (fun hcl hS => ?_)
              clear hK9
              refine wpAnyL_name (fun V1 hV1 => ?_)
              have b10 : BoxAt V1 (wr.heap.size) [.int .i64 0, .int .i64 0, .bool false, .slice none 0 0, .int .i64 0, .int .i64 0] 24 := by rw [hV1]; exact (BoxAt.new (W := wr) rfl [.int .i64 0, .int .i64 0, .bool false, .slice none 0 0, .int .i64 0, .int .i64 0] 24).mono (ex)
              have b11 : BoxAt V1 (wr.heap.size + 1) [.int .i64 0, .int .i64 0, .bool false, .slice none 0 0, .int .i64 0, .int .i64 0] 24 := by rw [hV1]; exact (BoxAt.new (W := wr.alloc (.cells #[.int .i64 0, .int .i64 0, .bool false, .slice none 0 0, .int .i64 0, .int .i64 0] 24)) (by simp [go_sem]) [.int .i64 0, .int .i64 0, .bool false, .slice none 0 0, .int .i64 0, .int .i64 0] 24).mono (ex)
              have hxx : Ext wr V1 := by rw [hV1]; exact (ex)
              clear hV1 hS
              obtain ⟨g10, hg10⟩ : ∃ g, g = wr.heap.size := ⟨_, rfl⟩
              obtain ⟨g11, hg11⟩ : ∃ g, g = wr.heap.size + 1 := ⟨_, rfl⟩
              rw [← hg11] at b11 ⊢
              rw [← hg10] at b10 ⊢
              have hge10 : wr.heap.size ≤ g10 := by omega
              have hge11 : wr.heap.size ≤ g11 := by omega
              have hne : g10 ≠ g11 := by omega
              clear hg10 hg11
              rotate_left
              clear hS hcl
              go_simp
              refine hK9 _ _ (by exact ex) (fun hcl hS => ?_)
              clear hK9
              refine wpAnyL_only (i := 10) (by kernel_rfl) rfl rfl hcl (fun K9 hK9 => ?_)
              clear hS hcl
              go_simp
              refine hK9 _ _ (by exact ex) (fun hcl hS => ?_)
              clear hK9
              refine wpAnyL_name (fun V1 hV1 => ?_)
              have b10 : BoxAt V1 (wr.heap.size + 1) [.int .i64 0, .int .i64 0, .bool false, .slice none 0 0, .int .i64 0, .int .i64 0] 24 := by rw [hV1]; exact (BoxAt.new (W := wr.alloc (.cells #[.int .i64 0, .int .i64 0, .bool false, .slice none 0 0, .int .i64 0, .int .i64 0] 24)) (by simp [go_sem]) [.int .i64 0, .int .i64 0, .bool false, .slice none 0 0, .int .i64 0, .int .i64 0] 24).mono (ex)
              have b11 : BoxAt V1 (wr.heap.size) [.int .i64 0, .int .i64 0, .bool false, .slice none 0 0, .int .i64 0, .int .i64 0] 24 := by rw [hV1]; exact (BoxAt.new (W := wr) rfl [.int .i64 0, .int .i64 0, .bool false, .slice none 0 0, .int .i64 0, .int .i64 0] 24).mono (ex)
              have hxx : Ext wr V1 := by rw [hV1]; exact (ex)
              clear hV1 hS
              obtain ⟨g10, hg10⟩ : ∃ g, g = wr.heap.size + 1 := ⟨_, rfl⟩
              obtain ⟨g11, hg11⟩ : ∃ g, g = wr.heap.size := ⟨_, rfl⟩
              rw [← hg10] at b10 ⊢
              rw [← hg11] at b11 ⊢
              have hge10 : wr.heap.size ≤ g10 := by omega
              have hge11 : wr.heap.size ≤ g11 := by omega
              have hne : g10 ≠ g11 := by omega
              clear hg10 hg11
              rotate_left
              all_goals
                refine wpAnyL_store (i := 12) (by kernel_rfl) rfl rfl hcl 24 (.tmp 11) (.tmp 61) rfl b10 rfl [.int .i64 n0.id, .int .i64 n0.term, .bool n0.speaks, .slice A n0.log.length a, .int .i64 n0.acked, .int .i64 n0.next] rfl rfl (show 6 < 44 by decide) (by kernel_rfl) (nodl_one n0 A a) ?_; intro W1 ht1 hb1
                refine ⟨ht1.ext hxx hge10, fun hcl hS => ?_⟩
                clear hS
                refine wpAnyL_store (i := 13) (by kernel_rfl) rfl rfl hcl 24 (.tmp 12) (.tmp 66) rfl (b11.turn ht1 (Ne.symm hne)) rfl [.int .i64 n1.id, .int .i64 n1.term, .bool n1.speaks, .slice B n1.log.length b, .int .i64 n1.acked, .int .i64 n1.next] rfl rfl (show 6 < 44 by decide) (by kernel_rfl) (nodl_one n1 B b) ?_; intro W2 ht2 hb2
                refine ⟨ht2.ext (ht1.ext hxx hge10) hge11, fun hcl hS => ?_⟩
                clear hcl hS
                have j1 := hb1.turn ht2 hne
                refine wpAnyL_done (by kernel_rfl) ?_ _
                clear c0 c1 c2 c3 c4 c5 c6 c7 c8 c9 c10 c11 c12 c13 c14
                obtain ⟨p0, p1, p2, p3, p4, p5⟩ := j1.six
                obtain ⟨q0, q1, q2, q3, q4, q5⟩ := hb2.six
                go_wp2_with fail
                have e2 : Ext w W2 := ht2.ext (ht1.ext (hC.ext.trans hxx) (by have := hC.ext.size; omega)) (by have := hC.ext.size; omega)
                have ma := ((hC.q0.mono hxx).turn ht1).turn ht2
                have mb := ((hC.q1.mono hxx).turn ht1).turn ht2
                go_at_call 52; refine (HLD.out _ (ma.recs e2 (ex))).mono ?_; rintro e w' ⟨D5, K5, rfl, hx, hl⟩; have HL5 := Lib.hid hl; obtain ⟨ye, rfl⟩ := hx.get; clear hx hl
                go_wp2_with (refine wpList_store_at rfl 24 (.tmp 11) (.tmp 89) rfl (j1.mono (show Ext W2 _ from ex)) rfl [.int .i64 x1.id, .int .i64 x1.term, .bool x1.speaks, .slice D5 x1.log.length K5, .int .i64 x1.acked, .int .i64 x1.next] rfl rfl (show 6 < 44 by decide) (by kernel_rfl) (nodl_one x1 D5 K5) ?_; intro W5 ht5 hb5; have i5 := (hb2.mono (show Ext W2 _ from ex)).turn ht5 (by omega); have e5 : Ext w W5 := ht5.ext (e2.trans (ex)) (by have := hC.ext.size; omega); have l5 := HL5.out.turn ht5; have m5 := (mb.mono (show Ext W2 _ from ex)).turn ht5; clear p0 p1 p2 p3 p4 p5 q0 q1 q2 q3 q4 q5; obtain ⟨p0, p1, p2, p3, p4, p5⟩ := hb5.six; obtain ⟨q0, q1, q2, q3, q4, q5⟩ := i5.six)
                go_at_call 53; refine (HST.out _ D5 K5 (l5.recs e5 (ex)) (m5.recs e5 (ex))).mono ?_; rintro e w' ⟨D6, K6, E6, J6, rfl, hx, h6, h7⟩; have HL6 := Lib.hid h6; have HL7 := Lib.hid h7; obtain ⟨yf, rfl⟩ := hx.get; clear hx h6 h7
                go_wp2_with (first
                  | (refine wpList_store_at rfl 24 (.tmp 11) (.tmp 98) rfl (hb5.mono (show Ext W5 _ from ex)) rfl [.int .i64 x.id, .int .i64 x.term, .bool x.speaks, .slice D6 x.log.length K6, .int .i64 x.acked, .int .i64 x.next] rfl rfl (show 6 < 44 by decide) (by kernel_rfl) (nodl_one x D6 K6) ?_; intro W6 ht6 hb6; have i6 := (i5.mono (show Ext W5 _ from ex)).turn ht6 (by omega); have e6 : Ext w W6 := ht6.ext (e5.trans (ex)) (by have := hC.ext.size; omega))
                  | (refine wpList_store_at rfl 24 (.tmp 12) (.tmp 99) rfl i6 rfl [.int .i64 y.id, .int .i64 y.term, .bool y.speaks, .slice E6 y.log.length J6, .int .i64 y.acked, .int .i64 y.next] rfl rfl (show 6 < 44 by decide) (by kernel_rfl) (nodl_one y E6 J6) ?_; intro W7 ht7 hb7; have j6 := hb6.turn ht7 (by omega); have e7 : Ext w W7 := ht7.ext e6 (by have := hC.ext.size; omega); have m6 := (HL6.out.turn ht6).turn ht7; have m7 := (HL7.out.turn ht6).turn ht7; clear p0 p1 p2 p3 p4 p5 q0 q1 q2 q3 q4 q5; obtain ⟨p0, p1, p2, p3, p4, p5⟩ := j6.six; obtain ⟨q0, q1, q2, q3, q4, q5⟩ := hb7.six))
                go_at_call 54; refine (HX1.out _ D6 K6 (m6.recs e7 (ex))).mono ?_; rintro e w' ⟨Ak, kk, rfl, hx, hr⟩; have HG1 := Lib.hid hr; obtain ⟨yg, rfl⟩ := hx.get; clear hx hr
                go_wp2_with fail
                go_at_call 54; refine (HX2.out _ E6 J6 (m7.recs e7 (ex))).mono ?_; rintro e w' ⟨Bk, kb, rfl, hx, hr⟩; have HG2 := Lib.hid hr; obtain ⟨yh, rfl⟩ := hx.get; clear hx hr
                go_wp2_with fail
                go_at_call 55; refine (r33_SameLog1 Ak Bk kk kb la _ (HG1.out.mono (ex)) (HG2.out.mono (ex))).mono ?_; rintro e w' ⟨rfl, hx⟩; obtain ⟨yi, rfl⟩ := hx.get; clear hx
                go_wp2_with (go_at_call 47; refine (top_caseReplicas _).mono ?_; rintro e w' ⟨rfl, hx⟩; obtain ⟨y, rfl⟩ := hx.get; clear hx)
                go_ret
                exact ⟨rfl, e7.trans (ex)⟩
            · have HE := Lib.hid (show bothT n0 n1 = tm + 1 + 1 by unfold bothT; rw [htm, if_neg hp]; omega)
              have hpq : ((tm + 1) % 2 != n0.id % 2) = true := by simpa using hp
              clear hp
              rw [HE.out] at hlead
              have HLD := Lib.hid (fun (V : World) (hr : RecsAt V A a n0.log) => (rep_Lead n0 A a (tm + 1 + 1) V hr).mono fun _ _ q => RetNod.parts q hlead hx1l)
              have HST := Lib.hid (fun (V : World) (D : Option Addr) (K : Nat) (h1 : RecsAt V D K x1.log) (h2 : RecsAt V B b n1.log) => (rep_Settle x1 D K n1 B b V h1 h2).mono fun _ _ q => RetSett.parts (w0 := w) q hset hal0 hal1)
              have HX1 := Lib.hid (fun (V : World) (D : Option Addr) (K : Nat) (h1 : RecsAt V D K x.log) => (rep_Actions x D K V h1).mono fun _ _ q => RetActs.parts q hax)
              have HX2 := Lib.hid (fun (V : World) (D : Option Addr) (K : Nat) (h1 : RecsAt V D K y.log) => (rep_Actions y D K V h1).mono fun _ _ q => RetActs.parts q hay)
              clear hlead hset hax hay hx1l hal0 hal1
              go_wp2_with fail
              refine wp_region_L (S := fun _ w9 => Ext wr w9) (by kernel_rfl) (ex) (fun hcl hS => ?_)
              refine wpAnyL_take (i := 0) (T := (fun w9 => Ext wr w9)) (v := ?_) rfl (by kernel_rfl) (by kernel_rfl) (by kernel_rfl) (fun _ _ _ h => h) (fun _ _ _ _ hS => hS) (fun _ _ h => h) (fun _ _ h => h) (Or.inl ⟨by rfl, ?_⟩) hcl hS ?_
              rotate_left
              · (intro w9 hw9; (try dsimp only at hw9); go_simp; try with_reducible rfl)
              clear hcl hS
              intro hcl hS
              (try simp only [Act.put]); (try simp only [List.setIfInBounds_toArray]); (repeat (first | simp only [List.set_cons_succ] | simp only [List.set_cons_zero]))
              refine wpAnyL_take (i := 1) (T := (fun w9 => Ext wr w9)) (v := ?_) rfl (by kernel_rfl) (by kernel_rfl) (by kernel_rfl) (fun _ _ _ h => h) (fun _ _ _ _ hS => hS) (fun _ _ h => h) (fun _ _ h => h) (Or.inl ⟨by rfl, ?_⟩) hcl hS ?_
              rotate_left
              · (intro w9 hw9; (try dsimp only at hw9); go_simp; try with_reducible rfl)
              clear hcl hS
              intro hcl hS
              (try simp only [Act.put]); (try simp only [List.setIfInBounds_toArray]); (repeat (first | simp only [List.set_cons_succ] | simp only [List.set_cons_zero]))
              refine wpAnyL_take (i := 2) (T := (fun w9 => Ext wr w9)) (v := ?_) rfl (by kernel_rfl) (by kernel_rfl) (by kernel_rfl) (fun _ _ _ h => h) (fun _ _ _ _ hS => hS) (fun _ _ h => h) (fun _ _ h => h) (Or.inl ⟨by rfl, ?_⟩) hcl hS ?_
              rotate_left
              · (intro w9 hw9; (try dsimp only at hw9); go_simp; try with_reducible rfl)
              clear hcl hS
              intro hcl hS
              (try simp only [Act.put]); (try simp only [List.setIfInBounds_toArray]); (repeat (first | simp only [List.set_cons_succ] | simp only [List.set_cons_zero]))
              refine wpAnyL_take (i := 3) (T := (fun w9 => Ext wr w9)) (v := ?_) rfl (by kernel_rfl) (by kernel_rfl) (by kernel_rfl) (fun _ _ _ h => h) (fun _ _ _ _ hS => hS) (fun _ _ h => h) (fun _ _ h => h) (Or.inl ⟨by rfl, ?_⟩) hcl hS ?_
              rotate_left
              · (intro w9 hw9; (try dsimp only at hw9); go_simp; try with_reducible rfl)
              clear hcl hS
              intro hcl hS
              (try simp only [Act.put]); (try simp only [List.setIfInBounds_toArray]); (repeat (first | simp only [List.set_cons_succ] | simp only [List.set_cons_zero]))
              refine wpAnyL_take (i := 4) (T := (fun w9 => Ext wr w9)) (v := ?_) rfl (by kernel_rfl) (by kernel_rfl) (by kernel_rfl) (fun _ _ _ h => h) (fun _ _ _ _ hS => hS) (fun _ _ h => h) (fun _ _ h => h) (Or.inl ⟨by rfl, ?_⟩) hcl hS ?_
              rotate_left
              · (intro w9 hw9; (try dsimp only at hw9); have z0 := hw9.cell c0; have z1 := hw9.cell c1; have z2 := hw9.cell c2; have z3 := hw9.cell c3; have z4 := hw9.cell c4; have z5 := hw9.cell c5; go_simp; try with_reducible rfl)
              clear hcl hS
              intro hcl hS
              (try simp only [Act.put]); (try simp only [List.setIfInBounds_toArray]); (repeat (first | simp only [List.set_cons_succ] | simp only [List.set_cons_zero]))
              refine wpAnyL_take (i := 5) (T := (fun w9 => Ext wr w9)) (v := ?_) rfl (by kernel_rfl) (by kernel_rfl) (by kernel_rfl) (fun _ _ _ h => h) (fun _ _ _ _ hS => hS) (fun _ _ h => h) (fun _ _ h => h) (Or.inl ⟨by rfl, ?_⟩) hcl hS ?_
              rotate_left
              · (intro w9 hw9; (try dsimp only at hw9); go_simp; try with_reducible rfl)
              clear hcl hS
              intro hcl hS
              (try simp only [Act.put]); (try simp only [List.setIfInBounds_toArray]); (repeat (first | simp only [List.set_cons_succ] | simp only [List.set_cons_zero]))
              refine wpAnyL_take (i := 6) (T := (fun w9 => Ext wr w9)) (v := ?_) rfl (by kernel_rfl) (by kernel_rfl) (by kernel_rfl) (fun _ _ _ h => h) (fun _ _ _ _ hS => hS) (fun _ _ h => h) (fun _ _ h => h) (Or.inl ⟨by rfl, ?_⟩) hcl hS ?_
              rotate_left
              · (intro w9 hw9; (try dsimp only at hw9); go_simp; try with_reducible rfl)
              clear hcl hS
              intro hcl hS
              (try simp only [Act.put]); (try simp only [List.setIfInBounds_toArray]); (repeat (first | simp only [List.set_cons_succ] | simp only [List.set_cons_zero]))
              refine wpAnyL_take (i := 7) (T := (fun w9 => Ext wr w9)) (v := ?_) rfl (by kernel_rfl) (by kernel_rfl) (by kernel_rfl) (fun _ _ _ h => h) (fun _ _ _ _ hS => hS) (fun _ _ h => h) (fun _ _ h => h) (Or.inl ⟨by rfl, ?_⟩) hcl hS ?_
              rotate_left
              · (intro w9 hw9; (try dsimp only at hw9); go_simp; try with_reducible rfl)
              clear hcl hS
              intro hcl hS
              (try simp only [Act.put]); (try simp only [List.setIfInBounds_toArray]); (repeat (first | simp only [List.set_cons_succ] | simp only [List.set_cons_zero]))
              refine wpAnyL_take (i := 8) (T := (fun w9 => Ext wr w9)) (v := ?_) rfl (by kernel_rfl) (by kernel_rfl) (by kernel_rfl) (fun _ _ _ h => h) (fun _ _ _ _ hS => hS) (fun _ _ h => h) (fun _ _ h => h) (Or.inl ⟨by rfl, ?_⟩) hcl hS ?_
              rotate_left
              · (intro w9 hw9; (try dsimp only at hw9); go_simp; try with_reducible rfl)
              clear hcl hS
              intro hcl hS
              (try simp only [Act.put]); (try simp only [List.setIfInBounds_toArray]); (repeat (first | simp only [List.set_cons_succ] | simp only [List.set_cons_zero]))
              refine wpAnyL_take (i := 9) (T := (fun w9 => Ext wr w9)) (v := ?_) rfl (by kernel_rfl) (by kernel_rfl) (by kernel_rfl) (fun _ _ _ h => h) (fun _ _ _ _ hS => hS) (fun _ _ h => h) (fun _ _ h => h) (Or.inl ⟨by rfl, ?_⟩) hcl hS ?_
              rotate_left
              · (intro w9 hw9; (try dsimp only at hw9); have z6 := hw9.cell c6; have z7 := hw9.cell c7; have z8 := hw9.cell c8; have z9 := hw9.cell c9; have z10 := hw9.cell c10; have z11 := hw9.cell c11; go_simp; try with_reducible rfl)
              clear hcl hS
              intro hcl hS
              (try simp only [Act.put]); (try simp only [List.setIfInBounds_toArray]); (repeat (first | simp only [List.set_cons_succ] | simp only [List.set_cons_zero]))
              refine wpAnyL_two (i := 10) (j := 11) (by kernel_rfl) rfl rfl rfl rfl hcl (fun K9 hK9 => ?_) (fun K9 hK9 => ?_)
              clear hS hcl
              go_simp
              refine hK9 _ _ (by exact ex) (fun hcl hS => ?_)
              clear hK9
              refine wpAnyL_only (i := 11) (by kernel_rfl) rfl rfl hcl (fun K9 hK9 => ?_)
              clear hS hcl
              go_simp
              refine hK9 _ _ (by exact ex) (fun hcl hS => ?_)
              clear hK9
              refine wpAnyL_name (fun V1 hV1 => ?_)
              have b10 : BoxAt V1 (wr.heap.size) [.int .i64 0, .int .i64 0, .bool false, .slice none 0 0, .int .i64 0, .int .i64 0] 24 := by rw [hV1]; exact (BoxAt.new (W := wr) rfl [.int .i64 0, .int .i64 0, .bool false, .slice none 0 0, .int .i64 0, .int .i64 0] 24).mono (ex)
              have b11 : BoxAt V1 (wr.heap.size + 1) [.int .i64 0, .int .i64 0, .bool false, .slice none 0 0, .int .i64 0, .int .i64 0] 24 := by rw [hV1]; exact (BoxAt.new (W := wr.alloc (.cells #[.int .i64 0, .int .i64 0, .bool false, .slice none 0 0, .int .i64 0, .int .i64 0] 24)) (by simp [go_sem]) [.int .i64 0, .int .i64 0, .bool false, .slice none 0 0, .int .i64 0, .int .i64 0] 24).mono (ex)
              have hxx : Ext wr V1 := by rw [hV1]; exact (ex)
              clear hV1 hS
              obtain ⟨g10, hg10⟩ : ∃ g, g = wr.heap.size := ⟨_, rfl⟩
              obtain ⟨g11, hg11⟩ : ∃ g, g = wr.heap.size + 1 := ⟨_, rfl⟩
              rw [← hg11] at b11 ⊢
              rw [← hg10] at b10 ⊢
              have hge10 : wr.heap.size ≤ g10 := by omega
              have hge11 : wr.heap.size ≤ g11 := by omega
              have hne : g10 ≠ g11 := by omega
              clear hg10 hg11
              rotate_left
              clear hS hcl
              go_simp
              refine hK9 _ _ (by exact ex) (fun hcl hS => ?_)
              clear hK9
              refine wpAnyL_only (i := 10) (by kernel_rfl) rfl rfl hcl (fun K9 hK9 => ?_)
              clear hS hcl
              go_simp
              refine hK9 _ _ (by exact ex) (fun hcl hS => ?_)
              clear hK9
              refine wpAnyL_name (fun V1 hV1 => ?_)
              have b10 : BoxAt V1 (wr.heap.size + 1) [.int .i64 0, .int .i64 0, .bool false, .slice none 0 0, .int .i64 0, .int .i64 0] 24 := by rw [hV1]; exact (BoxAt.new (W := wr.alloc (.cells #[.int .i64 0, .int .i64 0, .bool false, .slice none 0 0, .int .i64 0, .int .i64 0] 24)) (by simp [go_sem]) [.int .i64 0, .int .i64 0, .bool false, .slice none 0 0, .int .i64 0, .int .i64 0] 24).mono (ex)
              have b11 : BoxAt V1 (wr.heap.size) [.int .i64 0, .int .i64 0, .bool false, .slice none 0 0, .int .i64 0, .int .i64 0] 24 := by rw [hV1]; exact (BoxAt.new (W := wr) rfl [.int .i64 0, .int .i64 0, .bool false, .slice none 0 0, .int .i64 0, .int .i64 0] 24).mono (ex)
              have hxx : Ext wr V1 := by rw [hV1]; exact (ex)
              clear hV1 hS
              obtain ⟨g10, hg10⟩ : ∃ g, g = wr.heap.size + 1 := ⟨_, rfl⟩
              obtain ⟨g11, hg11⟩ : ∃ g, g = wr.heap.size := ⟨_, rfl⟩
              rw [← hg10] at b10 ⊢
              rw [← hg11] at b11 ⊢
              have hge10 : wr.heap.size ≤ g10 := by omega
              have hge11 : wr.heap.size ≤ g11 := by omega
              have hne : g10 ≠ g11 := by omega
              clear hg10 hg11
              rotate_left
              all_goals
                refine wpAnyL_store (i := 12) (by kernel_rfl) rfl rfl hcl 24 (.tmp 11) (.tmp 61) rfl b10 rfl [.int .i64 n0.id, .int .i64 n0.term, .bool n0.speaks, .slice A n0.log.length a, .int .i64 n0.acked, .int .i64 n0.next] rfl rfl (show 6 < 44 by decide) (by kernel_rfl) (nodl_one n0 A a) ?_; intro W1 ht1 hb1
                refine ⟨ht1.ext hxx hge10, fun hcl hS => ?_⟩
                clear hS
                refine wpAnyL_store (i := 13) (by kernel_rfl) rfl rfl hcl 24 (.tmp 12) (.tmp 66) rfl (b11.turn ht1 (Ne.symm hne)) rfl [.int .i64 n1.id, .int .i64 n1.term, .bool n1.speaks, .slice B n1.log.length b, .int .i64 n1.acked, .int .i64 n1.next] rfl rfl (show 6 < 44 by decide) (by kernel_rfl) (nodl_one n1 B b) ?_; intro W2 ht2 hb2
                refine ⟨ht2.ext (ht1.ext hxx hge10) hge11, fun hcl hS => ?_⟩
                clear hcl hS
                have j1 := hb1.turn ht2 hne
                refine wpAnyL_done (by kernel_rfl) ?_ _
                clear c0 c1 c2 c3 c4 c5 c6 c7 c8 c9 c10 c11 c12 c13 c14
                obtain ⟨p0, p1, p2, p3, p4, p5⟩ := j1.six
                obtain ⟨q0, q1, q2, q3, q4, q5⟩ := hb2.six
                go_wp2_with fail
                have e2 : Ext w W2 := ht2.ext (ht1.ext (hC.ext.trans hxx) (by have := hC.ext.size; omega)) (by have := hC.ext.size; omega)
                have ma := ((hC.q0.mono hxx).turn ht1).turn ht2
                have mb := ((hC.q1.mono hxx).turn ht1).turn ht2
                go_at_call 52; refine (HLD.out _ (ma.recs e2 (ex))).mono ?_; rintro e w' ⟨D5, K5, rfl, hx, hl⟩; have HL5 := Lib.hid hl; obtain ⟨ye, rfl⟩ := hx.get; clear hx hl
                go_wp2_with (refine wpList_store_at rfl 24 (.tmp 11) (.tmp 89) rfl (j1.mono (show Ext W2 _ from ex)) rfl [.int .i64 x1.id, .int .i64 x1.term, .bool x1.speaks, .slice D5 x1.log.length K5, .int .i64 x1.acked, .int .i64 x1.next] rfl rfl (show 6 < 44 by decide) (by kernel_rfl) (nodl_one x1 D5 K5) ?_; intro W5 ht5 hb5; have i5 := (hb2.mono (show Ext W2 _ from ex)).turn ht5 (by omega); have e5 : Ext w W5 := ht5.ext (e2.trans (ex)) (by have := hC.ext.size; omega); have l5 := HL5.out.turn ht5; have m5 := (mb.mono (show Ext W2 _ from ex)).turn ht5; clear p0 p1 p2 p3 p4 p5 q0 q1 q2 q3 q4 q5; obtain ⟨p0, p1, p2, p3, p4, p5⟩ := hb5.six; obtain ⟨q0, q1, q2, q3, q4, q5⟩ := i5.six)
                go_at_call 53; refine (HST.out _ D5 K5 (l5.recs e5 (ex)) (m5.recs e5 (ex))).mono ?_; rintro e w' ⟨D6, K6, E6, J6, rfl, hx, h6, h7⟩; have HL6 := Lib.hid h6; have HL7 := Lib.hid h7; obtain ⟨yf, rfl⟩ := hx.get; clear hx h6 h7
                go_wp2_with (first
                  | (refine wpList_store_at rfl 24 (.tmp 11) (.tmp 98) rfl (hb5.mono (show Ext W5 _ from ex)) rfl [.int .i64 x.id, .int .i64 x.term, .bool x.speaks, .slice D6 x.log.length K6, .int .i64 x.acked, .int .i64 x.next] rfl rfl (show 6 < 44 by decide) (by kernel_rfl) (nodl_one x D6 K6) ?_; intro W6 ht6 hb6; have i6 := (i5.mono (show Ext W5 _ from ex)).turn ht6 (by omega); have e6 : Ext w W6 := ht6.ext (e5.trans (ex)) (by have := hC.ext.size; omega))
                  | (refine wpList_store_at rfl 24 (.tmp 12) (.tmp 99) rfl i6 rfl [.int .i64 y.id, .int .i64 y.term, .bool y.speaks, .slice E6 y.log.length J6, .int .i64 y.acked, .int .i64 y.next] rfl rfl (show 6 < 44 by decide) (by kernel_rfl) (nodl_one y E6 J6) ?_; intro W7 ht7 hb7; have j6 := hb6.turn ht7 (by omega); have e7 : Ext w W7 := ht7.ext e6 (by have := hC.ext.size; omega); have m6 := (HL6.out.turn ht6).turn ht7; have m7 := (HL7.out.turn ht6).turn ht7; clear p0 p1 p2 p3 p4 p5 q0 q1 q2 q3 q4 q5; obtain ⟨p0, p1, p2, p3, p4, p5⟩ := j6.six; obtain ⟨q0, q1, q2, q3, q4, q5⟩ := hb7.six))
                go_at_call 54; refine (HX1.out _ D6 K6 (m6.recs e7 (ex))).mono ?_; rintro e w' ⟨Ak, kk, rfl, hx, hr⟩; have HG1 := Lib.hid hr; obtain ⟨yg, rfl⟩ := hx.get; clear hx hr
                go_wp2_with fail
                go_at_call 54; refine (HX2.out _ E6 J6 (m7.recs e7 (ex))).mono ?_; rintro e w' ⟨Bk, kb, rfl, hx, hr⟩; have HG2 := Lib.hid hr; obtain ⟨yh, rfl⟩ := hx.get; clear hx hr
                go_wp2_with fail
                go_at_call 55; refine (r33_SameLog1 Ak Bk kk kb la _ (HG1.out.mono (ex)) (HG2.out.mono (ex))).mono ?_; rintro e w' ⟨rfl, hx⟩; obtain ⟨yi, rfl⟩ := hx.get; clear hx
                go_wp2_with (go_at_call 47; refine (top_caseReplicas _).mono ?_; rintro e w' ⟨rfl, hx⟩; obtain ⟨y, rfl⟩ := hx.get; clear hx)
                go_ret
                exact ⟨rfl, e7.trans (ex)⟩
set_option maxHeartbeats 6400000 in
set_option maxRecDepth 100000 in
theorem top_Settle_no (A0 : Option Addr) (k0 : Nat) (l : List Stp) (w : World) (hs : Sl w A0 3 (l.map stpR)) (ho : ∀ s ∈ l, StpOk s) : Calls Tryz.prog 11 #[.slice A0 l.length k0, .bool false] w fun e w' => e = .returned (.bool true) ∧ Ext w w' := by
  have HS := Lib.hid hs
  have HO := Lib.hid ho
  clear ho
  by_cases h60 : 60 < l.length
  · have hd : decide ((60 : Int) < (l.length : Int)) = true := decide_eq_true (by omega)
    clear hs
    go_enter Tryz.func11, Tryz.ntmps11
    go_wp2_with (go_at_call 47; refine (top_caseReplicas _).mono ?_; rintro e w' ⟨rfl, hx⟩; obtain ⟨y, rfl⟩ := hx.get; clear hx)
    go_ret
    exact ⟨rfl, ex⟩
  · have hd : decide ((60 : Int) < (l.length : Int)) = false := decide_eq_false (by omega)
    clear hs
    go_enter Tryz.func11, Tryz.ntmps11
    go_wp2_with (refine wpList_built rfl 117 _ rfl [] rfl #[.int .i64 0, .int .i64 0, .bool false, .slice none 0 0, .int .i64 0, .int .i64 0, .int .i64 0, .int .i64 0, .bool false, .slice none 0 0, .int .i64 0, .int .i64 0, .slice none 0 0, .slice none 0 0, .int .i64 0] (by kernel_rfl) ?_)
    go_loopw [28] (fun i wr => (i = .int .i64 0 ∧ CaseIn w wr w.heap.size nod0 nod0 [] [] 0) ∨ (i = .int .i64 1 ∧ CaseIn w wr w.heap.size nod1 nod0 [] [] 0) ∨ (i = .int .i64 2 ∧ CaseIn w wr w.heap.size nod1 nod2 [] [] 0)) (fun i _ => 2 - (intOf i).toNat)
    case atStart => exact .inl ⟨rfl, none, 0, none, 0, none, 0, [], none, 0, [], ⟨ex, Nat.le_refl _, BoxAt.new rfl [.int .i64 0, .int .i64 0, .bool false, .slice none 0 0, .int .i64 0, .int .i64 0, .int .i64 0, .int .i64 0, .bool false, .slice none 0 0, .int .i64 0, .int .i64 0, .slice none 0 0, .slice none 0 0, .int .i64 0] 117, LogW.nil _ _, LogW.nil _ _, BoxM.nil _ _, BoxM.nil _ _, fun p q h => (by cases h)⟩⟩
    case round =>
      rcases hrel with ⟨rfl, hc⟩ | ⟨rfl, hc⟩ | ⟨rfl, hc⟩
      · obtain ⟨A, a, B, b, M, m, xs, N, n, ys, hC⟩ := hc
        go_wp2_with (go_at_call 48; refine (rep_New_as 1 (by omega) (by omega) _).mono ?_; rintro e w' ⟨D, K, rfl, hx, hK⟩; obtain ⟨ya, rfl⟩ := hx.get; clear hx)
        (refine wp_region_tail 6 (by kernel_rfl) (by kernel_rfl) ?_; simp only [List.take_succ_cons, List.take_zero, List.drop_succ_cons, List.drop_zero]; (repeat (go_big_quiet_step (fail))); refine wpQuiet_nil ?_; rintro _ ⟨y, rfl⟩)
        refine wpList_store_part rfl 24 (.tmp 44) (.tmp 41) rfl (hC.box.mono (ex)) 0 rfl [.int .i64 1, .int .i64 0, .bool false, .slice D 0 K, .int .i64 0, .int .i64 0] rfl (show 6 ≤ 15 by decide) (show 15 < 44 by decide) (by kernel_rfl) (cells_one _ rfl) [.int .i64 nod1.id, .int .i64 nod1.term, .bool nod1.speaks, .slice D nod1.log.length K, .int .i64 nod1.acked, .int .i64 nod1.next, .int .i64 nod0.id, .int .i64 nod0.term, .bool nod0.speaks, .slice B nod0.log.length b, .int .i64 nod0.acked, .int .i64 nod0.next, .slice M 0 m, .slice N 0 n, .int .i64 0] rfl ?_; intro W5 ht5 hb5
        go_wp2
        go_light
        exact ⟨.inr (.inl ⟨rfl, _, _, _, _, _, _, _, _, _, _, CaseAt.put0 (x := nod1) (hC.mono (ex)) ht5 ⟨Sl.nil _ _ _, rfl, Nat.zero_le _, hK, by simp [nod1]⟩ hb5⟩), by simp [intOf]⟩
      · obtain ⟨A, a, B, b, M, m, xs, N, n, ys, hC⟩ := hc
        go_wp2_with (go_at_call 48; refine (rep_New_as 2 (by omega) (by omega) _).mono ?_; rintro e w' ⟨D, K, rfl, hx, hK⟩; obtain ⟨ya, rfl⟩ := hx.get; clear hx)
        (refine wp_region_tail 6 (by kernel_rfl) (by kernel_rfl) ?_; simp only [List.take_succ_cons, List.take_zero, List.drop_succ_cons, List.drop_zero]; (repeat (go_big_quiet_step (fail))); refine wpQuiet_nil ?_; rintro _ ⟨y, rfl⟩)
        refine wpList_store_part rfl 24 (.tmp 44) (.tmp 41) rfl (hC.box.mono (ex)) 6 rfl [.int .i64 2, .int .i64 0, .bool false, .slice D 0 K, .int .i64 0, .int .i64 0] rfl (show 12 ≤ 15 by decide) (show 15 < 44 by decide) (by kernel_rfl) (cells_one _ rfl) [.int .i64 nod1.id, .int .i64 nod1.term, .bool nod1.speaks, .slice A nod1.log.length a, .int .i64 nod1.acked, .int .i64 nod1.next, .int .i64 nod2.id, .int .i64 nod2.term, .bool nod2.speaks, .slice D nod2.log.length K, .int .i64 nod2.acked, .int .i64 nod2.next, .slice M 0 m, .slice N 0 n, .int .i64 0] rfl ?_; intro W5 ht5 hb5
        go_wp2
        go_light
        exact ⟨.inr (.inr ⟨rfl, _, _, _, _, _, _, _, _, _, _, CaseAt.put1 (x := nod2) (hC.mono (ex)) ht5 ⟨Sl.nil _ _ _, rfl, Nat.zero_le _, hK, by simp [nod2]⟩ hb5⟩), by simp [intOf]⟩
      · go_wp2
        clear hd
        go_loopw [48] (fun i wr => ∃ (k : Nat) (c : CW) (G : Int → Option (List Rec)), k ≤ l.length ∧ i = .int .i64 k ∧ Hid (Inv G k c ∧ (c.mail false).length ≤ k ∧ (c.mail true).length ≤ k) ∧ CaseIn w wr w.heap.size (c.n false) (c.n true) (c.mail false) (c.mail true) c.time) (fun i _ => l.length - (intOf i).toNat)
        case atStart => exact ⟨0, start, _, by omega, rfl, Lib.hid ⟨start_inv, Nat.le_refl _, Nat.le_refl _⟩, hc⟩
        case round =>
          clear hc
          obtain ⟨k, c, G, hk, rfl, HI, hc⟩ := hrel
          by_cases hlt : k < l.length
          · obtain ⟨s, hsk⟩ : ∃ s, l[k]? = some s := ⟨_, List.getElem?_eq_getElem hlt⟩
            have hso := HO.out s (List.mem_of_getElem? hsk)
            obtain ⟨c', G', hv, hI', -⟩ := step_inv HI.out.1 (by omega) s hso.2.2
            obtain ⟨b0, o0, rfl, c0, c1, c2⟩ := HS.out.row3 (i := k) (v0 := .int .u8 s.kind) (v1 := .int .u8 s.node) (v2 := .int .u8 s.pick) (by rw [List.getElem?_map, hsk]; rfl)
            have hext := hc.ext
            replace c0 := hext.cell c0
            replace c1 := hext.cell c1
            replace c2 := hext.cell c2
            have hm0 := step_mail hv false
            have hm1 := step_mail hv true
            have HM := Lib.hid (show Inv G' (k + 1) c' ∧ (c'.mail false).length ≤ k + 1 ∧ (c'.mail true).length ≤ k + 1 from ⟨hI', by have := HI.out.2.1; omega, by have := HI.out.2.2; omega⟩)
            have HC := Lib.hid (fun (V : World) (h : CaseIn w V w.heap.size (c.n false) (c.n true) (c.mail false) (c.mail true) c.time) => top_step HI.out.1 (by omega) hso hv (by have := HI.out.2.1; omega) (by have := HI.out.2.2; omega) h)
            have HCI := Lib.hid hc
            have hb1 : (0 : Int) ≤ (k : Int) := by omega
            have hb2 : (k : Int) < (l.length : Int) := by omega
            clear hc hext hso hv hI' hm0 hm1 hsk HI
            go_wp2_with (go_at_call 49; refine (HC.out _ (HCI.out.mono (ex))).mono ?_; rintro e w' ⟨rfl, hst, hcn⟩; have HN := Lib.hid hcn; clear hst hcn)
            go_light
            exact ⟨⟨k + 1, c', G', by omega, by go_num, HM, HN.out⟩, by simp [intOf]; omega⟩
          · obtain ⟨n0, hn0⟩ : ∃ n0, c.n false = n0 := ⟨_, rfl⟩
            obtain ⟨n1, hn1⟩ : ∃ n1, c.n true = n1 := ⟨_, rfl⟩
            have HK : k ≤ 60 := by omega
            obtain ⟨hlead, x, y, cn, hset, hax, hay⟩ := settles_end HI.out.1 (by omega) true
            rw [show (!true) = false from rfl] at hlead hset
            rw [hn0, hn1] at hc
            rw [hn1, hn0] at hlead hset
            rw [hn1] at hax hay
            have hl0 := (HI.out.1.log false).len
            have hl1 := (HI.out.1.log true).len
            have hok0 := HI.out.1.node false
            have hok1 := HI.out.1.node true
            have htm0 := HI.out.1.terms false
            have htm1 := HI.out.1.terms true
            rw [hn0] at hl0 hok0 htm0
            rw [hn1] at hl1 hok1 htm1
            clear hn0 hn1 HI
            obtain ⟨A, a, B, b, M, m, xs, N, n, ys, hC⟩ := hc
            obtain ⟨tm, htm⟩ : ∃ tm, max n1.term n0.term = tm := ⟨_, rfl⟩
            have hb0 := hok0.t0
            have hb1 := hok1.t0
            have t0 : 0 ≤ tm := by omega
            have t1 : tm ≤ 200 := by omega
            have hw1 : IntKind.i64.wrap (tm + 1) = tm + 1 := IntWalk.i64_in _ (by omega)
            have hw2 : IntKind.i64.wrap (tm + 1 + 1) = tm + 1 + 1 := IntWalk.i64_in _ (by omega)
            have hd1 := hok0.id1
            have hd2 := hok0.id2
            have hd3 := hok1.id1
            have hd4 := hok1.id2
            clear hok0 hok1 htm0 htm1 hb0 hb1
            have hel0 := hC.q0.el
            have hel1 := hC.q1.el
            obtain ⟨la, hla⟩ : ∃ la, n1.log.map (·.act) = la := ⟨_, rfl⟩
            rw [hla] at hax hay
            have hll : la.length = n1.log.length := by rw [← hla, List.length_map]
            have hal0 : ∀ r ∈ x.log, AcnAt w r.act := by have := (settleV_all (R := fun r => AcnAt w r.act) (ledN n1 (bothT n1 n0)) n0 (by exact hel1) (by exact hel0)).1; rwa [hset] at this
            have hal1 : ∀ r ∈ y.log, AcnAt w r.act := by have := (settleV_all (R := fun r => AcnAt w r.act) (ledN n1 (bothT n1 n0)) n0 (by exact hel1) (by exact hel0)).2.1; rwa [hset] at this
            obtain ⟨x1, hx1⟩ : ∃ x1, ledN n1 (bothT n1 n0) = x1 := ⟨_, rfl⟩
            have hx1l : ∀ r ∈ x1.log, AcnAt w r.act := by rw [← hx1]; exact hel1
            have hz5 : ((la.length : Int) == (x1.log.length : Int)) = true := by rw [hll, ← hx1]; simp [ledN]
            rw [hx1] at hlead hset
            clear hla hll hx1 hel0 hel1
            rename_i wr
            have c0 := hC.box.cell (i := 0) rfl
            have c1 := hC.box.cell (i := 1) rfl
            have c2 := hC.box.cell (i := 2) rfl
            have c3 := hC.box.cell (i := 3) rfl
            have c4 := hC.box.cell (i := 4) rfl
            have c5 := hC.box.cell (i := 5) rfl
            have c6 := hC.box.cell (i := 6) rfl
            have c7 := hC.box.cell (i := 7) rfl
            have c8 := hC.box.cell (i := 8) rfl
            have c9 := hC.box.cell (i := 9) rfl
            have c10 := hC.box.cell (i := 10) rfl
            have c11 := hC.box.cell (i := 11) rfl
            have c12 := hC.box.cell (i := 12) rfl
            have c13 := hC.box.cell (i := 13) rfl
            have c14 := hC.box.cell (i := 14) rfl
            by_cases hp : (tm + 1) % 2 = n1.id % 2
            · have HE := Lib.hid (show bothT n1 n0 = tm + 1 by unfold bothT; rw [htm, if_pos hp])
              have hpq : ((tm + 1) % 2 != n1.id % 2) = false := by simpa using hp
              clear hp
              rw [HE.out] at hlead
              have HLD := Lib.hid (fun (V : World) (hr : RecsAt V B b n1.log) => (rep_Lead n1 B b (tm + 1) V hr).mono fun _ _ q => RetNod.parts q hlead hx1l)
              have HST := Lib.hid (fun (V : World) (D : Option Addr) (K : Nat) (h1 : RecsAt V D K x1.log) (h2 : RecsAt V A a n0.log) => (rep_Settle x1 D K n0 A a V h1 h2).mono fun _ _ q => RetSett.parts (w0 := w) q hset hal0 hal1)
              have HX1 := Lib.hid (fun (V : World) (D : Option Addr) (K : Nat) (h1 : RecsAt V D K x.log) => (rep_Actions x D K V h1).mono fun _ _ q => RetActs.parts q hax)
              have HX2 := Lib.hid (fun (V : World) (D : Option Addr) (K : Nat) (h1 : RecsAt V D K y.log) => (rep_Actions y D K V h1).mono fun _ _ q => RetActs.parts q hay)
              clear hlead hset hax hay hx1l hal0 hal1
              go_wp2_with fail
              refine wp_region_L (S := fun _ w9 => Ext wr w9) (by kernel_rfl) (ex) (fun hcl hS => ?_)
              refine wpAnyL_take (i := 0) (T := (fun w9 => Ext wr w9)) (v := ?_) rfl (by kernel_rfl) (by kernel_rfl) (by kernel_rfl) (fun _ _ _ h => h) (fun _ _ _ _ hS => hS) (fun _ _ h => h) (fun _ _ h => h) (Or.inl ⟨by rfl, ?_⟩) hcl hS ?_
              rotate_left
              · (intro w9 hw9; (try dsimp only at hw9); go_simp; try with_reducible rfl)
              clear hcl hS
              intro hcl hS
              (try simp only [Act.put]); (try simp only [List.setIfInBounds_toArray]); (repeat (first | simp only [List.set_cons_succ] | simp only [List.set_cons_zero]))
              refine wpAnyL_take (i := 1) (T := (fun w9 => Ext wr w9)) (v := ?_) rfl (by kernel_rfl) (by kernel_rfl) (by kernel_rfl) (fun _ _ _ h => h) (fun _ _ _ _ hS => hS) (fun _ _ h => h) (fun _ _ h => h) (Or.inl ⟨by rfl, ?_⟩) hcl hS ?_
              rotate_left
              · (intro w9 hw9; (try dsimp only at hw9); go_simp; try with_reducible rfl)
              clear hcl hS
              intro hcl hS
              (try simp only [Act.put]); (try simp only [List.setIfInBounds_toArray]); (repeat (first | simp only [List.set_cons_succ] | simp only [List.set_cons_zero]))
              refine wpAnyL_take (i := 2) (T := (fun w9 => Ext wr w9)) (v := ?_) rfl (by kernel_rfl) (by kernel_rfl) (by kernel_rfl) (fun _ _ _ h => h) (fun _ _ _ _ hS => hS) (fun _ _ h => h) (fun _ _ h => h) (Or.inl ⟨by rfl, ?_⟩) hcl hS ?_
              rotate_left
              · (intro w9 hw9; (try dsimp only at hw9); go_simp; try with_reducible rfl)
              clear hcl hS
              intro hcl hS
              (try simp only [Act.put]); (try simp only [List.setIfInBounds_toArray]); (repeat (first | simp only [List.set_cons_succ] | simp only [List.set_cons_zero]))
              refine wpAnyL_take (i := 3) (T := (fun w9 => Ext wr w9)) (v := ?_) rfl (by kernel_rfl) (by kernel_rfl) (by kernel_rfl) (fun _ _ _ h => h) (fun _ _ _ _ hS => hS) (fun _ _ h => h) (fun _ _ h => h) (Or.inl ⟨by rfl, ?_⟩) hcl hS ?_
              rotate_left
              · (intro w9 hw9; (try dsimp only at hw9); go_simp; try with_reducible rfl)
              clear hcl hS
              intro hcl hS
              (try simp only [Act.put]); (try simp only [List.setIfInBounds_toArray]); (repeat (first | simp only [List.set_cons_succ] | simp only [List.set_cons_zero]))
              refine wpAnyL_take (i := 4) (T := (fun w9 => Ext wr w9)) (v := ?_) rfl (by kernel_rfl) (by kernel_rfl) (by kernel_rfl) (fun _ _ _ h => h) (fun _ _ _ _ hS => hS) (fun _ _ h => h) (fun _ _ h => h) (Or.inl ⟨by rfl, ?_⟩) hcl hS ?_
              rotate_left
              · (intro w9 hw9; (try dsimp only at hw9); have z0 := hw9.cell c0; have z1 := hw9.cell c1; have z2 := hw9.cell c2; have z3 := hw9.cell c3; have z4 := hw9.cell c4; have z5 := hw9.cell c5; go_simp; try with_reducible rfl)
              clear hcl hS
              intro hcl hS
              (try simp only [Act.put]); (try simp only [List.setIfInBounds_toArray]); (repeat (first | simp only [List.set_cons_succ] | simp only [List.set_cons_zero]))
              refine wpAnyL_take (i := 5) (T := (fun w9 => Ext wr w9)) (v := ?_) rfl (by kernel_rfl) (by kernel_rfl) (by kernel_rfl) (fun _ _ _ h => h) (fun _ _ _ _ hS => hS) (fun _ _ h => h) (fun _ _ h => h) (Or.inl ⟨by rfl, ?_⟩) hcl hS ?_
              rotate_left
              · (intro w9 hw9; (try dsimp only at hw9); go_simp; try with_reducible rfl)
              clear hcl hS
              intro hcl hS
              (try simp only [Act.put]); (try simp only [List.setIfInBounds_toArray]); (repeat (first | simp only [List.set_cons_succ] | simp only [List.set_cons_zero]))
              refine wpAnyL_take (i := 6) (T := (fun w9 => Ext wr w9)) (v := ?_) rfl (by kernel_rfl) (by kernel_rfl) (by kernel_rfl) (fun _ _ _ h => h) (fun _ _ _ _ hS => hS) (fun _ _ h => h) (fun _ _ h => h) (Or.inl ⟨by rfl, ?_⟩) hcl hS ?_
              rotate_left
              · (intro w9 hw9; (try dsimp only at hw9); go_simp; try with_reducible rfl)
              clear hcl hS
              intro hcl hS
              (try simp only [Act.put]); (try simp only [List.setIfInBounds_toArray]); (repeat (first | simp only [List.set_cons_succ] | simp only [List.set_cons_zero]))
              refine wpAnyL_take (i := 7) (T := (fun w9 => Ext wr w9)) (v := ?_) rfl (by kernel_rfl) (by kernel_rfl) (by kernel_rfl) (fun _ _ _ h => h) (fun _ _ _ _ hS => hS) (fun _ _ h => h) (fun _ _ h => h) (Or.inl ⟨by rfl, ?_⟩) hcl hS ?_
              rotate_left
              · (intro w9 hw9; (try dsimp only at hw9); go_simp; try with_reducible rfl)
              clear hcl hS
              intro hcl hS
              (try simp only [Act.put]); (try simp only [List.setIfInBounds_toArray]); (repeat (first | simp only [List.set_cons_succ] | simp only [List.set_cons_zero]))
              refine wpAnyL_take (i := 8) (T := (fun w9 => Ext wr w9)) (v := ?_) rfl (by kernel_rfl) (by kernel_rfl) (by kernel_rfl) (fun _ _ _ h => h) (fun _ _ _ _ hS => hS) (fun _ _ h => h) (fun _ _ h => h) (Or.inl ⟨by rfl, ?_⟩) hcl hS ?_
              rotate_left
              · (intro w9 hw9; (try dsimp only at hw9); go_simp; try with_reducible rfl)
              clear hcl hS
              intro hcl hS
              (try simp only [Act.put]); (try simp only [List.setIfInBounds_toArray]); (repeat (first | simp only [List.set_cons_succ] | simp only [List.set_cons_zero]))
              refine wpAnyL_take (i := 9) (T := (fun w9 => Ext wr w9)) (v := ?_) rfl (by kernel_rfl) (by kernel_rfl) (by kernel_rfl) (fun _ _ _ h => h) (fun _ _ _ _ hS => hS) (fun _ _ h => h) (fun _ _ h => h) (Or.inl ⟨by rfl, ?_⟩) hcl hS ?_
              rotate_left
              · (intro w9 hw9; (try dsimp only at hw9); have z6 := hw9.cell c6; have z7 := hw9.cell c7; have z8 := hw9.cell c8; have z9 := hw9.cell c9; have z10 := hw9.cell c10; have z11 := hw9.cell c11; go_simp; try with_reducible rfl)
              clear hcl hS
              intro hcl hS
              (try simp only [Act.put]); (try simp only [List.setIfInBounds_toArray]); (repeat (first | simp only [List.set_cons_succ] | simp only [List.set_cons_zero]))
              refine wpAnyL_two (i := 10) (j := 11) (by kernel_rfl) rfl rfl rfl rfl hcl (fun K9 hK9 => ?_) (fun K9 hK9 => ?_)
              clear hS hcl
              go_simp
              refine hK9 _ _ (by exact ex) (fun hcl hS => ?_)
              clear hK9
              refine wpAnyL_only (i := 11) (by kernel_rfl) rfl rfl hcl (fun K9 hK9 => ?_)
              clear hS hcl
              go_simp
              refine hK9 _ _ (by exact ex) (fun hcl hS => ?_)
              clear hK9
              refine wpAnyL_name (fun V1 hV1 => ?_)
              have b10 : BoxAt V1 (wr.heap.size) [.int .i64 0, .int .i64 0, .bool false, .slice none 0 0, .int .i64 0, .int .i64 0] 24 := by rw [hV1]; exact (BoxAt.new (W := wr) rfl [.int .i64 0, .int .i64 0, .bool false, .slice none 0 0, .int .i64 0, .int .i64 0] 24).mono (ex)
              have b11 : BoxAt V1 (wr.heap.size + 1) [.int .i64 0, .int .i64 0, .bool false, .slice none 0 0, .int .i64 0, .int .i64 0] 24 := by rw [hV1]; exact (BoxAt.new (W := wr.alloc (.cells #[.int .i64 0, .int .i64 0, .bool false, .slice none 0 0, .int .i64 0, .int .i64 0] 24)) (by simp [go_sem]) [.int .i64 0, .int .i64 0, .bool false, .slice none 0 0, .int .i64 0, .int .i64 0] 24).mono (ex)
              have hxx : Ext wr V1 := by rw [hV1]; exact (ex)
              clear hV1 hS
              obtain ⟨g10, hg10⟩ : ∃ g, g = wr.heap.size := ⟨_, rfl⟩
              obtain ⟨g11, hg11⟩ : ∃ g, g = wr.heap.size + 1 := ⟨_, rfl⟩
              rw [← hg11] at b11 ⊢
              rw [← hg10] at b10 ⊢
              have hge10 : wr.heap.size ≤ g10 := by omega
              have hge11 : wr.heap.size ≤ g11 := by omega
              have hne : g10 ≠ g11 := by omega
              clear hg10 hg11
              rotate_left
              clear hS hcl
              go_simp
              refine hK9 _ _ (by exact ex) (fun hcl hS => ?_)
              clear hK9
              refine wpAnyL_only (i := 10) (by kernel_rfl) rfl rfl hcl (fun K9 hK9 => ?_)
              clear hS hcl
              go_simp
              refine hK9 _ _ (by exact ex) (fun hcl hS => ?_)
              clear hK9
              refine wpAnyL_name (fun V1 hV1 => ?_)
              have b10 : BoxAt V1 (wr.heap.size + 1) [.int .i64 0, .int .i64 0, .bool false, .slice none 0 0, .int .i64 0, .int .i64 0] 24 := by rw [hV1]; exact (BoxAt.new (W := wr.alloc (.cells #[.int .i64 0, .int .i64 0, .bool false, .slice none 0 0, .int .i64 0, .int .i64 0] 24)) (by simp [go_sem]) [.int .i64 0, .int .i64 0, .bool false, .slice none 0 0, .int .i64 0, .int .i64 0] 24).mono (ex)
              have b11 : BoxAt V1 (wr.heap.size) [.int .i64 0, .int .i64 0, .bool false, .slice none 0 0, .int .i64 0, .int .i64 0] 24 := by rw [hV1]; exact (BoxAt.new (W := wr) rfl [.int .i64 0, .int .i64 0, .bool false, .slice none 0 0, .int .i64 0, .int .i64 0] 24).mono (ex)
              have hxx : Ext wr V1 := by rw [hV1]; exact (ex)
              clear hV1 hS
              obtain ⟨g10, hg10⟩ : ∃ g, g = wr.heap.size + 1 := ⟨_, rfl⟩
              obtain ⟨g11, hg11⟩ : ∃ g, g = wr.heap.size := ⟨_, rfl⟩
              rw [← hg10] at b10 ⊢
              rw [← hg11] at b11 ⊢
              have hge10 : wr.heap.size ≤ g10 := by omega
              have hge11 : wr.heap.size ≤ g11 := by omega
              have hne : g10 ≠ g11 := by omega
              clear hg10 hg11
              rotate_left
              all_goals
                refine wpAnyL_store (i := 12) (by kernel_rfl) rfl rfl hcl 24 (.tmp 11) (.tmp 61) rfl b10 rfl [.int .i64 n0.id, .int .i64 n0.term, .bool n0.speaks, .slice A n0.log.length a, .int .i64 n0.acked, .int .i64 n0.next] rfl rfl (show 6 < 44 by decide) (by kernel_rfl) (nodl_one n0 A a) ?_; intro W1 ht1 hb1
                refine ⟨ht1.ext hxx hge10, fun hcl hS => ?_⟩
                clear hS
                refine wpAnyL_store (i := 13) (by kernel_rfl) rfl rfl hcl 24 (.tmp 12) (.tmp 66) rfl (b11.turn ht1 (Ne.symm hne)) rfl [.int .i64 n1.id, .int .i64 n1.term, .bool n1.speaks, .slice B n1.log.length b, .int .i64 n1.acked, .int .i64 n1.next] rfl rfl (show 6 < 44 by decide) (by kernel_rfl) (nodl_one n1 B b) ?_; intro W2 ht2 hb2
                refine ⟨ht2.ext (ht1.ext hxx hge10) hge11, fun hcl hS => ?_⟩
                clear hcl hS
                have j1 := hb1.turn ht2 hne
                refine wpAnyL_done (by kernel_rfl) ?_ _
                clear c0 c1 c2 c3 c4 c5 c6 c7 c8 c9 c10 c11 c12 c13 c14
                obtain ⟨p0, p1, p2, p3, p4, p5⟩ := j1.six
                obtain ⟨q0, q1, q2, q3, q4, q5⟩ := hb2.six
                go_wp2_with (first
                  | (refine wpList_store_at rfl 24 (.tmp 11) (.tmp 69) rfl j1 rfl [.int .i64 n1.id, .int .i64 n1.term, .bool n1.speaks, .slice B n1.log.length b, .int .i64 n1.acked, .int .i64 n1.next] rfl rfl (show 6 < 44 by decide) (by kernel_rfl) (nodl_one n1 B b) ?_; intro W3 ht3 hb3; clear p0 p1 p2 p3 p4 p5; obtain ⟨p0, p1, p2, p3, p4, p5⟩ := hb3.six; have i2 := hb2.turn ht3 (by omega); clear q0 q1 q2 q3 q4 q5; obtain ⟨q0, q1, q2, q3, q4, q5⟩ := i2.six)
                  | (refine wpList_store_at rfl 24 (.tmp 12) (.tmp 70) rfl i2 rfl [.int .i64 n0.id, .int .i64 n0.term, .bool n0.speaks, .slice A n0.log.length a, .int .i64 n0.acked, .int .i64 n0.next] rfl rfl (show 6 < 44 by decide) (by kernel_rfl) (nodl_one n0 A a) ?_; intro W4 ht4 hb4; have j3 := hb3.turn ht4 (by omega); clear p0 p1 p2 p3 p4 p5 q0 q1 q2 q3 q4 q5; obtain ⟨p0, p1, p2, p3, p4, p5⟩ := j3.six; obtain ⟨q0, q1, q2, q3, q4, q5⟩ := hb4.six))
                have e2 : Ext w W4 := ht4.ext (ht3.ext (ht2.ext (ht1.ext (hC.ext.trans hxx) (by have := hC.ext.size; omega)) (by have := hC.ext.size; omega)) (by have := hC.ext.size; omega)) (by have := hC.ext.size; omega)
                have ma := ((((hC.q1.mono hxx).turn ht1).turn ht2).turn ht3).turn ht4
                have mb := ((((hC.q0.mono hxx).turn ht1).turn ht2).turn ht3).turn ht4
                go_at_call 52; refine (HLD.out _ (ma.recs e2 (ex))).mono ?_; rintro e w' ⟨D5, K5, rfl, hx, hl⟩; have HL5 := Lib.hid hl; obtain ⟨ye, rfl⟩ := hx.get; clear hx hl
                go_wp2_with (refine wpList_store_at rfl 24 (.tmp 11) (.tmp 89) rfl (j3.mono (show Ext W4 _ from ex)) rfl [.int .i64 x1.id, .int .i64 x1.term, .bool x1.speaks, .slice D5 x1.log.length K5, .int .i64 x1.acked, .int .i64 x1.next] rfl rfl (show 6 < 44 by decide) (by kernel_rfl) (nodl_one x1 D5 K5) ?_; intro W5 ht5 hb5; have i5 := (hb4.mono (show Ext W4 _ from ex)).turn ht5 (by omega); have e5 : Ext w W5 := ht5.ext (e2.trans (ex)) (by have := hC.ext.size; omega); have l5 := HL5.out.turn ht5; have m5 := (mb.mono (show Ext W4 _ from ex)).turn ht5; clear p0 p1 p2 p3 p4 p5 q0 q1 q2 q3 q4 q5; obtain ⟨p0, p1, p2, p3, p4, p5⟩ := hb5.six; obtain ⟨q0, q1, q2, q3, q4, q5⟩ := i5.six)
                go_at_call 53; refine (HST.out _ D5 K5 (l5.recs e5 (ex)) (m5.recs e5 (ex))).mono ?_; rintro e w' ⟨D6, K6, E6, J6, rfl, hx, h6, h7⟩; have HL6 := Lib.hid h6; have HL7 := Lib.hid h7; obtain ⟨yf, rfl⟩ := hx.get; clear hx h6 h7
                go_wp2_with (first
                  | (refine wpList_store_at rfl 24 (.tmp 11) (.tmp 98) rfl (hb5.mono (show Ext W5 _ from ex)) rfl [.int .i64 x.id, .int .i64 x.term, .bool x.speaks, .slice D6 x.log.length K6, .int .i64 x.acked, .int .i64 x.next] rfl rfl (show 6 < 44 by decide) (by kernel_rfl) (nodl_one x D6 K6) ?_; intro W6 ht6 hb6; have i6 := (i5.mono (show Ext W5 _ from ex)).turn ht6 (by omega); have e6 : Ext w W6 := ht6.ext (e5.trans (ex)) (by have := hC.ext.size; omega))
                  | (refine wpList_store_at rfl 24 (.tmp 12) (.tmp 99) rfl i6 rfl [.int .i64 y.id, .int .i64 y.term, .bool y.speaks, .slice E6 y.log.length J6, .int .i64 y.acked, .int .i64 y.next] rfl rfl (show 6 < 44 by decide) (by kernel_rfl) (nodl_one y E6 J6) ?_; intro W7 ht7 hb7; have j6 := hb6.turn ht7 (by omega); have e7 : Ext w W7 := ht7.ext e6 (by have := hC.ext.size; omega); have m6 := (HL6.out.turn ht6).turn ht7; have m7 := (HL7.out.turn ht6).turn ht7; clear p0 p1 p2 p3 p4 p5 q0 q1 q2 q3 q4 q5; obtain ⟨p0, p1, p2, p3, p4, p5⟩ := j6.six; obtain ⟨q0, q1, q2, q3, q4, q5⟩ := hb7.six))
                go_at_call 54; refine (HX1.out _ D6 K6 (m6.recs e7 (ex))).mono ?_; rintro e w' ⟨Ak, kk, rfl, hx, hr⟩; have HG1 := Lib.hid hr; obtain ⟨yg, rfl⟩ := hx.get; clear hx hr
                go_wp2_with fail
                go_at_call 54; refine (HX2.out _ E6 J6 (m7.recs e7 (ex))).mono ?_; rintro e w' ⟨Bk, kb, rfl, hx, hr⟩; have HG2 := Lib.hid hr; obtain ⟨yh, rfl⟩ := hx.get; clear hx hr
                go_wp2_with fail
                go_at_call 55; refine (r33_SameLog1 Ak Bk kk kb la _ (HG1.out.mono (ex)) (HG2.out.mono (ex))).mono ?_; rintro e w' ⟨rfl, hx⟩; obtain ⟨yi, rfl⟩ := hx.get; clear hx
                go_wp2_with (go_at_call 47; refine (top_caseReplicas _).mono ?_; rintro e w' ⟨rfl, hx⟩; obtain ⟨y, rfl⟩ := hx.get; clear hx)
                go_ret
                exact ⟨rfl, e7.trans (ex)⟩
            · have HE := Lib.hid (show bothT n1 n0 = tm + 1 + 1 by unfold bothT; rw [htm, if_neg hp]; omega)
              have hpq : ((tm + 1) % 2 != n1.id % 2) = true := by simpa using hp
              clear hp
              rw [HE.out] at hlead
              have HLD := Lib.hid (fun (V : World) (hr : RecsAt V B b n1.log) => (rep_Lead n1 B b (tm + 1 + 1) V hr).mono fun _ _ q => RetNod.parts q hlead hx1l)
              have HST := Lib.hid (fun (V : World) (D : Option Addr) (K : Nat) (h1 : RecsAt V D K x1.log) (h2 : RecsAt V A a n0.log) => (rep_Settle x1 D K n0 A a V h1 h2).mono fun _ _ q => RetSett.parts (w0 := w) q hset hal0 hal1)
              have HX1 := Lib.hid (fun (V : World) (D : Option Addr) (K : Nat) (h1 : RecsAt V D K x.log) => (rep_Actions x D K V h1).mono fun _ _ q => RetActs.parts q hax)
              have HX2 := Lib.hid (fun (V : World) (D : Option Addr) (K : Nat) (h1 : RecsAt V D K y.log) => (rep_Actions y D K V h1).mono fun _ _ q => RetActs.parts q hay)
              clear hlead hset hax hay hx1l hal0 hal1
              go_wp2_with fail
              refine wp_region_L (S := fun _ w9 => Ext wr w9) (by kernel_rfl) (ex) (fun hcl hS => ?_)
              refine wpAnyL_take (i := 0) (T := (fun w9 => Ext wr w9)) (v := ?_) rfl (by kernel_rfl) (by kernel_rfl) (by kernel_rfl) (fun _ _ _ h => h) (fun _ _ _ _ hS => hS) (fun _ _ h => h) (fun _ _ h => h) (Or.inl ⟨by rfl, ?_⟩) hcl hS ?_
              rotate_left
              · (intro w9 hw9; (try dsimp only at hw9); go_simp; try with_reducible rfl)
              clear hcl hS
              intro hcl hS
              (try simp only [Act.put]); (try simp only [List.setIfInBounds_toArray]); (repeat (first | simp only [List.set_cons_succ] | simp only [List.set_cons_zero]))
              refine wpAnyL_take (i := 1) (T := (fun w9 => Ext wr w9)) (v := ?_) rfl (by kernel_rfl) (by kernel_rfl) (by kernel_rfl) (fun _ _ _ h => h) (fun _ _ _ _ hS => hS) (fun _ _ h => h) (fun _ _ h => h) (Or.inl ⟨by rfl, ?_⟩) hcl hS ?_
              rotate_left
              · (intro w9 hw9; (try dsimp only at hw9); go_simp; try with_reducible rfl)
              clear hcl hS
              intro hcl hS
              (try simp only [Act.put]); (try simp only [List.setIfInBounds_toArray]); (repeat (first | simp only [List.set_cons_succ] | simp only [List.set_cons_zero]))
              refine wpAnyL_take (i := 2) (T := (fun w9 => Ext wr w9)) (v := ?_) rfl (by kernel_rfl) (by kernel_rfl) (by kernel_rfl) (fun _ _ _ h => h) (fun _ _ _ _ hS => hS) (fun _ _ h => h) (fun _ _ h => h) (Or.inl ⟨by rfl, ?_⟩) hcl hS ?_
              rotate_left
              · (intro w9 hw9; (try dsimp only at hw9); go_simp; try with_reducible rfl)
              clear hcl hS
              intro hcl hS
              (try simp only [Act.put]); (try simp only [List.setIfInBounds_toArray]); (repeat (first | simp only [List.set_cons_succ] | simp only [List.set_cons_zero]))
              refine wpAnyL_take (i := 3) (T := (fun w9 => Ext wr w9)) (v := ?_) rfl (by kernel_rfl) (by kernel_rfl) (by kernel_rfl) (fun _ _ _ h => h) (fun _ _ _ _ hS => hS) (fun _ _ h => h) (fun _ _ h => h) (Or.inl ⟨by rfl, ?_⟩) hcl hS ?_
              rotate_left
              · (intro w9 hw9; (try dsimp only at hw9); go_simp; try with_reducible rfl)
              clear hcl hS
              intro hcl hS
              (try simp only [Act.put]); (try simp only [List.setIfInBounds_toArray]); (repeat (first | simp only [List.set_cons_succ] | simp only [List.set_cons_zero]))
              refine wpAnyL_take (i := 4) (T := (fun w9 => Ext wr w9)) (v := ?_) rfl (by kernel_rfl) (by kernel_rfl) (by kernel_rfl) (fun _ _ _ h => h) (fun _ _ _ _ hS => hS) (fun _ _ h => h) (fun _ _ h => h) (Or.inl ⟨by rfl, ?_⟩) hcl hS ?_
              rotate_left
              · (intro w9 hw9; (try dsimp only at hw9); have z0 := hw9.cell c0; have z1 := hw9.cell c1; have z2 := hw9.cell c2; have z3 := hw9.cell c3; have z4 := hw9.cell c4; have z5 := hw9.cell c5; go_simp; try with_reducible rfl)
              clear hcl hS
              intro hcl hS
              (try simp only [Act.put]); (try simp only [List.setIfInBounds_toArray]); (repeat (first | simp only [List.set_cons_succ] | simp only [List.set_cons_zero]))
              refine wpAnyL_take (i := 5) (T := (fun w9 => Ext wr w9)) (v := ?_) rfl (by kernel_rfl) (by kernel_rfl) (by kernel_rfl) (fun _ _ _ h => h) (fun _ _ _ _ hS => hS) (fun _ _ h => h) (fun _ _ h => h) (Or.inl ⟨by rfl, ?_⟩) hcl hS ?_
              rotate_left
              · (intro w9 hw9; (try dsimp only at hw9); go_simp; try with_reducible rfl)
              clear hcl hS
              intro hcl hS
              (try simp only [Act.put]); (try simp only [List.setIfInBounds_toArray]); (repeat (first | simp only [List.set_cons_succ] | simp only [List.set_cons_zero]))
              refine wpAnyL_take (i := 6) (T := (fun w9 => Ext wr w9)) (v := ?_) rfl (by kernel_rfl) (by kernel_rfl) (by kernel_rfl) (fun _ _ _ h => h) (fun _ _ _ _ hS => hS) (fun _ _ h => h) (fun _ _ h => h) (Or.inl ⟨by rfl, ?_⟩) hcl hS ?_
              rotate_left
              · (intro w9 hw9; (try dsimp only at hw9); go_simp; try with_reducible rfl)
              clear hcl hS
              intro hcl hS
              (try simp only [Act.put]); (try simp only [List.setIfInBounds_toArray]); (repeat (first | simp only [List.set_cons_succ] | simp only [List.set_cons_zero]))
              refine wpAnyL_take (i := 7) (T := (fun w9 => Ext wr w9)) (v := ?_) rfl (by kernel_rfl) (by kernel_rfl) (by kernel_rfl) (fun _ _ _ h => h) (fun _ _ _ _ hS => hS) (fun _ _ h => h) (fun _ _ h => h) (Or.inl ⟨by rfl, ?_⟩) hcl hS ?_
              rotate_left
              · (intro w9 hw9; (try dsimp only at hw9); go_simp; try with_reducible rfl)
              clear hcl hS
              intro hcl hS
              (try simp only [Act.put]); (try simp only [List.setIfInBounds_toArray]); (repeat (first | simp only [List.set_cons_succ] | simp only [List.set_cons_zero]))
              refine wpAnyL_take (i := 8) (T := (fun w9 => Ext wr w9)) (v := ?_) rfl (by kernel_rfl) (by kernel_rfl) (by kernel_rfl) (fun _ _ _ h => h) (fun _ _ _ _ hS => hS) (fun _ _ h => h) (fun _ _ h => h) (Or.inl ⟨by rfl, ?_⟩) hcl hS ?_
              rotate_left
              · (intro w9 hw9; (try dsimp only at hw9); go_simp; try with_reducible rfl)
              clear hcl hS
              intro hcl hS
              (try simp only [Act.put]); (try simp only [List.setIfInBounds_toArray]); (repeat (first | simp only [List.set_cons_succ] | simp only [List.set_cons_zero]))
              refine wpAnyL_take (i := 9) (T := (fun w9 => Ext wr w9)) (v := ?_) rfl (by kernel_rfl) (by kernel_rfl) (by kernel_rfl) (fun _ _ _ h => h) (fun _ _ _ _ hS => hS) (fun _ _ h => h) (fun _ _ h => h) (Or.inl ⟨by rfl, ?_⟩) hcl hS ?_
              rotate_left
              · (intro w9 hw9; (try dsimp only at hw9); have z6 := hw9.cell c6; have z7 := hw9.cell c7; have z8 := hw9.cell c8; have z9 := hw9.cell c9; have z10 := hw9.cell c10; have z11 := hw9.cell c11; go_simp; try with_reducible rfl)
              clear hcl hS
              intro hcl hS
              (try simp only [Act.put]); (try simp only [List.setIfInBounds_toArray]); (repeat (first | simp only [List.set_cons_succ] | simp only [List.set_cons_zero]))
              refine wpAnyL_two (i := 10) (j := 11) (by kernel_rfl) rfl rfl rfl rfl hcl (fun K9 hK9 => ?_) (fun K9 hK9 => ?_)
              clear hS hcl
              go_simp
              refine hK9 _ _ (by exact ex) (fun hcl hS => ?_)
              clear hK9
              refine wpAnyL_only (i := 11) (by kernel_rfl) rfl rfl hcl (fun K9 hK9 => ?_)
              clear hS hcl
              go_simp
              refine hK9 _ _ (by exact ex) (fun hcl hS => ?_)
              clear hK9
              refine wpAnyL_name (fun V1 hV1 => ?_)
              have b10 : BoxAt V1 (wr.heap.size) [.int .i64 0, .int .i64 0, .bool false, .slice none 0 0, .int .i64 0, .int .i64 0] 24 := by rw [hV1]; exact (BoxAt.new (W := wr) rfl [.int .i64 0, .int .i64 0, .bool false, .slice none 0 0, .int .i64 0, .int .i64 0] 24).mono (ex)
              have b11 : BoxAt V1 (wr.heap.size + 1) [.int .i64 0, .int .i64 0, .bool false, .slice none 0 0, .int .i64 0, .int .i64 0] 24 := by rw [hV1]; exact (BoxAt.new (W := wr.alloc (.cells #[.int .i64 0, .int .i64 0, .bool false, .slice none 0 0, .int .i64 0, .int .i64 0] 24)) (by simp [go_sem]) [.int .i64 0, .int .i64 0, .bool false, .slice none 0 0, .int .i64 0, .int .i64 0] 24).mono (ex)
              have hxx : Ext wr V1 := by rw [hV1]; exact (ex)
              clear hV1 hS
              obtain ⟨g10, hg10⟩ : ∃ g, g = wr.heap.size := ⟨_, rfl⟩
              obtain ⟨g11, hg11⟩ : ∃ g, g = wr.heap.size + 1 := ⟨_, rfl⟩
              rw [← hg11] at b11 ⊢
              rw [← hg10] at b10 ⊢
              have hge10 : wr.heap.size ≤ g10 := by omega
              have hge11 : wr.heap.size ≤ g11 := by omega
              have hne : g10 ≠ g11 := by omega
              clear hg10 hg11
              rotate_left
              clear hS hcl
              go_simp
              refine hK9 _ _ (by exact ex) (fun hcl hS => ?_)
              clear hK9
              refine wpAnyL_only (i := 10) (by kernel_rfl) rfl rfl hcl (fun K9 hK9 => ?_)
              clear hS hcl
              go_simp
              refine hK9 _ _ (by exact ex) (fun hcl hS => ?_)
              clear hK9
              refine wpAnyL_name (fun V1 hV1 => ?_)
              have b10 : BoxAt V1 (wr.heap.size + 1) [.int .i64 0, .int .i64 0, .bool false, .slice none 0 0, .int .i64 0, .int .i64 0] 24 := by rw [hV1]; exact (BoxAt.new (W := wr.alloc (.cells #[.int .i64 0, .int .i64 0, .bool false, .slice none 0 0, .int .i64 0, .int .i64 0] 24)) (by simp [go_sem]) [.int .i64 0, .int .i64 0, .bool false, .slice none 0 0, .int .i64 0, .int .i64 0] 24).mono (ex)
              have b11 : BoxAt V1 (wr.heap.size) [.int .i64 0, .int .i64 0, .bool false, .slice none 0 0, .int .i64 0, .int .i64 0] 24 := by rw [hV1]; exact (BoxAt.new (W := wr) rfl [.int .i64 0, .int .i64 0, .bool false, .slice none 0 0, .int .i64 0, .int .i64 0] 24).mono (ex)
              have hxx : Ext wr V1 := by rw [hV1]; exact (ex)
              clear hV1 hS
              obtain ⟨g10, hg10⟩ : ∃ g, g = wr.heap.size + 1 := ⟨_, rfl⟩
              obtain ⟨g11, hg11⟩ : ∃ g, g = wr.heap.size := ⟨_, rfl⟩
              rw [← hg10] at b10 ⊢
              rw [← hg11] at b11 ⊢
              have hge10 : wr.heap.size ≤ g10 := by omega
              have hge11 : wr.heap.size ≤ g11 := by omega
              have hne : g10 ≠ g11 := by omega
              clear hg10 hg11
              rotate_left
              all_goals
                refine wpAnyL_store (i := 12) (by kernel_rfl) rfl rfl hcl 24 (.tmp 11) (.tmp 61) rfl b10 rfl [.int .i64 n0.id, .int .i64 n0.term, .bool n0.speaks, .slice A n0.log.length a, .int .i64 n0.acked, .int .i64 n0.next] rfl rfl (show 6 < 44 by decide) (by kernel_rfl) (nodl_one n0 A a) ?_; intro W1 ht1 hb1
                refine ⟨ht1.ext hxx hge10, fun hcl hS => ?_⟩
                clear hS
                refine wpAnyL_store (i := 13) (by kernel_rfl) rfl rfl hcl 24 (.tmp 12) (.tmp 66) rfl (b11.turn ht1 (Ne.symm hne)) rfl [.int .i64 n1.id, .int .i64 n1.term, .bool n1.speaks, .slice B n1.log.length b, .int .i64 n1.acked, .int .i64 n1.next] rfl rfl (show 6 < 44 by decide) (by kernel_rfl) (nodl_one n1 B b) ?_; intro W2 ht2 hb2
                refine ⟨ht2.ext (ht1.ext hxx hge10) hge11, fun hcl hS => ?_⟩
                clear hcl hS
                have j1 := hb1.turn ht2 hne
                refine wpAnyL_done (by kernel_rfl) ?_ _
                clear c0 c1 c2 c3 c4 c5 c6 c7 c8 c9 c10 c11 c12 c13 c14
                obtain ⟨p0, p1, p2, p3, p4, p5⟩ := j1.six
                obtain ⟨q0, q1, q2, q3, q4, q5⟩ := hb2.six
                go_wp2_with (first
                  | (refine wpList_store_at rfl 24 (.tmp 11) (.tmp 69) rfl j1 rfl [.int .i64 n1.id, .int .i64 n1.term, .bool n1.speaks, .slice B n1.log.length b, .int .i64 n1.acked, .int .i64 n1.next] rfl rfl (show 6 < 44 by decide) (by kernel_rfl) (nodl_one n1 B b) ?_; intro W3 ht3 hb3; clear p0 p1 p2 p3 p4 p5; obtain ⟨p0, p1, p2, p3, p4, p5⟩ := hb3.six; have i2 := hb2.turn ht3 (by omega); clear q0 q1 q2 q3 q4 q5; obtain ⟨q0, q1, q2, q3, q4, q5⟩ := i2.six)
                  | (refine wpList_store_at rfl 24 (.tmp 12) (.tmp 70) rfl i2 rfl [.int .i64 n0.id, .int .i64 n0.term, .bool n0.speaks, .slice A n0.log.length a, .int .i64 n0.acked, .int .i64 n0.next] rfl rfl (show 6 < 44 by decide) (by kernel_rfl) (nodl_one n0 A a) ?_; intro W4 ht4 hb4; have j3 := hb3.turn ht4 (by omega); clear p0 p1 p2 p3 p4 p5 q0 q1 q2 q3 q4 q5; obtain ⟨p0, p1, p2, p3, p4, p5⟩ := j3.six; obtain ⟨q0, q1, q2, q3, q4, q5⟩ := hb4.six))
                have e2 : Ext w W4 := ht4.ext (ht3.ext (ht2.ext (ht1.ext (hC.ext.trans hxx) (by have := hC.ext.size; omega)) (by have := hC.ext.size; omega)) (by have := hC.ext.size; omega)) (by have := hC.ext.size; omega)
                have ma := ((((hC.q1.mono hxx).turn ht1).turn ht2).turn ht3).turn ht4
                have mb := ((((hC.q0.mono hxx).turn ht1).turn ht2).turn ht3).turn ht4
                go_at_call 52; refine (HLD.out _ (ma.recs e2 (ex))).mono ?_; rintro e w' ⟨D5, K5, rfl, hx, hl⟩; have HL5 := Lib.hid hl; obtain ⟨ye, rfl⟩ := hx.get; clear hx hl
                go_wp2_with (refine wpList_store_at rfl 24 (.tmp 11) (.tmp 89) rfl (j3.mono (show Ext W4 _ from ex)) rfl [.int .i64 x1.id, .int .i64 x1.term, .bool x1.speaks, .slice D5 x1.log.length K5, .int .i64 x1.acked, .int .i64 x1.next] rfl rfl (show 6 < 44 by decide) (by kernel_rfl) (nodl_one x1 D5 K5) ?_; intro W5 ht5 hb5; have i5 := (hb4.mono (show Ext W4 _ from ex)).turn ht5 (by omega); have e5 : Ext w W5 := ht5.ext (e2.trans (ex)) (by have := hC.ext.size; omega); have l5 := HL5.out.turn ht5; have m5 := (mb.mono (show Ext W4 _ from ex)).turn ht5; clear p0 p1 p2 p3 p4 p5 q0 q1 q2 q3 q4 q5; obtain ⟨p0, p1, p2, p3, p4, p5⟩ := hb5.six; obtain ⟨q0, q1, q2, q3, q4, q5⟩ := i5.six)
                go_at_call 53; refine (HST.out _ D5 K5 (l5.recs e5 (ex)) (m5.recs e5 (ex))).mono ?_; rintro e w' ⟨D6, K6, E6, J6, rfl, hx, h6, h7⟩; have HL6 := Lib.hid h6; have HL7 := Lib.hid h7; obtain ⟨yf, rfl⟩ := hx.get; clear hx h6 h7
                go_wp2_with (first
                  | (refine wpList_store_at rfl 24 (.tmp 11) (.tmp 98) rfl (hb5.mono (show Ext W5 _ from ex)) rfl [.int .i64 x.id, .int .i64 x.term, .bool x.speaks, .slice D6 x.log.length K6, .int .i64 x.acked, .int .i64 x.next] rfl rfl (show 6 < 44 by decide) (by kernel_rfl) (nodl_one x D6 K6) ?_; intro W6 ht6 hb6; have i6 := (i5.mono (show Ext W5 _ from ex)).turn ht6 (by omega); have e6 : Ext w W6 := ht6.ext (e5.trans (ex)) (by have := hC.ext.size; omega))
                  | (refine wpList_store_at rfl 24 (.tmp 12) (.tmp 99) rfl i6 rfl [.int .i64 y.id, .int .i64 y.term, .bool y.speaks, .slice E6 y.log.length J6, .int .i64 y.acked, .int .i64 y.next] rfl rfl (show 6 < 44 by decide) (by kernel_rfl) (nodl_one y E6 J6) ?_; intro W7 ht7 hb7; have j6 := hb6.turn ht7 (by omega); have e7 : Ext w W7 := ht7.ext e6 (by have := hC.ext.size; omega); have m6 := (HL6.out.turn ht6).turn ht7; have m7 := (HL7.out.turn ht6).turn ht7; clear p0 p1 p2 p3 p4 p5 q0 q1 q2 q3 q4 q5; obtain ⟨p0, p1, p2, p3, p4, p5⟩ := j6.six; obtain ⟨q0, q1, q2, q3, q4, q5⟩ := hb7.six))
                go_at_call 54; refine (HX1.out _ D6 K6 (m6.recs e7 (ex))).mono ?_; rintro e w' ⟨Ak, kk, rfl, hx, hr⟩; have HG1 := Lib.hid hr; obtain ⟨yg, rfl⟩ := hx.get; clear hx hr
                go_wp2_with fail
                go_at_call 54; refine (HX2.out _ E6 J6 (m7.recs e7 (ex))).mono ?_; rintro e w' ⟨Bk, kb, rfl, hx, hr⟩; have HG2 := Lib.hid hr; obtain ⟨yh, rfl⟩ := hx.get; clear hx hr
                go_wp2_with fail
                go_at_call 55; refine (r33_SameLog1 Ak Bk kk kb la _ (HG1.out.mono (ex)) (HG2.out.mono (ex))).mono ?_; rintro e w' ⟨rfl, hx⟩; obtain ⟨yi, rfl⟩ := hx.get; clear hx
                go_wp2_with (go_at_call 47; refine (top_caseReplicas _).mono ?_; rintro e w' ⟨rfl, hx⟩; obtain ⟨y, rfl⟩ := hx.get; clear hx)
                go_ret
                exact ⟨rfl, e7.trans (ex)⟩
theorem top_Settle (A0 : Option Addr) (k0 : Nat) (l : List Stp) (b : Bool) (w : World) (hs : Sl w A0 3 (l.map stpR)) (_hl : l.length ≤ k0) (_hm : k0 ≤ maxLen) (ho : ∀ s ∈ l, StpOk s) : Calls Tryz.prog 11 #[.slice A0 l.length k0, .bool b] w fun e w' => e = .returned (.bool true) ∧ Ext w w' := by
  cases b with
  | true => exact top_Settle_yes A0 k0 l w hs ho
  | false => exact top_Settle_no A0 k0 l w hs ho
end Go.Proofs.YtmhinhgflehkaaaGreat

/-
  The closed facts of the row of TopReplicasSettle, one by one.
-/
namespace Go.Proofs.YtmhinhgflehkaaaGreat
open Go.RowKit
theorem TopReplicasSettle_ip : Tryz.prog.inPlace 11 = Rows.topReplicasSettleRow.inPlace := by kernel_rfl
theorem TopReplicasSettle_un : Tryz.prog.unfollowed 11 = true := by kernel_rfl
theorem TopReplicasSettle_re : Tryz.prog.recurses 11 = true := by kernel_rfl
theorem TopReplicasSettle_na : Tryz.prog.varsNamed 11 = Rows.topReplicasSettleRow.named := by kernel_rfl
theorem TopReplicasSettle_all : joinedFacts Tryz.prog 11 Tryz.f11 Rows.topReplicasSettleSpec Rows.topReplicasSettleRow = true := by
  unfold joinedFacts
  rw [TopReplicasSettle_ip, TopReplicasSettle_un, TopReplicasSettle_re, TopReplicasSettle_na]
  kernel_rfl
end Go.Proofs.YtmhinhgflehkaaaGreat

/-
  Rows.TopReplicasSettleSaid: TopReplicasSettle returns true, whatever the input, and the input reads as it did.
-/
namespace Go.Proofs.YtmhinhgflehkaaaGreat
open Go.ChangeShapes Go.WideShapes Go.ChangeAt Go.RowKit Go.Joins Go.Deep

set_option maxRecDepth 100000 in
theorem TopReplicasSettle_lifted (os : Os) (started : os.Started) (H : Type) (enc : TypeId × Value → H) :
    ReturnsInHanded {} Tryz.checked os 11 .any (Rows.topReplicasSettleSpec.pre6 enc Tryz.prog Tryz.f11 Rows.topReplicasSettleRow.domain false) (Rows.topReplicasSettleSpec.post enc Tryz.prog Tryz.f11 false true false false) := by
  refine returnsInHanded_of_change (C := Tryz.checked) own started (by kernel_rfl) Tryz.func11
    (ChangeSpec.witness6 (enc := enc) (C := Tryz.checked) false ⟨#[], #[.slice none 0 0, .bool false], []⟩ 8 (by kernel_rfl) (by kernel_rfl) (by kernel_rfl) (by kernel_rfl)) ?_
  intro W base args ds gs before hval0 hW hcnd _
  have hval : ∀ (j : Nat) t v, Tryz.f11.params[j]? = some t → args[j]? = some v → Value.okWide Tryz.prog W .any base t v := hval0
  have hW' := hW
  obtain ⟨p, q, hA0, hV, rfl, hfz, hnd⟩ := hW
  have hA : DataW.TrodAll enc Tryz.prog W 0 (fun _ => true) true Tryz.f11.params.toList args.toList ds p := hA0
  rw [Tryz.params11] at hA hval
  obtain ⟨v0, vs0, d0, ds0, p0, q0, hargs, rfl, rfl, h0, r0⟩ := trodAll_cons hA
  obtain ⟨v1, vs1, d1, ds1, p1, q1, rfl, rfl, rfl, h1, r1⟩ := trodAll_cons r0
  obtain ⟨rfl, rfl, rfl⟩ := trodAll_nil r1
  obtain rfl : args = #[v0, v1] := by cases args; simp_all
  obtain ⟨A0, k0, x0, rfl, l0, m0, s0, o0⟩ := open_steps_arg (hval 0 111 v0 rfl rfl) h0
  obtain ⟨x1, rfl, _, _⟩ := open_bool Tryz.underlying4 (hval 1 4 v1 rfl rfl) h1
  obtain ⟨rfl, rfl⟩ := trodVars_none hV
  refine (top_Settle A0 k0 x0 x1 W s0 l0 m0 o0).mono fun e W' ⟨he, hx⟩ => ?_
  subst he
  exact ⟨_, rfl, post_ext laid (by kernel_rfl) hW' rfl (fun l hl => by
    match l, hl with
    | [y0, y1], _ => exact ⟨rfl, rfl⟩) (fun _ _ _ => (trodAll_cons_mk (shut_bool Tryz.underlying4 _) trodAll_mk0)) hx (ok_one (by kernel_rfl) rfl (okWide_bool_mk Tryz.underlying4 _))⟩

theorem TopReplicasSettle_over : Rows.topReplicasSettleRow.holds Tryz.pinned (OpenSpec.ofChange Rows.topReplicasSettleSpec) :=
  OpenClaim.holds_of_wide 11 Tryz.f11 rfl rfl rfl rfl rfl rfl rfl ⟨rfl, rfl, rfl, rfl, rfl⟩ rfl rfl rfl rfl rfl (by kernel_rfl) Tryz.func11 TopReplicasSettle_all
    (of_decide_eq_true (by kernel_rfl)) (by unfold Func.isWrapper; first | (rw [if_pos (by decide +kernel)]; kernel_rfl) | (rw [if_neg (by decide +kernel)]; exact ⟨rfl, rfl⟩))
    (fun os started H enc _ => TopReplicasSettle_lifted os started H enc)

/-- The statement. -/
theorem TopReplicasSettle_proved : Rows.TopReplicasSettleSaid := TopReplicasSettle_over
#print axioms TopReplicasSettle_proved
end Go.Proofs.YtmhinhgflehkaaaGreat
