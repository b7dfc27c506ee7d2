/-
 The fixed example of two nodes and a new world, in plain and by value.
-/
import Derived.Test.YtmhinhgflehkaaaGreatGtak
import Derived.Test.YtmhinhgflehkaaaGreatGsetl
import Derived.Test.YtmhinhgflehkaaaGreatGrpj
import Derived.Test.YtmhinhgflehkaaaGreatGrag
import Derived.Test.YtmhinhgflehkaaaGreatGstay
import Derived.Test.YtmhinhgflehkaaaGreatGrpm
namespace Go.Proofs.YtmhinhgflehkaaaGreat
open Go.RowKit

noncomputable def exR5 : Rec := ⟨1, goA 5⟩
theorem exE5 : acnE (goA 5) = 0 := acnE_goA (by omega) (by omega)
theorem ex5_recs (lo : Int) (h : lo ≤ 1) : recsE lo 1 [exR5] = 0 := by
 have h2 : ¬ 1 < lo := by omega
 simp [recsE, scan, recS, exR5, exE5, h2]
theorem ex5_nil (a b : Int) : recsE a b [] = 0 := by simp [recsE, scan]
theorem ex5_act : actV ⟨1, 1, true, [], 0, 0⟩ (goA 5) = (⟨1, 1, true, [exR5], 0, 0⟩, 0) := by
 simp [actV, nodE, ex5_nil, ownB, exE5, early, actN, exR5]
theorem ex5_r1 : recvV ⟨2, 0, false, [], 0, 0⟩ ⟨0, 1, 0, 0, [exR5], 0⟩ = (⟨2, 1, false, [exR5], 0, 0⟩, ⟨1, 1, 1, 0, [], 0⟩, true, 0) := by
 have h : max (0 : Int) (min 0 1) = 0 := by decide
 simp [recvV, nodE, msgE, appE, ex5_nil, ex5_recs, ownB, recdV, inTerm, takeV, tookL, keepN, ansM, h]
theorem ex5_r2 : recvV ⟨1, 1, true, [exR5], 0, 0⟩ ⟨1, 1, 1, 0, [], 0⟩ = (⟨1, 1, true, [exR5], 1, 1⟩, msg0, false, 0) := by
 have h : max (0 : Int) 1 = 1 := by decide
 simp [recvV, nodE, msgE, ansE, ex5_recs, ownB, recdV, inTerm, ackN, h]
theorem ex5_r3 : recvV ⟨2, 1, false, [exR5], 0, 0⟩ ⟨0, 1, 1, 1, [], 1⟩ = (⟨2, 1, false, [exR5], 1, 0⟩, ⟨1, 1, 1, 0, [], 0⟩, true, 0) := by
 have h : max (0 : Int) 1 = 1 := by decide
 simp [recvV, nodE, msgE, appE, ex5_nil, ex5_recs, ownB, recdV, inTerm, takeV, tookL, keepN, ansM, termAt, show exR5.term = 1 from rfl, h]
theorem ex5_r4 : recvV ⟨1, 1, true, [exR5], 1, 1⟩ ⟨1, 1, 1, 0, [], 0⟩ = (⟨1, 1, true, [exR5], 1, 1⟩, msg0, false, 0) := by
 simp [recvV, nodE, msgE, ansE, ex5_recs, ownB, recdV, inTerm, ackN]
theorem ex5_s1 : sentM ⟨1, 1, true, [exR5], 0, 0⟩ = ⟨0, 1, 0, 0, [exR5], 0⟩ := by simp [sentM]
theorem ex5_s2 : sentM ⟨1, 1, true, [exR5], 1, 1⟩ = ⟨0, 1, 1, 1, [], 1⟩ := by simp [sentM, termAt, show exR5.term = 1 from rfl]
theorem ex5_n1 : nodE ⟨1, 1, true, [exR5], 0, 0⟩ = 0 := by simp [nodE, ex5_recs, ownB]
theorem ex5_n2 : nodE ⟨2, 0, false, [], 0, 0⟩ = 0 := nodE_fresh (by omega) (by omega)
theorem ex5_settle : settleV ⟨1, 1, true, [exR5], 0, 0⟩ ⟨2, 0, false, [], 0, 0⟩ = (⟨1, 1, true, [exR5], 1, 1⟩, ⟨2, 1, false, [exR5], 1, 0⟩, 2, 0) := by
 have b0 : settledB ⟨1, 1, true, [exR5], 0, 0⟩ ⟨2, 0, false, [], 0, 0⟩ = false := by simp [settledB, sameRs]
 have b1 : settledB ⟨1, 1, true, [exR5], 1, 1⟩ ⟨2, 1, false, [exR5], 0, 0⟩ = false := by simp [settledB]
 have b2 : settledB ⟨1, 1, true, [exR5], 1, 1⟩ ⟨2, 1, false, [exR5], 1, 0⟩ = true := by
  have : sameRs [exR5] [exR5] = true := sameRs_refl _
  simp [settledB, this]
 unfold settleV
 rw [ex5_n1, ex5_n2, if_neg (by simp), if_neg (by simp), if_neg (by simp), if_neg (by simp)]
 conv => lhs; unfold settleR
 rw [b0, ex5_s1, ex5_r1]
 simp only [Bool.false_eq_true, if_false, ne_eq, not_true_eq_false]
 rw [ex5_r2]
 simp only [if_false, not_true_eq_false]
 conv => lhs; unfold settleR
 rw [b1, ex5_s2, ex5_r3]
 simp only [Bool.false_eq_true, if_false, ne_eq, not_true_eq_false]
 rw [ex5_r4]
 simp only [if_false, not_true_eq_false]
 conv => lhs; unfold settleR
 rw [b2]
 simp
def wld31 : Wld := ⟨0, 3, 1, false, ⟨⟨1, 1, true, [], 0, 0⟩, true, 0⟩, ⟨⟨2, 0, false, [], 0, 0⟩, true, 0⟩, []⟩
theorem ex5_w : newW 3 1 = (wld31, 0) := by unfold newW; rw [if_neg (by omega)]; rfl
theorem ex5_wE : wldE wld31 = 0 := by
 have h1 : nodE ⟨1, 1, true, [], 0, 0⟩ = 0 := by simp [nodE, ex5_nil, ownB]
 have h2 : nodE ⟨2, 0, false, [], 0, 0⟩ = 0 := ex5_n2
 simp [wldE, wld31, staE, h1, h2, scan]
theorem ex5_sp : speakerV wld31 = (1, 0) := by
 unfold speakerV
 rw [if_neg (by rw [ex5_wE]; simp)]
 simp [spokenW, wld31]
theorem ex5_el (w : World) : ∀ r ∈ [exR5], AcnAt w r.act := fun r hr => by
 simp at hr; subst hr; exact mkA_at _ _ _ _ w

/-! ### By value -/
theorem ex5_Act (w0 w : World) (D : Option Addr) (K : Nat) (hK : K ≤ maxLen) : Calls Tryz.prog 99 #[.agg #[.int .i64 1, .int .i64 1, .bool true, .slice D 0 K, .int .i64 0, .int .i64 0], .agg (acnR (goA 5)).toArray] w fun e w' => ∃ D K, e = .returned (.tuple #[.agg #[.int .i64 1, .int .i64 1, .bool true, .slice D 1 K, .int .i64 0, .int .i64 0], .int .i64 0]) ∧ Ext w w' ∧ LogW w0 w' D 1 K [exR5] := by
 refine (rep_Act ⟨1, 1, true, [], 0, 0⟩ D K (goA 5) w ⟨Sl.nil _ _ _, Nat.zero_le _, hK, by simp⟩ (mkA_at _ _ _ _ _)).mono fun e w' h => ?_
 obtain ⟨A, c, he, hx, hl⟩ := RetNod.parts (w0 := w0) h ex5_act (ex5_el w0)
 exact ⟨A, c, he, hx, hl⟩
theorem ex5_Settle (w0 w : World) (D : Option Addr) (K : Nat) (E : Option Addr) (J : Nat) (hJ : J ≤ maxLen) (hl : RecsAt w D K [exR5]) : Calls Tryz.prog 53 #[.agg #[.int .i64 1, .int .i64 1, .bool true, .slice D 1 K, .int .i64 0, .int .i64 0], .agg #[.int .i64 2, .int .i64 0, .bool false, .slice E 0 J, .int .i64 0, .int .i64 0]] w fun e w' => ∃ D K E J, e = .returned (.tuple #[.agg #[.int .i64 1, .int .i64 1, .bool true, .slice D 1 K, .int .i64 1, .int .i64 1], .agg #[.int .i64 2, .int .i64 1, .bool false, .slice E 1 J, .int .i64 1, .int .i64 0], .int .i64 2, .int .i64 0]) ∧ Ext w w' := by
 refine (rep_Settle ⟨1, 1, true, [exR5], 0, 0⟩ D K ⟨2, 0, false, [], 0, 0⟩ E J w hl ⟨Sl.nil _ _ _, Nat.zero_le _, hJ, by simp⟩).mono fun e w' h => ?_
 obtain ⟨A, c, B, d, he, hx, -, -⟩ := RetSett.parts (w0 := w0) h ex5_settle (ex5_el w0) (ex5_el w0)
 exact ⟨A, c, B, d, he, hx⟩
theorem ex5_New (w : World) : Calls Tryz.prog 17 #[.int .i64 3, .int .i64 1] w fun e w' => ∃ A a B b M k, e = .returned (.tuple #[.agg #[.int .i64 wld31.now, .int .i64 wld31.limit, .int .i64 wld31.delay, .bool wld31.cut, .int .i64 wld31.a.node.id, .int .i64 wld31.a.node.term, .bool wld31.a.node.speaks, .slice A wld31.a.node.log.length a, .int .i64 wld31.a.node.acked, .int .i64 wld31.a.node.next, .bool wld31.a.up, .int .i64 wld31.a.quiet, .int .i64 wld31.b.node.id, .int .i64 wld31.b.node.term, .bool wld31.b.node.speaks, .slice B wld31.b.node.log.length b, .int .i64 wld31.b.node.acked, .int .i64 wld31.b.node.next, .bool wld31.b.up, .int .i64 wld31.b.quiet, .slice M wld31.mail.length k], .int .i64 0]) ∧ Ext w w' ∧ a ≤ maxLen ∧ b ≤ maxLen ∧ k ≤ maxLen := by
 have h := tak_New 3 1 w
 rw [ex5_w] at h
 exact h
theorem ex5_Speaker (w : World) (A : Option Addr) (a : Nat) (B : Option Addr) (b : Nat) (M : Option Addr) (k : Nat) (h1 : a ≤ maxLen) (h2 : b ≤ maxLen) (h3 : k ≤ maxLen) : Calls Tryz.prog 19 #[.agg #[.int .i64 wld31.now, .int .i64 wld31.limit, .int .i64 wld31.delay, .bool wld31.cut, .int .i64 wld31.a.node.id, .int .i64 wld31.a.node.term, .bool wld31.a.node.speaks, .slice A wld31.a.node.log.length a, .int .i64 wld31.a.node.acked, .int .i64 wld31.a.node.next, .bool wld31.a.up, .int .i64 wld31.a.quiet, .int .i64 wld31.b.node.id, .int .i64 wld31.b.node.term, .bool wld31.b.node.speaks, .slice B wld31.b.node.log.length b, .int .i64 wld31.b.node.acked, .int .i64 wld31.b.node.next, .bool wld31.b.up, .int .i64 wld31.b.quiet, .slice M wld31.mail.length k]] w fun e w' => e = .returned (.tuple #[.int .i64 1, .int .i64 0]) ∧ Ext w w' := by
 have h := tak_Speaker (w := wld31) (W := w) (A := A) (B := B) (M := M) (c := a) (d := b) (k := k) (xs := []) ⟨⟨Sl.nil _ _ _, Nat.zero_le _, h1, by simp [wld31]⟩, ⟨Sl.nil _ _ _, Nat.zero_le _, h2, by simp [wld31]⟩, ⟨Sl.nil _ _ _, Nat.zero_le _, h3, by simp⟩, rfl⟩
 rw [ex5_sp] at h
 exact h
end Go.Proofs.YtmhinhgflehkaaaGreat

/-
 The fixed example of two nodes and a new world.
-/
namespace Go.Proofs.YtmhinhgflehkaaaGreat
open Go.RowKit

def Stab.actx (w : World) : Stab := ⟨fun v W => ∃ D K, v = .tuple #[.agg #[.int .i64 1, .int .i64 1, .bool true, .slice D 1 K, .int .i64 0, .int .i64 0], .int .i64 0] ∧ LogW w W D 1 K [exR5], fun _ _ _ hx ⟨D, K, e, h⟩ => ⟨D, K, e, h.mono hx⟩⟩
def Stab.nodx (w : World) : Stab := ⟨fun v W => ∃ D K, v = .agg #[.int .i64 1, .int .i64 1, .bool true, .slice D 1 K, .int .i64 0, .int .i64 0] ∧ LogW w W D 1 K [exR5], fun _ _ _ hx ⟨D, K, e, h⟩ => ⟨D, K, e, h.mono hx⟩⟩
set_option maxHeartbeats 6400000 in
set_option maxRecDepth 100000 in
theorem top_caseReplicas (w : World) : Calls Tryz.prog 47 #[] w fun e w' => e = .returned (.bool true) ∧ Ext w w' := by
 go_enter Tryz.func47, Tryz.ntmps47
 go_wp2_with fail
 go_at_call 48; refine (rep_New_as 1 (by omega) (by omega) _).mono ?_; rintro e w' ⟨D1, K1, rfl, hx, h1⟩; obtain ⟨ya, rfl⟩ := hx.get; clear hx
 go_wp2_with fail
 go_at_call 48; refine (rep_New_as 2 (by omega) (by omega) _).mono ?_; rintro e w' ⟨D2, K2, rfl, hx, h2⟩; obtain ⟨yb, rfl⟩ := hx.get; clear hx
 go_wp2_with fail
 go_at_call 52; refine (rep_Lead_as D1 K1 h1 _).mono ?_; rintro e w' ⟨D3, K3, rfl, hx, h3⟩; obtain ⟨yc, rfl⟩ := hx.get; clear hx
 go_wp2_with (refine wpList_store_at rfl 24 (.tmp 1) (.tmp 25) rfl ((BoxAt.new (W := xt w ya) (b := (w.heap.size + ya.n)) (by simp [go_sem]) [.int .i64 1, .int .i64 0, .bool false, .slice D1 0 K1, .int .i64 0, .int .i64 0] 24).mono (ex)) rfl [.int .i64 1, .int .i64 1, .bool true, .slice D3 0 K3, .int .i64 0, .int .i64 0] rfl rfl (show 6 < 44 by decide) (by kernel_rfl) (cells_one _ rfl) ?_; intro W1 ht1 hb1; have hex1 : Ext w W1 := ht1.ext (ex) (by omega); have k3 := BoxAt.turn ht1 (by omega) ((BoxAt.new (W := xt ((xt w ya).alloc (.cells #[.int .i64 1, .int .i64 0, .bool false, .slice D1 0 K1, .int .i64 0, .int .i64 0] 24)) yb) (b := (w.heap.size + ya.n + 1 + yb.n)) (by simp [go_sem]) [.int .i64 2, .int .i64 0, .bool false, .slice D2 0 K2, .int .i64 0, .int .i64 0] 24).mono (ex)))
 have hs3 := k3.lt
 obtain ⟨c0, c1, c2, c3, c4, c5⟩ := hb1.six
 refine wp_region_stab 6 [5] [Stab.is (.agg #[.int .i64 1, .int .i64 1, .bool true, .slice D3 0 K3, .int .i64 0, .int .i64 0]), Stab.is (.agg (acnR (goA 5)).toArray), Stab.actx w, Stab.actx w, Stab.nodx w, Stab.is (.int .i64 0)] (fun u => by (simp only [putAll, List.take_succ_cons, List.take_zero, Act.put, Nat.zero_add, Nat.reduceAdd]); (try simp only [List.setIfInBounds_toArray]); (repeat (first | simp only [List.set_cons_succ] | simp only [List.set_cons_zero])); exact rfl) (by kernel_rfl) (by kernel_rfl) (fun _ _ _ _ _ h => h) ?_ ?_
 ·refine ⟨?_, ?_, ?_, ?_, ?_, ?_, trivial⟩
  ·(show SlotA _ _ _ _ _ _ _); intro u w1 hx1 hd; obtain ⟨y9, rfl⟩ := hx1.get; clear hx1
   refine slot_run rfl rfl rfl ?_; intro K9 hK
   go_simp; exact hK _ _ rfl (ex) rfl
  ·(show SlotA _ _ _ _ _ _ _); intro u w1 hx1 hd; obtain ⟨y9, rfl⟩ := hx1.get; clear hx1
   refine slot_run rfl rfl rfl ?_; intro K9 hK
   go_simp; go_at_call 57; refine (l54_Go _ _).mono ?_; rintro e w' ⟨rfl, hx⟩; exact hK _ _ rfl hx rfl
  ·(show SlotA _ _ _ _ _ _ _); intro u w1 hx1 hd; obtain ⟨y9, rfl⟩ := hx1.get; clear hx1
   have e0 : u 0 = .agg #[.int .i64 1, .int .i64 1, .bool true, .slice D3 0 K3, .int .i64 0, .int .i64 0] := hd 0 (by kernel_rfl)
   have e1 : u 1 = .agg (acnR (goA 5)).toArray := hd 1 (by kernel_rfl)
   simp only [e0, e1]
   refine slot_run rfl rfl rfl ?_; intro K9 hK
   go_simp; go_at_call 99; refine (ex5_Act w _ D3 K3 h3).mono ?_; rintro e w' ⟨D, K, rfl, hx, hl⟩; exact hK _ _ rfl hx ⟨D, K, rfl, hl⟩
  ·(show SlotA _ _ _ _ _ _ _); intro u w1 hx1 hd; obtain ⟨y9, rfl⟩ := hx1.get; clear hx1
   obtain ⟨D4, K4, e2, h4⟩ := hd 2 (by kernel_rfl)
   simp only [e2]
   refine slot_run rfl rfl rfl ?_; intro K9 hK
   go_simp; exact hK _ _ rfl (ex) ⟨D4, K4, rfl, h4⟩
  ·(show SlotA _ _ _ _ _ _ _); intro u w1 hx1 hd; obtain ⟨y9, rfl⟩ := hx1.get; clear hx1
   obtain ⟨D4, K4, e3, h4⟩ := hd 3 (by kernel_rfl)
   simp only [e3]
   refine slot_run rfl rfl rfl ?_; intro K9 hK
   go_simp; exact hK _ _ rfl (ex) ⟨D4, K4, rfl, h4⟩
  ·(show PureA _ _ _ _ _ _); intro u w1 hx1 hd; obtain ⟨y9, rfl⟩ := hx1.get; clear hx1
   obtain ⟨D4, K4, e3, h4⟩ := hd 3 (by kernel_rfl)
   simp only [e3]
   refine pure_run (v := .int .i64 0) rfl rfl (fun w9 => ?_) rfl
   go_simp
 ·intro u w2 hx2 hT; obtain ⟨t0, t1, t2, t3, t4, t5, -⟩ := hT; obtain ⟨y9, rfl⟩ := hx2.get; clear hx2
  obtain ⟨D5, K5, e4, h5⟩ := t4
  have e5 : u 5 = .int .i64 0 := t5
  simp only [e4, e5]
  clear e4 e5 t0 t1 t2 t3 t5
  simp only [List.drop_succ_cons, List.drop_zero]
  have hxx : Ext W1 (xt W1.drew y9) := ex
  go_wp2_with (refine wpList_store_at rfl 24 (.tmp 1) (.tmp 31) rfl (hb1.mono hxx) rfl [.int .i64 1, .int .i64 1, .bool true, .slice D5 1 K5, .int .i64 0, .int .i64 0] rfl rfl (show 6 < 44 by decide) (by kernel_rfl) (cells_one _ rfl) ?_; intro W2 ht2 hb2; have j3 := (k3.mono hxx).turn ht2 (by omega); have hs4 := j3.lt; have hex2 : Ext w W2 := ht2.ext (hex1.trans hxx) (by omega); have m5 := h5.turn ht2; obtain ⟨d0, d1, d2, d3, d4, d5⟩ := hb2.six; obtain ⟨e0, e1, e2, e3, e4, e5⟩ := j3.six)
  go_at_call 53; refine (ex5_Settle w _ D5 K5 D2 K2 h2 (m5.recs hex2 (ex))).mono ?_; rintro e w' ⟨D6, K6, D7, K7, rfl, hx⟩; obtain ⟨yd, rfl⟩ := hx.get; clear hx
  clear c0 c1 c2 c3 c4 c5
  go_wp2_with (first
   | (refine wpList_store_at rfl 24 (.tmp 7) (.tmp 37) rfl ((BoxAt.new (W := xt W2 yd) (b := W2.heap.size + yd.n) (by simp [go_sem]) [.int .i64 0, .int .i64 0, .bool false, .slice none 0 0, .int .i64 0, .int .i64 0] 24).mono (ex)) rfl [.int .i64 1, .int .i64 1, .bool true, .slice D6 1 K6, .int .i64 1, .int .i64 1] rfl rfl (show 6 < 44 by decide) (by kernel_rfl) (cells_one _ rfl) ?_; intro W3 ht3 hb3; have i3 := BoxAt.turn ht3 (by omega) (j3.mono (show Ext W2 _ from ex)); have hex3 : Ext w W3 := ht3.ext (hex2.trans (ex)) (by have := hex2.size; omega))
   | (refine wpList_store_at rfl 24 (.tmp 3) (.tmp 38) rfl i3 rfl [.int .i64 2, .int .i64 1, .bool false, .slice D7 1 K7, .int .i64 1, .int .i64 0] rfl rfl (show 6 < 44 by decide) (by kernel_rfl) (cells_one _ rfl) ?_; intro W4 ht4 hb4; have hex4 : Ext w W4 := ht4.ext hex3 (by omega); obtain ⟨f0, f1, f2, f3, f4, f5⟩ := hb4.six))
  go_at_call 17; refine (ex5_New _).mono ?_; rintro e w' ⟨A9, a9, B9, b9, M9, k9, rfl, hx, q1, q2, q3⟩; obtain ⟨ye, rfl⟩ := hx.get; clear hx
  go_wp2_with (refine wpList_store_top rfl 30 (.tmp 10) (.tmp 43) rfl rfl (by simp [go_sem]) [.int .i64 wld31.now, .int .i64 wld31.limit, .int .i64 wld31.delay, .bool wld31.cut, .int .i64 wld31.a.node.id, .int .i64 wld31.a.node.term, .bool wld31.a.node.speaks, .slice A9 wld31.a.node.log.length a9, .int .i64 wld31.a.node.acked, .int .i64 wld31.a.node.next, .bool wld31.a.up, .int .i64 wld31.a.quiet, .int .i64 wld31.b.node.id, .int .i64 wld31.b.node.term, .bool wld31.b.node.speaks, .slice B9 wld31.b.node.log.length b9, .int .i64 wld31.b.node.acked, .int .i64 wld31.b.node.next, .bool wld31.b.up, .int .i64 wld31.b.quiet, .slice M9 wld31.mail.length k9] rfl rfl (by kernel_rfl) (cells_one _ rfl) ?_)
  go_at_call 19; refine (ex5_Speaker _ A9 a9 B9 b9 M9 k9 q1 q2 q3).mono ?_; rintro e w' ⟨rfl, hx⟩; obtain ⟨yf, rfl⟩ := hx.get; clear hx
  go_wp2
  go_ret
  exact ⟨rfl, hex4.trans (ex)⟩
end Go.Proofs.YtmhinhgflehkaaaGreat
