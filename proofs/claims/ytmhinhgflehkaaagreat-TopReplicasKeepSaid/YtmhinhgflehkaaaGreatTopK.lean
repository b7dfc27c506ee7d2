/-
 Whatever two nodes do, what one of them knows to be at both is there.
-/
import Derived.Test.YtmhinhgflehkaaaGreatGtopd
import Derived.Test.YtmhinhgflehkaaaGreatGtopx
import Derived.Test.YtmhinhgflehkaaaGreatTopF
namespace Go.Proofs.YtmhinhgflehkaaaGreat
open Go.RowKit

/-! ### More on regions by reading ahead; elements of an array of two nodes -/
section
variable {P : Program} {ops : Array Oper} {Q : Exit → Act → World → Prop} {md : Region.Mode} {S S' : Array Bool → World → Prop}
theorem wpAnyL_strong (i : Nat) : ∀ (f : Nat) (L : Array Bool) (a : Act) (w : World), L.getD i false = true → (∀ L w, L.getD i false = true → S' L w → S L w) → wpAnyL P md ops Q S' f L a w → wpAnyL P md ops Q S f L a w
 | 0, _, _, _, _, _, h => h
 | f + 1, _, _, _, hl, hm, h => ⟨h.1, fun j hj => wpOp_mono (fun a' w' h' => ⟨hm _ _ (getD_set_true hl) h'.1, wpAnyL_strong i f _ a' w' (getD_set_true hl) hm h'.2⟩) (h.2 j hj)⟩
theorem wpAnyL_want {i : Nat} {o : Oper} {f : Nat} {L : Array Bool} {a : Act} {w : World} (hr : Region.ready md ops L = [i]) (ho : ops[i]? = some o) (hg : Region.wanted o (yielded ops a.tmps) = true) (hcl : ShutL md ops L)
  (h : ∀ K : Act → World → Prop, (∀ a w, S (L.setIfInBounds i true) w → (ShutL md ops (L.setIfInBounds i true) → S (L.setIfInBounds i true) w → wpAnyL P md ops Q S f (L.setIfInBounds i true) a w) → K a w) → Oper.wp P o a w K Q) : wpAnyL P md ops Q S (f + 1) L a w := by
 have hm : i ∈ Region.ready md ops L := by rw [hr]; simp
 refine ⟨fun h0 => (by rw [hr] at h0; cases h0), fun j hj => ?_⟩
 rw [hr] at hj
 obtain rfl : j = i := by simpa using hj
 unfold wpOp
 simp only [ho]
 rw [if_pos hg]
 exact .inl (Oper.wp_mono (fun a' w' h' => h') (h _ fun a w h1 h2 => ⟨h1, h2 (hcl.set hm) h1⟩))
end
@[go_sem] theorem index_N0 (w : World) (a0 a1 a2 a3 a4 a5 b0 b1 b2 b3 b4 b5 : Value) : (Instr.index 113 (.agg #[a0, a1, a2, a3, a4, a5, b0, b1, b2, b3, b4, b5]) (.int .i64 0)).run Tryz.prog w = .ok (.agg #[a0, a1, a2, a3, a4, a5]) w := by kernel_rfl
@[go_sem] theorem index_N1 (w : World) (a0 a1 a2 a3 a4 a5 b0 b1 b2 b3 b4 b5 : Value) : (Instr.index 113 (.agg #[a0, a1, a2, a3, a4, a5, b0, b1, b2, b3, b4, b5]) (.int .i64 1)).run Tryz.prog w = .ok (.agg #[b0, b1, b2, b3, b4, b5]) w := by kernel_rfl
theorem CaseIn.ext {w W : World} {g : Nat} {n0 n1 : Nod} {l0 l1 : List Msg} {t : Int} (h : CaseIn w W g n0 n1 l0 l1 t) : Ext w W := by
 obtain ⟨A, a, B, b, M, m, xs, N, n, ys, h⟩ := h
 exact h.ext
def Stab.nodq (w : World) (x : Nod) (q : Nat) : Stab := ⟨fun v W => ∃ D K, v = .agg #[.int .i64 x.id, .int .i64 x.term, .bool x.speaks, .slice D x.log.length K, .int .i64 q, .int .i64 x.next] ∧ LogW w W D x.log.length K x.log, fun _ _ _ hx ⟨D, K, e, h⟩ => ⟨D, K, e, h.mono hx⟩⟩
set_option maxHeartbeats 25600000 in
set_option maxRecDepth 100000 in
theorem top_Keep (A0 : Option Addr) (k0 : Nat) (l : List Stp) (w : World) (hs : Sl w A0 3 (l.map stpR)) (_hl : l.length ≤ k0) (_hm : k0 ≤ maxLen) (ho : ∀ s ∈ l, StpOk s) : Calls Tryz.prog 10 #[.slice A0 l.length k0] w fun e w' => e = .returned (.bool true) ∧ Ext w w' := by
 have HS := Lib.hid hs
 have HO := Lib.hid ho
 clear ho
 by_cases h60 : 60 < l.length
 ·have hd : decide ((60 : Int) < (l.length : Int)) = true := decide_eq_true (by omega)
  clear hs
  go_enter Tryz.func10, Tryz.ntmps10
  go_wp2_with (go_at_call 47; refine (top_caseReplicas _).mono ?_; rintro e w' ⟨rfl, hx⟩; obtain ⟨y, rfl⟩ := hx.get; clear hx)
  go_ret
  exact ⟨rfl, ex⟩
 ·have hd : decide ((60 : Int) < (l.length : Int)) = false := decide_eq_false (by omega)
  clear hs
  go_enter Tryz.func10, Tryz.ntmps10
  go_wp2_with (refine wpList_built rfl 117 _ rfl [] rfl #[.int .i64 0, .int .i64 0, .bool false, .slice none 0 0, .int .i64 0, .int .i64 0, .int .i64 0, .int .i64 0, .bool false, .slice none 0 0, .int .i64 0, .int .i64 0, .slice none 0 0, .slice none 0 0, .int .i64 0] (by kernel_rfl) ?_)
  go_loopw [21] (fun i wr => (i = .int .i64 0 ∧ CaseIn w wr w.heap.size nod0 nod0 [] [] 0) ∨ (i = .int .i64 1 ∧ CaseIn w wr w.heap.size nod1 nod0 [] [] 0) ∨ (i = .int .i64 2 ∧ CaseIn w wr w.heap.size nod1 nod2 [] [] 0)) (fun i _ => 2 - (intOf i).toNat)
  case atStart => exact .inl ⟨rfl, none, 0, none, 0, none, 0, [], none, 0, [], ⟨ex, Nat.le_refl _, BoxAt.new rfl [.int .i64 0, .int .i64 0, .bool false, .slice none 0 0, .int .i64 0, .int .i64 0, .int .i64 0, .int .i64 0, .bool false, .slice none 0 0, .int .i64 0, .int .i64 0, .slice none 0 0, .slice none 0 0, .int .i64 0] 117, LogW.nil _ _, LogW.nil _ _, BoxM.nil _ _, BoxM.nil _ _, fun p q h => (by cases h)⟩⟩
  case round =>
   rcases hrel with ⟨rfl, hc⟩ | ⟨rfl, hc⟩ | ⟨rfl, hc⟩
   ·obtain ⟨A, a, B, b, M, m, xs, N, n, ys, hC⟩ := hc
    go_wp2_with (go_at_call 48; refine (rep_New_as 1 (by omega) (by omega) _).mono ?_; rintro e w' ⟨D, K, rfl, hx, hK⟩; obtain ⟨ya, rfl⟩ := hx.get; clear hx)
    (refine wp_region_tail 6 (by kernel_rfl) (by kernel_rfl) ?_; simp only [List.take_succ_cons, List.take_zero, List.drop_succ_cons, List.drop_zero]; (repeat (go_big_quiet_step (fail))); refine wpQuiet_nil ?_; rintro _ ⟨y, rfl⟩)
    refine wpList_store_part rfl 24 (.tmp 37) (.tmp 34) rfl (hC.box.mono (ex)) 0 rfl [.int .i64 1, .int .i64 0, .bool false, .slice D 0 K, .int .i64 0, .int .i64 0] rfl (show 6 ≤ 15 by decide) (show 15 < 44 by decide) (by kernel_rfl) (cells_one _ rfl) [.int .i64 nod1.id, .int .i64 nod1.term, .bool nod1.speaks, .slice D nod1.log.length K, .int .i64 nod1.acked, .int .i64 nod1.next, .int .i64 nod0.id, .int .i64 nod0.term, .bool nod0.speaks, .slice B nod0.log.length b, .int .i64 nod0.acked, .int .i64 nod0.next, .slice M 0 m, .slice N 0 n, .int .i64 0] rfl ?_; intro W5 ht5 hb5
    go_wp2
    go_light
    exact ⟨.inr (.inl ⟨rfl, _, _, _, _, _, _, _, _, _, _, CaseAt.put0 (x := nod1) (hC.mono (ex)) ht5 ⟨Sl.nil _ _ _, rfl, Nat.zero_le _, hK, by simp [nod1]⟩ hb5⟩), by simp [intOf]⟩
   ·obtain ⟨A, a, B, b, M, m, xs, N, n, ys, hC⟩ := hc
    go_wp2_with (go_at_call 48; refine (rep_New_as 2 (by omega) (by omega) _).mono ?_; rintro e w' ⟨D, K, rfl, hx, hK⟩; obtain ⟨ya, rfl⟩ := hx.get; clear hx)
    (refine wp_region_tail 6 (by kernel_rfl) (by kernel_rfl) ?_; simp only [List.take_succ_cons, List.take_zero, List.drop_succ_cons, List.drop_zero]; (repeat (go_big_quiet_step (fail))); refine wpQuiet_nil ?_; rintro _ ⟨y, rfl⟩)
    refine wpList_store_part rfl 24 (.tmp 37) (.tmp 34) rfl (hC.box.mono (ex)) 6 rfl [.int .i64 2, .int .i64 0, .bool false, .slice D 0 K, .int .i64 0, .int .i64 0] rfl (show 12 ≤ 15 by decide) (show 15 < 44 by decide) (by kernel_rfl) (cells_one _ rfl) [.int .i64 nod1.id, .int .i64 nod1.term, .bool nod1.speaks, .slice A nod1.log.length a, .int .i64 nod1.acked, .int .i64 nod1.next, .int .i64 nod2.id, .int .i64 nod2.term, .bool nod2.speaks, .slice D nod2.log.length K, .int .i64 nod2.acked, .int .i64 nod2.next, .slice M 0 m, .slice N 0 n, .int .i64 0] rfl ?_; intro W5 ht5 hb5
    go_wp2
    go_light
    exact ⟨.inr (.inr ⟨rfl, _, _, _, _, _, _, _, _, _, _, CaseAt.put1 (x := nod2) (hC.mono (ex)) ht5 ⟨Sl.nil _ _ _, rfl, Nat.zero_le _, hK, by simp [nod2]⟩ hb5⟩), by simp [intOf]⟩
   ·go_wp2
    clear hd
    go_loopw [41] (fun i wr => ∃ (k : Nat) (c : CW) (G : Int → Option (List Rec)), k ≤ l.length ∧ i = .int .i64 k ∧ Hid (Inv G k c ∧ (c.mail false).length ≤ k ∧ (c.mail true).length ≤ k) ∧ CaseIn w wr w.heap.size (c.n false) (c.n true) (c.mail false) (c.mail true) c.time) (fun i _ => l.length - (intOf i).toNat)
    case atStart => exact ⟨0, start, _, by omega, rfl, Lib.hid ⟨start_inv, Nat.le_refl _, Nat.le_refl _⟩, hc⟩
    case round =>
     clear hc
     obtain ⟨k, c, G, hk, rfl, HI, hc⟩ := hrel
     rename_i wr
     by_cases hlt : k < l.length
     ·obtain ⟨s, hsk⟩ : ∃ s, l[k]? = some s := ⟨_, List.getElem?_eq_getElem hlt⟩
      have hso := HO.out s (List.mem_of_getElem? hsk)
      obtain ⟨c', G', hv, hI', hgr⟩ := step_inv HI.out.1 (by omega) s hso.2.2
      obtain ⟨b0, o0, rfl, s0, s1, s2⟩ := HS.out.row3 (i := k) (v0 := .int .u8 s.kind) (v1 := .int .u8 s.node) (v2 := .int .u8 s.pick) (by rw [List.getElem?_map, hsk]; rfl)
      have hext := hc.ext
      replace s0 := hext.cell s0
      replace s1 := hext.cell s1
      replace s2 := hext.cell s2
      have hm0 := step_mail hv false
      have hm1 := step_mail hv true
      have HM := Lib.hid (show Inv G' (k + 1) c' ∧ (c'.mail false).length ≤ k + 1 ∧ (c'.mail true).length ≤ k + 1 from ⟨hI', by have := HI.out.2.1; omega, by have := HI.out.2.2; omega⟩)
      have HC := Lib.hid (fun (V : World) (h : CaseIn w V w.heap.size (c.n false) (c.n true) (c.mail false) (c.mail true) c.time) => top_step HI.out.1 (by omega) hso hv (by have := HI.out.2.1; omega) (by have := HI.out.2.2; omega) h)
      have HBO := Lib.hid hI'.both
      have HL0 := Lib.hid (hI'.node false).len
      have HL1 := Lib.hid (hI'.node true).len
      have HP0 := Lib.hid (HI.out.1.node false).len
      have HP1 := Lib.hid (HI.out.1.node true).len
      have HA0 := Lib.hid (HI.out.1.node false).a0
      have HA1 := Lib.hid (HI.out.1.node true).a0
      have HB0 := Lib.hid (HI.out.1.node false).a1
      have HB1 := Lib.hid (HI.out.1.node true).a1
      have HG0 := Lib.hid (hgr false)
      have HG1 := Lib.hid (hgr true)
      have hb1 : (0 : Int) ≤ (k : Int) := by omega
      have hb2 : (k : Int) < (l.length : Int) := by omega
      clear hext hso hv hI' hm0 hm1 hsk hgr HI
      obtain ⟨n0, hn0⟩ : ∃ n0, c.n false = n0 := ⟨_, rfl⟩
      obtain ⟨n1, hn1⟩ : ∃ n1, c.n true = n1 := ⟨_, rfl⟩
      obtain ⟨m0, hm0⟩ : ∃ m0, c'.n false = m0 := ⟨_, rfl⟩
      obtain ⟨m1, hm1⟩ : ∃ m1, c'.n true = m1 := ⟨_, rfl⟩
      obtain ⟨l0, hl0⟩ : ∃ l0, c.mail false = l0 := ⟨_, rfl⟩
      obtain ⟨l1, hl1⟩ : ∃ l1, c.mail true = l1 := ⟨_, rfl⟩
      obtain ⟨q0, hq0⟩ : ∃ q0, c'.mail false = q0 := ⟨_, rfl⟩
      obtain ⟨q1, hq1⟩ : ∃ q1, c'.mail true = q1 := ⟨_, rfl⟩
      rw [hn0, hn1, hl0, hl1] at hc HC
      rw [hm0, hm1, hq0, hq1] at HC
      rw [hm0, hm1] at HBO
      rw [hm0] at HL0
      rw [hm1] at HL1
      rw [hn0] at HP0 HA0 HB0
      rw [hn1] at HP1 HA1 HB1
      rw [hn0, hm0] at HG0
      rw [hn1, hm1] at HG1
      have HQ := Lib.hid (And.intro hm0 (And.intro hm1 (And.intro hq0 hq1)))
      clear hn0 hn1 hm0 hm1 hl0 hl1 hq0 hq1
      obtain ⟨A, a, B, b, M, m, xs, N, n, ys, hC⟩ := hc
      have c0:=hC.box.c 0 rfl;have c1:=hC.box.c 1 rfl;have c2:=hC.box.c 2 rfl;have c3:=hC.box.c 3 rfl;have c4:=hC.box.c 4 rfl;have c5:=hC.box.c 5 rfl;have c6:=hC.box.c 6 rfl;have c7:=hC.box.c 7 rfl;have c8:=hC.box.c 8 rfl;have c9:=hC.box.c 9 rfl;have c10:=hC.box.c 10 rfl;have c11:=hC.box.c 11 rfl;have c12:=hC.box.c 12 rfl;have c13:=hC.box.c 13 rfl;have c14:=hC.box.c 14 rfl
      go_wp2_with fail
      refine wp_name (fun W9 hW9 => ?_)
      have k8 : BoxAt W9 wr.heap.size [.int .u8 s.kind, .int .u8 s.node, .int .u8 s.pick] 121 := by rw [hW9]; exact (by repeat (first | exact BoxAt.new (by first | rfl | (simp [go_sem]; done) | (simp [go_sem]; omega)) _ _ | apply BoxAt.xt | apply BoxAt.drew | apply BoxAt.drewN | apply BoxAt.alloc))
      have k9 : BoxAt W9 (wr.heap.size + 1) [.int .i64 n0.id, .int .i64 n0.term, .bool n0.speaks, .slice A n0.log.length a, .int .i64 n0.acked, .int .i64 n0.next, .int .i64 n1.id, .int .i64 n1.term, .bool n1.speaks, .slice B n1.log.length b, .int .i64 n1.acked, .int .i64 n1.next] 113 := by rw [hW9]; exact (by repeat (first | exact BoxAt.new (by first | rfl | (simp [go_sem]; done) | (simp [go_sem]; omega)) _ _ | apply BoxAt.xt | apply BoxAt.drew | apply BoxAt.drewN | apply BoxAt.alloc))
      have h9 := hC.mono (show Ext wr W9 from by rw [hW9]; exact (ex))
      clear hW9 c0 c1 c2 c3 c4 c5 c6 c7 c8 c9 c10 c11 c12 c13 c14 s0 s1 s2
      refine wp_region_L (S := SS 2 99 (fun w9 => BoxAt w9 wr.heap.size [.int .u8 s.kind, .int .u8 s.node, .int .u8 s.pick] 121) (fun _ => True) (fun _ => True)) (by kernel_rfl) ⟨fun _ => k8.mono (ex), fun _ => trivial, trivial⟩ (fun hcl hS => ?_)
      refine wpAnyL_take (i := 0) (T := (fun _ => True)) (v := ?_) rfl (by kernel_rfl) (by kernel_rfl) (by kernel_rfl) (fun _ _ _ h => h) (fun _ _ _ _ _ => trivial) (SS.up (by decide) (by decide)) (SS.down (by decide) (by decide)) (Or.inl ⟨by rfl, ?_⟩) hcl hS ?_
      rotate_left
      ·(intro w9 hw9; (try dsimp only at hw9); go_simp; try with_reducible rfl)
      clear hcl hS
      intro hcl hS
      (try simp only [Act.put]); (try simp only [List.setIfInBounds_toArray]); (repeat (first | simp only [List.set_cons_succ] | simp only [List.set_cons_zero]))
      refine wpAnyL_take (i := 1) (T := (fun w9 => BoxAt w9 wr.heap.size [.int .u8 s.kind, .int .u8 s.node, .int .u8 s.pick] 121)) (v := ?_) rfl (by kernel_rfl) (by kernel_rfl) (by kernel_rfl) (fun _ _ _ h => h) (fun _ _ hc hi hS => hS.1 (hc.not (k := 2) (by kernel_rfl) hi)) (SS.up (by decide) (by decide)) (SS.down (by decide) (by decide)) (Or.inl ⟨by rfl, ?_⟩) hcl hS ?_
      rotate_left
      ·(intro w9 hw9; (try dsimp only at hw9); have z0:=hw9.c 0 rfl; have z1:=hw9.c 1 rfl; have z2:=hw9.c 2 rfl; go_simp; try with_reducible rfl)
      clear hcl hS
      intro hcl hS
      (try simp only [Act.put]); (try simp only [List.setIfInBounds_toArray]); (repeat (first | simp only [List.set_cons_succ] | simp only [List.set_cons_zero]))
      refine wpAnyL_only (i := 2) (by kernel_rfl) rfl rfl hcl (fun K9 hK9 => ?_)
      clear hS hcl
      go_simp
      go_at_call 49; refine (HC.out _ ⟨_, _, _, _, _, _, _, _, _, _, h9.mono (ex)⟩).mono ?_; rintro e W2 ⟨rfl, hst, hcn⟩
      have hst9 := (Ext.stay (T1 := 143) (T2 := 117) (show Ext W9 W9.drew from ex)).trans hst
      refine hK9 _ _ ⟨fun hh => absurd hh (by decide), fun _ => trivial, trivial⟩ (fun hcl hS => ?_)
      clear hK9
      have j9 := hst9.box k9 (by decide) (by decide)
      have o0 := h9.q0.stay hst9
      have o1 := h9.q1.stay hst9
      obtain ⟨A2, a2, B2, b2, M2, m2, xs2, N2, n2, ys2, hD⟩ := hcn
      clear k8 k9 h9 hst hst9 hC
      refine wpAnyL_strong (S' := fun _ w9 => Ext W2 w9) 2 _ _ _ _ (by decide) (fun _ _ h _ => ⟨fun hh => (by rw [h] at hh; cases hh), fun _ => trivial, trivial⟩) ?_
      replace hS := Ext.refl W2
      refine wpAnyL_take (i := 3) (T := (fun _ => True)) (v := ?_) rfl (by kernel_rfl) (by kernel_rfl) (by kernel_rfl) (fun _ _ _ h => h) (fun _ _ _ _ _ => trivial) (fun _ _ h => h) (fun _ _ h => h) (Or.inl ⟨by kernel_rfl, ?_⟩) hcl hS ?_
      rotate_left
      ·(intro w9 hw9; (try dsimp only at hw9); go_simp; try with_reducible rfl)
      clear hcl hS
      intro hcl hS
      (try simp only [Act.put]); (try simp only [List.setIfInBounds_toArray]); (repeat (first | simp only [List.set_cons_succ] | simp only [List.set_cons_zero]))
      refine wpAnyL_take (i := 4) (T := (fun _ => True)) (v := ?_) rfl (by kernel_rfl) (by kernel_rfl) (by kernel_rfl) (fun _ _ _ h => h) (fun _ _ _ _ _ => trivial) (fun _ _ h => h) (fun _ _ h => h) (Or.inl ⟨by kernel_rfl, ?_⟩) hcl hS ?_
      rotate_left
      ·(intro w9 hw9; (try dsimp only at hw9); go_simp; try with_reducible rfl)
      clear hcl hS
      intro hcl hS
      (try simp only [Act.put]); (try simp only [List.setIfInBounds_toArray]); (repeat (first | simp only [List.set_cons_succ] | simp only [List.set_cons_zero]))
      refine wpAnyL_take (i := 5) (T := (fun _ => True)) (v := ?_) rfl (by kernel_rfl) (by kernel_rfl) (by kernel_rfl) (fun _ _ _ h => h) (fun _ _ _ _ _ => trivial) (fun _ _ h => h) (fun _ _ h => h) (Or.inl ⟨by kernel_rfl, ?_⟩) hcl hS ?_
      rotate_left
      ·(intro w9 hw9; (try dsimp only at hw9); go_simp; try with_reducible rfl)
      clear hcl hS
      intro hcl hS
      (try simp only [Act.put]); (try simp only [List.setIfInBounds_toArray]); (repeat (first | simp only [List.set_cons_succ] | simp only [List.set_cons_zero]))
      refine wpAnyL_take (i := 6) (T := (fun _ => True)) (v := ?_) rfl (by kernel_rfl) (by kernel_rfl) (by kernel_rfl) (fun _ _ _ h => h) (fun _ _ _ _ _ => trivial) (fun _ _ h => h) (fun _ _ h => h) (Or.inl ⟨by kernel_rfl, ?_⟩) hcl hS ?_
      rotate_left
      ·(intro w9 hw9; (try dsimp only at hw9); go_simp; try with_reducible rfl)
      clear hcl hS
      intro hcl hS
      (try simp only [Act.put]); (try simp only [List.setIfInBounds_toArray]); (repeat (first | simp only [List.set_cons_succ] | simp only [List.set_cons_zero]))
      refine wpAnyL_take (i := 7) (T := (fun _ => True)) (v := ?_) rfl (by kernel_rfl) (by kernel_rfl) (by kernel_rfl) (fun _ _ _ h => h) (fun _ _ _ _ _ => trivial) (fun _ _ h => h) (fun _ _ h => h) (Or.inl ⟨by kernel_rfl, ?_⟩) hcl hS ?_
      rotate_left
      ·(intro w9 hw9; (try dsimp only at hw9); go_simp; try with_reducible rfl)
      clear hcl hS
      intro hcl hS
      (try simp only [Act.put]); (try simp only [List.setIfInBounds_toArray]); (repeat (first | simp only [List.set_cons_succ] | simp only [List.set_cons_zero]))
      refine wpAnyL_take (i := 8) (T := (fun _ => True)) (v := ?_) rfl (by kernel_rfl) (by kernel_rfl) (by kernel_rfl) (fun _ _ _ h => h) (fun _ _ _ _ _ => trivial) (fun _ _ h => h) (fun _ _ h => h) (Or.inl ⟨by kernel_rfl, ?_⟩) hcl hS ?_
      rotate_left
      ·(intro w9 hw9; (try dsimp only at hw9); go_simp; try with_reducible rfl)
      clear hcl hS
      intro hcl hS
      (try simp only [Act.put]); (try simp only [List.setIfInBounds_toArray]); (repeat (first | simp only [List.set_cons_succ] | simp only [List.set_cons_zero]))
      refine wpAnyL_take (i := 9) (T := (fun w9 => Ext W2 w9)) (v := ?_) rfl (by kernel_rfl) (by kernel_rfl) (by kernel_rfl) (fun _ _ _ h => h) (fun _ _ _ _ hS => hS) (fun _ _ h => h) (fun _ _ h => h) (Or.inl ⟨by kernel_rfl, ?_⟩) hcl hS ?_
      rotate_left
      ·(intro w9 hw9; (try dsimp only at hw9); have z0 := hw9.cell (hD.box.cell (i := 0) rfl); have z1 := hw9.cell (hD.box.cell (i := 1) rfl); have z2 := hw9.cell (hD.box.cell (i := 2) rfl); have z3 := hw9.cell (hD.box.cell (i := 3) rfl); have z4 := hw9.cell (hD.box.cell (i := 4) rfl); have z5 := hw9.cell (hD.box.cell (i := 5) rfl); go_simp; try with_reducible rfl)
      clear hcl hS
      intro hcl hS
      (try simp only [Act.put]); (try simp only [List.setIfInBounds_toArray]); (repeat (first | simp only [List.set_cons_succ] | simp only [List.set_cons_zero]))
      refine wpAnyL_take (i := 10) (T := (fun _ => True)) (v := ?_) rfl (by kernel_rfl) (by kernel_rfl) (by kernel_rfl) (fun _ _ _ h => h) (fun _ _ _ _ _ => trivial) (fun _ _ h => h) (fun _ _ h => h) (Or.inl ⟨by kernel_rfl, ?_⟩) hcl hS ?_
      rotate_left
      ·(intro w9 hw9; (try dsimp only at hw9); go_simp; try with_reducible rfl)
      clear hcl hS
      intro hcl hS
      (try simp only [Act.put]); (try simp only [List.setIfInBounds_toArray]); (repeat (first | simp only [List.set_cons_succ] | simp only [List.set_cons_zero]))
      refine wpAnyL_take (i := 11) (T := (fun _ => True)) (v := ?_) rfl (by kernel_rfl) (by kernel_rfl) (by kernel_rfl) (fun _ _ _ h => h) (fun _ _ _ _ _ => trivial) (fun _ _ h => h) (fun _ _ h => h) (Or.inl ⟨by kernel_rfl, ?_⟩) hcl hS ?_
      rotate_left
      ·(intro w9 hw9; (try dsimp only at hw9); go_simp; try with_reducible rfl)
      clear hcl hS
      intro hcl hS
      (try simp only [Act.put]); (try simp only [List.setIfInBounds_toArray]); (repeat (first | simp only [List.set_cons_succ] | simp only [List.set_cons_zero]))
      refine wpAnyL_take (i := 12) (T := (fun _ => True)) (v := ?_) rfl (by kernel_rfl) (by kernel_rfl) (by kernel_rfl) (fun _ _ _ h => h) (fun _ _ _ _ _ => trivial) (fun _ _ h => h) (fun _ _ h => h) (Or.inl ⟨by kernel_rfl, ?_⟩) hcl hS ?_
      rotate_left
      ·(intro w9 hw9; (try dsimp only at hw9); go_simp; try with_reducible rfl)
      clear hcl hS
      intro hcl hS
      (try simp only [Act.put]); (try simp only [List.setIfInBounds_toArray]); (repeat (first | simp only [List.set_cons_succ] | simp only [List.set_cons_zero]))
      refine wpAnyL_take (i := 13) (T := (fun _ => True)) (v := ?_) rfl (by kernel_rfl) (by kernel_rfl) (by kernel_rfl) (fun _ _ _ h => h) (fun _ _ _ _ _ => trivial) (fun _ _ h => h) (fun _ _ h => h) (Or.inl ⟨by kernel_rfl, ?_⟩) hcl hS ?_
      rotate_left
      ·(intro w9 hw9; (try dsimp only at hw9); go_simp; try with_reducible rfl)
      clear hcl hS
      intro hcl hS
      (try simp only [Act.put]); (try simp only [List.setIfInBounds_toArray]); (repeat (first | simp only [List.set_cons_succ] | simp only [List.set_cons_zero]))
      refine wpAnyL_take (i := 14) (T := (fun w9 => Ext W2 w9)) (v := ?_) rfl (by kernel_rfl) (by kernel_rfl) (by kernel_rfl) (fun _ _ _ h => h) (fun _ _ _ _ hS => hS) (fun _ _ h => h) (fun _ _ h => h) (Or.inl ⟨by kernel_rfl, ?_⟩) hcl hS ?_
      rotate_left
      ·(intro w9 hw9; (try dsimp only at hw9); have z6 := hw9.cell (hD.box.cell (i := 6) rfl); have z7 := hw9.cell (hD.box.cell (i := 7) rfl); have z8 := hw9.cell (hD.box.cell (i := 8) rfl); have z9 := hw9.cell (hD.box.cell (i := 9) rfl); have z10 := hw9.cell (hD.box.cell (i := 10) rfl); have z11 := hw9.cell (hD.box.cell (i := 11) rfl); go_simp; try with_reducible rfl)
      clear hcl hS
      intro hcl hS
      (try simp only [Act.put]); (try simp only [List.setIfInBounds_toArray]); (repeat (first | simp only [List.set_cons_succ] | simp only [List.set_cons_zero]))
      refine wpAnyL_want (i := 15) (by kernel_rfl) rfl (by kernel_rfl) hcl (fun K9 hK9 => ?_)
      clear hS hcl
      go_simp
      go_at_call 50; refine (top_both m0 m1 A2 a2 B2 b2 _ (hD.q0.recs hD.ext (ex)) (hD.q1.recs hD.ext (ex)) HL0.out HL1.out HBO.out.1 HBO.out.2.1 (by have := HBO.out.2.2.1; omega) HBO.out.2.2.2.1 HBO.out.2.2.2.2).mono ?_; rintro e w' ⟨rfl, hx⟩; obtain ⟨yb, rfl⟩ := hx.get; clear hx
      refine hK9 _ _ (by exact ex) (fun hcl hS => ?_)
      clear hK9
      refine wpAnyL_take (i := 16) (T := (fun _ => True)) (v := ?_) rfl (by kernel_rfl) (by kernel_rfl) (by kernel_rfl) (fun _ _ _ h => h) (fun _ _ _ _ _ => trivial) (fun _ _ h => h) (fun _ _ h => h) (Or.inl ⟨by kernel_rfl, ?_⟩) hcl hS ?_
      rotate_left
      ·(intro w9 hw9; (try dsimp only at hw9); go_simp; try with_reducible rfl)
      clear hcl hS
      intro hcl hS
      (try simp only [Act.put]); (try simp only [List.setIfInBounds_toArray]); (repeat (first | simp only [List.set_cons_succ] | simp only [List.set_cons_zero]))
      refine wpAnyL_take (i := 17) (T := (fun _ => True)) (v := ?_) rfl (by kernel_rfl) (by kernel_rfl) (by kernel_rfl) (fun _ _ _ h => h) (fun _ _ _ _ _ => trivial) (fun _ _ h => h) (fun _ _ h => h) (Or.inl ⟨by kernel_rfl, ?_⟩) hcl hS ?_
      rotate_left
      ·(intro w9 hw9; (try dsimp only at hw9); go_simp; try with_reducible rfl)
      clear hcl hS
      intro hcl hS
      (try simp only [Act.put]); (try simp only [List.setIfInBounds_toArray]); (repeat (first | simp only [List.set_cons_succ] | simp only [List.set_cons_zero]))
      clear hcl hS
      refine wpAnyL_done (by kernel_rfl) ?_ _
      have c0:=hD.box.c 0 rfl;have c1:=hD.box.c 1 rfl;have c2:=hD.box.c 2 rfl;have c3:=hD.box.c 3 rfl;have c4:=hD.box.c 4 rfl;have c5:=hD.box.c 5 rfl;have c6:=hD.box.c 6 rfl;have c7:=hD.box.c 7 rfl;have c8:=hD.box.c 8 rfl;have c9:=hD.box.c 9 rfl;have c10:=hD.box.c 10 rfl;have c11:=hD.box.c 11 rfl;have c12:=hD.box.c 12 rfl;have c13:=hD.box.c 13 rfl;have c14:=hD.box.c 14 rfl;have e0:=j9.c 0 rfl;have e1:=j9.c 1 rfl;have e2:=j9.c 2 rfl;have e3:=j9.c 3 rfl;have e4:=j9.c 4 rfl;have e5:=j9.c 5 rfl;have e6:=j9.c 6 rfl;have e7:=j9.c 7 rfl;have e8:=j9.c 8 rfl;have e9:=j9.c 9 rfl;have e10:=j9.c 10 rfl;have e11:=j9.c 11 rfl
      go_wp2_with fail
      go_loopw [68] (fun i wt => Ext W2 wt ∧ (i = .int .i64 0 ∨ i = .int .i64 1 ∨ i = .int .i64 2)) (fun i _ => 2 - (intOf i).toNat)
      case atStart => exact ⟨ex, .inl rfl⟩
      case round =>
       obtain ⟨hx, hrel⟩ := hrel
       obtain ⟨y0, rfl⟩ := hx.get
       clear hx
       rcases hrel with rfl | rfl | rfl
       ·obtain ⟨q, hq⟩ : ∃ q : Nat, n0.acked = q := ⟨n0.acked.toNat, by have := HA0.out; omega⟩
        have hg1 := HG0.out.1
        have hg2 := HG0.out.2.1
        have hg3 := HG0.out.2.2.1
        have hg4 := HG0.out.2.2.2
        have ho1 := HB0.out
        have hol := HP0.out
        have hxl := HL0.out
        have hz1 : decide (m0.acked < (q : Int)) = false := decide_eq_false (by omega)
        have hz2 : decide (m0.term < n0.term) = false := decide_eq_false (by omega)
        have hz3 : decide ((q : Int) < 0) = false := decide_eq_false (by omega)
        have hz4 : decide (min (n0.log.length : Int) (m0.log.length : Int) < (q : Int)) = false := decide_eq_false (by omega)
        have i1 : (q : Int) ≤ (n0.log.length : Int) := by omega
        have i2 : (q : Int) ≤ (m0.log.length : Int) := by omega
        have i3 : (0 : Int) ≤ (q : Int) := by omega
        have hb3 : n0.log.length * 552 ≤ 140737488355328 := by omega
        have hb4 : m0.log.length * 552 ≤ 140737488355328 := by omega
        have HT := Lib.hid (show sameRs (n0.log.take q) (m0.log.take q) = true by rw [hq, Int.toNat_natCast] at hg4; rw [hg4]; exact sameRs_refl _)
        have HQ2 := Lib.hid hq
        rw [hq] at e4 ⊢
        clear hg1 hg2 hg3 hg4 ho1 hq
        go_wp2_with fail
        refine wp_name (fun W3 hW3 => ?_)
        have kn : BoxAt W3 (W2.heap.size + y0.n) [.int .i64 n0.id, .int .i64 n0.term, .bool n0.speaks, .slice A n0.log.length a, .int .i64 q, .int .i64 n0.next] 24 := by rw [hW3]; exact (BoxAt.new (W := xt W2 y0) (by simp [go_sem]) _ _).mono (ex)
        have kx : BoxAt W3 (W2.heap.size + y0.n + 1) [.int .i64 m0.id, .int .i64 m0.term, .bool m0.speaks, .slice A2 m0.log.length a2, .int .i64 m0.acked, .int .i64 m0.next] 24 := by rw [hW3]; exact BoxAt.new (by simp [go_sem]) _ _
        have x3 : Ext W2 W3 := by rw [hW3]; exact (ex)
        clear hW3
        have ro := (o0.recs hD.ext (Ext.refl W2)).mono x3
        have rx := (hD.q0.recs hD.ext (Ext.refl W2)).mono x3
        have HCO := Lib.hid (fun (V : World) (hr : RecsAt V A a n0.log) => l54_Of n0 A a V hr hb3)
        rw [HQ2.out] at HCO
        obtain ⟨c20, c21, c22, c23, c24, c25⟩ := kn.six
        obtain ⟨c30, c31, c32, c33, c34, c35⟩ := kx.six
        refine wp_region_slots3 6 [] [4, 5] [Stab.is (.agg #[.int .i64 n0.id, .int .i64 n0.term, .bool n0.speaks, .slice A n0.log.length a, .int .i64 q, .int .i64 n0.next]), Stab.nodq w n0 q, Stab.is (.agg #[.int .i64 m0.id, .int .i64 m0.term, .bool m0.speaks, .slice A2 m0.log.length a2, .int .i64 m0.acked, .int .i64 m0.next]), Stab.nod w m0, Stab.box W3.heap.size [.int .i64 0, .int .i64 0, .bool false, .slice none 0 0, .int .i64 0, .int .i64 0] 40, Stab.box W3.heap.size [.int .i64 0, .int .i64 0, .bool false, .slice none 0 0, .int .i64 0, .int .i64 0] 40] (fun u => by (simp only [putAll, List.take_succ_cons, List.take_zero, Act.put, Nat.zero_add, Nat.reduceAdd]); (try simp only [List.setIfInBounds_toArray]); (repeat (first | simp only [List.set_cons_succ] | simp only [List.set_cons_zero])); exact rfl) (by kernel_rfl) (by kernel_rfl) (by kernel_rfl) (fun _ _ _ _ _ h => h) ?_ ?_ ?_
        ·intro j9 hj9 v9 w9 h9
         have hj9' : j9 = 4 ∨ j9 = 5 := by simpa using hj9
         rcases hj9' with rfl | rfl
         ·obtain ⟨g, rfl, -, h⟩ := h9; exact ⟨g, rfl, h.lt⟩
         ·obtain ⟨g, rfl, -, h⟩ := h9; exact ⟨g, rfl, h.lt⟩
        ·refine ⟨?_, ?_, ?_, ?_, ?_, ?_, trivial⟩
         ·(show SlotB _ _ _ _ _ _ _ _); intro u w1 hx1 hd; obtain ⟨y9, rfl⟩ := hx1.get; clear hx1
          refine slot_runB rfl rfl rfl ?_; intro K9 hK0
          have hK := fun a9 w9 h1 h2 h3 => hK0 a9 w9 h1 h2 h3 (fun h => by cases h); clear hK0
          go_simp; exact hK _ _ rfl (ex) rfl
         ·(show SlotB _ _ _ _ _ _ _ _); intro u w1 hx1 hd; obtain ⟨y9, rfl⟩ := hx1.get; clear hx1
          have e0 : u 0 = .agg #[.int .i64 n0.id, .int .i64 n0.term, .bool n0.speaks, .slice A n0.log.length a, .int .i64 q, .int .i64 n0.next] := hd 0 (by kernel_rfl)
          simp only [e0]
          refine slot_runB rfl rfl rfl ?_; intro K9 hK0
          have hK := fun a9 w9 h1 h2 h3 => hK0 a9 w9 h1 h2 h3 (fun h => by cases h); clear hK0
          go_simp; go_at_call 33; refine (HCO.out _ (ro.mono (ex))).mono ?_; rintro e w' ⟨D, K, rfl, hx, hown⟩; exact hK _ _ rfl hx ⟨D, K, (by rw [← HQ2.out]; rfl), LogW.own hown o0.el⟩
         ·(show SlotB _ _ _ _ _ _ _ _); intro u w1 hx1 hd; obtain ⟨y9, rfl⟩ := hx1.get; clear hx1
          refine slot_runB rfl rfl rfl ?_; intro K9 hK0
          have hK := fun a9 w9 h1 h2 h3 => hK0 a9 w9 h1 h2 h3 (fun h => by cases h); clear hK0
          go_simp; exact hK _ _ rfl (ex) rfl
         ·(show SlotB _ _ _ _ _ _ _ _); intro u w1 hx1 hd; obtain ⟨y9, rfl⟩ := hx1.get; clear hx1
          have e2 : u 2 = .agg #[.int .i64 m0.id, .int .i64 m0.term, .bool m0.speaks, .slice A2 m0.log.length a2, .int .i64 m0.acked, .int .i64 m0.next] := hd 2 (by kernel_rfl)
          simp only [e2]
          refine slot_runB rfl rfl rfl ?_; intro K9 hK0
          have hK := fun a9 w9 h1 h2 h3 => hK0 a9 w9 h1 h2 h3 (fun h => by cases h); clear hK0
          go_simp; go_at_call 33; refine (l54_Of m0 A2 a2 _ (rx.mono (ex)) hb4).mono ?_; rintro e w' ⟨D, K, rfl, hx, hown⟩; exact hK _ _ rfl hx ⟨D, K, rfl, LogW.own hown hD.q0.el⟩
         ·(show SlotB _ _ _ _ _ _ _ _); intro u w1 hx1 hd; obtain ⟨y9, rfl⟩ := hx1.get; clear hx1
          refine slot_runB rfl rfl rfl ?_; intro K9 hK0
          go_simp; exact hK0 _ _ rfl (ex) ⟨_, rfl, (by first | omega | (simp [go_sem]; done) | (simp [go_sem]; omega)), BoxAt.new (by first | rfl | simp [go_sem]) _ _⟩ (fun _ => ⟨_, rfl, by first | exact Nat.le_refl _ | simp [go_sem]⟩)
         ·(show SlotB _ _ _ _ _ _ _ _); intro u w1 hx1 hd; obtain ⟨y9, rfl⟩ := hx1.get; clear hx1
          refine slot_runB rfl rfl rfl ?_; intro K9 hK0
          go_simp; exact hK0 _ _ rfl (ex) ⟨_, rfl, (by first | omega | (simp [go_sem]; done) | (simp [go_sem]; omega)), BoxAt.new (by first | rfl | simp [go_sem]) _ _⟩ (fun _ => ⟨_, rfl, by first | exact Nat.le_refl _ | simp [go_sem]⟩)
        ·intro u w2 hx2 hT hdd; obtain ⟨t0, t1, t2, t3, t4, t5, -⟩ := hT; obtain ⟨y9, rfl⟩ := hx2.get; clear hx2
         obtain ⟨D1, K1, e1, h1'⟩ := t1
         obtain ⟨D3, K3, e3, h3'⟩ := t3
         obtain ⟨g4, e4, hg4, b4⟩ := t4
         obtain ⟨g5, e5, hg5, b5⟩ := t5
         have hne0 := hdd 4 5 (by decide) (by decide) (by kernel_rfl) (by kernel_rfl) (by decide)
         rw [e4, e5] at hne0
         replace hne0 : g4 ≠ g5 := fun h => hne0 (by rw [h])
         clear hdd
         simp only [e1, e3, e4, e5]
         clear e1 e3 e4 e5 t0 t2
         simp only [List.drop_succ_cons, List.drop_zero]
         have hxx : Ext W3 (xt W3.drew y9) := ex
         go_wp2_with (first
          | (refine wpList_store_at rfl 40 (.tmp 13) (.tmp 91) rfl b4 rfl [.int .i64 n0.id, .int .i64 n0.term, .bool n0.speaks, .slice D1 n0.log.length K1, .int .i64 q, .int .i64 n0.next] rfl rfl (show 6 < 44 by decide) (by kernel_rfl) (cells_one _ rfl) ?_; intro W4 ht1 hb1')
          | (refine wpList_store_at rfl 40 (.tmp 14) (.tmp 93) rfl (b5.turn ht1 (by omega)) rfl [.int .i64 m0.id, .int .i64 m0.term, .bool m0.speaks, .slice D3 m0.log.length K3, .int .i64 m0.acked, .int .i64 m0.next] rfl rfl (show 6 < 44 by decide) (by kernel_rfl) (nodl_one m0 D3 K3) ?_; intro W5 ht2 hb2'))
         have jn := ((kn.mono hxx).turn ht1 (by have := kn.lt; omega)).turn ht2 (by have := kn.lt; omega)
         have j4 := hb1'.turn ht2 (by omega)
         obtain ⟨p0, p1, p2, p3, p4, p5⟩ := j4.six
         obtain ⟨r0, r1, r2, r3, r4, r5⟩ := hb2'.six
         clear c20 c21 c22 c23 c24 c25 c30 c31 c32 c33 c34 c35
         obtain ⟨c20, c21, c22, c23, c24, c25⟩ := jn.six
         have x5 : Ext W2 W5 := ht2.ext (ht1.ext (x3.trans hxx) (by have := x3.size; omega)) (by have := x3.size; omega)
         have v1 := (h1'.turn ht1).turn ht2
         have v3 := (h3'.turn ht1).turn ht2
         have pa : RecsAt W5 D1 K1 (n0.log.take q) := by have := ((v1.recs (hD.ext.trans x5) (Ext.refl _)).part 0 q (by omega) q (Nat.sub_zero q)).1; rwa [partA_zero, Nat.sub_zero, List.drop_zero] at this
         have pb : RecsAt W5 D3 K3 (m0.log.take q) := by have := ((v3.recs (hD.ext.trans x5) (Ext.refl _)).part 0 q (by omega) q (Nat.sub_zero q)).1; rwa [partA_zero, Nat.sub_zero, List.drop_zero] at this
         have LA := Lib.hid (show (n0.log.take q).length = q by rw [List.length_take]; omega)
         have LB := Lib.hid (show (m0.log.take q).length = q by rw [List.length_take]; omega)
         have i4 : (q : Int) ≤ (K1 : Int) := by have := v1.le; omega
         have i5 : (q : Int) ≤ (K3 : Int) := by have := v3.le; omega
         clear ht1 ht2 hb1' hb2' h1' h3' b4 b5 hxx v1 v3 ro rx kn kx HCO
         refine wp_region_stab 29 [] [Stab.is (.pointer (some ⟨W2.heap.size + y0.n, 4, none⟩)), Stab.is (.int .i64 q), Stab.is (.bool false), Stab.is (.bool false), Stab.is (.pointer (some ⟨W2.heap.size + y0.n, 4, none⟩)), Stab.is (.int .i64 q), Stab.is (.pointer (some ⟨g4, 3, none⟩)), Stab.is (.slice D1 n0.log.length K1), Stab.is (.int .i64 n0.log.length), Stab.is (.pointer (some ⟨g5, 3, none⟩)), Stab.is (.slice D3 m0.log.length K3), Stab.is (.int .i64 m0.log.length), Stab.is (.int .i64 (min (n0.log.length : Int) (m0.log.length : Int))), Stab.is (.bool false), Stab.is (.bool false), Stab.is (.bool false), Stab.is (.pointer (some ⟨g4, 3, none⟩)), Stab.is (.slice D1 n0.log.length K1), Stab.is (.pointer (some ⟨W2.heap.size + y0.n, 4, none⟩)), Stab.is (.int .i64 q), Stab.is (.slice D1 q K1), Stab.is (.pointer (some ⟨g5, 3, none⟩)), Stab.is (.slice D3 m0.log.length K3), Stab.is (.pointer (some ⟨W2.heap.size + y0.n, 4, none⟩)), Stab.is (.int .i64 q), Stab.is (.slice D3 q K3), Stab.is (.bool true), Stab.is (.bool false), Stab.is (.bool false)] (fun u => by (simp only [putAll, List.take_succ_cons, List.take_zero, Act.put, Nat.zero_add, Nat.reduceAdd]); (try simp only [List.setIfInBounds_toArray]); (repeat (first | simp only [List.set_cons_succ] | simp only [List.set_cons_zero])); exact rfl) (by kernel_rfl) (by kernel_rfl) (fun _ _ _ _ _ h => h) ?_ ?_
         ·refine ⟨?_, ?_, ?_, ?_, ?_, ?_, ?_, ?_, ?_, ?_, ?_, ?_, ?_, ?_, ?_, ?_, ?_, ?_, ?_, ?_, ?_, ?_, ?_, ?_, ?_, ?_, ?_, ?_, ?_, trivial⟩
          ·(show SlotA _ _ _ _ _ _ _); intro u w1 hx1 hd; obtain ⟨y9, rfl⟩ := hx1.get; clear hx1
           refine slot_run rfl rfl rfl ?_; intro K9 hK
           go_simp; exact hK _ _ rfl (ex) rfl
          ·(show SlotA _ _ _ _ _ _ _); intro u w1 hx1 hd; obtain ⟨y9, rfl⟩ := hx1.get; clear hx1
           have e0 : u 0 = .pointer (some ⟨W2.heap.size + y0.n, 4, none⟩) := hd 0 (by kernel_rfl)
           simp only [e0]
           refine slot_run rfl rfl rfl ?_; intro K9 hK
           go_simp; exact hK _ _ rfl (ex) rfl
          ·(show SlotA _ _ _ _ _ _ _); intro u w1 hx1 hd; obtain ⟨y9, rfl⟩ := hx1.get; clear hx1
           have e1 : u 1 = .int .i64 q := hd 1 (by kernel_rfl)
           simp only [e1]
           refine slot_run rfl rfl rfl ?_; intro K9 hK
           go_simp; exact hK _ _ rfl (ex) rfl
          ·(show SlotA _ _ _ _ _ _ _); intro u w1 hx1 hd; obtain ⟨y9, rfl⟩ := hx1.get; clear hx1
           have e2 : u 2 = .bool false := hd 2 (by kernel_rfl)
           simp only [e2]
           refine slot_run rfl rfl rfl ?_; intro K9 hK
           go_simp; exact hK _ _ rfl (ex) rfl
          ·(show SlotA _ _ _ _ _ _ _); intro u w1 hx1 hd; obtain ⟨y9, rfl⟩ := hx1.get; clear hx1
           have e3 : u 3 = .bool false := hd 3 (by kernel_rfl)
           simp only [e3]
           refine slot_run rfl rfl rfl ?_; intro K9 hK
           go_simp; exact hK _ _ rfl (ex) rfl
          ·(show SlotA _ _ _ _ _ _ _); intro u w1 hx1 hd; obtain ⟨y9, rfl⟩ := hx1.get; clear hx1
           have e3 : u 3 = .bool false := hd 3 (by kernel_rfl)
           have e4 : u 4 = .pointer (some ⟨W2.heap.size + y0.n, 4, none⟩) := hd 4 (by kernel_rfl)
           simp only [e3, e4]
           refine slot_run rfl rfl rfl ?_; intro K9 hK
           go_simp; exact hK _ _ rfl (ex) rfl
          ·(show SlotA _ _ _ _ _ _ _); intro u w1 hx1 hd; obtain ⟨y9, rfl⟩ := hx1.get; clear hx1
           have e3 : u 3 = .bool false := hd 3 (by kernel_rfl)
           simp only [e3]
           refine slot_run rfl rfl rfl ?_; intro K9 hK
           go_simp; exact hK _ _ rfl (ex) rfl
          ·(show SlotA _ _ _ _ _ _ _); intro u w1 hx1 hd; obtain ⟨y9, rfl⟩ := hx1.get; clear hx1
           have e3 : u 3 = .bool false := hd 3 (by kernel_rfl)
           have e6 : u 6 = .pointer (some ⟨g4, 3, none⟩) := hd 6 (by kernel_rfl)
           simp only [e3, e6]
           refine slot_run rfl rfl rfl ?_; intro K9 hK
           go_simp; exact hK _ _ rfl (ex) rfl
          ·(show SlotA _ _ _ _ _ _ _); intro u w1 hx1 hd; obtain ⟨y9, rfl⟩ := hx1.get; clear hx1
           have e3 : u 3 = .bool false := hd 3 (by kernel_rfl)
           have e7 : u 7 = .slice D1 n0.log.length K1 := hd 7 (by kernel_rfl)
           simp only [e3, e7]
           refine slot_run rfl rfl rfl ?_; intro K9 hK
           go_simp; exact hK _ _ rfl (ex) rfl
          ·(show SlotA _ _ _ _ _ _ _); intro u w1 hx1 hd; obtain ⟨y9, rfl⟩ := hx1.get; clear hx1
           have e3 : u 3 = .bool false := hd 3 (by kernel_rfl)
           simp only [e3]
           refine slot_run rfl rfl rfl ?_; intro K9 hK
           go_simp; exact hK _ _ rfl (ex) rfl
          ·(show SlotA _ _ _ _ _ _ _); intro u w1 hx1 hd; obtain ⟨y9, rfl⟩ := hx1.get; clear hx1
           have e3 : u 3 = .bool false := hd 3 (by kernel_rfl)
           have e9 : u 9 = .pointer (some ⟨g5, 3, none⟩) := hd 9 (by kernel_rfl)
           simp only [e3, e9]
           refine slot_run rfl rfl rfl ?_; intro K9 hK
           go_simp; exact hK _ _ rfl (ex) rfl
          ·(show SlotA _ _ _ _ _ _ _); intro u w1 hx1 hd; obtain ⟨y9, rfl⟩ := hx1.get; clear hx1
           have e3 : u 3 = .bool false := hd 3 (by kernel_rfl)
           have e10 : u 10 = .slice D3 m0.log.length K3 := hd 10 (by kernel_rfl)
           simp only [e3, e10]
           refine slot_run rfl rfl rfl ?_; intro K9 hK
           go_simp; exact hK _ _ rfl (ex) rfl
          ·(show SlotA _ _ _ _ _ _ _); intro u w1 hx1 hd; obtain ⟨y9, rfl⟩ := hx1.get; clear hx1
           have e3 : u 3 = .bool false := hd 3 (by kernel_rfl)
           have e8 : u 8 = .int .i64 n0.log.length := hd 8 (by kernel_rfl)
           have e11 : u 11 = .int .i64 m0.log.length := hd 11 (by kernel_rfl)
           simp only [e3, e8, e11]
           refine slot_run rfl rfl rfl ?_; intro K9 hK
           go_simp; exact hK _ _ rfl (ex) rfl
          ·(show SlotA _ _ _ _ _ _ _); intro u w1 hx1 hd; obtain ⟨y9, rfl⟩ := hx1.get; clear hx1
           have e3 : u 3 = .bool false := hd 3 (by kernel_rfl)
           have e5 : u 5 = .int .i64 q := hd 5 (by kernel_rfl)
           have e12 : u 12 = .int .i64 (min (n0.log.length : Int) (m0.log.length : Int)) := hd 12 (by kernel_rfl)
           simp only [e3, e5, e12]
           refine slot_run rfl rfl rfl ?_; intro K9 hK
           go_simp; exact hK _ _ rfl (ex) rfl
          ·(show SlotA _ _ _ _ _ _ _); intro u w1 hx1 hd; obtain ⟨y9, rfl⟩ := hx1.get; clear hx1
           have e3 : u 3 = .bool false := hd 3 (by kernel_rfl)
           have e13 : u 13 = .bool false := hd 13 (by kernel_rfl)
           simp only [e3, e13]
           refine slot_run rfl rfl rfl ?_; intro K9 hK
           go_simp; exact hK _ _ rfl (ex) rfl
          ·(show SlotA _ _ _ _ _ _ _); intro u w1 hx1 hd; obtain ⟨y9, rfl⟩ := hx1.get; clear hx1
           have e14 : u 14 = .bool false := hd 14 (by kernel_rfl)
           simp only [e14]
           refine slot_run rfl rfl rfl ?_; intro K9 hK
           go_simp; exact hK _ _ rfl (ex) rfl
          ·(show SlotA _ _ _ _ _ _ _); intro u w1 hx1 hd; obtain ⟨y9, rfl⟩ := hx1.get; clear hx1
           have e15 : u 15 = .bool false := hd 15 (by kernel_rfl)
           simp only [e15]
           refine slot_run rfl rfl rfl ?_; intro K9 hK
           go_simp; exact hK _ _ rfl (ex) rfl
          ·(show SlotA _ _ _ _ _ _ _); intro u w1 hx1 hd; obtain ⟨y9, rfl⟩ := hx1.get; clear hx1
           have e15 : u 15 = .bool false := hd 15 (by kernel_rfl)
           have e16 : u 16 = .pointer (some ⟨g4, 3, none⟩) := hd 16 (by kernel_rfl)
           simp only [e15, e16]
           refine slot_run rfl rfl rfl ?_; intro K9 hK
           go_simp; exact hK _ _ rfl (ex) rfl
          ·(show SlotA _ _ _ _ _ _ _); intro u w1 hx1 hd; obtain ⟨y9, rfl⟩ := hx1.get; clear hx1
           have e15 : u 15 = .bool false := hd 15 (by kernel_rfl)
           simp only [e15]
           refine slot_run rfl rfl rfl ?_; intro K9 hK
           go_simp; exact hK _ _ rfl (ex) rfl
          ·(show SlotA _ _ _ _ _ _ _); intro u w1 hx1 hd; obtain ⟨y9, rfl⟩ := hx1.get; clear hx1
           have e15 : u 15 = .bool false := hd 15 (by kernel_rfl)
           have e18 : u 18 = .pointer (some ⟨W2.heap.size + y0.n, 4, none⟩) := hd 18 (by kernel_rfl)
           simp only [e15, e18]
           refine slot_run rfl rfl rfl ?_; intro K9 hK
           go_simp; exact hK _ _ rfl (ex) rfl
          ·(show SlotA _ _ _ _ _ _ _); intro u w1 hx1 hd; obtain ⟨y9, rfl⟩ := hx1.get; clear hx1
           have e15 : u 15 = .bool false := hd 15 (by kernel_rfl)
           have e17 : u 17 = .slice D1 n0.log.length K1 := hd 17 (by kernel_rfl)
           have e19 : u 19 = .int .i64 q := hd 19 (by kernel_rfl)
           simp only [e15, e17, e19]
           refine slot_run rfl rfl rfl ?_; intro K9 hK
           go_simp; exact hK _ _ rfl (ex) rfl
          ·(show SlotA _ _ _ _ _ _ _); intro u w1 hx1 hd; obtain ⟨y9, rfl⟩ := hx1.get; clear hx1
           have e15 : u 15 = .bool false := hd 15 (by kernel_rfl)
           simp only [e15]
           refine slot_run rfl rfl rfl ?_; intro K9 hK
           go_simp; exact hK _ _ rfl (ex) rfl
          ·(show SlotA _ _ _ _ _ _ _); intro u w1 hx1 hd; obtain ⟨y9, rfl⟩ := hx1.get; clear hx1
           have e15 : u 15 = .bool false := hd 15 (by kernel_rfl)
           have e21 : u 21 = .pointer (some ⟨g5, 3, none⟩) := hd 21 (by kernel_rfl)
           simp only [e15, e21]
           refine slot_run rfl rfl rfl ?_; intro K9 hK
           go_simp; exact hK _ _ rfl (ex) rfl
          ·(show SlotA _ _ _ _ _ _ _); intro u w1 hx1 hd; obtain ⟨y9, rfl⟩ := hx1.get; clear hx1
           have e15 : u 15 = .bool false := hd 15 (by kernel_rfl)
           simp only [e15]
           refine slot_run rfl rfl rfl ?_; intro K9 hK
           go_simp; exact hK _ _ rfl (ex) rfl
          ·(show SlotA _ _ _ _ _ _ _); intro u w1 hx1 hd; obtain ⟨y9, rfl⟩ := hx1.get; clear hx1
           have e15 : u 15 = .bool false := hd 15 (by kernel_rfl)
           have e23 : u 23 = .pointer (some ⟨W2.heap.size + y0.n, 4, none⟩) := hd 23 (by kernel_rfl)
           simp only [e15, e23]
           refine slot_run rfl rfl rfl ?_; intro K9 hK
           go_simp; exact hK _ _ rfl (ex) rfl
          ·(show SlotA _ _ _ _ _ _ _); intro u w1 hx1 hd; obtain ⟨y9, rfl⟩ := hx1.get; clear hx1
           have e15 : u 15 = .bool false := hd 15 (by kernel_rfl)
           have e22 : u 22 = .slice D3 m0.log.length K3 := hd 22 (by kernel_rfl)
           have e24 : u 24 = .int .i64 q := hd 24 (by kernel_rfl)
           simp only [e15, e22, e24]
           refine slot_run rfl rfl rfl ?_; intro K9 hK
           go_simp; exact hK _ _ rfl (ex) rfl
          ·(show SlotA _ _ _ _ _ _ _); intro u w1 hx1 hd; obtain ⟨y9, rfl⟩ := hx1.get; clear hx1
           have e15 : u 15 = .bool false := hd 15 (by kernel_rfl)
           have e20 : u 20 = .slice D1 q K1 := hd 20 (by kernel_rfl)
           have e25 : u 25 = .slice D3 q K3 := hd 25 (by kernel_rfl)
           simp only [e15, e20, e25]
           refine slot_run rfl rfl rfl ?_; intro K9 hK
           go_simp; go_at_call 51; refine (r54_SameRecs_as D1 K1 q (n0.log.take q) LA.out D3 K3 q (m0.log.take q) LB.out true HT.out _ (pa.mono (ex)) (pb.mono (ex))).mono ?_; rintro e w' ⟨rfl, hx⟩; exact hK _ _ rfl hx rfl
          ·(show SlotA _ _ _ _ _ _ _); intro u w1 hx1 hd; obtain ⟨y9, rfl⟩ := hx1.get; clear hx1
           have e15 : u 15 = .bool false := hd 15 (by kernel_rfl)
           have e26 : u 26 = .bool true := hd 26 (by kernel_rfl)
           simp only [e15, e26]
           refine slot_run rfl rfl rfl ?_; intro K9 hK
           go_simp; exact hK _ _ rfl (ex) rfl
          ·(show SlotA _ _ _ _ _ _ _); intro u w1 hx1 hd; obtain ⟨y9, rfl⟩ := hx1.get; clear hx1
           have e15 : u 15 = .bool false := hd 15 (by kernel_rfl)
           have e27 : u 27 = .bool false := hd 27 (by kernel_rfl)
           simp only [e15, e27]
           refine slot_run rfl rfl rfl ?_; intro K9 hK
           go_simp; exact hK _ _ rfl (ex) rfl
         ·intro u w2 hx2 hT; obtain ⟨t0, t1, t2, t3, t4, t5, t6, t7, t8, t9, t10, t11, t12, t13, t14, t15, t16, t17, t18, t19, t20, t21, t22, t23, t24, t25, t26, t27, t28, -⟩ := hT; obtain ⟨y9, rfl⟩ := hx2.get; clear hx2
          have e28 : u 28 = .bool false := t28
          simp only [e28]
          clear e28 t0 t1 t2 t3 t4 t5 t6 t7 t8 t9 t10 t11 t12 t13 t14 t15 t16 t17 t18 t19 t20 t21 t22 t23 t24 t25 t26 t27 t28
          simp only [List.drop_succ_cons, List.drop_zero]
          refine wpList_nil ?_
          go_wp2
          go_light
          exact ⟨⟨x5.trans (ex), .inr (.inl rfl)⟩, by simp [intOf]⟩
       ·obtain ⟨q, hq⟩ : ∃ q : Nat, n1.acked = q := ⟨n1.acked.toNat, by have := HA1.out; omega⟩
        have hg1 := HG1.out.1
        have hg2 := HG1.out.2.1
        have hg3 := HG1.out.2.2.1
        have hg4 := HG1.out.2.2.2
        have ho1 := HB1.out
        have hol := HP1.out
        have hxl := HL1.out
        have hz1 : decide (m1.acked < (q : Int)) = false := decide_eq_false (by omega)
        have hz2 : decide (m1.term < n1.term) = false := decide_eq_false (by omega)
        have hz3 : decide ((q : Int) < 0) = false := decide_eq_false (by omega)
        have hz4 : decide (min (n1.log.length : Int) (m1.log.length : Int) < (q : Int)) = false := decide_eq_false (by omega)
        have i1 : (q : Int) ≤ (n1.log.length : Int) := by omega
        have i2 : (q : Int) ≤ (m1.log.length : Int) := by omega
        have i3 : (0 : Int) ≤ (q : Int) := by omega
        have hb3 : n1.log.length * 552 ≤ 140737488355328 := by omega
        have hb4 : m1.log.length * 552 ≤ 140737488355328 := by omega
        have HT := Lib.hid (show sameRs (n1.log.take q) (m1.log.take q) = true by rw [hq, Int.toNat_natCast] at hg4; rw [hg4]; exact sameRs_refl _)
        have HQ2 := Lib.hid hq
        rw [hq] at e10 ⊢
        clear hg1 hg2 hg3 hg4 ho1 hq
        go_wp2_with fail
        refine wp_name (fun W3 hW3 => ?_)
        have kn : BoxAt W3 (W2.heap.size + y0.n) [.int .i64 n1.id, .int .i64 n1.term, .bool n1.speaks, .slice B n1.log.length b, .int .i64 q, .int .i64 n1.next] 24 := by rw [hW3]; exact (BoxAt.new (W := xt W2 y0) (by simp [go_sem]) _ _).mono (ex)
        have kx : BoxAt W3 (W2.heap.size + y0.n + 1) [.int .i64 m1.id, .int .i64 m1.term, .bool m1.speaks, .slice B2 m1.log.length b2, .int .i64 m1.acked, .int .i64 m1.next] 24 := by rw [hW3]; exact BoxAt.new (by simp [go_sem]) _ _
        have x3 : Ext W2 W3 := by rw [hW3]; exact (ex)
        clear hW3
        have ro := (o1.recs hD.ext (Ext.refl W2)).mono x3
        have rx := (hD.q1.recs hD.ext (Ext.refl W2)).mono x3
        have HCO := Lib.hid (fun (V : World) (hr : RecsAt V B b n1.log) => l54_Of n1 B b V hr hb3)
        rw [HQ2.out] at HCO
        obtain ⟨c20, c21, c22, c23, c24, c25⟩ := kn.six
        obtain ⟨c30, c31, c32, c33, c34, c35⟩ := kx.six
        refine wp_region_slots3 6 [] [4, 5] [Stab.is (.agg #[.int .i64 n1.id, .int .i64 n1.term, .bool n1.speaks, .slice B n1.log.length b, .int .i64 q, .int .i64 n1.next]), Stab.nodq w n1 q, Stab.is (.agg #[.int .i64 m1.id, .int .i64 m1.term, .bool m1.speaks, .slice B2 m1.log.length b2, .int .i64 m1.acked, .int .i64 m1.next]), Stab.nod w m1, Stab.box W3.heap.size [.int .i64 0, .int .i64 0, .bool false, .slice none 0 0, .int .i64 0, .int .i64 0] 40, Stab.box W3.heap.size [.int .i64 0, .int .i64 0, .bool false, .slice none 0 0, .int .i64 0, .int .i64 0] 40] (fun u => by (simp only [putAll, List.take_succ_cons, List.take_zero, Act.put, Nat.zero_add, Nat.reduceAdd]); (try simp only [List.setIfInBounds_toArray]); (repeat (first | simp only [List.set_cons_succ] | simp only [List.set_cons_zero])); exact rfl) (by kernel_rfl) (by kernel_rfl) (by kernel_rfl) (fun _ _ _ _ _ h => h) ?_ ?_ ?_
        ·intro j9 hj9 v9 w9 h9
         have hj9' : j9 = 4 ∨ j9 = 5 := by simpa using hj9
         rcases hj9' with rfl | rfl
         ·obtain ⟨g, rfl, -, h⟩ := h9; exact ⟨g, rfl, h.lt⟩
         ·obtain ⟨g, rfl, -, h⟩ := h9; exact ⟨g, rfl, h.lt⟩
        ·refine ⟨?_, ?_, ?_, ?_, ?_, ?_, trivial⟩
         ·(show SlotB _ _ _ _ _ _ _ _); intro u w1 hx1 hd; obtain ⟨y9, rfl⟩ := hx1.get; clear hx1
          refine slot_runB rfl rfl rfl ?_; intro K9 hK0
          have hK := fun a9 w9 h1 h2 h3 => hK0 a9 w9 h1 h2 h3 (fun h => by cases h); clear hK0
          go_simp; exact hK _ _ rfl (ex) rfl
         ·(show SlotB _ _ _ _ _ _ _ _); intro u w1 hx1 hd; obtain ⟨y9, rfl⟩ := hx1.get; clear hx1
          have e0 : u 0 = .agg #[.int .i64 n1.id, .int .i64 n1.term, .bool n1.speaks, .slice B n1.log.length b, .int .i64 q, .int .i64 n1.next] := hd 0 (by kernel_rfl)
          simp only [e0]
          refine slot_runB rfl rfl rfl ?_; intro K9 hK0
          have hK := fun a9 w9 h1 h2 h3 => hK0 a9 w9 h1 h2 h3 (fun h => by cases h); clear hK0
          go_simp; go_at_call 33; refine (HCO.out _ (ro.mono (ex))).mono ?_; rintro e w' ⟨D, K, rfl, hx, hown⟩; exact hK _ _ rfl hx ⟨D, K, (by rw [← HQ2.out]; rfl), LogW.own hown o1.el⟩
         ·(show SlotB _ _ _ _ _ _ _ _); intro u w1 hx1 hd; obtain ⟨y9, rfl⟩ := hx1.get; clear hx1
          refine slot_runB rfl rfl rfl ?_; intro K9 hK0
          have hK := fun a9 w9 h1 h2 h3 => hK0 a9 w9 h1 h2 h3 (fun h => by cases h); clear hK0
          go_simp; exact hK _ _ rfl (ex) rfl
         ·(show SlotB _ _ _ _ _ _ _ _); intro u w1 hx1 hd; obtain ⟨y9, rfl⟩ := hx1.get; clear hx1
          have e2 : u 2 = .agg #[.int .i64 m1.id, .int .i64 m1.term, .bool m1.speaks, .slice B2 m1.log.length b2, .int .i64 m1.acked, .int .i64 m1.next] := hd 2 (by kernel_rfl)
          simp only [e2]
          refine slot_runB rfl rfl rfl ?_; intro K9 hK0
          have hK := fun a9 w9 h1 h2 h3 => hK0 a9 w9 h1 h2 h3 (fun h => by cases h); clear hK0
          go_simp; go_at_call 33; refine (l54_Of m1 B2 b2 _ (rx.mono (ex)) hb4).mono ?_; rintro e w' ⟨D, K, rfl, hx, hown⟩; exact hK _ _ rfl hx ⟨D, K, rfl, LogW.own hown hD.q1.el⟩
         ·(show SlotB _ _ _ _ _ _ _ _); intro u w1 hx1 hd; obtain ⟨y9, rfl⟩ := hx1.get; clear hx1
          refine slot_runB rfl rfl rfl ?_; intro K9 hK0
          go_simp; exact hK0 _ _ rfl (ex) ⟨_, rfl, (by first | omega | (simp [go_sem]; done) | (simp [go_sem]; omega)), BoxAt.new (by first | rfl | simp [go_sem]) _ _⟩ (fun _ => ⟨_, rfl, by first | exact Nat.le_refl _ | simp [go_sem]⟩)
         ·(show SlotB _ _ _ _ _ _ _ _); intro u w1 hx1 hd; obtain ⟨y9, rfl⟩ := hx1.get; clear hx1
          refine slot_runB rfl rfl rfl ?_; intro K9 hK0
          go_simp; exact hK0 _ _ rfl (ex) ⟨_, rfl, (by first | omega | (simp [go_sem]; done) | (simp [go_sem]; omega)), BoxAt.new (by first | rfl | simp [go_sem]) _ _⟩ (fun _ => ⟨_, rfl, by first | exact Nat.le_refl _ | simp [go_sem]⟩)
        ·intro u w2 hx2 hT hdd; obtain ⟨t0, t1, t2, t3, t4, t5, -⟩ := hT; obtain ⟨y9, rfl⟩ := hx2.get; clear hx2
         obtain ⟨D1, K1, e1, h1'⟩ := t1
         obtain ⟨D3, K3, e3, h3'⟩ := t3
         obtain ⟨g4, e4, hg4, b4⟩ := t4
         obtain ⟨g5, e5, hg5, b5⟩ := t5
         have hne0 := hdd 4 5 (by decide) (by decide) (by kernel_rfl) (by kernel_rfl) (by decide)
         rw [e4, e5] at hne0
         replace hne0 : g4 ≠ g5 := fun h => hne0 (by rw [h])
         clear hdd
         simp only [e1, e3, e4, e5]
         clear e1 e3 e4 e5 t0 t2
         simp only [List.drop_succ_cons, List.drop_zero]
         have hxx : Ext W3 (xt W3.drew y9) := ex
         go_wp2_with (first
          | (refine wpList_store_at rfl 40 (.tmp 13) (.tmp 91) rfl b4 rfl [.int .i64 n1.id, .int .i64 n1.term, .bool n1.speaks, .slice D1 n1.log.length K1, .int .i64 q, .int .i64 n1.next] rfl rfl (show 6 < 44 by decide) (by kernel_rfl) (cells_one _ rfl) ?_; intro W4 ht1 hb1')
          | (refine wpList_store_at rfl 40 (.tmp 14) (.tmp 93) rfl (b5.turn ht1 (by omega)) rfl [.int .i64 m1.id, .int .i64 m1.term, .bool m1.speaks, .slice D3 m1.log.length K3, .int .i64 m1.acked, .int .i64 m1.next] rfl rfl (show 6 < 44 by decide) (by kernel_rfl) (nodl_one m1 D3 K3) ?_; intro W5 ht2 hb2'))
         have jn := ((kn.mono hxx).turn ht1 (by have := kn.lt; omega)).turn ht2 (by have := kn.lt; omega)
         have j4 := hb1'.turn ht2 (by omega)
         obtain ⟨p0, p1, p2, p3, p4, p5⟩ := j4.six
         obtain ⟨r0, r1, r2, r3, r4, r5⟩ := hb2'.six
         clear c20 c21 c22 c23 c24 c25 c30 c31 c32 c33 c34 c35
         obtain ⟨c20, c21, c22, c23, c24, c25⟩ := jn.six
         have x5 : Ext W2 W5 := ht2.ext (ht1.ext (x3.trans hxx) (by have := x3.size; omega)) (by have := x3.size; omega)
         have v1 := (h1'.turn ht1).turn ht2
         have v3 := (h3'.turn ht1).turn ht2
         have pa : RecsAt W5 D1 K1 (n1.log.take q) := by have := ((v1.recs (hD.ext.trans x5) (Ext.refl _)).part 0 q (by omega) q (Nat.sub_zero q)).1; rwa [partA_zero, Nat.sub_zero, List.drop_zero] at this
         have pb : RecsAt W5 D3 K3 (m1.log.take q) := by have := ((v3.recs (hD.ext.trans x5) (Ext.refl _)).part 0 q (by omega) q (Nat.sub_zero q)).1; rwa [partA_zero, Nat.sub_zero, List.drop_zero] at this
         have LA := Lib.hid (show (n1.log.take q).length = q by rw [List.length_take]; omega)
         have LB := Lib.hid (show (m1.log.take q).length = q by rw [List.length_take]; omega)
         have i4 : (q : Int) ≤ (K1 : Int) := by have := v1.le; omega
         have i5 : (q : Int) ≤ (K3 : Int) := by have := v3.le; omega
         clear ht1 ht2 hb1' hb2' h1' h3' b4 b5 hxx v1 v3 ro rx kn kx HCO
         refine wp_region_stab 29 [] [Stab.is (.pointer (some ⟨W2.heap.size + y0.n, 4, none⟩)), Stab.is (.int .i64 q), Stab.is (.bool false), Stab.is (.bool false), Stab.is (.pointer (some ⟨W2.heap.size + y0.n, 4, none⟩)), Stab.is (.int .i64 q), Stab.is (.pointer (some ⟨g4, 3, none⟩)), Stab.is (.slice D1 n1.log.length K1), Stab.is (.int .i64 n1.log.length), Stab.is (.pointer (some ⟨g5, 3, none⟩)), Stab.is (.slice D3 m1.log.length K3), Stab.is (.int .i64 m1.log.length), Stab.is (.int .i64 (min (n1.log.length : Int) (m1.log.length : Int))), Stab.is (.bool false), Stab.is (.bool false), Stab.is (.bool false), Stab.is (.pointer (some ⟨g4, 3, none⟩)), Stab.is (.slice D1 n1.log.length K1), Stab.is (.pointer (some ⟨W2.heap.size + y0.n, 4, none⟩)), Stab.is (.int .i64 q), Stab.is (.slice D1 q K1), Stab.is (.pointer (some ⟨g5, 3, none⟩)), Stab.is (.slice D3 m1.log.length K3), Stab.is (.pointer (some ⟨W2.heap.size + y0.n, 4, none⟩)), Stab.is (.int .i64 q), Stab.is (.slice D3 q K3), Stab.is (.bool true), Stab.is (.bool false), Stab.is (.bool false)] (fun u => by (simp only [putAll, List.take_succ_cons, List.take_zero, Act.put, Nat.zero_add, Nat.reduceAdd]); (try simp only [List.setIfInBounds_toArray]); (repeat (first | simp only [List.set_cons_succ] | simp only [List.set_cons_zero])); exact rfl) (by kernel_rfl) (by kernel_rfl) (fun _ _ _ _ _ h => h) ?_ ?_
         ·refine ⟨?_, ?_, ?_, ?_, ?_, ?_, ?_, ?_, ?_, ?_, ?_, ?_, ?_, ?_, ?_, ?_, ?_, ?_, ?_, ?_, ?_, ?_, ?_, ?_, ?_, ?_, ?_, ?_, ?_, trivial⟩
          ·(show SlotA _ _ _ _ _ _ _); intro u w1 hx1 hd; obtain ⟨y9, rfl⟩ := hx1.get; clear hx1
           refine slot_run rfl rfl rfl ?_; intro K9 hK
           go_simp; exact hK _ _ rfl (ex) rfl
          ·(show SlotA _ _ _ _ _ _ _); intro u w1 hx1 hd; obtain ⟨y9, rfl⟩ := hx1.get; clear hx1
           have e0 : u 0 = .pointer (some ⟨W2.heap.size + y0.n, 4, none⟩) := hd 0 (by kernel_rfl)
           simp only [e0]
           refine slot_run rfl rfl rfl ?_; intro K9 hK
           go_simp; exact hK _ _ rfl (ex) rfl
          ·(show SlotA _ _ _ _ _ _ _); intro u w1 hx1 hd; obtain ⟨y9, rfl⟩ := hx1.get; clear hx1
           have e1 : u 1 = .int .i64 q := hd 1 (by kernel_rfl)
           simp only [e1]
           refine slot_run rfl rfl rfl ?_; intro K9 hK
           go_simp; exact hK _ _ rfl (ex) rfl
          ·(show SlotA _ _ _ _ _ _ _); intro u w1 hx1 hd; obtain ⟨y9, rfl⟩ := hx1.get; clear hx1
           have e2 : u 2 = .bool false := hd 2 (by kernel_rfl)
           simp only [e2]
           refine slot_run rfl rfl rfl ?_; intro K9 hK
           go_simp; exact hK _ _ rfl (ex) rfl
          ·(show SlotA _ _ _ _ _ _ _); intro u w1 hx1 hd; obtain ⟨y9, rfl⟩ := hx1.get; clear hx1
           have e3 : u 3 = .bool false := hd 3 (by kernel_rfl)
           simp only [e3]
           refine slot_run rfl rfl rfl ?_; intro K9 hK
           go_simp; exact hK _ _ rfl (ex) rfl
          ·(show SlotA _ _ _ _ _ _ _); intro u w1 hx1 hd; obtain ⟨y9, rfl⟩ := hx1.get; clear hx1
           have e3 : u 3 = .bool false := hd 3 (by kernel_rfl)
           have e4 : u 4 = .pointer (some ⟨W2.heap.size + y0.n, 4, none⟩) := hd 4 (by kernel_rfl)
           simp only [e3, e4]
           refine slot_run rfl rfl rfl ?_; intro K9 hK
           go_simp; exact hK _ _ rfl (ex) rfl
          ·(show SlotA _ _ _ _ _ _ _); intro u w1 hx1 hd; obtain ⟨y9, rfl⟩ := hx1.get; clear hx1
           have e3 : u 3 = .bool false := hd 3 (by kernel_rfl)
           simp only [e3]
           refine slot_run rfl rfl rfl ?_; intro K9 hK
           go_simp; exact hK _ _ rfl (ex) rfl
          ·(show SlotA _ _ _ _ _ _ _); intro u w1 hx1 hd; obtain ⟨y9, rfl⟩ := hx1.get; clear hx1
           have e3 : u 3 = .bool false := hd 3 (by kernel_rfl)
           have e6 : u 6 = .pointer (some ⟨g4, 3, none⟩) := hd 6 (by kernel_rfl)
           simp only [e3, e6]
           refine slot_run rfl rfl rfl ?_; intro K9 hK
           go_simp; exact hK _ _ rfl (ex) rfl
          ·(show SlotA _ _ _ _ _ _ _); intro u w1 hx1 hd; obtain ⟨y9, rfl⟩ := hx1.get; clear hx1
           have e3 : u 3 = .bool false := hd 3 (by kernel_rfl)
           have e7 : u 7 = .slice D1 n1.log.length K1 := hd 7 (by kernel_rfl)
           simp only [e3, e7]
           refine slot_run rfl rfl rfl ?_; intro K9 hK
           go_simp; exact hK _ _ rfl (ex) rfl
          ·(show SlotA _ _ _ _ _ _ _); intro u w1 hx1 hd; obtain ⟨y9, rfl⟩ := hx1.get; clear hx1
           have e3 : u 3 = .bool false := hd 3 (by kernel_rfl)
           simp only [e3]
           refine slot_run rfl rfl rfl ?_; intro K9 hK
           go_simp; exact hK _ _ rfl (ex) rfl
          ·(show SlotA _ _ _ _ _ _ _); intro u w1 hx1 hd; obtain ⟨y9, rfl⟩ := hx1.get; clear hx1
           have e3 : u 3 = .bool false := hd 3 (by kernel_rfl)
           have e9 : u 9 = .pointer (some ⟨g5, 3, none⟩) := hd 9 (by kernel_rfl)
           simp only [e3, e9]
           refine slot_run rfl rfl rfl ?_; intro K9 hK
           go_simp; exact hK _ _ rfl (ex) rfl
          ·(show SlotA _ _ _ _ _ _ _); intro u w1 hx1 hd; obtain ⟨y9, rfl⟩ := hx1.get; clear hx1
           have e3 : u 3 = .bool false := hd 3 (by kernel_rfl)
           have e10 : u 10 = .slice D3 m1.log.length K3 := hd 10 (by kernel_rfl)
           simp only [e3, e10]
           refine slot_run rfl rfl rfl ?_; intro K9 hK
           go_simp; exact hK _ _ rfl (ex) rfl
          ·(show SlotA _ _ _ _ _ _ _); intro u w1 hx1 hd; obtain ⟨y9, rfl⟩ := hx1.get; clear hx1
           have e3 : u 3 = .bool false := hd 3 (by kernel_rfl)
           have e8 : u 8 = .int .i64 n1.log.length := hd 8 (by kernel_rfl)
           have e11 : u 11 = .int .i64 m1.log.length := hd 11 (by kernel_rfl)
           simp only [e3, e8, e11]
           refine slot_run rfl rfl rfl ?_; intro K9 hK
           go_simp; exact hK _ _ rfl (ex) rfl
          ·(show SlotA _ _ _ _ _ _ _); intro u w1 hx1 hd; obtain ⟨y9, rfl⟩ := hx1.get; clear hx1
           have e3 : u 3 = .bool false := hd 3 (by kernel_rfl)
           have e5 : u 5 = .int .i64 q := hd 5 (by kernel_rfl)
           have e12 : u 12 = .int .i64 (min (n1.log.length : Int) (m1.log.length : Int)) := hd 12 (by kernel_rfl)
           simp only [e3, e5, e12]
           refine slot_run rfl rfl rfl ?_; intro K9 hK
           go_simp; exact hK _ _ rfl (ex) rfl
          ·(show SlotA _ _ _ _ _ _ _); intro u w1 hx1 hd; obtain ⟨y9, rfl⟩ := hx1.get; clear hx1
           have e3 : u 3 = .bool false := hd 3 (by kernel_rfl)
           have e13 : u 13 = .bool false := hd 13 (by kernel_rfl)
           simp only [e3, e13]
           refine slot_run rfl rfl rfl ?_; intro K9 hK
           go_simp; exact hK _ _ rfl (ex) rfl
          ·(show SlotA _ _ _ _ _ _ _); intro u w1 hx1 hd; obtain ⟨y9, rfl⟩ := hx1.get; clear hx1
           have e14 : u 14 = .bool false := hd 14 (by kernel_rfl)
           simp only [e14]
           refine slot_run rfl rfl rfl ?_; intro K9 hK
           go_simp; exact hK _ _ rfl (ex) rfl
          ·(show SlotA _ _ _ _ _ _ _); intro u w1 hx1 hd; obtain ⟨y9, rfl⟩ := hx1.get; clear hx1
           have e15 : u 15 = .bool false := hd 15 (by kernel_rfl)
           simp only [e15]
           refine slot_run rfl rfl rfl ?_; intro K9 hK
           go_simp; exact hK _ _ rfl (ex) rfl
          ·(show SlotA _ _ _ _ _ _ _); intro u w1 hx1 hd; obtain ⟨y9, rfl⟩ := hx1.get; clear hx1
           have e15 : u 15 = .bool false := hd 15 (by kernel_rfl)
           have e16 : u 16 = .pointer (some ⟨g4, 3, none⟩) := hd 16 (by kernel_rfl)
           simp only [e15, e16]
           refine slot_run rfl rfl rfl ?_; intro K9 hK
           go_simp; exact hK _ _ rfl (ex) rfl
          ·(show SlotA _ _ _ _ _ _ _); intro u w1 hx1 hd; obtain ⟨y9, rfl⟩ := hx1.get; clear hx1
           have e15 : u 15 = .bool false := hd 15 (by kernel_rfl)
           simp only [e15]
           refine slot_run rfl rfl rfl ?_; intro K9 hK
           go_simp; exact hK _ _ rfl (ex) rfl
          ·(show SlotA _ _ _ _ _ _ _); intro u w1 hx1 hd; obtain ⟨y9, rfl⟩ := hx1.get; clear hx1
           have e15 : u 15 = .bool false := hd 15 (by kernel_rfl)
           have e18 : u 18 = .pointer (some ⟨W2.heap.size + y0.n, 4, none⟩) := hd 18 (by kernel_rfl)
           simp only [e15, e18]
           refine slot_run rfl rfl rfl ?_; intro K9 hK
           go_simp; exact hK _ _ rfl (ex) rfl
          ·(show SlotA _ _ _ _ _ _ _); intro u w1 hx1 hd; obtain ⟨y9, rfl⟩ := hx1.get; clear hx1
           have e15 : u 15 = .bool false := hd 15 (by kernel_rfl)
           have e17 : u 17 = .slice D1 n1.log.length K1 := hd 17 (by kernel_rfl)
           have e19 : u 19 = .int .i64 q := hd 19 (by kernel_rfl)
           simp only [e15, e17, e19]
           refine slot_run rfl rfl rfl ?_; intro K9 hK
           go_simp; exact hK _ _ rfl (ex) rfl
          ·(show SlotA _ _ _ _ _ _ _); intro u w1 hx1 hd; obtain ⟨y9, rfl⟩ := hx1.get; clear hx1
           have e15 : u 15 = .bool false := hd 15 (by kernel_rfl)
           simp only [e15]
           refine slot_run rfl rfl rfl ?_; intro K9 hK
           go_simp; exact hK _ _ rfl (ex) rfl
          ·(show SlotA _ _ _ _ _ _ _); intro u w1 hx1 hd; obtain ⟨y9, rfl⟩ := hx1.get; clear hx1
           have e15 : u 15 = .bool false := hd 15 (by kernel_rfl)
           have e21 : u 21 = .pointer (some ⟨g5, 3, none⟩) := hd 21 (by kernel_rfl)
           simp only [e15, e21]
           refine slot_run rfl rfl rfl ?_; intro K9 hK
           go_simp; exact hK _ _ rfl (ex) rfl
          ·(show SlotA _ _ _ _ _ _ _); intro u w1 hx1 hd; obtain ⟨y9, rfl⟩ := hx1.get; clear hx1
           have e15 : u 15 = .bool false := hd 15 (by kernel_rfl)
           simp only [e15]
           refine slot_run rfl rfl rfl ?_; intro K9 hK
           go_simp; exact hK _ _ rfl (ex) rfl
          ·(show SlotA _ _ _ _ _ _ _); intro u w1 hx1 hd; obtain ⟨y9, rfl⟩ := hx1.get; clear hx1
           have e15 : u 15 = .bool false := hd 15 (by kernel_rfl)
           have e23 : u 23 = .pointer (some ⟨W2.heap.size + y0.n, 4, none⟩) := hd 23 (by kernel_rfl)
           simp only [e15, e23]
           refine slot_run rfl rfl rfl ?_; intro K9 hK
           go_simp; exact hK _ _ rfl (ex) rfl
          ·(show SlotA _ _ _ _ _ _ _); intro u w1 hx1 hd; obtain ⟨y9, rfl⟩ := hx1.get; clear hx1
           have e15 : u 15 = .bool false := hd 15 (by kernel_rfl)
           have e22 : u 22 = .slice D3 m1.log.length K3 := hd 22 (by kernel_rfl)
           have e24 : u 24 = .int .i64 q := hd 24 (by kernel_rfl)
           simp only [e15, e22, e24]
           refine slot_run rfl rfl rfl ?_; intro K9 hK
           go_simp; exact hK _ _ rfl (ex) rfl
          ·(show SlotA _ _ _ _ _ _ _); intro u w1 hx1 hd; obtain ⟨y9, rfl⟩ := hx1.get; clear hx1
           have e15 : u 15 = .bool false := hd 15 (by kernel_rfl)
           have e20 : u 20 = .slice D1 q K1 := hd 20 (by kernel_rfl)
           have e25 : u 25 = .slice D3 q K3 := hd 25 (by kernel_rfl)
           simp only [e15, e20, e25]
           refine slot_run rfl rfl rfl ?_; intro K9 hK
           go_simp; go_at_call 51; refine (r54_SameRecs_as D1 K1 q (n1.log.take q) LA.out D3 K3 q (m1.log.take q) LB.out true HT.out _ (pa.mono (ex)) (pb.mono (ex))).mono ?_; rintro e w' ⟨rfl, hx⟩; exact hK _ _ rfl hx rfl
          ·(show SlotA _ _ _ _ _ _ _); intro u w1 hx1 hd; obtain ⟨y9, rfl⟩ := hx1.get; clear hx1
           have e15 : u 15 = .bool false := hd 15 (by kernel_rfl)
           have e26 : u 26 = .bool true := hd 26 (by kernel_rfl)
           simp only [e15, e26]
           refine slot_run rfl rfl rfl ?_; intro K9 hK
           go_simp; exact hK _ _ rfl (ex) rfl
          ·(show SlotA _ _ _ _ _ _ _); intro u w1 hx1 hd; obtain ⟨y9, rfl⟩ := hx1.get; clear hx1
           have e15 : u 15 = .bool false := hd 15 (by kernel_rfl)
           have e27 : u 27 = .bool false := hd 27 (by kernel_rfl)
           simp only [e15, e27]
           refine slot_run rfl rfl rfl ?_; intro K9 hK
           go_simp; exact hK _ _ rfl (ex) rfl
         ·intro u w2 hx2 hT; obtain ⟨t0, t1, t2, t3, t4, t5, t6, t7, t8, t9, t10, t11, t12, t13, t14, t15, t16, t17, t18, t19, t20, t21, t22, t23, t24, t25, t26, t27, t28, -⟩ := hT; obtain ⟨y9, rfl⟩ := hx2.get; clear hx2
          have e28 : u 28 = .bool false := t28
          simp only [e28]
          clear e28 t0 t1 t2 t3 t4 t5 t6 t7 t8 t9 t10 t11 t12 t13 t14 t15 t16 t17 t18 t19 t20 t21 t22 t23 t24 t25 t26 t27 t28
          simp only [List.drop_succ_cons, List.drop_zero]
          refine wpList_nil ?_
          go_wp2
          go_light
          exact ⟨⟨x5.trans (ex), .inr (.inr rfl)⟩, by simp [intOf]⟩
       ·go_wp2
        go_light
        refine ⟨⟨k + 1, c', G', by omega, by go_num, HM, ?_⟩, by simp [intOf]; omega⟩
        rw [HQ.out.1, HQ.out.2.1, HQ.out.2.2.1, HQ.out.2.2.2]
        exact ⟨_, _, _, _, _, _, _, _, _, _, hD.mono (ex)⟩
     ·have hext := hc.ext
      clear HI hc
      go_wp2_with (go_at_call 47; refine (top_caseReplicas _).mono ?_; rintro e w' ⟨rfl, hx⟩; obtain ⟨y, rfl⟩ := hx.get; clear hx)
      go_ret
      exact ⟨rfl, hext.trans (ex)⟩
end Go.Proofs.YtmhinhgflehkaaaGreat
