/-
  A cue with another part: the reference's; the law TimingSets.
-/
import Derived.Test.YtgmicckeefoghaaSet
namespace Go.Proofs.Ytgmicckeefoghaa
open Go.RowKit
attribute [local go_sem ↓] Go.wp_at_zero Go.wp_at_succ

/-- A block was made behind new ones, and one of those new ones was written to. -/
theorem grown_split {X : World} {y : Gr} {o : Obj} {w1 : World} {g : Nat} (hg : ((xt X y).alloc o).grownBy w1 (some g)) (h1 : X.heap.size ≤ g) (h2 : g < X.heap.size + y.n) : ∃ y' z, y'.n = y.n ∧ w1 = xt ((xt X y').alloc o) z := by
  have hs : X.heap.size + y.n + 1 ≤ w1.heap.size := by have := hg.size; simpa [go_sem] using this
  refine ⟨⟨w1.heap.extract X.heap.size (X.heap.size + y.n), y.drawn⟩, ⟨w1.heap.extract (X.heap.size + y.n + 1) w1.heap.size, w1.drawn⟩, ?_, ?_⟩
  · simp only [Gr.n, Array.size_extract] at *; omega
  · have hh : w1.heap = (X.heap ++ w1.heap.extract X.heap.size (X.heap.size + y.n)).push o ++ w1.heap.extract (X.heap.size + y.n + 1) w1.heap.size := by
      have e1 : (w1.heap.extract X.heap.size (X.heap.size + y.n)).size = y.n := by simp only [Array.size_extract]; omega
      have e2 : (X.heap ++ w1.heap.extract X.heap.size (X.heap.size + y.n)).size = X.heap.size + y.n := by rw [Array.size_append, e1]
      apply Array.ext_getElem?
      intro k
      rcases Nat.lt_or_ge k (X.heap.size + y.n + 1) with hk | hk
      · rw [Array.getElem?_append_left (by rw [Array.size_push, e2]; exact hk), Array.getElem?_push, e2]
        split
        · rename_i hk2
          subst hk2
          rw [hg.block _ (by simp [go_sem]) (by simp; omega)]
          have : ((xt X y).alloc o).heap[(xt X y).heap.size]? = some o := heap_alloc_new _ _
          rwa [xt_size] at this
        · rename_i hk2
          rcases Nat.lt_or_ge k X.heap.size with hk3 | hk3
          · rw [Array.getElem?_append_left hk3, hg.block k (by simp [go_sem]; omega) (by simp; omega)]
            rw [heap_alloc_old _ _ (by simp [go_sem]; omega)]
            show (X.heap ++ y.objs)[k]? = _
            rw [Array.getElem?_append_left hk3]
          · rw [Array.getElem?_append_right hk3, Array.getElem?_extract]
            split
            · congr 1; omega
            · rw [Array.getElem?_eq_none (by omega)]
      · rw [Array.getElem?_append_right (by rw [Array.size_push, e2]; exact hk), Array.size_push, e2, Array.getElem?_extract]
        split
        · congr 1; omega
        · rw [Array.getElem?_eq_none (by omega)]
    have g1 := hg.os
    have g2 := hg.tape
    have g3 := hg.output
    cases w1
    simp only [xt, World.alloc] at *
    simp only [World.mk.injEq]
    refine ⟨?_, ?_, ?_, ?_, ?_⟩ <;> first | assumption | trivial

theorem grown_alloc {W w1 : World} {o : Obj} {row : Option Nat} (h : (W.alloc o).grownBy w1 row) : W.grownBy w1 row :=
  ⟨h.os, h.tape, h.output, Nat.le_trans (by simp) h.size, fun k hk hne => (h.block k (by simp; omega) hne).trans (heap_alloc_old W o hk)⟩
theorem Own.other {w w1 w2 : World} {E : TypeId} {size : Nat} {A : Option Addr} {n k : Nat} {rows : List (List Value)} (h : Own w w1 E size A n k rows) (hh : ∀ g, A = some ⟨g, 0, none⟩ → w2.heap[g]? = w1.heap[g]?) : Own w w2 E size A n k rows := by
  refine ⟨h.len, h.row, h.one, h.le, h.cap, ?_⟩
  rcases h.at_ with h0 | ⟨g, cur, h1, h2, h3, h4⟩
  · exact .inl h0
  · exact .inr ⟨g, cur, h1, h2, (hh g h1).trans h3, h4⟩
theorem xt2_low {X X' : World} {y z : Gr} {o o' : Obj} {g : Nat} (hs : X.heap.size = X'.heap.size) (h1 : X.heap.size ≤ g) (h2 : g < X.heap.size + y.n) : (xt ((xt X y).alloc o) z).heap[g]? = (xt ((xt X' y).alloc o') z).heap[g]? := by
  have e1 : ∀ (Y : World) (q : Obj), Y.heap.size = X.heap.size → (xt ((xt Y y).alloc q) z).heap[g]? = y.objs[g - X.heap.size]? := fun Y q hY => by
    show (((Y.heap ++ y.objs).push q) ++ z.objs)[g]? = _
    unfold Gr.n at h2
    rw [Array.getElem?_append_left (by simp; omega), Array.getElem?_push, if_neg (by simp; omega), Array.getElem?_append_right (by omega), hY]
  rw [e1 X o rfl, e1 X' o' hs.symm]
theorem xt2_high {X X' : World} {y z : Gr} {o o' : Obj} {g : Nat} (hs : X.heap.size = X'.heap.size) (h1 : X.heap.size + y.n + 1 ≤ g) : (xt ((xt X y).alloc o) z).heap[g]? = (xt ((xt X' y).alloc o') z).heap[g]? :=
  xt_high _ _ z g (by simp [go_sem, hs]) (by simp [go_sem]; omega)
/-- What was stored into the old blocks, and into the one between the new ones, does not matter to a slice that lies elsewhere. -/
theorem Own.split {w X X' : World} {y z : Gr} {o o' : Obj} {E : TypeId} {size g : Nat} {A : Option Addr} {n k : Nat} {rows : List (List Value)} (h : Own w (xt ((xt X y).alloc o) z) E size A n k rows) (hs : X.heap.size = X'.heap.size) (h1 : X.heap.size ≤ g) (h2 : g < X.heap.size + y.n)
    (hA : A = some ⟨g, 0, none⟩ ∨ ∃ j, X.heap.size + y.n + 1 ≤ j ∧ A = some ⟨j, 0, none⟩) : Own w (xt ((xt X' y).alloc o') z) E size A n k rows :=
  h.other fun g' hg' => by
    rcases hA with hA | ⟨j, hj, hA⟩
    · rw [hA] at hg'; injection hg' with hg'; injection hg' with hg'; subst hg'; exact (xt2_low hs h1 h2).symm
    · rw [hA] at hg'; injection hg' with hg'; injection hg' with hg'; subst hg'; exact (xt2_high hs hj).symm

theorem Sl.via {w1 w2 : World} {A : Option Addr} {size : Nat} {rows : List (List Value)} (hx : Ext w1 w2) (h : Sl w1 A size rows) : Sl w2 A size rows := h.mono hx
theorem made_at {w w' : World} {c : Cue} {A : Option Addr} {k : Nat} {B : Option Addr} {m : Nat} (h : CueAt w c A k B m) (l : List Timing) {M D : Option Addr} {k' n n' : Nat} (hn : l.length = n) (hs : Sl w' M 5 (c.moves.map mv)) (hle : c.moves.length ≤ k') (hcap : k' ≤ maxLen)
    (ho : Own w w' 23 6 D n n' (l.map tmg)) : CueAt w' { c with parts := l } M k' D n' :=
  ⟨hs, ho.sl, hle, by rw [hn]; exact ho.le, hcap, ho.cap, h.num, h.lab, h.lnk⟩

section
variable (c : Cue) (A : Option Addr) (k : Nat) (B : Option Addr) (m : Nat) (part : Int) (t : Timing) (w : World) (hc : CueAt w c A k B m)
include hc
set_option maxHeartbeats 3200000 in
set_option maxRecDepth 100000 in
theorem r21_Set : Calls Try.prog 39 #[.agg (cueV c A k B m).toArray, .int .i64 part, .agg (tmg t).toArray] w (RetCue w (setV c part t)) := by
  have HC := Lib.hid hc
  by_cases hE : cueE c = 0
  · have h4 := (parts_len hE).2
    have h1 := (parts_len hE).1
    have hmv := (movesE_scan (cueE_ok hE).2.2.1).1
    have hE' : (cueE c != 0) = false := by simpa using hE
    have HE := Lib.hid hE
    clear hc hE
    simp only [cueV, tmg]
    go_enter Try.func39, Try.ntmps39
    go_wp2_with (first | (go_at_call 53; refine (r16_Check c A k B m _ (HC.out.mono (by repeat (first | exact Ext.refl _ | assumption | apply Ext.xt | apply Ext.alloc | apply Ext.drew | apply Ext.drewN)))).mono ?_; rintro e w' ⟨rfl, hx⟩; obtain ⟨ya, rfl⟩ := hx.get; clear hx) | (go_at_call 25; refine (r21_Check t _).mono ?_; rintro e w' ⟨rfl, hx⟩; obtain ⟨yb, rfl⟩ := hx.get; clear hx))
    · refine bodyPost_ret (v := .tuple #[.agg (cueV emptyC none 0 none 0).toArray, .int .i64 (timingE t)]) (by simp [results, Try.results39, go_sem, cueV, emptyC]) rfl (RetCue.empty (by have := HE.out; unfold setV; grind) rfl (by repeat (first | exact Ext.refl _ | assumption | apply Ext.xt | apply Ext.alloc | apply Ext.drew | apply Ext.drewN)))
    · have hmv' := HC.out.mv
      have hpt := HC.out.pt
      go_region_held3 (fun w' => (∀ q, ((xt (xt (((w.alloc (.cells #[.string c.number, .string c.label, .slice A c.moves.length k, .slice B c.parts.length m, .bool c.block, .bool c.mark, .int .i64 c.follow, .string c.link, .int .i64 c.loops] 38)).alloc (.cells #[.int .i64 t.up, .int .i64 t.down, .int .i64 t.pos, .int .i64 t.col, .int .i64 t.beam, .int .i64 t.del] 23)).alloc (.cells #[.string emptyC.number, .string emptyC.label, .slice none emptyC.moves.length 0, .slice none emptyC.parts.length 0, .bool emptyC.block, .bool emptyC.mark, .int .i64 emptyC.follow, .string emptyC.link, .int .i64 emptyC.loops] 38)) ya) yb).cell? q).isSome = true → w'.cell? q = (xt (xt (((w.alloc (.cells #[.string c.number, .string c.label, .slice A c.moves.length k, .slice B c.parts.length m, .bool c.block, .bool c.mark, .int .i64 c.follow, .string c.link, .int .i64 c.loops] 38)).alloc (.cells #[.int .i64 t.up, .int .i64 t.down, .int .i64 t.pos, .int .i64 t.col, .int .i64 t.beam, .int .i64 t.del] 23)).alloc (.cells #[.string emptyC.number, .string emptyC.label, .slice none emptyC.moves.length 0, .slice none emptyC.parts.length 0, .bool emptyC.block, .bool emptyC.mark, .int .i64 emptyC.follow, .string emptyC.link, .int .i64 emptyC.loops] 38)) ya) yb).cell? q) ∧ Ext (xt (xt (((w.alloc (.cells #[.string c.number, .string c.label, .slice A c.moves.length k, .slice B c.parts.length m, .bool c.block, .bool c.mark, .int .i64 c.follow, .string c.link, .int .i64 c.loops] 38)).alloc (.cells #[.int .i64 t.up, .int .i64 t.down, .int .i64 t.pos, .int .i64 t.col, .int .i64 t.beam, .int .i64 t.del] 23)).alloc (.cells #[.string emptyC.number, .string emptyC.label, .slice none emptyC.moves.length 0, .slice none emptyC.parts.length 0, .bool emptyC.block, .bool emptyC.mark, .int .i64 emptyC.follow, .string emptyC.link, .int .i64 emptyC.loops] 38)) ya) yb) w') ((refine kept ?_; go_split_ands; exact (by repeat (first | exact Ext.refl _ | assumption | apply Ext.xt | apply Ext.alloc | apply Ext.drew | apply Ext.drewN)))) (first
        | ((refine step_append_mine (w0 := _) rfl _ _ 35 35 rfl 90 90 5 40 Try.underlying35 Try.underlying35 info_M (by decide) (Ext.refl _) _ 0 0 [] (by rfl) (Own.nil _) A c.moves.length _ (c.moves.map mv) (by rfl) (hmv'.mono (by repeat (first | exact Ext.refl _ | assumption | apply Ext.xt | apply Ext.alloc | apply Ext.drew | apply Ext.drewN))) (by simp) (mv_one _) (by unfold maxLen; omega) (by omega) c.moves.length (by omega) (c.moves.map mv) rfl ?_; intro M k' w1 hx1 hown hg hA; have HM := Lib.hid hown; obtain ⟨ym, rfl⟩ := hx1.get; clear hown hx1 hg hA))
        | (go_at_call 88; refine (r16_Copied c A k B m _ _ c.moves _ (hpt.mono (by repeat (first | exact Ext.refl _ | assumption | apply Ext.xt | apply Ext.alloc | apply Ext.drew | apply Ext.drewN))) (by omega)).mono ?_; rintro e w' ⟨D, n', he, hx, hown⟩; simp only [cueV] at he; subst he; obtain ⟨g, rfl, hge, hth⟩ := hown.there (i := 0) h1; have hlt := lt_of_some (hth 0 (by decide)).1; have HO := Lib.hid hown; obtain ⟨yc, rfl⟩ := hx.get; have HG := Lib.hid (And.intro hge hlt); clear hx hown hth hge hlt))
      all_goals
        rcases (by omega : part = (c.parts.length : Int) + 1 ∨ (¬ part = (c.parts.length : Int) + 1 ∧ (part < 1 ∨ (c.parts.length : Int) < part)) ∨ (1 ≤ part ∧ part ≤ (c.parts.length : Int))) with hp | ⟨hp, hp2⟩ | hp
        · subst hp
          by_cases h44 : c.parts.length = 4
          · have hb : ((c.parts.length : Int) == 4) = true := by rw [h44]; rfl
            have HV := Lib.hid (show setV c ((c.parts.length : Int) + 1) t = (emptyC, 5) by have := HE.out; unfold setV; grind)
            clear h44
            go_wp2
            refine bodyPost_ret (v := .tuple #[.agg (cueV emptyC none 0 none 0).toArray, .int .i64 5]) (by simp [results, Try.results39, go_sem, cueV, emptyC]) rfl (RetCue.empty HV.out rfl (by repeat (first | exact Ext.refl _ | assumption | apply Ext.xt | apply Ext.alloc | apply Ext.drew | apply Ext.drewN)))
          · have hb : ((c.parts.length : Int) == 4) = false := by rw [beq_eq_false_iff_ne]; omega
            have HV := Lib.hid (show setV c ((c.parts.length : Int) + 1) t = ({ c with parts := c.parts ++ [t] }, 0) by have := HE.out; unfold setV; grind)
            clear h44
            go_wp2_with (at_builtin; first
              | (refine wpList_append_mine (w0 := _) rfl _ _ 36 36 rfl 23 23 6 48 Try.underlying36 Try.underlying36 info_T (by decide) (Ext.alloc (Ext.xt (Ext.refl _) _) _) (some ⟨g, 0, none⟩) c.parts.length n' (c.parts.map tmg) rfl ((Own.swapped HO.out (by simp [go_sem]) (Ext.refl _)).mono (by repeat (first | exact Ext.refl _ | assumption | apply Ext.xt | apply Ext.alloc | apply Ext.drew | apply Ext.drewN))) _ 1 1 [tmg t] rfl (Sl.alloc' (by simp [go_sem]) rfl (by simp [tmg])) rfl (tmg_one [t]) (by unfold maxLen; omega) (by omega) (c.parts.length + 1) rfl ((c.parts ++ [t]).map tmg) (by simp) ?_; intro D2 n2 w1 hx1 hown hg hA; have HS := Lib.hid hown; obtain ⟨yd, rfl⟩ := hx1.get; clear hown hx1 hg hA)
              | (refine wpList_append_mine (w0 := w) rfl _ _ 36 36 rfl 23 23 6 48 Try.underlying36 Try.underlying36 info_T (by decide) (by repeat (first | exact Ext.refl _ | assumption | apply Ext.xt | apply Ext.alloc | apply Ext.drew | apply Ext.drewN)) (some ⟨g, 0, none⟩) c.parts.length n' (c.parts.map tmg) rfl ((Own.base (by repeat (first | exact Ext.refl _ | assumption | apply Ext.xt | apply Ext.alloc | apply Ext.drew | apply Ext.drewN)) HO.out).mono (by repeat (first | exact Ext.refl _ | assumption | apply Ext.xt | apply Ext.alloc | apply Ext.drew | apply Ext.drewN))) _ 1 1 [tmg t] rfl (Sl.alloc' (by simp [go_sem]) rfl (by simp [tmg])) rfl (tmg_one [t]) (by unfold maxLen; omega) (by omega) (c.parts.length + 1) rfl ((c.parts ++ [t]).map tmg) (by simp) ?_; intro D2 n2 w1 hx1 hown hg hA; have hgg := HG.out; obtain ⟨yc', z, hyz, rfl⟩ := grown_split (grown_alloc hg) hgg.1 (by have h := hgg.2; rw [xt_size] at h; exact h); have HS := Lib.hid hown; have HA := Lib.hid hA; clear hown hx1 hg hA hgg))
            refine bodyPost_ret (v := .tuple #[.agg (cueV { c with parts := c.parts ++ [t] } M k' D2 n2).toArray, .int .i64 0]) (by simp [results, Try.results39, go_sem, cueV]) rfl ?_
            rw [HV.out]
            refine ⟨M, k', D2, n2, rfl, by repeat (first | exact Ext.refl _ | assumption | apply Ext.xt | apply Ext.alloc | apply Ext.drew | apply Ext.drewN), made_at (n := c.parts.length + 1) HC.out _ (by simp) (Sl.via (by repeat (first | exact Ext.refl _ | assumption | apply Ext.xt | apply Ext.alloc | apply Ext.drew | apply Ext.drewN)) (Own.swapped HM.out (by simp [go_sem]) (by repeat (first | exact Ext.refl _ | assumption | apply Ext.xt | apply Ext.alloc | apply Ext.drew | apply Ext.drewN))).sl) HM.out.le HM.out.cap ?_⟩
            first
              | exact Own.swapped HS.out (by simp [go_sem]) (by repeat (first | exact Ext.refl _ | assumption | apply Ext.xt | apply Ext.alloc | apply Ext.drew | apply Ext.drewN))
              | exact Own.split HS.out (by simp [go_sem]) HG.out.1 (by have h := HG.out.2; rw [xt_size] at h; rw [hyz]; exact h) (HA.out.imp id fun h => ⟨_, by simp [go_sem, hyz], h⟩)
        · have HV := Lib.hid (show setV c part t = (emptyC, 6) by have := HE.out; unfold setV; grind)
          have hb : (part == (c.parts.length : Int) + 1) = false := by simpa using hp
          clear hp
          rcases hp2 with hp2 | hp2
          · go_wp2
            refine bodyPost_ret (v := .tuple #[.agg (cueV emptyC none 0 none 0).toArray, .int .i64 6]) (by simp [results, Try.results39, go_sem, cueV, emptyC]) rfl (RetCue.empty HV.out rfl (by repeat (first | exact Ext.refl _ | assumption | apply Ext.xt | apply Ext.alloc | apply Ext.drew | apply Ext.drewN)))
          · have hp3 : 1 ≤ part := by omega
            go_wp2
            refine bodyPost_ret (v := .tuple #[.agg (cueV emptyC none 0 none 0).toArray, .int .i64 6]) (by simp [results, Try.results39, go_sem, cueV, emptyC]) rfl (RetCue.empty HV.out rfl (by repeat (first | exact Ext.refl _ | assumption | apply Ext.xt | apply Ext.alloc | apply Ext.drew | apply Ext.drewN)))
        · obtain ⟨j, rfl⟩ : ∃ j : Nat, part = (j : Int) + 1 := ⟨(part - 1).toNat, by omega⟩
          have hj : j < c.parts.length := by omega
          have HV := Lib.hid (show setV c ((j : Int) + 1) t = ({ c with parts := c.parts.set j t }, 0) by have := HE.out; unfold setV; simp; grind)
          have hb : ((j : Int) + 1 == (c.parts.length : Int) + 1) = false := by simp; omega
          go_wp2_with (first
            | (refine wpList_store_mine (w0 := _) rfl 23 _ _ rfl 23 6 (Ext.xt (Ext.refl _) _) g c.parts.length n' j (c.parts.map tmg) (Own.swapped HO.out (by simp [go_sem]) (Ext.refl _)) hj (tmg t) (by rfl) (by rfl) rfl (tmg_one [t] _ (by simp)) (by kernel_rfl) ?_; intro w1 hx1 hown hg; have HS := Lib.hid hown; obtain ⟨yd, rfl⟩ := hx1.get; clear hown hx1 hg)
            | (refine wpList_store_mine (w0 := w) rfl 23 _ _ rfl 23 6 (by repeat (first | exact Ext.refl _ | assumption | apply Ext.xt | apply Ext.alloc | apply Ext.drew | apply Ext.drewN)) g c.parts.length n' j (c.parts.map tmg) ((Own.base (by repeat (first | exact Ext.refl _ | assumption | apply Ext.xt | apply Ext.alloc | apply Ext.drew | apply Ext.drewN)) HO.out).mono (by repeat (first | exact Ext.refl _ | assumption | apply Ext.xt | apply Ext.alloc | apply Ext.drew | apply Ext.drewN))) hj (tmg t) (by rfl) (by rfl) rfl (tmg_one [t] _ (by simp)) (by kernel_rfl) ?_; intro w1 hx1 hown hg; have hgg := HG.out; obtain ⟨yc', z, hyz, rfl⟩ := grown_split hg hgg.1 (by have h := hgg.2; rw [xt_size] at h; exact h); have HS := Lib.hid hown; clear hown hx1 hg hgg))
          refine bodyPost_ret (v := .tuple #[.agg (cueV { c with parts := c.parts.set j t } M k' (some ⟨g, 0, none⟩) n').toArray, .int .i64 0]) (by simp [results, Try.results39, go_sem, cueV]) rfl ?_
          rw [HV.out]
          refine ⟨M, k', some ⟨g, 0, none⟩, n', rfl, by repeat (first | exact Ext.refl _ | assumption | apply Ext.xt | apply Ext.alloc | apply Ext.drew | apply Ext.drewN), made_at (n := c.parts.length) HC.out _ (by simp) (Sl.via (by repeat (first | exact Ext.refl _ | assumption | apply Ext.xt | apply Ext.alloc | apply Ext.drew | apply Ext.drewN)) (Own.swapped HM.out (by simp [go_sem]) (by repeat (first | exact Ext.refl _ | assumption | apply Ext.xt | apply Ext.alloc | apply Ext.drew | apply Ext.drewN))).sl) HM.out.le HM.out.cap ?_⟩
          rw [List.map_set]
          first
            | exact Own.swapped HS.out (by simp [go_sem]) (by repeat (first | exact Ext.refl _ | assumption | apply Ext.xt | apply Ext.alloc | apply Ext.drew | apply Ext.drewN))
            | exact Own.split HS.out (by simp [go_sem]) HG.out.1 (by have h := HG.out.2; rw [xt_size] at h; rw [hyz]; exact h) (.inl rfl)
  · have hE' : (cueE c != 0) = true := by simpa using hE
    have HV := Lib.hid (show setV c part t = (emptyC, cueE c) by unfold setV; rw [if_pos hE])
    clear hc hE
    simp only [cueV, tmg]
    go_enter Try.func39, Try.ntmps39
    go_wp2_with (first | (go_at_call 53; refine (r16_Check c A k B m _ (HC.out.mono (by repeat (first | exact Ext.refl _ | assumption | apply Ext.xt | apply Ext.alloc | apply Ext.drew | apply Ext.drewN)))).mono ?_; rintro e w' ⟨rfl, hx⟩; obtain ⟨ya, rfl⟩ := hx.get; clear hx) | (go_at_call 25; refine (r21_Check t _).mono ?_; rintro e w' ⟨rfl, hx⟩; obtain ⟨yb, rfl⟩ := hx.get; clear hx))
    refine bodyPost_ret (v := .tuple #[.agg (cueV emptyC none 0 none 0).toArray, .int .i64 (cueE c)]) (by simp [results, Try.results39, go_sem, cueV, emptyC]) rfl (RetCue.empty HV.out rfl (by repeat (first | exact Ext.refl _ | assumption | apply Ext.xt | apply Ext.alloc | apply Ext.drew | apply Ext.drewN)))
end

set_option maxHeartbeats 1600000 in
set_option maxRecDepth 100000 in
theorem l21_TimingSets (c : Cue) (A : Option Addr) (k : Nat) (B : Option Addr) (m : Nat) (part : Int) (t : Timing) (w : World) (hc : CueAt w c A k B m) : Calls Try.prog 8 #[.agg (cueV c A k B m).toArray, .int .i64 part, .agg (tmg t).toArray] w fun e w' => e = .returned (.bool true) ∧ Ext w w' := by
  have HC := Lib.hid hc
  clear hc
  simp only [cueV, tmg]
  go_enter Try.func8, Try.ntmps8
  go_wp2_with (first
    | (go_at_call 27; refine (r16_Few c A k B m _).mono ?_; rintro e w' ⟨rfl, hx⟩; obtain ⟨y, rfl⟩ := hx.get; clear hx)
    | (go_at_call 26; refine (l21_awake _).mono ?_; rintro e w' ⟨rfl, hx⟩; obtain ⟨y, rfl⟩ := hx.get; clear hx)
    | (go_at_call 38; refine (tim_Set c A k B m part t _ (HC.out.mono (by repeat (first | exact Ext.refl _ | assumption | apply Ext.xt | apply Ext.alloc | apply Ext.drew | apply Ext.drewN)))).mono ?_; rintro e w' ⟨A1, k1, B1, m1, he, hx, h1⟩; simp only [cueV] at he; subst he; have H1 := Lib.hid h1; obtain ⟨y1, rfl⟩ := hx.get; clear hx h1)
    | (go_at_call 39; refine (r21_Set c A k B m part t _ (HC.out.mono (by repeat (first | exact Ext.refl _ | assumption | apply Ext.xt | apply Ext.alloc | apply Ext.drew | apply Ext.drewN)))).mono ?_; rintro e w' ⟨A2, k2, B2, m2, he, hx, h2⟩; simp only [cueV] at he; subst he; have H2 := Lib.hid h2; obtain ⟨y2, rfl⟩ := hx.get; clear hx h2)
    | (go_at_call 40; refine (r16_Same (setV c part t).1 A1 k1 B1 m1 (setV c part t).1 A2 k2 B2 m2 _ (H1.out.mono (by repeat (first | exact Ext.refl _ | assumption | apply Ext.xt | apply Ext.alloc | apply Ext.drew | apply Ext.drewN))) (H2.out.mono (by repeat (first | exact Ext.refl _ | assumption | apply Ext.xt | apply Ext.alloc | apply Ext.drew | apply Ext.drewN)))).mono ?_; rintro e w' ⟨rfl, hx⟩; obtain ⟨y, rfl⟩ := hx.get; clear hx))
  all_goals (go_ret; exact ⟨rfl, by repeat (first | exact Ext.refl _ | assumption | apply Ext.xt | apply Ext.alloc | apply Ext.drew | apply Ext.drewN)⟩)
end Go.Proofs.Ytgmicckeefoghaa
