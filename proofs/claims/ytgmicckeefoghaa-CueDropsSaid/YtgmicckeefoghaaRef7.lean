/-
  The reference's Packed and Pack.
-/
import Derived.Test.YtgmicckeefoghaaPack
import Derived.Test.YtgmicckeefoghaaRef4
namespace Go.Proofs.Ytgmicckeefoghaa
open Go.RowKit

def i1 (z : Int) : List Value := [.int .i64 z]
theorem packC_mlen (c : Cue) : (packC c).moves.length = c.moves.length := packM_len _ _
theorem getD_set_int (l : List Int) (j : Nat) (hj : j + 1 < l.length) (v : Int) (q : Int) : (l.set (j + 1) v).getD q.toNat 0 = if q = (j : Int) + 1 then v else l.getD q.toNat 0 := by
  simp only [List.getD_eq_getElem?_getD, List.getElem?_set]
  by_cases h : q = (j : Int) + 1
  · rw [if_pos h, if_pos (by omega), if_pos (by omega)]; rfl
  · rw [if_neg h, if_neg (by omega)]
theorem i1_one (l : List Int) : ∀ r ∈ l.map i1, ∀ u ∈ r, u.oneCell' = true := fun r hr u hu => by
  obtain ⟨z, _, rfl⟩ := List.mem_map.1 hr
  simp [i1] at hu
  subst hu; rfl
theorem made_ints (n : Nat) : madeCells #[.int .i64 0] (n * 1) = ((List.replicate n (0 : Int)).map i1).flatten.toArray ++ #[] := by
  have h : ((List.replicate n (0 : Int)).map i1).flatten = List.replicate n (.int .i64 0) := by
    induction n with
    | zero => rfl
    | succ n ih => rw [List.replicate_succ, List.map_cons, List.flatten_cons, ih, List.replicate_succ]; rfl
  rw [h]
  apply Array.ext
  · simp [madeCells]
  · intro i h1 h2
    simp [madeCells, Nat.mod_one]
theorem run_store_int (W : World) (g i : Nat) (u : Int) (h1 : (W.cell? ⟨g, i, none⟩).isSome = true) (h2 : W.frozen? ⟨g, i, none⟩ = false) : (storeVar 3 ⟨g, i, none⟩ (.int .i64 u)).run Try.prog W = .ok () (W.setCell ⟨g, i, none⟩ (.int .i64 u)) := by
  have hi : (Try.prog.info? 3).map (·.size) = some 1 := by kernel_rfl
  cases hq : Try.prog.info? 3 with
  | none => simp [hq] at hi
  | some q =>
    have hs : q.size = 1 := by simpa [hq] using hi
    obtain ⟨v, hv⟩ := Option.isSome_iff_exists.1 h1
    simp [storeVar, sizeOf, typeInfo, hq, hs, go_sem, hv, h2]
/-- An object that stands behind Y is a slice of integers that the call made itself. -/
def Ints (Y : World) (ob : Obj) (n k : Nat) (l : List Int) : Prop := ∀ y, Own Y (xt (Y.alloc ob) y) 3 1 (some ⟨Y.heap.size, 0, none⟩) n k (l.map i1)
theorem Ints.of {Y : World} {ob : Obj} {y : Gr} {n k : Nat} {l : List Int} (h : Own Y (xt (Y.alloc ob) y) 3 1 (some ⟨Y.heap.size, 0, none⟩) n k (l.map i1)) : Ints Y ob n k l := fun y' => by
  refine ⟨h.len, h.row, h.one, h.le, h.cap, ?_⟩
  rcases h.at_ with h0 | ⟨g, cur, h1, h2, h3, h4⟩
  · exact .inl h0
  · obtain rfl : Y.heap.size = g := by injection h1 with h1; injection h1
    exact .inr ⟨_, cur, h1, h2, by rw [xt_top] at h3 ⊢; exact h3, h4⟩
section
variable {ops : Array Oper} {rest : List Oper} {o : Oper} {a : Act} {Q : Exit → Act → World → Prop}
/-- make([]int, n). -/
theorem wpList_make_ints {W : World} (hg : o.guard = none) (l c : Operand) (hop : o.op = Op.makeSlice 123 l c) (n : Nat) (hl : a.eval l = .int .i64 (n : Int)) (hc : a.eval c = .int .i64 (n : Int)) (hn : n ≤ 1000000)
    (hK : ∀ ob, Ints W ob n n (List.replicate n (0 : Int)) → wpList Try.prog ops Q rest (a.put o.dst (.slice (some ⟨W.heap.size, 0, none⟩) n n)) (W.alloc ob)) : wpList Try.prog ops Q (o :: rest) a W := by
  have hi : infoOk Try.prog 3 1 8 = true := by kernel_rfl
  obtain ⟨i, z, h1, h2, h3, h4, h5⟩ := infoOk_get hi
  have hz : z = .int .i64 0 := by
    have h6 : (Try.prog.info? 3).bind (·.zero) = some (.int .i64 0) := by kernel_rfl
    rw [h1] at h6
    simpa [h2] using h6
  subst hz
  refine wpList_plain hg fun K' hK' => ?_
  have hrun := run_make (P := Try.prog) W 123 3 i (.int .i64 0) Try.underlying123 h1 h2 .i64 .i64 n n (by omega) (Int.le_refl _) (by rw [h4]; omega) (by omega)
  have hown := Own.new (w0 := W) (W := W) (E := 3) (size := 1) (n' := n) (k' := n) (all := (List.replicate n (0 : Int)).map i1) (rest := #[]) (Ext.refl W) (by simp) (by simp [i1]) (i1_one _) (Nat.le_refl _) (by unfold maxLen; omega) (by simp)
  rw [← made_ints] at hown
  unfold Oper.wp
  simp [execOp, hop, hl, hc, hrun, Result.andThen]
  rw [h3]
  refine hK' _ _ (hK _ ?_)
  obtain ⟨y, hy⟩ := (Ext.refl (W.alloc (.cells (madeCells #[.int .i64 0] (n * 1)) 3))).get
  rw [hy] at hown
  exact Ints.of hown
variable {Y : World} {y : Gr} {ob : Obj}
/-- A store into the slice of integers that stands at the end of the old blocks. -/
theorem wpList_int_top (hg : o.guard = none) (p v : Operand) (hop : o.op = .store 3 p v) (n k i : Nat) (l : List Int) (u : Int) (hp : a.eval p = .pointer (some ⟨Y.heap.size, i, none⟩)) (hv : a.eval v = .int .i64 u)
    (hown0 : Ints Y ob n k l) (hi : i < n)
    (hK : ∀ ob' y', Ints Y ob' n k (l.set i u) → (xt (Y.alloc ob) y).grownBy (xt (Y.alloc ob') y') (some Y.heap.size) → wpList Try.prog ops Q rest (a.put o.dst undef) (xt (Y.alloc ob') y')) : wpList Try.prog ops Q (o :: rest) a (xt (Y.alloc ob) y) := by
  have hown := hown0 y
  obtain ⟨g, hgA, hge, hth⟩ := hown.there hi
  obtain rfl : Y.heap.size = g := by injection hgA with hgA; injection hgA
  have h0 := hth 0 (by decide)
  simp only [Nat.mul_one, Nat.add_zero] at h0
  have hset := hown.put1 (i := i) (j := 0) (row := i1 (l[i]'(by have := hown.len; simp at this; omega))) (by rw [List.getElem?_map, List.getElem?_eq_getElem]; rfl) rfl (by decide) (v := .int .i64 u) rfl
  have hgr : (xt (Y.alloc ob) y).grownBy ((xt (Y.alloc ob) y).setCell ⟨Y.heap.size, i * 1 + 0, none⟩ (.int .i64 u)) (some Y.heap.size) :=
    ⟨rfl, rfl, rfl, by simp [World.setCell], fun j _ hne => heap_setCell_other _ _ j _ (fun e => hne (by rw [e]))⟩
  obtain ⟨ob', y', he⟩ := grown_top hgr
  rw [he] at hset hgr
  have hrun := run_store_int (xt (Y.alloc ob) y) Y.heap.size i u h0.1 h0.2
  simp only [Nat.mul_one, Nat.add_zero] at he
  rw [he] at hrun
  refine wpList_plain hg fun K' hK' => ?_
  unfold Oper.wp execOp
  simp only [hop, hp, hv, Instr.storeAt, Instr.sureAddr, Sem.run_bind, Sem.run_pure, Result.andThen_ok, hrun]
  refine hK' _ _ (hK ob' y' (Ints.of (y := y') ?_) hgr)
  rw [List.map_set]
  exact hset
end

set_option maxHeartbeats 1600000 in
set_option maxRecDepth 100000 in
theorem r16_Packed (c : Cue) (A : Option Addr) (k : Nat) (B : Option Addr) (m : Nat) (w : World) (hc : CueAt w c A k B m) (hE : cueE c = 0) :
    Calls Try.prog 103 #[.agg (cueV c A k B m).toArray] w fun e w' => ∃ A' k' B' m', e = .returned (.agg (cueV (packC c) A' k' B' m').toArray) ∧ Ext w w' ∧ Own w w' 90 5 A' c.moves.length k' ((packC c).moves.map mv) ∧ Own w w' 23 6 B' (packC c).parts.length m' ((packC c).parts.map tmg) := by
  have HC := Lib.hid hc
  have hmv := (movesE_scan (cueE_ok hE).2.2.1).1
  have hpl := (parts_len hE).2
  have hs := hc.mv
  have hp := hc.pt
  have HP := Lib.hid (parts_in hE)
  clear hc hE
  simp only [cueV]
  go_enter Try.func103, Try.ntmps103
  go_wp2_with (at_make; refine wpList_make_ints rfl _ _ rfl (c.parts.length + 1) (by rfl) (by rfl) (by omega) ?_; intro ob hown; have HT := Lib.hid hown; clear hown)
  go_loopg [3, 5] c.parts.length (fun g s i wr => ∃ (j : Nat) (D : Option Addr) (q d : Nat) (o : List Timing) (l : List Int) (ob : Obj), j + g = c.parts.length ∧ i = .int .i64 ((j : Int) + 1) ∧ s = .slice D q d ∧ q ≤ j ∧ Ext (((w.alloc (.cells #[.string c.number, .string c.label, .slice A c.moves.length k, .slice B c.parts.length m, .bool c.block, .bool c.mark, .int .i64 c.follow, .string c.link, .int .i64 c.loops] 38)).alloc (.cells #[.string ⟨#[]⟩, .string ⟨#[]⟩, .slice none 0 0, .slice none 0 0, .bool false, .bool false, .int .i64 0, .string ⟨#[]⟩, .int .i64 0] 38)).alloc ob) wr ∧ Hid (o = packT c.moves c.parts j) ∧ Hid (q = cntP c.moves j) ∧ Hid (Own (((w.alloc (.cells #[.string c.number, .string c.label, .slice A c.moves.length k, .slice B c.parts.length m, .bool c.block, .bool c.mark, .int .i64 c.follow, .string c.link, .int .i64 c.loops] 38)).alloc (.cells #[.string ⟨#[]⟩, .string ⟨#[]⟩, .slice none 0 0, .slice none 0 0, .bool false, .bool false, .int .i64 0, .string ⟨#[]⟩, .int .i64 0] 38)).alloc ob) wr 23 6 D q d (o.map tmg)) ∧ Hid (Ints ((w.alloc (.cells #[.string c.number, .string c.label, .slice A c.moves.length k, .slice B c.parts.length m, .bool c.block, .bool c.mark, .int .i64 c.follow, .string c.link, .int .i64 c.loops] 38)).alloc (.cells #[.string ⟨#[]⟩, .string ⟨#[]⟩, .slice none 0 0, .slice none 0 0, .bool false, .bool false, .int .i64 0, .string ⟨#[]⟩, .int .i64 0] 38)) ob (c.parts.length + 1) (c.parts.length + 1) l) ∧ Hid (PackF c.moves j (fun z => l.getD z.toNat 0)))
  case atStart => exact ⟨0, none, 0, 0, [], List.replicate (c.parts.length + 1) 0, ob, by omega, rfl, rfl, by omega, Ext.refl _, Lib.hid (by simp [packT]), Lib.hid rfl, Lib.hid (Own.nil _), HT, Lib.hid (PackF.start _ _)⟩
  case round =>
    clear HT
    obtain ⟨j, D, q, d, o, l, ob, hj, rfl, rfl, hq, hx, HO1, HQ, HO, HI, HF⟩ := hrel
    obtain ⟨y, rfl⟩ := hx.get
    clear hx
    by_cases hlt : j < c.parts.length
    · obtain ⟨g, rfl⟩ : ∃ g, gk = g + 1 := ⟨gk - 1, by omega⟩
      obtain ⟨t, ht⟩ : ∃ t, c.parts[j]? = some t := ⟨_, List.getElem?_eq_getElem hlt⟩
      have HT := Lib.hid (packT_step c.moves ht)
      have HC1 := Lib.hid (cntP_step c.moves j)
      obtain ⟨b', of, rfl, hc0, hc1, hc2, hc3, hc4, hc5⟩ := hp.row6 (i := j) (by rw [List.getElem?_map, ht]; rfl)
      have hb0 : (0 : Int) ≤ (j : Int) := by omega
      have hb1 : (j : Int) < (c.parts.length : Int) := by omega
      clear ht hp
      by_cases hj0 : j = 0
      · have hz : ((j : Int) + 1 == 1) = true := by simp [hj0]
        have HK := Lib.hid (show keepB c.moves j = true by rw [hj0]; rfl)
        clear hj0
        go_wp2_with (first
          | (at_builtin; refine wpList_append_mine (w0 := ((w.alloc (.cells #[.string c.number, .string c.label, .slice A c.moves.length k, .slice (some ⟨b', of, none⟩) c.parts.length m, .bool c.block, .bool c.mark, .int .i64 c.follow, .string c.link, .int .i64 c.loops] 38)).alloc (.cells #[.string ⟨#[]⟩, .string ⟨#[]⟩, .slice none 0 0, .slice none 0 0, .bool false, .bool false, .int .i64 0, .string ⟨#[]⟩, .int .i64 0] 38)).alloc ob) rfl _ _ 36 36 rfl 23 23 6 48 Try.underlying36 Try.underlying36 info_T (by decide) (by repeat (first | exact Ext.refl _ | assumption | apply Ext.xt | apply Ext.alloc | apply Ext.drew | apply Ext.drewN)) D q d (o.map tmg) rfl (HO.out.mono (by repeat (first | exact Ext.refl _ | assumption | apply Ext.xt | apply Ext.alloc | apply Ext.drew | apply Ext.drewN))) _ 1 1 [tmg t] rfl (Sl.alloc' (by simp [go_sem]) rfl (by simp [tmg])) rfl (tmg_one [t]) (by unfold maxLen; omega) (by omega) (q + 1) rfl (o.map tmg ++ [tmg t]) rfl ?_; intro D1 c1 w1 hx1 hown hg hA; have HO2 := Lib.hid hown; obtain ⟨y1, rfl⟩ := hx1.get; clear hown hx1 hg hA)
          | (refine wpList_int_top rfl _ _ rfl (c.parts.length + 1) (c.parts.length + 1) (j + 1) l ((q : Int) + 1) (by simp [go_sem]) (by rfl) HI.out (by omega) ?_; intro ob2 y2 hob hgr; have HI2 := Lib.hid hob; have HG := Lib.hid hgr; clear hob hgr))
        go_roundg g
        case measure => omega
        case rel => exact ⟨j + 1, D1, q + 1, c1, o ++ [t], l.set (j + 1) ((q : Int) + 1), ob2, by omega, by go_num, rfl, by omega, by repeat (first | exact Ext.refl _ | assumption | apply Ext.xt | apply Ext.alloc | apply Ext.drew | apply Ext.drewN), Lib.hid (by rw [HT.out, HO1.out, HK.out]; rfl), Lib.hid (by rw [HC1.out, HQ.out, HK.out]; rfl), Lib.hid (by rw [← tmg_app]; exact Own.since (Own.past HO2.out HG.out (by simp)) (by simp)), HI2, Lib.hid (by have h := HF.out.put HK.out; rw [← HQ.out] at h; have hl := (HI.out ⟨#[], 0⟩).len; simp only [List.length_map] at hl; intro m hm h1 h2; show (l.set (j + 1) ((q : Int) + 1)).getD m.part.toNat 0 = _; rw [getD_set_int l j (by omega)]; exact h m hm h1 h2)⟩
      · have hz : ((j : Int) + 1 == 1) = false := by simp; omega
        have HJ := Lib.hid hj0
        clear hj0
        cases hu : usedB c.moves ((j : Int) + 1)
        · have hsl : (splitM c.moves ((j : Int) + 1)).length = 0 := by
            rw [List.length_eq_zero_iff]
            unfold splitM
            rw [List.filter_eq_nil_iff]
            intro x hx
            have := List.any_eq_false.1 hu x hx
            simpa using this
          have HK := Lib.hid (show keepB c.moves j = false by rw [keep_pos _ HJ.out]; exact hu)
          have HU := Lib.hid hu
          clear hu
          go_wp2_with (go_at_call 131; refine (r16_Part A k c.moves ((j : Int) + 1) _ (HC.out.mv.mono (by repeat (first | exact Ext.refl _ | assumption | apply Ext.xt | apply Ext.alloc | apply Ext.drew | apply Ext.drewN))) (by omega)).mono ?_; rintro e w' ⟨P, n1, rfl, hx, hown⟩; obtain ⟨ym, rfl⟩ := hx.get; clear hx hown)
          go_roundg g
          case measure => omega
          case rel => exact ⟨j + 1, D, q, d, o, l, ob, by omega, by go_num, rfl, by omega, by repeat (first | exact Ext.refl _ | assumption | apply Ext.xt | apply Ext.alloc | apply Ext.drew | apply Ext.drewN), Lib.hid (by rw [HT.out, HO1.out, HK.out]; simp), Lib.hid (by rw [HC1.out, HQ.out, HK.out]; rfl), Lib.hid (HO.out.mono (by repeat (first | exact Ext.refl _ | assumption | apply Ext.xt | apply Ext.alloc | apply Ext.drew | apply Ext.drewN))), HI, Lib.hid (HF.out.skip HU.out)⟩
        · have hsl : 0 < (splitM c.moves ((j : Int) + 1)).length := by
            obtain ⟨x, hx, he⟩ := List.any_eq_true.1 hu
            exact List.length_pos_of_mem (a := x) (List.mem_filter.2 ⟨hx, by simpa using he⟩)
          have HK := Lib.hid (show keepB c.moves j = true by rw [keep_pos _ HJ.out]; exact hu)
          clear hu
          go_wp2_with (first
            | (go_at_call 131; refine (r16_Part A k c.moves ((j : Int) + 1) _ (HC.out.mv.mono (by repeat (first | exact Ext.refl _ | assumption | apply Ext.xt | apply Ext.alloc | apply Ext.drew | apply Ext.drewN))) (by omega)).mono ?_; rintro e w' ⟨P, n1, rfl, hx, hown⟩; obtain ⟨ym, rfl⟩ := hx.get; clear hx hown)
            | (at_builtin; refine wpList_append_mine (w0 := ((w.alloc (.cells #[.string c.number, .string c.label, .slice A c.moves.length k, .slice (some ⟨b', of, none⟩) c.parts.length m, .bool c.block, .bool c.mark, .int .i64 c.follow, .string c.link, .int .i64 c.loops] 38)).alloc (.cells #[.string ⟨#[]⟩, .string ⟨#[]⟩, .slice none 0 0, .slice none 0 0, .bool false, .bool false, .int .i64 0, .string ⟨#[]⟩, .int .i64 0] 38)).alloc ob) rfl _ _ 36 36 rfl 23 23 6 48 Try.underlying36 Try.underlying36 info_T (by decide) (by repeat (first | exact Ext.refl _ | assumption | apply Ext.xt | apply Ext.alloc | apply Ext.drew | apply Ext.drewN)) D q d (o.map tmg) rfl (HO.out.mono (by repeat (first | exact Ext.refl _ | assumption | apply Ext.xt | apply Ext.alloc | apply Ext.drew | apply Ext.drewN))) _ 1 1 [tmg t] rfl (Sl.alloc' (by simp [go_sem]) rfl (by simp [tmg])) rfl (tmg_one [t]) (by unfold maxLen; omega) (by omega) (q + 1) rfl (o.map tmg ++ [tmg t]) rfl ?_; intro D1 c1 w1 hx1 hown hg hA; have HO2 := Lib.hid hown; obtain ⟨y1, rfl⟩ := hx1.get; clear hown hx1 hg hA)
            | (refine wpList_int_top rfl _ _ rfl (c.parts.length + 1) (c.parts.length + 1) (j + 1) l ((q : Int) + 1) (by simp [go_sem]) (by rfl) HI.out (by omega) ?_; intro ob2 y2 hob hgr; have HI2 := Lib.hid hob; have HG := Lib.hid hgr; clear hob hgr))
          go_roundg g
          case measure => omega
          case rel => exact ⟨j + 1, D1, q + 1, c1, o ++ [t], l.set (j + 1) ((q : Int) + 1), ob2, by omega, by go_num, rfl, by omega, by repeat (first | exact Ext.refl _ | assumption | apply Ext.xt | apply Ext.alloc | apply Ext.drew | apply Ext.drewN), Lib.hid (by rw [HT.out, HO1.out, HK.out]; rfl), Lib.hid (by rw [HC1.out, HQ.out, HK.out]; rfl), Lib.hid (by rw [← tmg_app]; exact Own.since (Own.past HO2.out HG.out (by simp)) (by simp)), HI2, Lib.hid (by have h := HF.out.put HK.out; rw [← HQ.out] at h; have hl := (HI.out ⟨#[], 0⟩).len; simp only [List.length_map] at hl; intro m hm h1 h2; show (l.set (j + 1) ((q : Int) + 1)).getD m.part.toNat 0 = _; rw [getD_set_int l j (by omega)]; exact h m hm h1 h2)⟩
    · have HO3 := Lib.hid (show o = packT c.moves c.parts c.parts.length by rw [HO1.out, show j = c.parts.length by omega])
      have HF3 := Lib.hid (show PackF c.moves c.parts.length (fun z => l.getD z.toNat 0) by rw [show c.parts.length = j by omega]; exact HF.out)
      have HL := Lib.hid (show q = o.length by rw [HO1.out, HQ.out, packT_len _ _ _ (by omega)])
      clear hp
      go_wp2
      go_loopw [6, 7] (fun s i wr => ∃ (u : Nat) (M : Option Addr) (q2 d2 : Nat) (ol : List Move), u ≤ c.moves.length ∧ i = .int .i64 u ∧ s = .slice M q2 d2 ∧ q2 = u ∧ Hid (ol = packM c.moves (c.moves.take u)) ∧ Ext (xt (((w.alloc (.cells #[.string c.number, .string c.label, .slice A c.moves.length k, .slice B c.parts.length m, .bool c.block, .bool c.mark, .int .i64 c.follow, .string c.link, .int .i64 c.loops] 38)).alloc (.cells #[.string ⟨#[]⟩, .string ⟨#[]⟩, .slice none 0 0, .slice none 0 0, .bool false, .bool false, .int .i64 0, .string ⟨#[]⟩, .int .i64 0] 38)).alloc ob) y) wr ∧ Hid (Own (xt (((w.alloc (.cells #[.string c.number, .string c.label, .slice A c.moves.length k, .slice B c.parts.length m, .bool c.block, .bool c.mark, .int .i64 c.follow, .string c.link, .int .i64 c.loops] 38)).alloc (.cells #[.string ⟨#[]⟩, .string ⟨#[]⟩, .slice none 0 0, .slice none 0 0, .bool false, .bool false, .int .i64 0, .string ⟨#[]⟩, .int .i64 0] 38)).alloc ob) y) wr 90 5 M q2 d2 (ol.map mv))) (fun _ i _ => c.moves.length - (intOf i).toNat)
      case atStart => exact ⟨0, none, 0, 0, [], by omega, rfl, rfl, rfl, Lib.hid (by simp [packM]), Ext.refl _, Lib.hid (Own.nil _)⟩
      case round =>
        obtain ⟨u, M, q2, d2, ol, hu, rfl, rfl, hq2, HE, hx, HM⟩ := hrel
        by_cases hlt2 : u < c.moves.length
        · obtain ⟨x, hxu⟩ : ∃ x, c.moves[u]? = some x := ⟨_, List.getElem?_eq_getElem hlt2⟩
          have hxm := List.mem_of_getElem? hxu
          have HPX := HP.out x hxm
          have hfx := HF3.out x hxm HPX.1 HPX.2
          have HS := Lib.hid (show packM c.moves (c.moves.take (u + 1)) = packM c.moves (c.moves.take u) ++ [{ x with part := (cntP c.moves x.part.toNat : Int) }] by
            obtain ⟨h1, h2⟩ := List.getElem?_eq_some_iff.1 hxu
            rw [List.take_succ_eq_append_getElem h1, h2]; simp [packM])
          obtain ⟨b2, o2, rfl, hd0, hd1, hd2, hd3, hd4⟩ := hs.row5 (i := u) (by rw [List.getElem?_map, hxu]; rfl)
          have hw : Ext w wr := Ext.trans (by repeat (first | exact Ext.refl _ | assumption | apply Ext.xt | apply Ext.alloc | apply Ext.drew | apply Ext.drewN)) hx
          have e0 := hw.cell hd0
          have e1 := hw.cell hd1
          have e2 := hw.cell hd2
          have e3 := hw.cell hd3
          have e4 := hw.cell hd4
          have hB2 : wr.cell? ⟨w.heap.size, 2, none⟩ = some (.slice (some ⟨b2, o2, none⟩) c.moves.length k) := hx.cell (by simp [go_sem])
          obtain ⟨p, hpx⟩ : ∃ p : Nat, x.part = (p : Int) := ⟨x.part.toNat, by omega⟩
          have HPP := Lib.hid hpx
          rw [hpx] at e4 hfx HPX
          simp only [Int.toNat_natCast] at hfx
          have htc : wr.cell? ⟨w.heap.size + 1 + 1, p, none⟩ = some (.int .i64 (cntP c.moves p : Int)) := by
            have hll := (HI.out y).len
            simp only [List.length_map] at hll
            have hlp : l[p]? = some (cntP c.moves p : Int) := by
              rw [List.getD_eq_getElem?_getD, List.getElem?_eq_getElem (by omega)] at hfx
              rw [List.getElem?_eq_getElem (by omega)]
              simpa using hfx
            obtain ⟨g, hg, hcell⟩ := (HI.out y).get p [.int .i64 (cntP c.moves p : Int)] (by rw [List.getElem?_map, hlp]; rfl)
            have h := hcell 0 _ rfl
            injection hg with hg
            injection hg with hg
            subst hg
            simp only [Nat.mul_one, Nat.add_zero] at h
            have h2 := hx.cell h
            simpa using h2
          have hp1 : (p : Int) < (c.parts.length : Int) + 1 := by omega
          have hp2 : p < c.parts.length + 1 := by omega
          have hp0 : (0 : Int) ≤ (p : Int) := by omega
          have hb0 : (0 : Int) ≤ (u : Int) := by omega
          have hb1 : (u : Int) < (c.moves.length : Int) := by omega
          have HQ2 := Lib.hid hq2
          have hq3 : q2 ≤ 128 := by omega
          clear hxu hxm hfx hd0 hd1 hd2 hd3 hd4 hw hpx hq2 HPX
          go_wp2_with (at_builtin; refine wpList_append_mine (w0 := (xt (((w.alloc (.cells #[.string c.number, .string c.label, .slice (some ⟨b2, o2, none⟩) c.moves.length k, .slice B c.parts.length m, .bool c.block, .bool c.mark, .int .i64 c.follow, .string c.link, .int .i64 c.loops] 38)).alloc (.cells #[.string ⟨#[]⟩, .string ⟨#[]⟩, .slice none 0 0, .slice none 0 0, .bool false, .bool false, .int .i64 0, .string ⟨#[]⟩, .int .i64 0] 38)).alloc ob) y)) rfl _ _ 35 35 rfl 90 90 5 40 Try.underlying35 Try.underlying35 info_M (by decide) (by repeat (first | exact Ext.refl _ | assumption | apply Ext.xt | apply Ext.alloc | apply Ext.drew | apply Ext.drewN)) M q2 d2 (ol.map mv) rfl (HM.out.mono (by repeat (first | exact Ext.refl _ | assumption | apply Ext.xt | apply Ext.alloc | apply Ext.drew | apply Ext.drewN))) _ 1 1 [mv ⟨x.p, x.v, (cntP c.moves p : Int)⟩] rfl (Sl.alloc' (by simp [go_sem]) rfl (by simp [mv])) rfl (mv_one [⟨x.p, x.v, (cntP c.moves p : Int)⟩]) (by unfold maxLen; omega) (by omega) (q2 + 1) rfl (ol.map mv ++ [mv ⟨x.p, x.v, (cntP c.moves p : Int)⟩]) rfl ?_; intro D1 c1 w1 hx1 hown hg hA; have HM2 := Lib.hid hown; obtain ⟨y1, rfl⟩ := hx1.get; clear hown hx1 hg hA)
          go_light
          exact ⟨⟨u + 1, D1, q2 + 1, c1, ol ++ [⟨x.p, x.v, (cntP c.moves p : Int)⟩], by omega, by go_num, rfl, by have := HQ2.out; omega, Lib.hid (by rw [HS.out, HE.out, HPP.out]; rfl), by repeat (first | exact Ext.refl _ | assumption | apply Ext.xt | apply Ext.alloc | apply Ext.drew | apply Ext.drewN), Lib.hid (by rw [← mv_app]; exact HM2.out)⟩, by simp [intOf]; omega⟩
        · obtain ⟨y3, rfl⟩ := hx.get
          have HE2 := Lib.hid (show ol = packM c.moves c.moves by rw [HE.out, List.take_of_length_le (by omega)])
          obtain rfl : u = c.moves.length := by omega
          clear hx
          subst hq2
          go_wp2
          have hql := HL.out
          subst hql
          have hol := HE2.out
          subst hol
          have hoo := HO3.out
          subst hoo
          refine bodyPost_ret (v := .agg (cueV (packC c) M d2 D d).toArray) (by simp [results, Try.results103, go_sem, cueV, packC, packM_len]) rfl ⟨M, d2, D, d, rfl, by repeat (first | exact Ext.refl _ | assumption | apply Ext.xt | apply Ext.alloc | apply Ext.drew | apply Ext.drewN), Own.upon (by repeat (first | exact Ext.refl _ | assumption | apply Ext.xt | apply Ext.alloc | apply Ext.drew | apply Ext.drewN)) (Own.swapped (w := w) HM.out (by simp [go_sem]) (by repeat (first | exact Ext.refl _ | assumption | apply Ext.xt | apply Ext.alloc | apply Ext.drew | apply Ext.drewN))), Own.upon (by repeat (first | exact Ext.refl _ | assumption | apply Ext.xt | apply Ext.alloc | apply Ext.drew | apply Ext.drewN)) (Own.swapped (w := w) HO.out (by simp [go_sem]) (by repeat (first | exact Ext.refl _ | assumption | apply Ext.xt | apply Ext.alloc | apply Ext.drew | apply Ext.drewN)))⟩
set_option maxHeartbeats 1600000 in
set_option maxRecDepth 100000 in
theorem r16_PackO (c : Cue) (A : Option Addr) (k : Nat) (B : Option Addr) (m : Nat) (w : World) (hc : CueAt w c A k B m) :
    Calls Try.prog 52 #[.agg (cueV c A k B m).toArray] w (RetCueO w (packV c)) := by
  have HC := Lib.hid hc
  simp only [cueV]
  by_cases hE : cueE c = 0
  · have hE' : (cueE c != 0) = false := by simpa using hE
    have HE := Lib.hid hE
    have HV := Lib.hid (packV_ok hE)
    clear hc hE
    go_enter Try.func52, Try.ntmps52
    go_wp2_with (first
      | (go_at_call 53; refine (r16_Check c A k B m _ (HC.out.mono (by repeat (first | exact Ext.refl _ | assumption | apply Ext.xt | apply Ext.alloc | apply Ext.drew | apply Ext.drewN)))).mono ?_; rintro e w' ⟨rfl, hx⟩; obtain ⟨ya, rfl⟩ := hx.get; clear hx)
      | (go_at_call 103; refine (r16_Packed c A k B m _ (HC.out.mono (by repeat (first | exact Ext.refl _ | assumption | apply Ext.xt | apply Ext.alloc | apply Ext.drew | apply Ext.drewN))) HE.out).mono ?_; rintro e w' ⟨A1, k1, B1, m1, he, hx, h1, h2⟩; simp only [cueV] at he; subst he; have H1 := Lib.hid h1; have H2 := Lib.hid h2; obtain ⟨y1, rfl⟩ := hx.get; clear hx h1 h2))
    refine bodyPost_ret (v := .tuple #[.agg (cueV (packC c) A1 k1 B1 m1).toArray, .int .i64 0]) (by simp [results, Try.results52, go_sem, cueV]) rfl ?_
    rw [HV.out]
    refine ⟨A1, k1, B1, m1, rfl, by repeat (first | exact Ext.refl _ | assumption | apply Ext.xt | apply Ext.alloc | apply Ext.drew | apply Ext.drewN), ⟨?_, Own.upon (by repeat (first | exact Ext.refl _ | assumption | apply Ext.xt | apply Ext.alloc | apply Ext.drew | apply Ext.drewN)) (Own.swapped (w := w) H2.out (by simp [go_sem]) (by repeat (first | exact Ext.refl _ | assumption | apply Ext.xt | apply Ext.alloc | apply Ext.drew | apply Ext.drewN))), HC.out.num, HC.out.lab, HC.out.lnk⟩⟩
    rw [packC_mlen]
    exact Own.upon (by repeat (first | exact Ext.refl _ | assumption | apply Ext.xt | apply Ext.alloc | apply Ext.drew | apply Ext.drewN)) (Own.swapped (w := w) H1.out (by simp [go_sem]) (by repeat (first | exact Ext.refl _ | assumption | apply Ext.xt | apply Ext.alloc | apply Ext.drew | apply Ext.drewN)))
  · have hE' : (cueE c != 0) = true := by simpa using hE
    have HV := Lib.hid (show packV c = (emptyC, cueE c) by unfold packV; rw [if_pos hE])
    clear hc hE
    go_enter Try.func52, Try.ntmps52
    go_wp2_with (go_at_call 53; refine (r16_Check c A k B m _ (HC.out.mono (by repeat (first | exact Ext.refl _ | assumption | apply Ext.xt | apply Ext.alloc | apply Ext.drew | apply Ext.drewN)))).mono ?_; rintro e w' ⟨rfl, hx⟩; obtain ⟨ya, rfl⟩ := hx.get; clear hx)
    refine bodyPost_ret (v := .tuple #[.agg (cueV emptyC none 0 none 0).toArray, .int .i64 (cueE c)]) (by simp [results, Try.results52, go_sem, cueV, emptyC]) rfl (RetCueO.empty HV.out rfl (by repeat (first | exact Ext.refl _ | assumption | apply Ext.xt | apply Ext.alloc | apply Ext.drew | apply Ext.drewN)))
theorem r16_Pack (c : Cue) (A : Option Addr) (k : Nat) (B : Option Addr) (m : Nat) (w : World) (hc : CueAt w c A k B m) :
    Calls Try.prog 52 #[.agg (cueV c A k B m).toArray] w (RetCue w (packV c)) := (r16_PackO c A k B m w hc).mono fun _ _ h => h.ret
end Go.Proofs.Ytgmicckeefoghaa
