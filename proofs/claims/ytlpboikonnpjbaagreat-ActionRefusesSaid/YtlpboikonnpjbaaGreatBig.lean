/-
  Structs of many cells: boxes that are known whole, loads and stores of them by one law each.
-/
import Derived.Test.YtlpboikonnpjbaaGreatOwn
import Derived.Laws.Tables
namespace Go.Proofs.YtlpboikonnpjbaaGreat
open Go.RowKit

theorem xt_setCell' (w : World) (y : Gr) (n i : Nat) (v : Value) (h : n < w.heap.size) : (xt w y).setCell ⟨n, i, none⟩ v = xt (w.setCell ⟨n, i, none⟩ v) y := by
  unfold World.setCell xt
  congr 1
  apply Array.ext_getElem?
  intro k
  simp only [Array.getElem?_modify, Array.getElem?_append, Array.size_modify]
  by_cases hk : k < w.heap.size
  · simp [hk]
  · rw [if_neg hk, if_neg hk, if_neg (by omega)]
theorem xt_setCells (b : Nat) (y : Gr) : ∀ (vs : List Value) (o : Nat) (w : World), b < w.heap.size → (xt w y).setCells b o vs = xt (w.setCells b o vs) y
  | [], _, _, _ => rfl
  | v :: r, o, w, h => by
    rw [World.setCells, World.setCells, xt_setCell' w y b o v h, xt_setCells b y r (o + 1) _ (by simpa [World.setCell] using h)]
theorem setCells_alloc (T : TypeId) (w : World) : ∀ (vs : List Value) (o : Nat) (c : Array Value), o + vs.length ≤ c.size →
    (w.alloc (.cells c T)).setCells w.heap.size o vs = w.alloc (.cells (c.toList.take o ++ vs ++ c.toList.drop (o + vs.length)).toArray T)
  | [], o, c, _ => by simp [World.setCells]
  | v :: r, o, c, h => by
    have hlt : o < c.size := by simp at h; omega
    rw [World.setCells, World.setCell_alloc_new, setCells_alloc T w r (o + 1) _ (by simp at h ⊢; omega)]
    congr 3
    have hd : (c.setIfInBounds o v).toList = c.toList.set o v := Array.toList_setIfInBounds
    rw [hd]
    have hl2 : o < c.toList.length := by simpa using hlt
    have h3 : (c.toList.set o v).take (o + 1) = c.toList.take o ++ [v] := by
      rw [List.take_succ_eq_append_getElem (by simpa using hl2), List.take_set_of_le (Nat.le_refl _), List.getElem_set_self]
    have h4 : (c.toList.set o v).drop (o + 1 + r.length) = c.toList.drop (o + (v :: r).length) := by
      rw [List.drop_set_of_lt (by omega)]
      congr 1
      simp; omega
    rw [h3, h4]
    simp
theorem setCells_whole (T : TypeId) (w : World) (zs cs : Array Value) (h : zs.size = cs.size) : (w.alloc (.cells zs T)).setCells w.heap.size 0 cs.toList = w.alloc (.cells cs T) := by
  rw [setCells_alloc T w cs.toList 0 zs (by simp; omega)]
  rw [List.drop_eq_nil_of_le (by simp; omega)]
  simp

/-! ### Rows that lie in the midst of a box -/
theorem rangeAt_mono {w w' : World} {b o : Nat} {cs : List Value} (h : w.rangeAt b o cs) (hx : Ext w w') : w'.rangeAt b o cs := fun j v hv => hx.cell (h j v hv)
theorem rangeAt_new (w : World) {b : Nat} (hb : w.heap.size = b) (cs : List Value) (T : TypeId) : (w.alloc (.cells cs.toArray T)).rangeAt b 0 cs := fun j v hv => by
  subst hb
  simp only [Nat.zero_add]
  rw [World.cell?_alloc_new]
  simpa using hv
theorem rangeAt_part {w : World} {b o : Nat} {xs ys zs : List Value} (h : w.rangeAt b o (xs ++ ys ++ zs)) {n : Nat} (hn : o + xs.length = n) : w.rangeAt b n ys := fun j v hv => by
  subst hn
  have h1 : (xs ++ ys ++ zs)[xs.length + j]? = some v := by
    have hj := (List.getElem?_eq_some_iff.1 hv).1
    rw [List.getElem?_append_left (by simp; omega), List.getElem?_append_right (by omega), Nat.add_sub_cancel_left, hv]
  have := h _ _ h1
  rwa [← Nat.add_assoc] at this
theorem rangeAt_end {w : World} {b o : Nat} {xs ys : List Value} (h : w.rangeAt b o (xs ++ ys)) {n : Nat} (hn : o + xs.length = n) : w.rangeAt b n ys :=
  rangeAt_part (zs := []) (by simpa using h) hn
theorem Sl.range {w : World} {A : Option Addr} {size : Nat} {rows : List (List Value)} (h : Sl w A size rows) {i : Nat} {row : List Value} (hr : rows[i]? = some row) : ∃ b o, A = some ⟨b, o, none⟩ ∧ w.rangeAt b (o + i * size) row := by
  obtain ⟨_, b, o, hA, hc⟩ := h.at_ i _ hr
  exact ⟨b, o, hA, hc⟩

section
variable {P : Program} {ops : Array Oper} {rest : List Oper} {op : Oper} {a : Act} {Q : Exit → Act → World → Prop}
/-- A load of a whole struct, under a guard that says yes or under none. -/
theorem wpList_load_row {w : World} (hw : Region.wanted op (yielded ops a.tmps) = true) (ty : TypeId) (x : Operand) (ho : op.op = .load ty x) (b o : Nat) (hx : a.eval x = .pointer (some ⟨b, o, none⟩)) (cs : List Value) (d : TypeDesc) (hc : w.rangeAt b o cs)
    (hu : P.underlying ty = some d) (hd : d.isRow = true) (hi : (P.info? ty).map (·.size) = some cs.length) (h : wpList P ops Q rest (a.put op.dst (.agg cs.toArray)) w) : wpList P ops Q (op :: rest) a w :=
  BigFrame.wpList_want hw fun _ hK => wp_load_mid ty x ho b o hx cs d hc hu hd hi (hK _ _ h)
/-- A struct or an array is built, by one law. -/
theorem wpList_built (hgd : op.guard = none) {w : World} (t : TypeId) (ps : List (Nat × Operand)) (ho : op.op = .build t ps.toArray) (vals : List (Nat × Value)) (hv : ps.map (fun p => (p.1, a.eval p.2)) = vals) (cells : Array Value) (hc : P.built t vals = some cells)
    (h : wpList P ops Q rest (a.put op.dst (.agg cells)) w) : wpList P ops Q (op :: rest) a w := by
  have hv' : ((ps.toArray).map fun (i, x) => (i, a.eval x)).toList = vals := by rw [← hv]; simp
  exact wpList_plain hgd fun _ hK => wp_build t ps.toArray ho (by rw [hv', hc]; rfl) (by rw [hv', hc]; exact hK _ _ h)
/-- A store of a whole struct into the box that was made last. -/
theorem wpList_store_top (hgd : op.guard = none) (ty : TypeId) (x y : Operand) (ho : op.op = .store ty x y) {V : World} {zs : Array Value} {T : TypeId} {n : Nat} (hx : a.eval x = .pointer (some ⟨n, 0, none⟩)) (hn : V.heap.size = n)
    (cells : List Value) (hy : a.eval y = .agg cells.toArray) (hz : zs.size = cells.length) (hi : (P.info? ty).map (·.size) = some cells.length) (h1 : ∀ u ∈ cells, u.oneCell' = true)
    (h : wpList P ops Q rest (a.put op.dst undef) (V.alloc (.cells cells.toArray T))) : wpList P ops Q (op :: rest) a (V.alloc (.cells zs T)) := by
  subst hn
  have hz' : zs.size = cells.toArray.size := by simpa using hz
  refine wpList_store_mid hgd ty x y ho V.heap.size 0 cells.toArray hx hy (fun j hj => ?_) (by simpa using hi) (all_oneCell_toArray h1) ?_
  · rw [Nat.zero_add]
    constructor
    · rw [World.cell?_alloc_new]; simp [hz']; simpa using hj
    · exact World.frozen?_alloc_new _ _ _ _
  · rw [setCells_whole T V zs cells.toArray hz']; exact h
/-- The same, where something has grown since. -/
theorem wpList_store_xt (hgd : op.guard = none) (ty : TypeId) (x y : Operand) (ho : op.op = .store ty x y) {V : World} {g : Gr} {zs : Array Value} {T : TypeId} {n : Nat} (hx : a.eval x = .pointer (some ⟨n, 0, none⟩)) (hn : V.heap.size = n)
    (cells : List Value) (hy : a.eval y = .agg cells.toArray) (hz : zs.size = cells.length) (hi : (P.info? ty).map (·.size) = some cells.length) (h1 : ∀ u ∈ cells, u.oneCell' = true)
    (h : wpList P ops Q rest (a.put op.dst undef) (xt (V.alloc (.cells cells.toArray T)) g)) : wpList P ops Q (op :: rest) a (xt (V.alloc (.cells zs T)) g) := by
  subst hn
  have hx' := xt_below (V.alloc (.cells zs T)) g
  have hz' : zs.size = cells.toArray.size := by simpa using hz
  refine wpList_store_mid hgd ty x y ho V.heap.size 0 cells.toArray hx hy (fun j hj => ?_) (by simpa using hi) (all_oneCell_toArray h1) ?_
  · rw [Nat.zero_add]
    have h2 : (V.alloc (.cells zs T)).cell? ⟨V.heap.size, j, none⟩ = some (zs[j]'(by omega)) := by rw [World.cell?_alloc_new]; simp
    constructor
    · rw [Ext.cell hx' h2]; rfl
    · rw [xt_froz _ _ _ (by rw [h2]; rfl)]; exact World.frozen?_alloc_new _ _ _ _
  · rw [xt_setCells _ _ _ _ _ (by simp), setCells_whole T V zs cells.toArray hz']; exact h
end
end Go.Proofs.YtlpboikonnpjbaaGreat
