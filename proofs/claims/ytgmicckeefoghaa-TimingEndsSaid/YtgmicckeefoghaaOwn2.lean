/-
  Storing an element into a slice that the call made itself.
-/
import Derived.Test.YtgmicckeefoghaaOwn
namespace Go.Proofs.Ytgmicckeefoghaa
open Go.RowKit

theorem setCells_heap (b : Nat) (E : TypeId) : ∀ (vs : List Value) (o : Nat) (w : World) (cur : Array Value), w.heap[b]? = some (.cells cur E (0, 0)) → o + vs.length ≤ cur.size →
    (w.setCells b o vs).heap[b]? = some (.cells (cur.toList.take o ++ vs ++ cur.toList.drop (o + vs.length)).toArray E (0, 0))
  | [], o, w, cur, h, _ => by
    rw [World.setCells, h]
    simp
  | v :: r, o, w, cur, h, hl => by
    rw [World.setCells]
    have hlt : o < cur.size := by simp at hl; omega
    rw [setCells_heap b E r (o + 1) _ (cur.setIfInBounds o v) (heap_setCell_same w b o cur E v h) (by simp at hl ⊢; omega)]
    congr 3
    have hd : (cur.setIfInBounds o v).toList = cur.toList.set o v := Array.toList_setIfInBounds
    rw [hd]
    have hl2 : o < cur.toList.length := by simpa using hlt
    apply List.ext_getElem?
    intro j
    simp only [List.length_cons, List.append_assoc, List.getElem?_append, List.length_take, List.length_set, List.getElem?_take, List.getElem?_set, List.getElem?_drop, List.cons_append, List.getElem?_cons]
    simp at hl
    have hm1 : min (o + 1) cur.toList.length = o + 1 := by simp; omega
    have hm2 : min o cur.toList.length = o := by simp; omega
    simp only [hm1, hm2]
    by_cases h1 : j < o
    · simp [h1, show j < o + 1 by omega, show ¬ o = j by omega]
    · by_cases h2 : j = o
      · subst h2; simp [hlt]
      · have e1 : ¬ o = o + 1 + r.length + (j - (o + 1) - r.length) := by omega
        have e2 : j - o ≠ 0 := by omega
        have e3 : j - o - 1 = j - (o + 1) := by omega
        have e4 : o + 1 + r.length + (j - (o + 1) - r.length) = o + (r.length + 1) + (j - o - (r.length + 1)) := by omega
        have e5 : (j - o < r.length + 1) = (j - (o + 1) < r.length) := by rw [eq_iff_iff]; omega
        simp only [if_neg (show ¬ j < o + 1 by omega), if_neg h1, if_neg e2, e3, e4]
        by_cases h5 : j - (o + 1) < r.length
        · simp only [if_pos h5]
        · have e6 : o + (r.length + 1) + (j - (o + 1) - r.length) = o + (r.length + 1) + (j - o - (r.length + 1)) := by omega
          simp only [if_neg h5, e6]
          rw [if_neg (by omega)]
theorem setCells_other (b : Nat) : ∀ (vs : List Value) (o : Nat) (w : World) (k : Nat), k ≠ b → (w.setCells b o vs).heap[k]? = w.heap[k]?
  | [], _, _, _, _ => rfl
  | v :: r, o, w, k, h => by rw [World.setCells, setCells_other b r _ _ k h]; exact heap_setCell_other w ⟨b, o, none⟩ k v h
theorem setCells_same (b : Nat) : ∀ (vs : List Value) (o : Nat) (w : World), (w.setCells b o vs).os = w.os ∧ (w.setCells b o vs).tape = w.tape ∧ (w.setCells b o vs).output = w.output ∧ (w.setCells b o vs).heap.size = w.heap.size
  | [], _, _ => ⟨rfl, rfl, rfl, rfl⟩
  | v :: r, o, w => by
    obtain ⟨h1, h2, h3, h4⟩ := setCells_same b r (o + 1) (w.setCell ⟨b, o, none⟩ v)
    rw [World.setCells]
    exact ⟨h1, h2, h3, by rw [h4]; simp [World.setCell]⟩
theorem Ext.setCells {a w : World} (h : Ext a w) {b : Nat} (hb : a.heap.size ≤ b) (o : Nat) (vs : List Value) : Ext a (w.setCells b o vs) := by
  obtain ⟨h1, h2, h3, h4⟩ := setCells_same b vs o w
  exact ⟨h1.trans h.os, h2.trans h.tape, h3.trans h.output, by rw [h4]; exact h.size, fun k hk => by rw [setCells_other b vs o w k (by omega)]; exact h.block k hk⟩

theorem flat_set {α : Type} {size : Nat} : ∀ (rows : List (List α)) (_ : ∀ r ∈ rows, r.length = size) (i : Nat) (row : List α), row.length = size → i < rows.length →
    (rows.set i row).flatten = rows.flatten.take (i * size) ++ row ++ rows.flatten.drop (i * size + size)
  | [], _, _, _, _, h => by simp at h
  | r :: rs, hr, 0, row, hrow, _ => by
    have hl := hr r (by simp)
    simp [hl]
  | r :: rs, hr, i + 1, row, hrow, h => by
    have hl := hr r (by simp)
    have ih := flat_set rs (fun x hx => hr x (by simp [hx])) i row hrow (by simpa using h)
    rw [List.set_cons_succ, List.flatten_cons, ih, List.flatten_cons]
    have h1 : (i + 1) * size = r.length + i * size := by rw [Nat.succ_mul, hl]; omega
    have h2 : (i + 1) * size + size = r.length + (i * size + size) := by omega
    rw [h2, h1, List.take_append, List.drop_append]
    rw [List.take_of_length_le (i := r.length + i * size) (l := r) (by omega), List.drop_eq_nil_of_le (as := r) (by omega)]
    simp [List.append_assoc]

section
variable {w0 w : World} {E : TypeId} {size : Nat} {A : Option Addr} {n k : Nat} {rows : List (List Value)}
theorem Own.there (h : Own w0 w E size A n k rows) {i : Nat} (hi : i < n) : ∃ g, A = some ⟨g, 0, none⟩ ∧ w0.heap.size ≤ g ∧ w.there g (i * size) size := by
  rcases h.at_ with h0 | ⟨g, cur, h1, h2, h3, h4, h5⟩
  · have := h.le; omega
  · refine ⟨g, h1, h2, fun j hj => ?_⟩
    have hb : i * size + j < cur.size := by
      have h6 : (i + 1) * size ≤ k * size := Nat.mul_le_mul_right _ (by have := h.le; omega)
      rw [h4]; rw [Nat.succ_mul] at h6; omega
    constructor
    · simp [World.cell?, h3, hb]
    · simp [World.frozen?, h3]
theorem Own.set (h : Own w0 w E size A n k rows) {i g : Nat} (hi : i < n) (hA : A = some ⟨g, 0, none⟩) {row : List Value} (hr : row.length = size) (h1 : ∀ u ∈ row, u.oneCell' = true) : Own w0 (w.setCells g (i * size) row) E size A n k (rows.set i row) := by
  have hlr : i < rows.length := by rw [h.len]; exact hi
  refine ⟨by simpa using h.len, fun r hr' => ?_, fun r hr' => ?_, h.le, h.cap, ?_⟩
  · rcases List.mem_or_eq_of_mem_set hr' with h2 | h2
    · exact h.row r h2
    · rw [h2]; exact hr
  · rcases List.mem_or_eq_of_mem_set hr' with h2 | h2
    · exact h.one r h2
    · rw [h2]; exact h1
  · rcases h.at_ with h0 | ⟨g', cur, h2, h3, h4, h5, h6⟩
    · exact .inl h0
    · have hg : g' = g := by rw [hA] at h2; injection h2 with h2; injection h2 with h2; exact h2.symm
      subst hg
      have hb : i * size + size ≤ n * size := by
        have := Nat.mul_le_mul_right size (show i + 1 ≤ n by omega)
        rwa [Nat.succ_mul] at this
      have hb2 : n * size ≤ cur.size := by rw [h5]; exact Nat.mul_le_mul_right _ h.le
      refine .inr ⟨g', _, h2, h3, setCells_heap g' E row (i * size) w cur h4 (by omega), ?_, ?_⟩
      · rw [List.size_toArray, len_splice3 _ _ _ _ rfl (by simp; omega)]; simpa using h5
      · rw [flat_set rows h.row i row hr hlr, ← h6, hr]
        have hc : cur.toList.length = cur.size := by simp
        apply List.ext_getElem?
        intro j
        simp only [List.append_assoc, List.getElem?_append, List.length_take, List.getElem?_take, List.getElem?_drop, hr, hc]
        have hm1 : min (i * size) cur.size = i * size := by omega
        have hm2 : min (i * size) (min (n * size) cur.size) = i * size := by omega
        simp only [hm1, hm2]
        by_cases h7 : j < i * size
        · simp [h7, show j < n * size by omega]
        · by_cases h8 : j - i * size < size
          · simp [h7, h8, show j < n * size by omega]
          · simp only [h7, h8, if_false]
            have h9 : i * size + size + (j - i * size - size) = j := by omega
            rw [h9]
end

section
variable {P : Program} {ops : Array Oper} {rest : List Oper} {o : Oper} {a : Act} {Q : Exit → Act → World → Prop} {w0 W : World}
/-- A store into an element of an own slice. -/
theorem wpList_store_mine (hgd : o.guard = none) (ty : TypeId) (x y : Operand) (ho : o.op = .store ty x y) (E : TypeId) (size : Nat) (hx : Ext w0 W) (g n k i : Nat) (rows : List (List Value)) (hown : Own w0 W E size (some ⟨g, 0, none⟩) n k rows) (hi : i < n)
    (row : List Value) (hxe : a.eval x = .pointer (some ⟨g, i * size, none⟩)) (hye : a.eval y = .agg row.toArray) (hr : row.length = size) (h1 : ∀ u ∈ row, u.oneCell' = true) (hs : (P.info? ty).map (·.size) = some size)
    (h : ∀ w', Ext w0 w' → Own w0 w' E size (some ⟨g, 0, none⟩) n k (rows.set i row) → W.grownBy w' (some g) → wpList P ops Q rest (a.put o.dst undef) w') : wpList P ops Q (o :: rest) a W := by
  obtain ⟨g', h2, h3, h4⟩ := hown.there hi
  have hg : g' = g := by injection h2 with h2; injection h2 with h2; exact h2.symm
  subst hg
  refine wpList_store_mid hgd ty x y ho g' (i * size) row.toArray hxe hye (by simpa [hr] using h4) (by simpa [hr] using hs) (all_oneCell_toArray h1) ?_
  have := setCells_same g' row (i * size) W
  exact h _ (hx.setCells h3 _ _) (hown.set hi rfl hr h1) ⟨this.1, this.2.1, this.2.2.1, by simp [this.2.2.2], fun j _ hne => setCells_other g' row (i * size) W j (fun e => hne (by rw [e]))⟩
end
end Go.Proofs.Ytgmicckeefoghaa
