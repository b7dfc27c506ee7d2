import Derived.Test.YtlpboikonnpjbaaGreatGcue
namespace Go.Proofs.YtlpboikonnpjbaaGreat
open Go.RowKit
end Go.Proofs.YtlpboikonnpjbaaGreat

namespace Go.Proofs.YtlpboikonnpjbaaGreat
open Go.RowKit

section
variable (c : Cue) (A : Option Addr) (k : Nat) (B : Option Addr) (m : Nat) (w : World) (hc : CueAt w c A k B m)
include hc
end
end Go.Proofs.YtlpboikonnpjbaaGreat

namespace Go.Proofs.YtlpboikonnpjbaaGreat
open Go.RowKit

/-! ### Places in sorted lists -/
/-- How many moves are before a parameter. -/
def posP (l : List Move) (p : Param) : Nat := (l.takeWhile fun m => before m.p p).length
theorem posP_le (l : List Move) (p : Param) : posP l p ≤ l.length := by
  unfold posP
  exact (List.takeWhile_sublist _).length_le
theorem movesOk_before {l : List Move} (h : scan moveE none l = 0) {i : Nat} {a b : Move} (ha : l[i]? = some a) (hb : l[i + 1]? = some b) : before a.p b.p = true := by
  have h1 := scan_ok moveE l h (i + 1) b hb
  rw [prv_succ, ha] at h1
  unfold moveE at h1
  grind
theorem before_trans {a b c : Param} (h : before a b = true) (k : before b c = true) : before a c = true := by
  simp only [before, decide_eq_true_eq] at *; omega
theorem before_irrefl (a : Param) : before a a = false := by simp [before]
theorem before_total {a b : Param} (h : before a b = false) : before b a = true ∨ a = b := by
  simp only [before, decide_eq_true_eq, decide_eq_false_iff_not] at *
  cases a; cases b; simp only [Param.mk.injEq] at *; omega
theorem movesOk_lt {l : List Move} (h : scan moveE none l = 0) : ∀ (d i : Nat) (a b : Move), l[i]? = some a → l[i + d + 1]? = some b → before a.p b.p = true
  | 0, i, a, b, ha, hb => movesOk_before h ha hb
  | d + 1, i, a, b, ha, hb => by
    obtain ⟨hlt, _⟩ := List.getElem?_eq_some_iff.1 hb
    have hc : l[i + d + 1]? = some l[i + d + 1] := List.getElem?_eq_getElem (by omega)
    exact before_trans (movesOk_lt h d i a _ ha hc) (movesOk_before h hc hb)
theorem getElem?_takeWhile_lt {α : Type} (q : α → Bool) : ∀ (l : List α) (i : Nat) (x : α), l[i]? = some x → i < (l.takeWhile q).length → q x = true
  | [], i, x, h, _ => by simp at h
  | y :: l, i, x, h, hi => by
    rw [List.takeWhile_cons] at hi
    split at hi
    · rename_i hy
      cases i with
      | zero => simp at h; subst h; exact hy
      | succ i => exact getElem?_takeWhile_lt q l i x (by simpa using h) (by simpa using hi)
    · simp at hi
theorem getElem?_takeWhile_at {α : Type} (q : α → Bool) : ∀ (l : List α) (x : α), l[(l.takeWhile q).length]? = some x → q x = false
  | [], x, h => by simp at h
  | y :: l, x, h => by
    rw [List.takeWhile_cons] at h
    split at h
    · exact getElem?_takeWhile_at q l x (by simpa using h)
    · rename_i hy
      simp at h; subst h; simpa using hy
/-- In a sorted list just the first ones are before a parameter. -/
theorem posP_iff {l : List Move} (h : scan moveE none l = 0) (p : Param) {i : Nat} {a : Move} (ha : l[i]? = some a) : (before a.p p = true) ↔ i < posP l p := by
  constructor
  · intro hb
    rcases Nat.lt_or_ge i (posP l p) with h1 | h1
    · exact h1
    · obtain ⟨hil, _⟩ := List.getElem?_eq_some_iff.1 ha
      obtain ⟨x, hx⟩ : ∃ x, l[posP l p]? = some x := ⟨_, List.getElem?_eq_getElem (by omega)⟩
      have h2 : before x.p p = false := getElem?_takeWhile_at (fun m => before m.p p) l x (by unfold posP at hx; exact hx)
      rcases Nat.lt_or_ge (posP l p) i with h3 | h3
      · have h4 := movesOk_lt h (i - posP l p - 1) (posP l p) _ a hx (by rw [show posP l p + (i - posP l p - 1) + 1 = i by omega]; exact ha)
        rw [before_trans h4 hb] at h2; cases h2
      · have h5 : posP l p = i := by omega
        rw [h5, ha] at hx
        injection hx with hx
        rw [← hx, hb] at h2; cases h2
  · exact getElem?_takeWhile_lt (fun m => before m.p p) l i a ha
/-- Whether a parameter is there. -/
def foundP (l : List Move) (p : Param) : Bool := match l[posP l p]? with | some m => decide (m.p = p) | none => false

theorem movesE_scan {l : List Move} (h : movesE l = 0) : l.length ≤ 128 ∧ scan moveE none l = 0 := by
  unfold movesE at h
  split at h
  · omega
  · exact ⟨by omega, h⟩
theorem cueE_ok {c : Cue} (h : cueE c = 0) : numE c.number = 0 ∧ labelE c.label = 0 ∧ movesE c.moves = 0 ∧ partsE c = 0 ∧ nextE c = 0 := by
  unfold cueE at h; grind

/-- What cue.Find answers. -/
def findV (c : Cue) (p : Param) : Int × Bool × Int :=
  if cueE c ≠ 0 then (0, false, cueE c) else if paramE p ≠ 0 then (0, false, paramE p) else if foundP c.moves p then (posP c.moves p, true, 0) else (0, false, 0)
theorem ret_ibi {a b : Int} {p q : Bool} {x y : Int} (h : (a, p, x) = (b, q, y)) : Ending.returned (.tuple #[.int .i64 a, .bool p, .int .i64 x]) = .returned (.tuple #[.int .i64 b, .bool q, .int .i64 y]) := by
  injection h with h1 h2; injection h2 with h2 h3; rw [h1, h2, h3]

end Go.Proofs.YtlpboikonnpjbaaGreat
