/-
  Arguments opened: slices as arguments, small numbers.
-/
import Derived.Test.YtgmicckeefoghaaRow2
import Derived.Test.YtgmicckeefoghaaPure2
namespace Go.Proofs.Ytgmicckeefoghaa
open Go.ChangeShapes Go.WideShapes Go.ChangeAt Go.RowKit Go.Joins Go.Deep

theorem u16_in {n : Int} (h : (Lit.int .u16 n).wf = true) : 0 ≤ n ∧ n ≤ 65535 := by
  simp only [Lit.wf, Bool.and_eq_true, decide_eq_true_eq] at h
  have h1 : IntKind.u16.min = 0 := rfl
  have h2 : IntKind.u16.max = 65535 := rfl
  omega
theorem u8_in {n : Int} (h : (Lit.int .u8 n).wf = true) : 0 ≤ n ∧ n ≤ 255 := by
  simp only [Lit.wf, Bool.and_eq_true, decide_eq_true_eq] at h
  have h1 : IntKind.u8.min = 0 := rfl
  have h2 : IntKind.u8.max = 255 := rfl
  omega

section
variable {H : Type} {enc : TypeId × Value → H} {w : World} {base : Nat} {spare : Nat → Bool} {held : Bool} {r : Reach} {b0 : Nat} {v : Value} {d : DataW H} {p : List MemPlace}

set_option maxRecDepth 100000 in
theorem open_entries {m : Nat} {c : Value} {y : DataW H × List MemPlace} (h : DataW.trod enc Try.prog w base spare held m 74 [c] = some y) :
    ∃ (A : Option Addr) (k : Nat) (l : List Entry), c = .slice A l.length k ∧ l.length ≤ k ∧ k ≤ maxLen ∧ Sl w A 4 (l.map en) := by
  obtain ⟨A, len, cap, hc, h1, h2, h3⟩ := open_rows (n := 5) (ts := [3, 3, 3, 3]) Try.underlying74 (by kernel_rfl) (by kernel_rfl) (by decide) h
  injection hc with hc
  subst hc
  obtain ⟨l, rfl, hs⟩ := rows_list (w := w) (A := A) (len := len) (size := 4) en (fun i hi => by
    obtain ⟨b, o, row, hA, hl, hcell, hg⟩ := h3 i hi
    obtain ⟨c0, m0, y0, e0, g0⟩ := hg 0 _ rfl
    obtain ⟨c1, m1, y1, e1, g1⟩ := hg 1 _ rfl
    obtain ⟨c2, m2, y2, e2, g2⟩ := hg 2 _ rfl
    obtain ⟨c3, m3, y3, e3, g3⟩ := hg 3 _ rfl
    obtain ⟨z0, rfl, _⟩ := open_i64 Try.underlying3 g0
    obtain ⟨z1, rfl, _⟩ := open_i64 Try.underlying3 g1
    obtain ⟨z2, rfl, _⟩ := open_i64 Try.underlying3 g2
    obtain ⟨z3, rfl, _⟩ := open_i64 Try.underlying3 g3
    have hrow := list_of_get (en ⟨⟨z0, z1⟩, ⟨z2, z3⟩⟩) hl rfl (fun j hj => by
      match j, hj with
      | 0, _ => exact e0
      | 1, _ => exact e1
      | 2, _ => exact e2
      | 3, _ => exact e3)
    subst hrow
    exact ⟨_, b, o, hA, rfl, hcell⟩)
  exact ⟨A, cap, l, rfl, h1, h2, hs⟩
set_option maxRecDepth 100000 in
theorem open_params {m : Nat} {c : Value} {y : DataW H × List MemPlace} (h : DataW.trod enc Try.prog w base spare held m 79 [c] = some y) :
    ∃ (A : Option Addr) (k : Nat) (l : List Param), c = .slice A l.length k ∧ l.length ≤ k ∧ k ≤ maxLen ∧ Sl w A 2 (l.map prm) := by
  obtain ⟨A, len, cap, hc, h1, h2, h3⟩ := open_rows (n := 5) (ts := [3, 3]) Try.underlying79 (by kernel_rfl) (by kernel_rfl) (by decide) h
  injection hc with hc
  subst hc
  obtain ⟨l, rfl, hs⟩ := rows_list (w := w) (A := A) (len := len) (size := 2) prm (fun i hi => by
    obtain ⟨b, o, row, hA, hl, hcell, hg⟩ := h3 i hi
    obtain ⟨c0, m0, y0, e0, g0⟩ := hg 0 _ rfl
    obtain ⟨c1, m1, y1, e1, g1⟩ := hg 1 _ rfl
    obtain ⟨z0, rfl, _⟩ := open_i64 Try.underlying3 g0
    obtain ⟨z1, rfl, _⟩ := open_i64 Try.underlying3 g1
    have hrow := list_of_get (prm ⟨z0, z1⟩) hl rfl (fun j hj => by
      match j, hj with
      | 0, _ => exact e0
      | 1, _ => exact e1)
    subst hrow
    exact ⟨_, b, o, hA, rfl, hcell⟩)
  exact ⟨A, cap, l, rfl, h1, h2, hs⟩

set_option maxRecDepth 100000 in
theorem open_moves_arg (hv : Value.okWide Try.prog w r b0 35 v) (h : DataW.Trod enc Try.prog w base spare held 35 v d p) :
    ∃ (A : Option Addr) (k : Nat) (l : List Move), v = .slice A l.length k ∧ l.length ≤ k ∧ k ≤ maxLen ∧ Sl w A 5 (l.map mv) := by
  obtain ⟨a, len, cap, rfl⟩ := okWide_slice Try.underlying35 hv
  obtain ⟨fuel, hf⟩ := h
  exact open_moves hf
set_option maxRecDepth 100000 in
theorem open_entries_arg (hv : Value.okWide Try.prog w r b0 74 v) (h : DataW.Trod enc Try.prog w base spare held 74 v d p) :
    ∃ (A : Option Addr) (k : Nat) (l : List Entry), v = .slice A l.length k ∧ l.length ≤ k ∧ k ≤ maxLen ∧ Sl w A 4 (l.map en) := by
  obtain ⟨a, len, cap, rfl⟩ := okWide_slice Try.underlying74 hv
  obtain ⟨fuel, hf⟩ := h
  exact open_entries hf
set_option maxRecDepth 100000 in
theorem open_params_arg (hv : Value.okWide Try.prog w r b0 79 v) (h : DataW.Trod enc Try.prog w base spare held 79 v d p) :
    ∃ (A : Option Addr) (k : Nat) (l : List Param), v = .slice A l.length k ∧ l.length ≤ k ∧ k ≤ maxLen ∧ Sl w A 2 (l.map prm) := by
  obtain ⟨a, len, cap, rfl⟩ := okWide_slice Try.underlying79 hv
  obtain ⟨fuel, hf⟩ := h
  exact open_params hf
end
end Go.Proofs.Ytgmicckeefoghaa
