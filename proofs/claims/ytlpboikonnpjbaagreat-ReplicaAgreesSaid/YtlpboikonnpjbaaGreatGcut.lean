/-
  A long region in a fixed order: the edges of its operations play no part; without them the walk is light.
-/
import Derived.Test.YtlpboikonnpjbaaGreatBase
namespace Go.Proofs.YtlpboikonnpjbaaGreat
open Go.RowKit

def stripO (o : Oper) : Oper := { o with after := #[] }
section
variable {P : Program} {ops : Array Oper} {Q : Exit → Act → World → Prop}
theorem strip_yielded (tmps : Array Value) : yielded (ops.map stripO) tmps = yielded ops tmps := by
  funext j
  unfold yielded
  rw [Array.getElem?_map]
  cases ops[j]? <;> rfl
theorem strip_exec (ρ : Operand → Value) (o : Oper) : execOp ρ (stripO o) = execOp ρ o := by cases o; rfl
theorem strip_wp (o : Oper) (a : Act) (w : World) (K : Act → World → Prop) : (stripO o).wp P a w K Q = o.wp P a w K Q := by
  unfold Oper.wp
  rw [strip_exec]
  rfl
theorem strip_asks (o : Oper) (a : Act) (w : World) : (stripO o).asks P a w = o.asks P a w := by
  unfold Oper.asks
  rw [strip_exec]
theorem wpList_strip : ∀ (l : List Oper), wpList P (ops.map stripO) Q (l.map stripO) = wpList P ops Q l
  | [] => rfl
  | o :: l => by
    funext a w
    rw [List.map_cons, wpList, wpList, strip_yielded, wpList_strip l, strip_wp, strip_asks]
    rfl
theorem wp_region_strip {id : Nat} {a : Act} {w : World} {l l' : List Oper} (hl : l.map stripO = l') (h : wpList P l'.toArray Q l' a w) : (Code.region id l.toArray false).wp P Q a w := by
  refine wp_region_lit ?_
  rw [← wpList_strip (ops := l.toArray) l, List.map_toArray, hl]
  exact h
end
end Go.Proofs.YtlpboikonnpjbaaGreat

/-
  A region in a fixed order, walked in pieces: what stands between them says what is read later.
-/
namespace Go.Proofs.YtlpboikonnpjbaaGreat

section
variable {P : Program} {ops : Array Oper} {Q : Exit → Act → World → Prop}
/-- The end of a piece. -/
def CutQ (R : Act → World → Prop) (e : Exit) (a : Act) (w : World) : Prop := e = .normal ∧ R a w
theorem wp_of_cut {R : Act → World → Prop} {o : Oper} {a : Act} {w : World} {K K' : Act → World → Prop} (h : ∀ a w, K a w → K' a w) (hh : o.wp P a w K (CutQ R)) : o.wp P a w K' Q := by
  unfold Oper.wp at *
  generalize (execOp a.eval o).run P w = r at *
  have hl : ¬ LetsOut (CutQ R) := by rintro ⟨_, _, h, _⟩; cases h
  cases r with
  | ok n w' =>
    cases n <;> simp only [Oper.upon] at hh ⊢
    case value => exact h _ _ hh
    case skip => exact h _ _ hh
    case defer => exact h _ _ hh
    case enter =>
      refine hh.mono fun e w'' he => ?_
      cases e with
      | returned v => exact h _ _ he
      | panicked c => exact absurd he.1 (by simp)
      | outgrown => exact absurd he hl
    case row => exact hh.mono fun v w'' he => h _ _ he
  | halt x w' =>
    cases x <;> simp only [Oper.upon] at hh ⊢
    exact absurd hh.1 (by simp)
theorem wpList_cut {R : Act → World → Prop} {l2 : List Oper} (h2 : ∀ a w, R a w → wpList P ops Q l2 a w) : ∀ (l1 : List Oper) (a : Act) (w : World), wpList P ops (CutQ R) l1 a w → wpList P ops Q (l1 ++ l2) a w
  | [], a, w, h => h2 a w h.2
  | o :: l, a, w, h => by
    rw [wpList] at h
    rw [List.cons_append, wpList]
    split
    · rename_i hw
      rw [if_pos hw] at h
      rcases h with h | ⟨_, _, _, h, _⟩
      · exact .inl (wp_of_cut (fun a w => wpList_cut h2 l a w) h)
      · cases h
    · rename_i hw
      rw [if_neg hw] at h
      exact wpList_cut h2 l _ _ h
theorem wpList_cutAt {l : List Oper} {a : Act} {w : World} (n : Nat) (R : Act → World → Prop) (h1 : wpList P ops (CutQ R) (l.take n) a w) (h2 : ∀ a w, R a w → wpList P ops Q (l.drop n) a w) : wpList P ops Q l a w := by
  have := wpList_cut h2 (l.take n) a w h1
  rwa [List.take_append_drop] at this
end
end Go.Proofs.YtlpboikonnpjbaaGreat
