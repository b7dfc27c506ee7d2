/-
 Arguments opened: actions, and slices of them.
-/
import Derived.Test.YtmhinhgflehkaaaGreatRow2
import Derived.Test.YtmhinhgflehkaaaGreatGlog
import Derived.Test.YtmhinhgflehkaaaGreatGrpa
import Derived.SizedLaws
namespace Go.Proofs.YtmhinhgflehkaaaGreat
open Go.ChangeShapes Go.WideShapes Go.ChangeAt Go.RowKit Go.Joins Go.Deep

section
variable {H : Type} {enc : TypeId × Value → H} {w : World} {base : Nat} {spare : Nat → Bool} {held : Bool} {r : Reach} {b0 : Nat} {v : Value} {d : DataW H} {p : List MemPlace}

def acn0 : Acn := ⟨0, 0, 0, ⟨#[]⟩, 0, 0, ⟨[], none, 0⟩, ⟨[], none, 0⟩, ⟨[], none, 0⟩, noEdit⟩
def acnT : List TypeId := [3, 3, 3, 9, 3, 3, 65, 66, 62, 3, 3, 3, 3, 9, 9, 9, 67, 68, 4, 4, 3, 9, 3, 3, 71, 3, 62, 3, 3, 4, 76, 3, 3, 79, 3, 3, 3, 3, 3, 9, 3, 3, 3, 9]
theorem rows_listP {α : Type} (P : α → Prop) (f : α → List Value) {A : Option Addr} {len size : Nat} (h : ∀ i, i < len → ∃ (m : α) (b o : Nat), P m ∧ A = some ⟨b, o, none⟩ ∧ (f m).length = size ∧ ∀ j v, (f m)[j]? = some v → w.cell? ⟨b, o + i * size + j, none⟩ = some v) :
  ∃ l : List α, l.length = len ∧ Sl w A size (l.map f) ∧ ∀ a ∈ l, P a := by
 have h1 : ∀ i : Fin len, ∃ (m : α), P m ∧ ∃ (b o : Nat), A = some ⟨b, o, none⟩ ∧ (f m).length = size ∧ ∀ j v, (f m)[j]? = some v → w.cell? ⟨b, o + i * size + j, none⟩ = some v := fun i => by
  obtain ⟨m, b, o, hp, hh⟩ := h i i.isLt
  exact ⟨m, hp, b, o, hh⟩
 obtain ⟨g, hg⟩ := Classical.axiomOfChoice h1
 refine ⟨List.ofFn g, by simp, ⟨fun i row hr => ?_⟩, fun a ha => ?_⟩
 ·simp only [List.getElem?_map, List.getElem?_ofFn] at hr
  split at hr
  ·rename_i hi
   simp at hr
   subst hr
   obtain ⟨-, b, o, h2, h3, h4⟩ := hg ⟨i, hi⟩
   exact ⟨h3, b, o, h2, h4⟩
  ·simp at hr
 ·obtain ⟨i, rfl⟩ := List.mem_ofFn.1 ha
  exact (hg i).1
end
end Go.Proofs.YtmhinhgflehkaaaGreat

/-
 Arguments opened: nodes and messages of chapter 54.
-/
namespace Go.Proofs.YtmhinhgflehkaaaGreat
open Go.ChangeShapes Go.WideShapes Go.ChangeAt Go.RowKit Go.Joins Go.Deep

section
variable {H : Type} {enc : TypeId × Value → H} {w : World} {base : Nat} {spare : Nat → Bool} {held : Bool} {r : Reach} {b0 : Nat} {v : Value} {d : DataW H} {p : List MemPlace}
end
end Go.Proofs.YtmhinhgflehkaaaGreat

/-
 The reach of a list that lies inside an argument.
-/
namespace Go.Proofs.YtmhinhgflehkaaaGreat
open Go.ChangeShapes Go.WideShapes Go.ChangeAt Go.RowKit Go.Joins Go.Deep
section
variable {H : Type} {enc : TypeId × Value → H} {P : Program} {w : World} {base : Nat} {spare : Nat → Bool} {held : Bool}
end
section
variable {H : Type} {enc : TypeId × Value → H} {w : World} {base : Nat} {spare : Nat → Bool} {held : Bool}
end
end Go.Proofs.YtmhinhgflehkaaaGreat
