import Derived.Test.YtnpdghjpcnjokaaGreatRow2
import Derived.Test.YtnpdghjpcnjokaaGreatGrpa
import Derived.SizedLaws
namespace Go.Proofs.YtnpdghjpcnjokaaGreat
open Go.ChangeShapes Go.WideShapes Go.ChangeAt Go.RowKit Go.Joins Go.Deep

section
variable {H : Type} {enc : TypeId × Value → H} {w : World} {base : Nat} {spare : Nat → Bool} {held : Bool} {r : Reach} {b0 : Nat} {v : Value} {d : DataW H} {p : List MemPlace}

def acn0 : Acn:=⟨0,0,0,⟨#[]⟩,0,0,⟨[],none,0⟩,⟨[],none,0⟩,⟨[],none,0⟩,zdP⟩
def acnT : List TypeId:=[3,3,3,9,3,3,77,78,66,3,3,3,3,9,9,9,79,80,4,4,3,9,3,3,83,3,66,3,3,4,88,3,3,91,3,3,3,3,3,9,3,3,3,9]
theorem ziT {α : Type} (P : α → Prop) (f : α → List Value) {A : Option Addr} {len size : Nat} (h : ∀ i,i < len → ∃ (m : α) (b o : Nat),P m ∧ A = some ⟨b,o,none⟩ ∧ (f m).length = size ∧ ∀ j v,(f m)[j]? = some v → w.cell? ⟨b,o + i * size + j,none⟩ = some v) :
  ∃ l : List α,l.length = len ∧ Sl w A size (l.map f) ∧ ∀ a ∈ l,P a:=by
 have h1 : ∀ i : Fin len,∃ (m : α),P m ∧ ∃ (b o : Nat),A = some ⟨b,o,none⟩ ∧ (f m).length = size ∧ ∀ j v,(f m)[j]? = some v → w.cell? ⟨b,o + i * size + j,none⟩ = some v:=fun i => by
  obtain ⟨m,b,o,hp,hh⟩:=h i i.isLt
  exact ⟨m,hp,b,o,hh⟩
 obtain ⟨g,hg⟩:=Classical.axiomOfChoice h1
 refine ⟨List.ofFn g,by simp,⟨fun i row hr => ?_⟩,fun a ha => ?_⟩
 ·simp only [List.getElem?_map,List.getElem?_ofFn] at hr
  split at hr
  ·rename_i hi
   simp at hr
   subst hr
   obtain ⟨-,b,o,h2,h3,h4⟩:=hg ⟨i,hi⟩
   exact ⟨h3,b,o,h2,h4⟩
  ·simp at hr
 ·obtain ⟨i,rfl⟩:=List.mem_ofFn.1 ha
  exact (hg i).1
end
end Go.Proofs.YtnpdghjpcnjokaaGreat

namespace Go.Proofs.YtnpdghjpcnjokaaGreat
open Go.ChangeShapes Go.WideShapes Go.ChangeAt Go.RowKit Go.Joins Go.Deep

section
variable {H : Type} {enc : TypeId × Value → H} {w : World} {base : Nat} {spare : Nat → Bool} {held : Bool} {r : Reach} {b0 : Nat} {v : Value} {d : DataW H} {p : List MemPlace}
end
end Go.Proofs.YtnpdghjpcnjokaaGreat

namespace Go.Proofs.YtnpdghjpcnjokaaGreat
open Go.ChangeShapes Go.WideShapes Go.ChangeAt Go.RowKit Go.Joins Go.Deep
section
variable {H : Type} {enc : TypeId × Value → H} {P : Program} {w : World} {base : Nat} {spare : Nat → Bool} {held : Bool}
end
section
variable {H : Type} {enc : TypeId × Value → H} {w : World} {base : Nat} {spare : Nat → Bool} {held : Bool}
end
end Go.Proofs.YtnpdghjpcnjokaaGreat
