/-
  The reference's logs: a further action, other times, sameness.
-/
import Derived.Test.YtlpboikonnpjbaaGreatGfew
import Derived.Test.YtlpboikonnpjbaaGreatInsA
import Derived.Test.YtlpboikonnpjbaaGreatAct16
namespace Go.Proofs.YtlpboikonnpjbaaGreat
open Go.RowKit
def RetOwnA (w : World) (n : Nat) (l : List Acn) (e : Ending) (w' : World) : Prop := ∃ D k, e = .returned (.slice D n k) ∧ Ext w w' ∧ Own w w' 45 44 D n k (l.map acnR)
theorem insL_AcnAt {w w' : World} {A : Option Addr} {c : Nat} {l : List Acn} {a : Acn} (hs : LogAt w A c l) (ha : AcnAt w a) (hx : Ext w w') : ∀ x ∈ insL l a, AcnAt w' x := fun x hm => by
  rcases ins_mem hm with hm | rfl
  · exact (hs.el x hm).mono hx
  · exact ha.mono hx
theorem shift_take {l : List Acn} {by_ : Int} {j : Nat} {m : Acn} (hm : l[j]? = some m) : (l.take (j + 1)).map (shA by_) = (l.take j).map (shA by_) ++ [shA by_ m] := by
  obtain ⟨hj, he⟩ := List.getElem?_eq_some_iff.1 hm
  rw [List.take_succ_eq_append_getElem hj, he, List.map_append]; rfl
end Go.Proofs.YtlpboikonnpjbaaGreat
