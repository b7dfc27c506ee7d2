/-
  slices.Insert at Action, of one element, into a slice that the call made itself.
-/
import Derived.Test.YtmhinhgflehkaaaGreatGins
import Derived.Test.YtmhinhgflehkaaaGreatGbtw
import Derived.Lib.Overlaps
import Derived.Laws.Externs
namespace Go.Proofs.YtmhinhgflehkaaaGreat
open Go.RowKit
attribute [local go_sem ↓] Go.wp_at_zero Go.wp_at_succ

def insAtA (l : List Acn) (i : Nat) (x : Acn) : List Acn := l.take i ++ x :: l.drop i
def RetInsA (w0 w : World) (A : Option Addr) (rows : List (List Value)) (n : Nat) (e : Ending) (w' : World) : Prop :=
  ∃ A' k', e = .returned (.slice A' n k') ∧ Ext w0 w' ∧ Own w0 w' 87 44 A' n k' rows ∧ w.grownBy w' (A.map (·.block))

end Go.Proofs.YtmhinhgflehkaaaGreat

/-
  slices.Insert at Action where there is no room; both together.
-/
namespace Go.Proofs.YtmhinhgflehkaaaGreat
open Go.RowKit
attribute [local go_sem ↓] Go.wp_at_zero Go.wp_at_succ

end Go.Proofs.YtmhinhgflehkaaaGreat
