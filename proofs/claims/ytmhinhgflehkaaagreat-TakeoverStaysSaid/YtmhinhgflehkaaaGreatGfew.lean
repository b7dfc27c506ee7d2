/-
 The reference's logs: the check, counts, parts.
-/
import Derived.Test.YtmhinhgflehkaaaGreatGidl
import Derived.Test.YtmhinhgflehkaaaGreatGbtw
import Derived.Test.YtmhinhgflehkaaaGreatGwl
import Derived.Test.YtmhinhgflehkaaaGreatGten
namespace Go.Proofs.YtmhinhgflehkaaaGreat
open Go.RowKit
end Go.Proofs.YtmhinhgflehkaaaGreat

/-
 Small edits, actions and logs: whether they are is some answer.
-/
namespace Go.Proofs.YtmhinhgflehkaaaGreat
open Go.RowKit

def SomeB (w : World) (e : Ending) (w' : World) : Prop := (∃ b : Bool, e = .returned (.bool b)) ∧ Ext w w'
section
variable (a : Acn) (w : World)
end
def GoodB (w : World) (l : List Acn) (e : Ending) (w' : World) : Prop := (∃ b : Bool, e = .returned (.bool b) ∧ (b = true → l.length ≤ 40 ∧ logE l = 0)) ∧ Ext w w'
end Go.Proofs.YtmhinhgflehkaaaGreat
