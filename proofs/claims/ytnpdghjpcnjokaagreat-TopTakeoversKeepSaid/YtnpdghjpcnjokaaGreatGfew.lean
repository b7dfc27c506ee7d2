import Derived.Test.YtnpdghjpcnjokaaGreatGidl
import Derived.Test.YtnpdghjpcnjokaaGreatGbtw
namespace Go.Proofs.YtnpdghjpcnjokaaGreat
open Go.RowKit
end Go.Proofs.YtnpdghjpcnjokaaGreat

namespace Go.Proofs.YtnpdghjpcnjokaaGreat
open Go.RowKit

def SomeB (w : World) (e : Ending) (w' : World) : Prop:=(∃ b : Bool,e = .returned (.bool b)) ∧ Ext w w'
section
variable (a : Acn) (w : World)
end
def GoodB (w : World) (l : List Acn) (e : Ending) (w' : World) : Prop:=(∃ b : Bool,e = .returned (.bool b) ∧ (b = true → l.length ≤ 40 ∧ logE l = 0)) ∧ Ext w w'
end Go.Proofs.YtnpdghjpcnjokaaGreat
