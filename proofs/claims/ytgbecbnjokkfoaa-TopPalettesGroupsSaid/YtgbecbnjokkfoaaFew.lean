import Derived.Test.YtgbecbnjokkfoaaTim10
namespace Go.Proofs.Ytgbecbnjokkfoaa
open Go.RowKit

def few (c : Cue) : Bool:=decide (c.number.size ≤ 40) && decide (c.label.size ≤ 100) && decide (c.link.size ≤ 40) && decide (c.parts.length ≤ 10) && decide (c.moves.length ≤ 300)

end Go.Proofs.Ytgbecbnjokkfoaa
