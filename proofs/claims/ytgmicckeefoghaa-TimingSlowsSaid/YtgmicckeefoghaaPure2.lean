/-
  Entries: a parameter and its value.
-/
import Derived.Test.YtgmicckeefoghaaPure
namespace Go.Proofs.Ytgmicckeefoghaa
open Go.RowKit
structure Entry where
  p : Param
  v : Val
  deriving DecidableEq
def en (e : Entry) : List Value := [.int .i64 e.p.ch, .int .i64 e.p.attr, .int .i64 e.v.pal, .int .i64 e.v.lev]
end Go.Proofs.Ytgmicckeefoghaa
