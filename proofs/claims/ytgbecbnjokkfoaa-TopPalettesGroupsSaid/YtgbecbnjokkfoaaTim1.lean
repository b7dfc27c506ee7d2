import Derived.Test.YtgbecbnjokkfoaaFind
import Derived.RangeFuncNested
import Derived.RangeFuncBound
import Derived.RangeFuncCalls
import Derived.RangeFuncLeaves
import Derived.Shelf.Abstract
import Derived.Shelf.RegionOpen
import Derived.OwnWalkIn
import Derived.TacticsInMore
import Derived.LoopNIn
import Derived.LoopIn
import Derived.Laws.EntriesVeiled
namespace Go.Proofs.Ytgbecbnjokkfoaa
open Go.RowKit

def kind (a : Int) : Int:=if a = 0 then 0 else if a = 1 ∨ a = 2 then 1 else if 3 ≤ a ∧ a ≤ 10 then 2 else 3
def attrE (a : Int) : Int:=if a < 0 ∨ 15 ≤ a then 2 else 0
def classV (a : Int) : Int × Int:=if attrE a ≠ 0 then (0,attrE a) else (kind a,0)
theorem ret_ii {a b x y : Int} (h : (a,x) = (b,y)) : Ending.returned (.tuple #[.int .i64 a,.int .i64 x]) = .returned (.tuple #[.int .i64 b,.int .i64 y]):=by
 injection h with h1 h2;rw [h1,h2]
def taken (t : Timing) (a : Int) (r : Bool) : Int:=if kind a = 0 then (if r then t.up else t.down) else if kind a = 1 then t.pos else if kind a = 2 then t.col else t.beam
def timingE (t : Timing) : Int:=if timingOk t then 0 else 2
def timeV (t : Timing) (a : Int) (r : Bool) : Int × Int:=if timingE t ≠ 0 then (0,timingE t) else if attrE a ≠ 0 then (0,attrE a) else (taken t a r,0)

end Go.Proofs.Ytgbecbnjokkfoaa
