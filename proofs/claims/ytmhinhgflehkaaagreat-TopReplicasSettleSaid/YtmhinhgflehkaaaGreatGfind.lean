import Derived.Test.YtmhinhgflehkaaaGreatGcue
namespace Go.Proofs.YtmhinhgflehkaaaGreat
open Go.RowKit
end Go.Proofs.YtmhinhgflehkaaaGreat

namespace Go.Proofs.YtmhinhgflehkaaaGreat
open Go.RowKit

section
variable (c : Cue) (A : Option Addr) (k : Nat) (B : Option Addr) (m : Nat) (w : World) (hc : CueAt w c A k B m)
include hc
end
end Go.Proofs.YtmhinhgflehkaaaGreat

namespace Go.Proofs.YtmhinhgflehkaaaGreat
open Go.RowKit

/-! ### Places in sorted lists -/
/-- How many moves are before a parameter. -/
def posP (l : List Move) (p : Param) : Nat := (l.takeWhile fun m => before m.p p).length
/-- Whether a parameter is there. -/
def foundP (l : List Move) (p : Param) : Bool := match l[posP l p]? with | some m => decide (m.p = p) | none => false

/-- What cue.Find answers. -/
def findV (c : Cue) (p : Param) : Int × Bool × Int :=
  if cueE c ≠ 0 then (0, false, cueE c) else if paramE p ≠ 0 then (0, false, paramE p) else if foundP c.moves p then (posP c.moves p, true, 0) else (0, false, 0)
end Go.Proofs.YtmhinhgflehkaaaGreat
