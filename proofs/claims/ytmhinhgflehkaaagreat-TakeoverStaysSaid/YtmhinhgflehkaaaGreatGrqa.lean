/-
 Chapter 54: the reference's checks of records, nodes and messages.
-/
import Derived.Test.YtmhinhgflehkaaaGreatGrpc
import Derived.Test.YtmhinhgflehkaaaGreatGarf
import Derived.Test.YtmhinhgflehkaaaGreatGfew
namespace Go.Proofs.YtmhinhgflehkaaaGreat
open Go.RowKit

def lowAt (low : Int) (l : List Rec) (k : Nat) : Int := match prv l k with | some r => r.term | none => low
/-! ### Nodes -/
end Go.Proofs.YtmhinhgflehkaaaGreat

/-
 Chapter 54: the reference's check of messages.
-/
namespace Go.Proofs.YtmhinhgflehkaaaGreat
open Go.RowKit

def BeforeOk (m : Msg) : Prop := (m.at_ = 0 ∧ m.before = 0) ∨ (0 < m.at_ ∧ 1 ≤ m.before ∧ m.before ≤ m.term)
end Go.Proofs.YtmhinhgflehkaaaGreat
