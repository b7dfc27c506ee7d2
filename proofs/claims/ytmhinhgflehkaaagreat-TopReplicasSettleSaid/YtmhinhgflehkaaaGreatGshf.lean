/-
  Logs of actions: the edits among them; shifts; insertions.
-/
import Derived.Test.YtmhinhgflehkaaaGreatGbtw
import Derived.Test.YtmhinhgflehkaaaGreatInsA
namespace Go.Proofs.YtmhinhgflehkaaaGreat
open Go.RowKit
def isEd (a : Acn) : Bool := decide (a.kind = 17 ∨ a.kind = 18 ∨ a.kind = 19)
def edAt (l : List Acn) (i : Nat) : Bool := match l[i]? with | some a => isEd a | none => false
def idxsE (l : List Acn) (k : Nat) : List Int := ((List.range k).filter (edAt l)).map Int.ofNat
noncomputable def editsV (l : List Acn) : List Int × Int := if logE l ≠ 0 then ([], logE l) else (idxsE l l.length, 0)
def RetInts2 (w0 : World) (v : List Int × Int) (e : Ending) (w' : World) : Prop := ∃ A k, e = .returned (.tuple #[.slice A v.1.length k, .int .i64 v.2]) ∧ Ext w0 w' ∧ Own w0 w' 3 1 A v.1.length k (v.1.map intR)
/-! ### Shifts -/
def shA (by_ : Int) (a : Acn) : Acn := { a with at_ := a.at_ + by_ }
def shOk (by_ : Int) (a : Acn) : Bool := decide (-a.at_ ≤ by_ ∧ by_ ≤ 10000000 - a.at_)
noncomputable def shiftV (l : List Acn) (by_ : Int) : List Acn × Int := if logE l ≠ 0 then ([], logE l) else if l.all (shOk by_) = true then (l.map (shA by_), 0) else ([], 2)
/-- The first k are shifted. -/
def shK (l : List Acn) (by_ : Int) (k : Nat) : List Acn := (l.take k).map (shA by_) ++ l.drop k
end Go.Proofs.YtmhinhgflehkaaaGreat

/-
  Logs of actions in plain: order, counts, parts, shifts.
-/
namespace Go.Proofs.YtmhinhgflehkaaaGreat
open Go.RowKit

def Asc (l : List Acn) : Prop := l.Pairwise fun a b => a.at_ ≤ b.at_
/-! ### Up to a time -/
def cntL (l : List Acn) (t : Int) : Nat := (l.filter fun a => decide (a.at_ ≤ t)).length
def btwL (l : List Acn) (i k : Int) : List Acn := l.filter fun a => decide (i < a.at_ ∧ a.at_ ≤ k)
/-! ### Shifts -/
/-! ### Insertions -/
def insL (l : List Acn) (a : Acn) : List Acn := l.take (untilL l a.at_) ++ a :: l.drop (untilL l a.at_)
end Go.Proofs.YtmhinhgflehkaaaGreat
