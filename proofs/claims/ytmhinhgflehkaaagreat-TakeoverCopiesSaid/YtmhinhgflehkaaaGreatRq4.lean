/-
 Chapter 54: equal records, nodes and messages.
-/
import Derived.Test.YtmhinhgflehkaaaGreatGrpn
import Derived.Test.YtmhinhgflehkaaaGreatGarf
import Derived.Test.YtmhinhgflehkaaaGreatGrag
namespace Go.Proofs.YtmhinhgflehkaaaGreat
open Go.RowKit
def SameUp (l m : List Rec) (k : Nat) : Prop := ∀ (i : Nat) (x y : Rec), i < k → l[i]? = some x → m[i]? = some y → sameR x y = true
theorem r33_Same_as (a b : Acn) (v : Bool) (hv : sameA a b = v) (w : World) (ha : AcnAt w a) (hb : AcnAt w b) : Calls Tryz.prog 83 #[.agg (acnR a).toArray, .agg (acnR b).toArray] w fun r w' => r = .returned (.bool v) ∧ Ext w w' := by
 subst hv
 exact r33_Same a b w ha hb
/-! ### Nodes and messages -/
/-! ### The program's comparison -/
end Go.Proofs.YtmhinhgflehkaaaGreat
