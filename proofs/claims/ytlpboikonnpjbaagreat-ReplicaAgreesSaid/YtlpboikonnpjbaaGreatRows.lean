/-
  No cell of these rows narrows 'for every input' (looked for: loops, veiled, ifaces, maps, wideKeys, modest, calm, conditions, laid).
  DERIVED. THE GIVEN ROWS OF THIS SEAT. 10 by the template 'for every input the law returns true; each argument reads behind the call as it read before'; 0 by the template 'total and deterministic' (their statements: YtlpboikonnpjbaaGreatTotals.lean).
  GIVEN WITH THE SEED: the statements are not yours to turn. If you find one false, say at which input.
  Laid BY PROGRAM, IN A SANDBOX (cutbox-rows.mjs): the forced cells as the released guide's own fill.sh prints them over the translation c446969abde7815b… (all of the seat's roots in one cut). By AI agents, Wed Nov 11 2026. No macro, syntax, notation, axiom, sorry.
-/
import Derived.Test.YtlpboikonnpjbaaGreatChecked
import GoSem.Claim
import GoSem.ClaimJoined
import GoSem.ClaimMapViews
import Derived.JoinedTies
import Derived.KernelRfl
namespace Go.Proofs.YtlpboikonnpjbaaGreat
/- THE CELL 'sum', in the pinned program and in every row, IS THE sha256 OF THE DUMP (.gsa) THAT YtlpboikonnpjbaaGreatProg.lean LOADS. Nothing in Lean hashes anything: it is a label: what it is worth is what the hold of that sum in a sandbox is worth. -/
noncomputable def Tryz.pinned : Pinned := { name := "ytlpboikonnpjbaagreat", sum := "c446969abde7815b41fcc5901190d248ad284ac7a684720f4bba81475d0b9d86", checked := Tryz.checked }
namespace Rows
def none {H : Type} : Left H := { results := [], args := [] }

/-- 'luminairelaw33.ActionRefuses': WHATEVER THE INPUT: true; the input reads as it did. -/
def actionRefusesSpec : ChangeSpec := { name := "actionRefuses", fn := fun _ => fun
  | [d] => { results := [.lit (.bool true)], args := [d] }
  | _ => none }
def actionRefusesRow : OpenClaim := { program := "ytlpboikonnpjbaagreat", sum := "c446969abde7815b41fcc5901190d248ad284ac7a684720f4bba81475d0b9d86", func := "luminaire/luminairelaw33.ActionRefuses", spec := "actionRefuses", inPlace := ["internal/bytealg.IndexByteString", "internal/bytealg.IndexString", "slices.overlaps[luminaire/api.Action]"], unfollowed := true, recurses := true, named := ["internal/bytealg.MaxLen"], apart := false }
def ActionRefusesSaid : Prop := actionRefusesRow.holds Tryz.pinned (OpenSpec.ofChange actionRefusesSpec)

/-- ITS FALSE NEIGHBOUR: 'it returns false'. Refute it at one input. -/
def actionRefusesWrong : ChangeSpec := { name := "actionRefuses", fn := fun _ => fun
  | [d] => { results := [.lit (.bool false)], args := [d] }
  | _ => none }
def ActionRefusesWrongFalsely : Prop := actionRefusesRow.holds Tryz.pinned (OpenSpec.ofChange actionRefusesWrong)

/-- 'luminairelaw54.ReplicaReceives': WHATEVER THE INPUT: true; the input reads as it did. -/
def replicaReceivesSpec : ChangeSpec := { name := "replicaReceives", fn := fun _ => fun
  | [d1, d2] => { results := [.lit (.bool true)], args := [d1, d2] }
  | _ => none }
def replicaReceivesRow : OpenClaim := { program := "ytlpboikonnpjbaagreat", sum := "c446969abde7815b41fcc5901190d248ad284ac7a684720f4bba81475d0b9d86", func := "luminaire/luminairelaw54.ReplicaReceives", spec := "replicaReceives", inPlace := ["internal/bytealg.IndexByteString", "internal/bytealg.IndexString"], unfollowed := true, recurses := true, named := ["internal/bytealg.MaxLen"], apart := false }
def ReplicaReceivesSaid : Prop := replicaReceivesRow.holds Tryz.pinned (OpenSpec.ofChange replicaReceivesSpec)

/-- ITS FALSE NEIGHBOUR: 'it returns false'. Refute it at one input. -/
def replicaReceivesWrong : ChangeSpec := { name := "replicaReceives", fn := fun _ => fun
  | [d1, d2] => { results := [.lit (.bool false)], args := [d1, d2] }
  | _ => none }
def ReplicaReceivesWrongFalsely : Prop := replicaReceivesRow.holds Tryz.pinned (OpenSpec.ofChange replicaReceivesWrong)

/-- 'luminairelaw54.ReplicaKeeps': WHATEVER THE INPUT: true; the input reads as it did. -/
def replicaKeepsSpec : ChangeSpec := { name := "replicaKeeps", fn := fun _ => fun
  | [d1, d2] => { results := [.lit (.bool true)], args := [d1, d2] }
  | _ => none }
def replicaKeepsRow : OpenClaim := { program := "ytlpboikonnpjbaagreat", sum := "c446969abde7815b41fcc5901190d248ad284ac7a684720f4bba81475d0b9d86", func := "luminaire/luminairelaw54.ReplicaKeeps", spec := "replicaKeeps", inPlace := ["internal/bytealg.IndexByteString", "internal/bytealg.IndexString"], unfollowed := true, recurses := true, named := ["internal/bytealg.MaxLen"], apart := false }
def ReplicaKeepsSaid : Prop := replicaKeepsRow.holds Tryz.pinned (OpenSpec.ofChange replicaKeepsSpec)

/-- ITS FALSE NEIGHBOUR: 'it returns false'. Refute it at one input. -/
def replicaKeepsWrong : ChangeSpec := { name := "replicaKeeps", fn := fun _ => fun
  | [d1, d2] => { results := [.lit (.bool false)], args := [d1, d2] }
  | _ => none }
def ReplicaKeepsWrongFalsely : Prop := replicaKeepsRow.holds Tryz.pinned (OpenSpec.ofChange replicaKeepsWrong)

/-- 'luminairelaw54.ReplicaActs': WHATEVER THE INPUT: true; the input reads as it did. -/
def replicaActsSpec : ChangeSpec := { name := "replicaActs", fn := fun _ => fun
  | [d1, d2, d3] => { results := [.lit (.bool true)], args := [d1, d2, d3] }
  | _ => none }
def replicaActsRow : OpenClaim := { program := "ytlpboikonnpjbaagreat", sum := "c446969abde7815b41fcc5901190d248ad284ac7a684720f4bba81475d0b9d86", func := "luminaire/luminairelaw54.ReplicaActs", spec := "replicaActs", inPlace := ["internal/bytealg.IndexByteString", "internal/bytealg.IndexString"], unfollowed := true, recurses := true, named := ["internal/bytealg.MaxLen"], apart := false }
def ReplicaActsSaid : Prop := replicaActsRow.holds Tryz.pinned (OpenSpec.ofChange replicaActsSpec)

/-- ITS FALSE NEIGHBOUR: 'it returns false'. Refute it at one input. -/
def replicaActsWrong : ChangeSpec := { name := "replicaActs", fn := fun _ => fun
  | [d1, d2, d3] => { results := [.lit (.bool false)], args := [d1, d2, d3] }
  | _ => none }
def ReplicaActsWrongFalsely : Prop := replicaActsRow.holds Tryz.pinned (OpenSpec.ofChange replicaActsWrong)

/-- 'luminairelaw54.ReplicaChecks': WHATEVER THE INPUT: true; the input reads as it did. -/
def replicaChecksSpec : ChangeSpec := { name := "replicaChecks", fn := fun _ => fun
  | [d1, d2, d3] => { results := [.lit (.bool true)], args := [d1, d2, d3] }
  | _ => none }
def replicaChecksRow : OpenClaim := { program := "ytlpboikonnpjbaagreat", sum := "c446969abde7815b41fcc5901190d248ad284ac7a684720f4bba81475d0b9d86", func := "luminaire/luminairelaw54.ReplicaChecks", spec := "replicaChecks", inPlace := ["internal/bytealg.IndexByteString", "internal/bytealg.IndexString"], unfollowed := true, recurses := true, named := ["internal/bytealg.MaxLen"], apart := false }
def ReplicaChecksSaid : Prop := replicaChecksRow.holds Tryz.pinned (OpenSpec.ofChange replicaChecksSpec)

/-- ITS FALSE NEIGHBOUR: 'it returns false'. Refute it at one input. -/
def replicaChecksWrong : ChangeSpec := { name := "replicaChecks", fn := fun _ => fun
  | [d1, d2, d3] => { results := [.lit (.bool false)], args := [d1, d2, d3] }
  | _ => none }
def ReplicaChecksWrongFalsely : Prop := replicaChecksRow.holds Tryz.pinned (OpenSpec.ofChange replicaChecksWrong)

/-- 'luminairelaw54.ReplicaRepeats': WHATEVER THE INPUT: true; the input reads as it did. -/
def replicaRepeatsSpec : ChangeSpec := { name := "replicaRepeats", fn := fun _ => fun
  | [d1, d2] => { results := [.lit (.bool true)], args := [d1, d2] }
  | _ => none }
def replicaRepeatsRow : OpenClaim := { program := "ytlpboikonnpjbaagreat", sum := "c446969abde7815b41fcc5901190d248ad284ac7a684720f4bba81475d0b9d86", func := "luminaire/luminairelaw54.ReplicaRepeats", spec := "replicaRepeats", inPlace := ["internal/bytealg.IndexByteString", "internal/bytealg.IndexString"], unfollowed := true, recurses := true, named := ["internal/bytealg.MaxLen"], apart := false }
def ReplicaRepeatsSaid : Prop := replicaRepeatsRow.holds Tryz.pinned (OpenSpec.ofChange replicaRepeatsSpec)

/-- ITS FALSE NEIGHBOUR: 'it returns false'. Refute it at one input. -/
def replicaRepeatsWrong : ChangeSpec := { name := "replicaRepeats", fn := fun _ => fun
  | [d1, d2] => { results := [.lit (.bool false)], args := [d1, d2] }
  | _ => none }
def ReplicaRepeatsWrongFalsely : Prop := replicaRepeatsRow.holds Tryz.pinned (OpenSpec.ofChange replicaRepeatsWrong)

/-- 'luminairelaw54.ReplicaSettles': WHATEVER THE INPUT: true; the input reads as it did. -/
def replicaSettlesSpec : ChangeSpec := { name := "replicaSettles", fn := fun _ => fun
  | [d1, d2] => { results := [.lit (.bool true)], args := [d1, d2] }
  | _ => none }
def replicaSettlesRow : OpenClaim := { program := "ytlpboikonnpjbaagreat", sum := "c446969abde7815b41fcc5901190d248ad284ac7a684720f4bba81475d0b9d86", func := "luminaire/luminairelaw54.ReplicaSettles", spec := "replicaSettles", inPlace := ["internal/bytealg.IndexByteString", "internal/bytealg.IndexString"], unfollowed := true, recurses := true, named := ["internal/bytealg.MaxLen"], apart := false }
def ReplicaSettlesSaid : Prop := replicaSettlesRow.holds Tryz.pinned (OpenSpec.ofChange replicaSettlesSpec)

/-- ITS FALSE NEIGHBOUR: 'it returns false'. Refute it at one input. -/
def replicaSettlesWrong : ChangeSpec := { name := "replicaSettles", fn := fun _ => fun
  | [d1, d2] => { results := [.lit (.bool false)], args := [d1, d2] }
  | _ => none }
def ReplicaSettlesWrongFalsely : Prop := replicaSettlesRow.holds Tryz.pinned (OpenSpec.ofChange replicaSettlesWrong)

/-- 'luminairelaw54.ReplicaAgrees': WHATEVER THE INPUT: true; the input reads as it did. -/
def replicaAgreesSpec : ChangeSpec := { name := "replicaAgrees", fn := fun _ => fun
  | [d1, d2, d3] => { results := [.lit (.bool true)], args := [d1, d2, d3] }
  | _ => none }
def replicaAgreesRow : OpenClaim := { program := "ytlpboikonnpjbaagreat", sum := "c446969abde7815b41fcc5901190d248ad284ac7a684720f4bba81475d0b9d86", func := "luminaire/luminairelaw54.ReplicaAgrees", spec := "replicaAgrees", inPlace := ["internal/bytealg.IndexByteString", "internal/bytealg.IndexString"], unfollowed := true, recurses := true, named := ["internal/bytealg.MaxLen"], apart := false }
def ReplicaAgreesSaid : Prop := replicaAgreesRow.holds Tryz.pinned (OpenSpec.ofChange replicaAgreesSpec)

/-- ITS FALSE NEIGHBOUR: 'it returns false'. Refute it at one input. -/
def replicaAgreesWrong : ChangeSpec := { name := "replicaAgrees", fn := fun _ => fun
  | [d1, d2, d3] => { results := [.lit (.bool false)], args := [d1, d2, d3] }
  | _ => none }
def ReplicaAgreesWrongFalsely : Prop := replicaAgreesRow.holds Tryz.pinned (OpenSpec.ofChange replicaAgreesWrong)

/-- 'luminairetop.TopReplicasKeep': WHATEVER THE INPUT: true; the input reads as it did. -/
def topReplicasKeepSpec : ChangeSpec := { name := "topReplicasKeep", fn := fun _ => fun
  | [d] => { results := [.lit (.bool true)], args := [d] }
  | _ => none }
def topReplicasKeepRow : OpenClaim := { program := "ytlpboikonnpjbaagreat", sum := "c446969abde7815b41fcc5901190d248ad284ac7a684720f4bba81475d0b9d86", func := "luminaire/luminairetop.TopReplicasKeep", spec := "topReplicasKeep", inPlace := ["internal/bytealg.IndexByteString", "internal/bytealg.IndexString"], unfollowed := true, recurses := true, named := ["internal/bytealg.MaxLen"], apart := false }
def TopReplicasKeepSaid : Prop := topReplicasKeepRow.holds Tryz.pinned (OpenSpec.ofChange topReplicasKeepSpec)

/-- ITS FALSE NEIGHBOUR: 'it returns false'. Refute it at one input. -/
def topReplicasKeepWrong : ChangeSpec := { name := "topReplicasKeep", fn := fun _ => fun
  | [d] => { results := [.lit (.bool false)], args := [d] }
  | _ => none }
def TopReplicasKeepWrongFalsely : Prop := topReplicasKeepRow.holds Tryz.pinned (OpenSpec.ofChange topReplicasKeepWrong)

/-- 'luminairetop.TopReplicasSettle': WHATEVER THE INPUT: true; the input reads as it did. -/
def topReplicasSettleSpec : ChangeSpec := { name := "topReplicasSettle", fn := fun _ => fun
  | [d1, d2] => { results := [.lit (.bool true)], args := [d1, d2] }
  | _ => none }
def topReplicasSettleRow : OpenClaim := { program := "ytlpboikonnpjbaagreat", sum := "c446969abde7815b41fcc5901190d248ad284ac7a684720f4bba81475d0b9d86", func := "luminaire/luminairetop.TopReplicasSettle", spec := "topReplicasSettle", inPlace := ["internal/bytealg.IndexByteString", "internal/bytealg.IndexString"], unfollowed := true, recurses := true, named := ["internal/bytealg.MaxLen"], apart := false }
def TopReplicasSettleSaid : Prop := topReplicasSettleRow.holds Tryz.pinned (OpenSpec.ofChange topReplicasSettleSpec)

/-- ITS FALSE NEIGHBOUR: 'it returns false'. Refute it at one input. -/
def topReplicasSettleWrong : ChangeSpec := { name := "topReplicasSettle", fn := fun _ => fun
  | [d1, d2] => { results := [.lit (.bool false)], args := [d1, d2] }
  | _ => none }
def TopReplicasSettleWrongFalsely : Prop := topReplicasSettleRow.holds Tryz.pinned (OpenSpec.ofChange topReplicasSettleWrong)

/- THE SECOND FORM. 'bulk': how many values and letters a reading holds, each counted each time it is reached (what is shared counts as often as it is met; a slice's spare places count too). A statement '..UptoSaid' is the law's where the arguments, and the package variables that the reading takes, are together of bulk at most 1048576: NARROWER than '..Said'. Prove '..Said' where nothing that the law and all that it calls make is longer than what came in: it says more and counts as full. Else prove '..UptoSaid'. A law counts once. -/
mutual
def uptoBulk {H : Type} : DataW H → Nat
  | .lit (.string bytes) => bytes.length + 1
  | .lit _ => 1
  | .nil => 1
  | .ptr d => uptoBulk d + 1
  | .slice elems spare => uptoBulkAll elems + uptoBulkAll spare + 1
  | .agg parts => uptoBulkAll parts + 1
  | .iface _ d => uptoBulk d + 1
  | .map entries => uptoBulkEntries entries + 1
  | .held _ => 1
def uptoBulkAll {H : Type} : List (DataW H) → Nat
  | [] => 0
  | d :: r => uptoBulk d + uptoBulkAll r
def uptoBulkEntries {H : Type} : List (Lit × DataW H) → Nat
  | [] => 0
  | x :: r => uptoBulkEntry x + uptoBulkEntries r
def uptoBulkEntry {H : Type} : Lit × DataW H → Nat
  | (.string bytes, d) => bytes.length + uptoBulk d + 1
  | (_, d) => uptoBulk d + 1
 end
def uptoSmall : (H : Type) → List (DataW H) → Bool := fun _ ds => decide (uptoBulkAll ds ≤ 1048576)
def OpenSpec.upto (s : _root_.Go.ChangeSpec) : _root_.Go.OpenSpec := { _root_.Go.OpenSpec.ofChange s with cond := some uptoSmall }

/-- 'luminairelaw33.ActionRefuses', WHERE WHAT IT READS IS OF BULK AT MOST 1048576: true; the input reads as it did. -/
def actionRefusesUptoRow : OpenClaim := { program := "ytlpboikonnpjbaagreat", sum := "c446969abde7815b41fcc5901190d248ad284ac7a684720f4bba81475d0b9d86", func := "luminaire/luminairelaw33.ActionRefuses", spec := "actionRefuses", inPlace := ["internal/bytealg.IndexByteString", "internal/bytealg.IndexString", "slices.overlaps[luminaire/api.Action]"], unfollowed := true, recurses := true, named := ["internal/bytealg.MaxLen"], apart := false, narrowed := true }
def ActionRefusesUptoSaid : Prop := actionRefusesUptoRow.holds Tryz.pinned (OpenSpec.upto actionRefusesSpec)

/-- 'luminairelaw54.ReplicaReceives', WHERE WHAT IT READS IS OF BULK AT MOST 1048576: true; the input reads as it did. -/
def replicaReceivesUptoRow : OpenClaim := { program := "ytlpboikonnpjbaagreat", sum := "c446969abde7815b41fcc5901190d248ad284ac7a684720f4bba81475d0b9d86", func := "luminaire/luminairelaw54.ReplicaReceives", spec := "replicaReceives", inPlace := ["internal/bytealg.IndexByteString", "internal/bytealg.IndexString"], unfollowed := true, recurses := true, named := ["internal/bytealg.MaxLen"], apart := false, narrowed := true }
def ReplicaReceivesUptoSaid : Prop := replicaReceivesUptoRow.holds Tryz.pinned (OpenSpec.upto replicaReceivesSpec)

/-- 'luminairelaw54.ReplicaKeeps', WHERE WHAT IT READS IS OF BULK AT MOST 1048576: true; the input reads as it did. -/
def replicaKeepsUptoRow : OpenClaim := { program := "ytlpboikonnpjbaagreat", sum := "c446969abde7815b41fcc5901190d248ad284ac7a684720f4bba81475d0b9d86", func := "luminaire/luminairelaw54.ReplicaKeeps", spec := "replicaKeeps", inPlace := ["internal/bytealg.IndexByteString", "internal/bytealg.IndexString"], unfollowed := true, recurses := true, named := ["internal/bytealg.MaxLen"], apart := false, narrowed := true }
def ReplicaKeepsUptoSaid : Prop := replicaKeepsUptoRow.holds Tryz.pinned (OpenSpec.upto replicaKeepsSpec)

/-- 'luminairelaw54.ReplicaActs', WHERE WHAT IT READS IS OF BULK AT MOST 1048576: true; the input reads as it did. -/
def replicaActsUptoRow : OpenClaim := { program := "ytlpboikonnpjbaagreat", sum := "c446969abde7815b41fcc5901190d248ad284ac7a684720f4bba81475d0b9d86", func := "luminaire/luminairelaw54.ReplicaActs", spec := "replicaActs", inPlace := ["internal/bytealg.IndexByteString", "internal/bytealg.IndexString"], unfollowed := true, recurses := true, named := ["internal/bytealg.MaxLen"], apart := false, narrowed := true }
def ReplicaActsUptoSaid : Prop := replicaActsUptoRow.holds Tryz.pinned (OpenSpec.upto replicaActsSpec)

/-- 'luminairelaw54.ReplicaChecks', WHERE WHAT IT READS IS OF BULK AT MOST 1048576: true; the input reads as it did. -/
def replicaChecksUptoRow : OpenClaim := { program := "ytlpboikonnpjbaagreat", sum := "c446969abde7815b41fcc5901190d248ad284ac7a684720f4bba81475d0b9d86", func := "luminaire/luminairelaw54.ReplicaChecks", spec := "replicaChecks", inPlace := ["internal/bytealg.IndexByteString", "internal/bytealg.IndexString"], unfollowed := true, recurses := true, named := ["internal/bytealg.MaxLen"], apart := false, narrowed := true }
def ReplicaChecksUptoSaid : Prop := replicaChecksUptoRow.holds Tryz.pinned (OpenSpec.upto replicaChecksSpec)

/-- 'luminairelaw54.ReplicaRepeats', WHERE WHAT IT READS IS OF BULK AT MOST 1048576: true; the input reads as it did. -/
def replicaRepeatsUptoRow : OpenClaim := { program := "ytlpboikonnpjbaagreat", sum := "c446969abde7815b41fcc5901190d248ad284ac7a684720f4bba81475d0b9d86", func := "luminaire/luminairelaw54.ReplicaRepeats", spec := "replicaRepeats", inPlace := ["internal/bytealg.IndexByteString", "internal/bytealg.IndexString"], unfollowed := true, recurses := true, named := ["internal/bytealg.MaxLen"], apart := false, narrowed := true }
def ReplicaRepeatsUptoSaid : Prop := replicaRepeatsUptoRow.holds Tryz.pinned (OpenSpec.upto replicaRepeatsSpec)

/-- 'luminairelaw54.ReplicaSettles', WHERE WHAT IT READS IS OF BULK AT MOST 1048576: true; the input reads as it did. -/
def replicaSettlesUptoRow : OpenClaim := { program := "ytlpboikonnpjbaagreat", sum := "c446969abde7815b41fcc5901190d248ad284ac7a684720f4bba81475d0b9d86", func := "luminaire/luminairelaw54.ReplicaSettles", spec := "replicaSettles", inPlace := ["internal/bytealg.IndexByteString", "internal/bytealg.IndexString"], unfollowed := true, recurses := true, named := ["internal/bytealg.MaxLen"], apart := false, narrowed := true }
def ReplicaSettlesUptoSaid : Prop := replicaSettlesUptoRow.holds Tryz.pinned (OpenSpec.upto replicaSettlesSpec)

/-- 'luminairelaw54.ReplicaAgrees', WHERE WHAT IT READS IS OF BULK AT MOST 1048576: true; the input reads as it did. -/
def replicaAgreesUptoRow : OpenClaim := { program := "ytlpboikonnpjbaagreat", sum := "c446969abde7815b41fcc5901190d248ad284ac7a684720f4bba81475d0b9d86", func := "luminaire/luminairelaw54.ReplicaAgrees", spec := "replicaAgrees", inPlace := ["internal/bytealg.IndexByteString", "internal/bytealg.IndexString"], unfollowed := true, recurses := true, named := ["internal/bytealg.MaxLen"], apart := false, narrowed := true }
def ReplicaAgreesUptoSaid : Prop := replicaAgreesUptoRow.holds Tryz.pinned (OpenSpec.upto replicaAgreesSpec)

/-- 'luminairetop.TopReplicasKeep', WHERE WHAT IT READS IS OF BULK AT MOST 1048576: true; the input reads as it did. -/
def topReplicasKeepUptoRow : OpenClaim := { program := "ytlpboikonnpjbaagreat", sum := "c446969abde7815b41fcc5901190d248ad284ac7a684720f4bba81475d0b9d86", func := "luminaire/luminairetop.TopReplicasKeep", spec := "topReplicasKeep", inPlace := ["internal/bytealg.IndexByteString", "internal/bytealg.IndexString"], unfollowed := true, recurses := true, named := ["internal/bytealg.MaxLen"], apart := false, narrowed := true }
def TopReplicasKeepUptoSaid : Prop := topReplicasKeepUptoRow.holds Tryz.pinned (OpenSpec.upto topReplicasKeepSpec)

/-- 'luminairetop.TopReplicasSettle', WHERE WHAT IT READS IS OF BULK AT MOST 1048576: true; the input reads as it did. -/
def topReplicasSettleUptoRow : OpenClaim := { program := "ytlpboikonnpjbaagreat", sum := "c446969abde7815b41fcc5901190d248ad284ac7a684720f4bba81475d0b9d86", func := "luminaire/luminairetop.TopReplicasSettle", spec := "topReplicasSettle", inPlace := ["internal/bytealg.IndexByteString", "internal/bytealg.IndexString"], unfollowed := true, recurses := true, named := ["internal/bytealg.MaxLen"], apart := false, narrowed := true }
def TopReplicasSettleUptoSaid : Prop := topReplicasSettleUptoRow.holds Tryz.pinned (OpenSpec.upto topReplicasSettleSpec)

end Rows
end Go.Proofs.YtlpboikonnpjbaaGreat
