/-
  No cell of these rows narrows 'for every input' (looked for: loops, veiled, ifaces, maps, wideKeys, modest, calm, conditions, laid).
  DERIVED. THE GIVEN ROWS OF THIS SEAT. 7 by the template 'for every input the law returns true; each argument reads behind the call as it read before'; 0 by the template 'total and deterministic' (their statements: YtbgpcgapkeddpaaGreatTotals.lean).
  GIVEN WITH THE SEED: the statements are not yours to turn. If you find one false, say at which input.
  Laid BY PROGRAM, IN A SANDBOX (cutbox-rows.mjs): the forced cells as the released guide's own fill.sh prints them over the translation 504367ef7029ef28… (all of the seat's roots in one cut). By AI agents, Wed Nov 11 2026. No macro, syntax, notation, axiom, sorry.
-/
import Derived.Test.YtbgpcgapkeddpaaGreatChecked
import GoSem.Claim
import GoSem.ClaimJoined
import GoSem.ClaimMapViews
import Derived.JoinedTies
import Derived.KernelRfl
namespace Go.Proofs.YtbgpcgapkeddpaaGreat
/- THE CELL 'sum', in the pinned program and in every row, IS THE sha256 OF THE DUMP (.gsa) THAT YtbgpcgapkeddpaaGreatProg.lean LOADS. Nothing in Lean hashes anything: it is a label: what it is worth is what the hold of that sum in a sandbox is worth. -/
noncomputable def Tryz.pinned : Pinned := { name := "ytbgpcgapkeddpaagreat", sum := "504367ef7029ef28cf1ac59473c4c47da9bcf3300dbf0aa634ac3295cb7da7df", checked := Tryz.checked }
namespace Rows
def none {H : Type} : Left H := { results := [], args := [] }

/-- 'luminairelaw33.ActionInserts': WHATEVER THE INPUT: true; the input reads as it did. -/
def actionInsertsSpec : ChangeSpec := { name := "actionInserts", fn := fun _ => fun
  | [d1, d2, d3] => { results := [.lit (.bool true)], args := [d1, d2, d3] }
  | _ => none }
def actionInsertsRow : OpenClaim := { program := "ytbgpcgapkeddpaagreat", sum := "504367ef7029ef28cf1ac59473c4c47da9bcf3300dbf0aa634ac3295cb7da7df", func := "luminaire/luminairelaw33.ActionInserts", spec := "actionInserts", inPlace := ["internal/bytealg.IndexByteString", "internal/bytealg.IndexString", "slices.overlaps[luminaire/api.Action]"], unfollowed := true, recurses := true, named := ["internal/bytealg.MaxLen"], apart := false }
def ActionInsertsSaid : Prop := actionInsertsRow.holds Tryz.pinned (OpenSpec.ofChange actionInsertsSpec)

/-- ITS FALSE NEIGHBOUR: 'it returns false'. Refute it at one input. -/
def actionInsertsWrong : ChangeSpec := { name := "actionInserts", fn := fun _ => fun
  | [d1, d2, d3] => { results := [.lit (.bool false)], args := [d1, d2, d3] }
  | _ => none }
def ActionInsertsWrongFalsely : Prop := actionInsertsRow.holds Tryz.pinned (OpenSpec.ofChange actionInsertsWrong)

/-- 'luminairelaw33.ActionSplits': WHATEVER THE INPUT: true; the input reads as it did. -/
def actionSplitsSpec : ChangeSpec := { name := "actionSplits", fn := fun _ => fun
  | [d1, d2] => { results := [.lit (.bool true)], args := [d1, d2] }
  | _ => none }
def actionSplitsRow : OpenClaim := { program := "ytbgpcgapkeddpaagreat", sum := "504367ef7029ef28cf1ac59473c4c47da9bcf3300dbf0aa634ac3295cb7da7df", func := "luminaire/luminairelaw33.ActionSplits", spec := "actionSplits", inPlace := ["internal/bytealg.IndexByteString", "internal/bytealg.IndexString", "slices.overlaps[luminaire/api.Action]"], unfollowed := true, recurses := true, named := ["internal/bytealg.MaxLen"], apart := false }
def ActionSplitsSaid : Prop := actionSplitsRow.holds Tryz.pinned (OpenSpec.ofChange actionSplitsSpec)

/-- ITS FALSE NEIGHBOUR: 'it returns false'. Refute it at one input. -/
def actionSplitsWrong : ChangeSpec := { name := "actionSplits", fn := fun _ => fun
  | [d1, d2] => { results := [.lit (.bool false)], args := [d1, d2] }
  | _ => none }
def ActionSplitsWrongFalsely : Prop := actionSplitsRow.holds Tryz.pinned (OpenSpec.ofChange actionSplitsWrong)

/-- 'luminairelaw33.ActionReturns': WHATEVER THE INPUT: true; the input reads as it did. -/
def actionReturnsSpec : ChangeSpec := { name := "actionReturns", fn := fun _ => fun
  | [d1, d2, d3] => { results := [.lit (.bool true)], args := [d1, d2, d3] }
  | _ => none }
def actionReturnsRow : OpenClaim := { program := "ytbgpcgapkeddpaagreat", sum := "504367ef7029ef28cf1ac59473c4c47da9bcf3300dbf0aa634ac3295cb7da7df", func := "luminaire/luminairelaw33.ActionReturns", spec := "actionReturns", inPlace := ["internal/bytealg.IndexByteString", "internal/bytealg.IndexString", "slices.overlaps[luminaire/api.Action]"], unfollowed := true, recurses := true, named := ["internal/bytealg.MaxLen"], apart := false }
def ActionReturnsSaid : Prop := actionReturnsRow.holds Tryz.pinned (OpenSpec.ofChange actionReturnsSpec)

/-- ITS FALSE NEIGHBOUR: 'it returns false'. Refute it at one input. -/
def actionReturnsWrong : ChangeSpec := { name := "actionReturns", fn := fun _ => fun
  | [d1, d2, d3] => { results := [.lit (.bool false)], args := [d1, d2, d3] }
  | _ => none }
def ActionReturnsWrongFalsely : Prop := actionReturnsRow.holds Tryz.pinned (OpenSpec.ofChange actionReturnsWrong)

/-- 'luminairelaw33.ActionRefuses': WHATEVER THE INPUT: true; the input reads as it did. -/
def actionRefusesSpec : ChangeSpec := { name := "actionRefuses", fn := fun _ => fun
  | [d] => { results := [.lit (.bool true)], args := [d] }
  | _ => none }
def actionRefusesRow : OpenClaim := { program := "ytbgpcgapkeddpaagreat", sum := "504367ef7029ef28cf1ac59473c4c47da9bcf3300dbf0aa634ac3295cb7da7df", func := "luminaire/luminairelaw33.ActionRefuses", spec := "actionRefuses", inPlace := ["internal/bytealg.IndexByteString", "internal/bytealg.IndexString", "slices.overlaps[luminaire/api.Action]"], unfollowed := true, recurses := true, named := ["internal/bytealg.MaxLen"], apart := false }
def ActionRefusesSaid : Prop := actionRefusesRow.holds Tryz.pinned (OpenSpec.ofChange actionRefusesSpec)

/-- ITS FALSE NEIGHBOUR: 'it returns false'. Refute it at one input. -/
def actionRefusesWrong : ChangeSpec := { name := "actionRefuses", fn := fun _ => fun
  | [d] => { results := [.lit (.bool false)], args := [d] }
  | _ => none }
def ActionRefusesWrongFalsely : Prop := actionRefusesRow.holds Tryz.pinned (OpenSpec.ofChange actionRefusesWrong)

/-- 'luminairelaw33.ActionChecks': WHATEVER THE INPUT: true; the input reads as it did. -/
def actionChecksSpec : ChangeSpec := { name := "actionChecks", fn := fun _ => fun
  | [d1, d2, d3] => { results := [.lit (.bool true)], args := [d1, d2, d3] }
  | _ => none }
def actionChecksRow : OpenClaim := { program := "ytbgpcgapkeddpaagreat", sum := "504367ef7029ef28cf1ac59473c4c47da9bcf3300dbf0aa634ac3295cb7da7df", func := "luminaire/luminairelaw33.ActionChecks", spec := "actionChecks", inPlace := ["internal/bytealg.IndexByteString", "internal/bytealg.IndexString", "slices.overlaps[luminaire/api.Action]"], unfollowed := true, recurses := true, named := ["internal/bytealg.MaxLen"], apart := false }
def ActionChecksSaid : Prop := actionChecksRow.holds Tryz.pinned (OpenSpec.ofChange actionChecksSpec)

/-- ITS FALSE NEIGHBOUR: 'it returns false'. Refute it at one input. -/
def actionChecksWrong : ChangeSpec := { name := "actionChecks", fn := fun _ => fun
  | [d1, d2, d3] => { results := [.lit (.bool false)], args := [d1, d2, d3] }
  | _ => none }
def ActionChecksWrongFalsely : Prop := actionChecksRow.holds Tryz.pinned (OpenSpec.ofChange actionChecksWrong)

/-- 'luminairelaw33.ActionParts': WHATEVER THE INPUT: true; the input reads as it did. -/
def actionPartsSpec : ChangeSpec := { name := "actionParts", fn := fun _ => fun
  | [d1, d2, d3] => { results := [.lit (.bool true)], args := [d1, d2, d3] }
  | _ => none }
def actionPartsRow : OpenClaim := { program := "ytbgpcgapkeddpaagreat", sum := "504367ef7029ef28cf1ac59473c4c47da9bcf3300dbf0aa634ac3295cb7da7df", func := "luminaire/luminairelaw33.ActionParts", spec := "actionParts", inPlace := ["internal/bytealg.IndexByteString", "internal/bytealg.IndexString", "slices.overlaps[luminaire/api.Action]"], unfollowed := true, recurses := true, named := ["internal/bytealg.MaxLen"], apart := false }
def ActionPartsSaid : Prop := actionPartsRow.holds Tryz.pinned (OpenSpec.ofChange actionPartsSpec)

/-- ITS FALSE NEIGHBOUR: 'it returns false'. Refute it at one input. -/
def actionPartsWrong : ChangeSpec := { name := "actionParts", fn := fun _ => fun
  | [d1, d2, d3] => { results := [.lit (.bool false)], args := [d1, d2, d3] }
  | _ => none }
def ActionPartsWrongFalsely : Prop := actionPartsRow.holds Tryz.pinned (OpenSpec.ofChange actionPartsWrong)

/-- 'luminairelaw33.ActionKeeps': WHATEVER THE INPUT: true; the input reads as it did. -/
def actionKeepsSpec : ChangeSpec := { name := "actionKeeps", fn := fun _ => fun
  | [d1, d2] => { results := [.lit (.bool true)], args := [d1, d2] }
  | _ => none }
def actionKeepsRow : OpenClaim := { program := "ytbgpcgapkeddpaagreat", sum := "504367ef7029ef28cf1ac59473c4c47da9bcf3300dbf0aa634ac3295cb7da7df", func := "luminaire/luminairelaw33.ActionKeeps", spec := "actionKeeps", inPlace := ["internal/bytealg.IndexByteString", "internal/bytealg.IndexString", "slices.overlaps[luminaire/api.Action]"], unfollowed := true, recurses := true, named := ["internal/bytealg.MaxLen"], apart := false }
def ActionKeepsSaid : Prop := actionKeepsRow.holds Tryz.pinned (OpenSpec.ofChange actionKeepsSpec)

/-- ITS FALSE NEIGHBOUR: 'it returns false'. Refute it at one input. -/
def actionKeepsWrong : ChangeSpec := { name := "actionKeeps", fn := fun _ => fun
  | [d1, d2] => { results := [.lit (.bool false)], args := [d1, d2] }
  | _ => none }
def ActionKeepsWrongFalsely : Prop := actionKeepsRow.holds Tryz.pinned (OpenSpec.ofChange actionKeepsWrong)

/- THE SECOND FORM. 'bulk': how many values and letters a reading holds, each counted each time it is reached (what is shared counts as often as it is met; a slice's spare places count too). A statement '..UptoSaid' is the law's where the arguments, and the package variables that the reading takes, are together of bulk at most 1048576: NARROWER than '..Said'. Prove '..Said' where nothing that the law and all that it calls make is longer than what came in: it says more and counts as full. Else prove '..UptoSaid'. A law counts once. -/
mutual
def uptoBulk {H : Type} : DataW H → Nat
  | .lit (.string bytes) => bytes.length + 1
  | .lit _ => 1
  | .nil => 1
  | .ptr d => uptoBulk d + 1
  | .slice elems spare => uptoBulkAll elems + uptoBulkAll spare + 1
  | .agg parts => uptoBulkAll parts + 1
  | .iface _ d => uptoBulk d + 1
  | .map entries => uptoBulkEntries entries + 1
  | .held _ => 1
def uptoBulkAll {H : Type} : List (DataW H) → Nat
  | [] => 0
  | d :: r => uptoBulk d + uptoBulkAll r
def uptoBulkEntries {H : Type} : List (Lit × DataW H) → Nat
  | [] => 0
  | x :: r => uptoBulkEntry x + uptoBulkEntries r
def uptoBulkEntry {H : Type} : Lit × DataW H → Nat
  | (.string bytes, d) => bytes.length + uptoBulk d + 1
  | (_, d) => uptoBulk d + 1
 end
def uptoSmall : (H : Type) → List (DataW H) → Bool := fun _ ds => decide (uptoBulkAll ds ≤ 1048576)
def OpenSpec.upto (s : _root_.Go.ChangeSpec) : _root_.Go.OpenSpec := { _root_.Go.OpenSpec.ofChange s with cond := some uptoSmall }

/-- 'luminairelaw33.ActionInserts', WHERE WHAT IT READS IS OF BULK AT MOST 1048576: true; the input reads as it did. -/
def actionInsertsUptoRow : OpenClaim := { program := "ytbgpcgapkeddpaagreat", sum := "504367ef7029ef28cf1ac59473c4c47da9bcf3300dbf0aa634ac3295cb7da7df", func := "luminaire/luminairelaw33.ActionInserts", spec := "actionInserts", inPlace := ["internal/bytealg.IndexByteString", "internal/bytealg.IndexString", "slices.overlaps[luminaire/api.Action]"], unfollowed := true, recurses := true, named := ["internal/bytealg.MaxLen"], apart := false, narrowed := true }
def ActionInsertsUptoSaid : Prop := actionInsertsUptoRow.holds Tryz.pinned (OpenSpec.upto actionInsertsSpec)

/-- 'luminairelaw33.ActionSplits', WHERE WHAT IT READS IS OF BULK AT MOST 1048576: true; the input reads as it did. -/
def actionSplitsUptoRow : OpenClaim := { program := "ytbgpcgapkeddpaagreat", sum := "504367ef7029ef28cf1ac59473c4c47da9bcf3300dbf0aa634ac3295cb7da7df", func := "luminaire/luminairelaw33.ActionSplits", spec := "actionSplits", inPlace := ["internal/bytealg.IndexByteString", "internal/bytealg.IndexString", "slices.overlaps[luminaire/api.Action]"], unfollowed := true, recurses := true, named := ["internal/bytealg.MaxLen"], apart := false, narrowed := true }
def ActionSplitsUptoSaid : Prop := actionSplitsUptoRow.holds Tryz.pinned (OpenSpec.upto actionSplitsSpec)

/-- 'luminairelaw33.ActionReturns', WHERE WHAT IT READS IS OF BULK AT MOST 1048576: true; the input reads as it did. -/
def actionReturnsUptoRow : OpenClaim := { program := "ytbgpcgapkeddpaagreat", sum := "504367ef7029ef28cf1ac59473c4c47da9bcf3300dbf0aa634ac3295cb7da7df", func := "luminaire/luminairelaw33.ActionReturns", spec := "actionReturns", inPlace := ["internal/bytealg.IndexByteString", "internal/bytealg.IndexString", "slices.overlaps[luminaire/api.Action]"], unfollowed := true, recurses := true, named := ["internal/bytealg.MaxLen"], apart := false, narrowed := true }
def ActionReturnsUptoSaid : Prop := actionReturnsUptoRow.holds Tryz.pinned (OpenSpec.upto actionReturnsSpec)

/-- 'luminairelaw33.ActionRefuses', WHERE WHAT IT READS IS OF BULK AT MOST 1048576: true; the input reads as it did. -/
def actionRefusesUptoRow : OpenClaim := { program := "ytbgpcgapkeddpaagreat", sum := "504367ef7029ef28cf1ac59473c4c47da9bcf3300dbf0aa634ac3295cb7da7df", func := "luminaire/luminairelaw33.ActionRefuses", spec := "actionRefuses", inPlace := ["internal/bytealg.IndexByteString", "internal/bytealg.IndexString", "slices.overlaps[luminaire/api.Action]"], unfollowed := true, recurses := true, named := ["internal/bytealg.MaxLen"], apart := false, narrowed := true }
def ActionRefusesUptoSaid : Prop := actionRefusesUptoRow.holds Tryz.pinned (OpenSpec.upto actionRefusesSpec)

/-- 'luminairelaw33.ActionChecks', WHERE WHAT IT READS IS OF BULK AT MOST 1048576: true; the input reads as it did. -/
def actionChecksUptoRow : OpenClaim := { program := "ytbgpcgapkeddpaagreat", sum := "504367ef7029ef28cf1ac59473c4c47da9bcf3300dbf0aa634ac3295cb7da7df", func := "luminaire/luminairelaw33.ActionChecks", spec := "actionChecks", inPlace := ["internal/bytealg.IndexByteString", "internal/bytealg.IndexString", "slices.overlaps[luminaire/api.Action]"], unfollowed := true, recurses := true, named := ["internal/bytealg.MaxLen"], apart := false, narrowed := true }
def ActionChecksUptoSaid : Prop := actionChecksUptoRow.holds Tryz.pinned (OpenSpec.upto actionChecksSpec)

/-- 'luminairelaw33.ActionParts', WHERE WHAT IT READS IS OF BULK AT MOST 1048576: true; the input reads as it did. -/
def actionPartsUptoRow : OpenClaim := { program := "ytbgpcgapkeddpaagreat", sum := "504367ef7029ef28cf1ac59473c4c47da9bcf3300dbf0aa634ac3295cb7da7df", func := "luminaire/luminairelaw33.ActionParts", spec := "actionParts", inPlace := ["internal/bytealg.IndexByteString", "internal/bytealg.IndexString", "slices.overlaps[luminaire/api.Action]"], unfollowed := true, recurses := true, named := ["internal/bytealg.MaxLen"], apart := false, narrowed := true }
def ActionPartsUptoSaid : Prop := actionPartsUptoRow.holds Tryz.pinned (OpenSpec.upto actionPartsSpec)

/-- 'luminairelaw33.ActionKeeps', WHERE WHAT IT READS IS OF BULK AT MOST 1048576: true; the input reads as it did. -/
def actionKeepsUptoRow : OpenClaim := { program := "ytbgpcgapkeddpaagreat", sum := "504367ef7029ef28cf1ac59473c4c47da9bcf3300dbf0aa634ac3295cb7da7df", func := "luminaire/luminairelaw33.ActionKeeps", spec := "actionKeeps", inPlace := ["internal/bytealg.IndexByteString", "internal/bytealg.IndexString", "slices.overlaps[luminaire/api.Action]"], unfollowed := true, recurses := true, named := ["internal/bytealg.MaxLen"], apart := false, narrowed := true }
def ActionKeepsUptoSaid : Prop := actionKeepsUptoRow.holds Tryz.pinned (OpenSpec.upto actionKeepsSpec)

end Rows
end Go.Proofs.YtbgpcgapkeddpaaGreat
