/-
  No cell of these rows narrows 'for every input' (looked for: loops, veiled, ifaces, maps, wideKeys, modest, calm, conditions, laid).
  DERIVED. THE GIVEN ROWS OF THIS SEAT. 17 by the template 'for every input the law returns true; each argument reads behind the call as it read before'; 0 by the template 'total and deterministic' (their statements: YtgmicckeefoghaaTotals.lean).
  GIVEN WITH THE SEED: the statements are not yours to turn. If you find one false, say at which input.
  Laid BY PROGRAM, IN A SANDBOX (cutbox-rows.mjs): the forced cells as the released guide's own fill.sh prints them over the translation 932e901eeab54fff… (all of the seat's roots in one cut). By AI agents, Wed Nov 11 2026. No macro, syntax, notation, axiom, sorry.
-/
import Derived.Test.YtgmicckeefoghaaChecked
import GoSem.Claim
import GoSem.ClaimJoined
import GoSem.ClaimMapViews
import Derived.JoinedTies
import Derived.KernelRfl
namespace Go.Proofs.Ytgmicckeefoghaa
/- THE CELL 'sum', in the pinned program and in every row, IS THE sha256 OF THE DUMP (.gsa) THAT YtgmicckeefoghaaProg.lean LOADS. Nothing in Lean hashes anything: it is a label: what it is worth is what the hold of that sum in a sandbox is worth. -/
noncomputable def Try.pinned : Pinned := { name := "ytgmicckeefoghaa", sum := "932e901eeab54fffac023364ea006770c5bad301baaa051e8ca11d3499ac0921", checked := Try.checked }
namespace Rows
def none {H : Type} : Left H := { results := [], args := [] }

/-- 'luminairelaw21.TimingTimes': WHATEVER THE INPUT: true; the input reads as it did. -/
def timingTimesSpec : ChangeSpec := { name := "timingTimes", fn := fun _ => fun
  | [d1, d2, d3] => { results := [.lit (.bool true)], args := [d1, d2, d3] }
  | _ => none }
def timingTimesRow : OpenClaim := { program := "ytgmicckeefoghaa", sum := "932e901eeab54fffac023364ea006770c5bad301baaa051e8ca11d3499ac0921", func := "luminaire/luminairelaw21.TimingTimes", spec := "timingTimes", inPlace := ["internal/bytealg.IndexByteString", "internal/bytealg.IndexString"], unfollowed := true, recurses := true, named := ["internal/bytealg.MaxLen"], apart := false }
def TimingTimesSaid : Prop := timingTimesRow.holds Try.pinned (OpenSpec.ofChange timingTimesSpec)

/-- ITS FALSE NEIGHBOUR: 'it returns false'. Refute it at one input. -/
def timingTimesWrong : ChangeSpec := { name := "timingTimes", fn := fun _ => fun
  | [d1, d2, d3] => { results := [.lit (.bool false)], args := [d1, d2, d3] }
  | _ => none }
def TimingTimesWrongFalsely : Prop := timingTimesRow.holds Try.pinned (OpenSpec.ofChange timingTimesWrong)

/-- 'luminairelaw21.TimingParts': WHATEVER THE INPUT: true; the input reads as it did. -/
def timingPartsSpec : ChangeSpec := { name := "timingParts", fn := fun _ => fun
  | [d1, d2, d3] => { results := [.lit (.bool true)], args := [d1, d2, d3] }
  | _ => none }
def timingPartsRow : OpenClaim := { program := "ytgmicckeefoghaa", sum := "932e901eeab54fffac023364ea006770c5bad301baaa051e8ca11d3499ac0921", func := "luminaire/luminairelaw21.TimingParts", spec := "timingParts", inPlace := ["internal/bytealg.IndexByteString", "internal/bytealg.IndexString"], unfollowed := true, recurses := true, named := ["internal/bytealg.MaxLen"], apart := false }
def TimingPartsSaid : Prop := timingPartsRow.holds Try.pinned (OpenSpec.ofChange timingPartsSpec)

/-- ITS FALSE NEIGHBOUR: 'it returns false'. Refute it at one input. -/
def timingPartsWrong : ChangeSpec := { name := "timingParts", fn := fun _ => fun
  | [d1, d2, d3] => { results := [.lit (.bool false)], args := [d1, d2, d3] }
  | _ => none }
def TimingPartsWrongFalsely : Prop := timingPartsRow.holds Try.pinned (OpenSpec.ofChange timingPartsWrong)

/-- 'luminairelaw21.TimingScales': WHATEVER THE INPUT: true; the input reads as it did. -/
def timingScalesSpec : ChangeSpec := { name := "timingScales", fn := fun _ => fun
  | [d1, d2, d3] => { results := [.lit (.bool true)], args := [d1, d2, d3] }
  | _ => none }
def timingScalesRow : OpenClaim := { program := "ytgmicckeefoghaa", sum := "932e901eeab54fffac023364ea006770c5bad301baaa051e8ca11d3499ac0921", func := "luminaire/luminairelaw21.TimingScales", spec := "timingScales", inPlace := ["internal/bytealg.IndexByteString", "internal/bytealg.IndexString"], unfollowed := true, recurses := true, named := ["internal/bytealg.MaxLen"], apart := false }
def TimingScalesSaid : Prop := timingScalesRow.holds Try.pinned (OpenSpec.ofChange timingScalesSpec)

/-- ITS FALSE NEIGHBOUR: 'it returns false'. Refute it at one input. -/
def timingScalesWrong : ChangeSpec := { name := "timingScales", fn := fun _ => fun
  | [d1, d2, d3] => { results := [.lit (.bool false)], args := [d1, d2, d3] }
  | _ => none }
def TimingScalesWrongFalsely : Prop := timingScalesRow.holds Try.pinned (OpenSpec.ofChange timingScalesWrong)

/-- 'luminairelaw21.TimingEnds': WHATEVER THE INPUT: true; the input reads as it did. -/
def timingEndsSpec : ChangeSpec := { name := "timingEnds", fn := fun _ => fun
  | [d1, d2] => { results := [.lit (.bool true)], args := [d1, d2] }
  | _ => none }
def timingEndsRow : OpenClaim := { program := "ytgmicckeefoghaa", sum := "932e901eeab54fffac023364ea006770c5bad301baaa051e8ca11d3499ac0921", func := "luminaire/luminairelaw21.TimingEnds", spec := "timingEnds", inPlace := ["internal/bytealg.IndexByteString", "internal/bytealg.IndexString"], unfollowed := true, recurses := true, named := ["internal/bytealg.MaxLen"], apart := false }
def TimingEndsSaid : Prop := timingEndsRow.holds Try.pinned (OpenSpec.ofChange timingEndsSpec)

/-- ITS FALSE NEIGHBOUR: 'it returns false'. Refute it at one input. -/
def timingEndsWrong : ChangeSpec := { name := "timingEnds", fn := fun _ => fun
  | [d1, d2] => { results := [.lit (.bool false)], args := [d1, d2] }
  | _ => none }
def TimingEndsWrongFalsely : Prop := timingEndsRow.holds Try.pinned (OpenSpec.ofChange timingEndsWrong)

/-- 'luminairelaw21.TimingSlows': WHATEVER THE INPUT: true; the input reads as it did. -/
def timingSlowsSpec : ChangeSpec := { name := "timingSlows", fn := fun _ => fun
  | [d1, d2, d3] => { results := [.lit (.bool true)], args := [d1, d2, d3] }
  | _ => none }
def timingSlowsRow : OpenClaim := { program := "ytgmicckeefoghaa", sum := "932e901eeab54fffac023364ea006770c5bad301baaa051e8ca11d3499ac0921", func := "luminaire/luminairelaw21.TimingSlows", spec := "timingSlows", inPlace := ["internal/bytealg.IndexByteString", "internal/bytealg.IndexString"], unfollowed := true, recurses := true, named := ["internal/bytealg.MaxLen"], apart := false }
def TimingSlowsSaid : Prop := timingSlowsRow.holds Try.pinned (OpenSpec.ofChange timingSlowsSpec)

/-- ITS FALSE NEIGHBOUR: 'it returns false'. Refute it at one input. -/
def timingSlowsWrong : ChangeSpec := { name := "timingSlows", fn := fun _ => fun
  | [d1, d2, d3] => { results := [.lit (.bool false)], args := [d1, d2, d3] }
  | _ => none }
def TimingSlowsWrongFalsely : Prop := timingSlowsRow.holds Try.pinned (OpenSpec.ofChange timingSlowsWrong)

/-- 'luminairelaw21.TimingSets': WHATEVER THE INPUT: true; the input reads as it did. -/
def timingSetsSpec : ChangeSpec := { name := "timingSets", fn := fun _ => fun
  | [d1, d2, d3] => { results := [.lit (.bool true)], args := [d1, d2, d3] }
  | _ => none }
def timingSetsRow : OpenClaim := { program := "ytgmicckeefoghaa", sum := "932e901eeab54fffac023364ea006770c5bad301baaa051e8ca11d3499ac0921", func := "luminaire/luminairelaw21.TimingSets", spec := "timingSets", inPlace := ["internal/bytealg.IndexByteString", "internal/bytealg.IndexString"], unfollowed := true, recurses := true, named := ["internal/bytealg.MaxLen"], apart := false }
def TimingSetsSaid : Prop := timingSetsRow.holds Try.pinned (OpenSpec.ofChange timingSetsSpec)

/-- ITS FALSE NEIGHBOUR: 'it returns false'. Refute it at one input. -/
def timingSetsWrong : ChangeSpec := { name := "timingSets", fn := fun _ => fun
  | [d1, d2, d3] => { results := [.lit (.bool false)], args := [d1, d2, d3] }
  | _ => none }
def TimingSetsWrongFalsely : Prop := timingSetsRow.holds Try.pinned (OpenSpec.ofChange timingSetsWrong)

/-- 'luminairelaw21.TimingChanges': WHATEVER THE INPUT: true; the input reads as it did. -/
def timingChangesSpec : ChangeSpec := { name := "timingChanges", fn := fun _ => fun
  | [d1, d2, d3] => { results := [.lit (.bool true)], args := [d1, d2, d3] }
  | _ => none }
def timingChangesRow : OpenClaim := { program := "ytgmicckeefoghaa", sum := "932e901eeab54fffac023364ea006770c5bad301baaa051e8ca11d3499ac0921", func := "luminaire/luminairelaw21.TimingChanges", spec := "timingChanges", inPlace := ["internal/bytealg.IndexByteString", "internal/bytealg.IndexString"], unfollowed := true, recurses := true, named := ["internal/bytealg.MaxLen"], apart := false }
def TimingChangesSaid : Prop := timingChangesRow.holds Try.pinned (OpenSpec.ofChange timingChangesSpec)

/-- ITS FALSE NEIGHBOUR: 'it returns false'. Refute it at one input. -/
def timingChangesWrong : ChangeSpec := { name := "timingChanges", fn := fun _ => fun
  | [d1, d2, d3] => { results := [.lit (.bool false)], args := [d1, d2, d3] }
  | _ => none }
def TimingChangesWrongFalsely : Prop := timingChangesRow.holds Try.pinned (OpenSpec.ofChange timingChangesWrong)

/-- 'luminairelaw16.CueMerges': WHATEVER THE INPUT: true; the input reads as it did. -/
def cueMergesSpec : ChangeSpec := { name := "cueMerges", fn := fun _ => fun
  | [d1, d2] => { results := [.lit (.bool true)], args := [d1, d2] }
  | _ => none }
def cueMergesRow : OpenClaim := { program := "ytgmicckeefoghaa", sum := "932e901eeab54fffac023364ea006770c5bad301baaa051e8ca11d3499ac0921", func := "luminaire/luminairelaw16.CueMerges", spec := "cueMerges", inPlace := ["slices.overlaps[luminaire/api.Move]", "internal/bytealg.IndexByteString", "internal/bytealg.IndexString"], unfollowed := true, recurses := true, named := ["internal/bytealg.MaxLen"], apart := false }
def CueMergesSaid : Prop := cueMergesRow.holds Try.pinned (OpenSpec.ofChange cueMergesSpec)

/-- ITS FALSE NEIGHBOUR: 'it returns false'. Refute it at one input. -/
def cueMergesWrong : ChangeSpec := { name := "cueMerges", fn := fun _ => fun
  | [d1, d2] => { results := [.lit (.bool false)], args := [d1, d2] }
  | _ => none }
def CueMergesWrongFalsely : Prop := cueMergesRow.holds Try.pinned (OpenSpec.ofChange cueMergesWrong)

/-- 'luminairelaw16.CueSets': WHATEVER THE INPUT: true; the input reads as it did. -/
def cueSetsSpec : ChangeSpec := { name := "cueSets", fn := fun _ => fun
  | [d1, d2, d3] => { results := [.lit (.bool true)], args := [d1, d2, d3] }
  | _ => none }
def cueSetsRow : OpenClaim := { program := "ytgmicckeefoghaa", sum := "932e901eeab54fffac023364ea006770c5bad301baaa051e8ca11d3499ac0921", func := "luminaire/luminairelaw16.CueSets", spec := "cueSets", inPlace := ["slices.overlaps[luminaire/api.Move]", "internal/bytealg.IndexByteString", "internal/bytealg.IndexString"], unfollowed := true, recurses := true, named := ["internal/bytealg.MaxLen"], apart := false }
def CueSetsSaid : Prop := cueSetsRow.holds Try.pinned (OpenSpec.ofChange cueSetsSpec)

/-- ITS FALSE NEIGHBOUR: 'it returns false'. Refute it at one input. -/
def cueSetsWrong : ChangeSpec := { name := "cueSets", fn := fun _ => fun
  | [d1, d2, d3] => { results := [.lit (.bool false)], args := [d1, d2, d3] }
  | _ => none }
def CueSetsWrongFalsely : Prop := cueSetsRow.holds Try.pinned (OpenSpec.ofChange cueSetsWrong)

/-- 'luminairelaw16.CueDrops': WHATEVER THE INPUT: true; the input reads as it did. -/
def cueDropsSpec : ChangeSpec := { name := "cueDrops", fn := fun _ => fun
  | [d1, d2] => { results := [.lit (.bool true)], args := [d1, d2] }
  | _ => none }
def cueDropsRow : OpenClaim := { program := "ytgmicckeefoghaa", sum := "932e901eeab54fffac023364ea006770c5bad301baaa051e8ca11d3499ac0921", func := "luminaire/luminairelaw16.CueDrops", spec := "cueDrops", inPlace := ["slices.overlaps[luminaire/api.Move]", "internal/bytealg.IndexByteString", "internal/bytealg.IndexString"], unfollowed := true, recurses := true, named := ["internal/bytealg.MaxLen"], apart := false }
def CueDropsSaid : Prop := cueDropsRow.holds Try.pinned (OpenSpec.ofChange cueDropsSpec)

/-- ITS FALSE NEIGHBOUR: 'it returns false'. Refute it at one input. -/
def cueDropsWrong : ChangeSpec := { name := "cueDrops", fn := fun _ => fun
  | [d1, d2] => { results := [.lit (.bool false)], args := [d1, d2] }
  | _ => none }
def CueDropsWrongFalsely : Prop := cueDropsRow.holds Try.pinned (OpenSpec.ofChange cueDropsWrong)

/-- 'luminairelaw16.CuePacks': WHATEVER THE INPUT: true; the input reads as it did. -/
def cuePacksSpec : ChangeSpec := { name := "cuePacks", fn := fun _ => fun
  | [d] => { results := [.lit (.bool true)], args := [d] }
  | _ => none }
def cuePacksRow : OpenClaim := { program := "ytgmicckeefoghaa", sum := "932e901eeab54fffac023364ea006770c5bad301baaa051e8ca11d3499ac0921", func := "luminaire/luminairelaw16.CuePacks", spec := "cuePacks", inPlace := ["slices.overlaps[luminaire/api.Move]", "internal/bytealg.IndexByteString", "internal/bytealg.IndexString"], unfollowed := true, recurses := true, named := ["internal/bytealg.MaxLen"], apart := false }
def CuePacksSaid : Prop := cuePacksRow.holds Try.pinned (OpenSpec.ofChange cuePacksSpec)

/-- ITS FALSE NEIGHBOUR: 'it returns false'. Refute it at one input. -/
def cuePacksWrong : ChangeSpec := { name := "cuePacks", fn := fun _ => fun
  | [d] => { results := [.lit (.bool false)], args := [d] }
  | _ => none }
def CuePacksWrongFalsely : Prop := cuePacksRow.holds Try.pinned (OpenSpec.ofChange cuePacksWrong)

/-- 'luminairetop.TopPalettesSpecial': WHATEVER THE INPUT: true; the input reads as it did. -/
def topPalettesSpecialSpec : ChangeSpec := { name := "topPalettesSpecial", fn := fun _ => fun
  | [d1, d2, d3] => { results := [.lit (.bool true)], args := [d1, d2, d3] }
  | _ => none }
def topPalettesSpecialRow : OpenClaim := { program := "ytgmicckeefoghaa", sum := "932e901eeab54fffac023364ea006770c5bad301baaa051e8ca11d3499ac0921", func := "luminaire/luminairetop.TopPalettesSpecial", spec := "topPalettesSpecial", inPlace := ["slices.overlaps[luminaire/api.Palette]", "internal/bytealg.IndexByteString", "internal/bytealg.IndexString", "slices.overlaps[luminaire/api.Move]"], unfollowed := true, recurses := true, named := ["internal/bytealg.MaxLen"], apart := false }
def TopPalettesSpecialSaid : Prop := topPalettesSpecialRow.holds Try.pinned (OpenSpec.ofChange topPalettesSpecialSpec)

/-- ITS FALSE NEIGHBOUR: 'it returns false'. Refute it at one input. -/
def topPalettesSpecialWrong : ChangeSpec := { name := "topPalettesSpecial", fn := fun _ => fun
  | [d1, d2, d3] => { results := [.lit (.bool false)], args := [d1, d2, d3] }
  | _ => none }
def TopPalettesSpecialWrongFalsely : Prop := topPalettesSpecialRow.holds Try.pinned (OpenSpec.ofChange topPalettesSpecialWrong)

/-- 'luminairelaw16.CueAssociates': WHATEVER THE INPUT: true; the input reads as it did. -/
def cueAssociatesSpec : ChangeSpec := { name := "cueAssociates", fn := fun _ => fun
  | [d1, d2, d3] => { results := [.lit (.bool true)], args := [d1, d2, d3] }
  | _ => none }
def cueAssociatesRow : OpenClaim := { program := "ytgmicckeefoghaa", sum := "932e901eeab54fffac023364ea006770c5bad301baaa051e8ca11d3499ac0921", func := "luminaire/luminairelaw16.CueAssociates", spec := "cueAssociates", inPlace := ["slices.overlaps[luminaire/api.Move]", "internal/bytealg.IndexByteString", "internal/bytealg.IndexString"], unfollowed := true, recurses := true, named := ["internal/bytealg.MaxLen"], apart := false }
def CueAssociatesSaid : Prop := cueAssociatesRow.holds Try.pinned (OpenSpec.ofChange cueAssociatesSpec)

/-- ITS FALSE NEIGHBOUR: 'it returns false'. Refute it at one input. -/
def cueAssociatesWrong : ChangeSpec := { name := "cueAssociates", fn := fun _ => fun
  | [d1, d2, d3] => { results := [.lit (.bool false)], args := [d1, d2, d3] }
  | _ => none }
def CueAssociatesWrongFalsely : Prop := cueAssociatesRow.holds Try.pinned (OpenSpec.ofChange cueAssociatesWrong)

/-- 'luminairelaw16.CueKeeps': WHATEVER THE INPUT: true; the input reads as it did. -/
def cueKeepsSpec : ChangeSpec := { name := "cueKeeps", fn := fun _ => fun
  | [d1, d2, d3] => { results := [.lit (.bool true)], args := [d1, d2, d3] }
  | _ => none }
def cueKeepsRow : OpenClaim := { program := "ytgmicckeefoghaa", sum := "932e901eeab54fffac023364ea006770c5bad301baaa051e8ca11d3499ac0921", func := "luminaire/luminairelaw16.CueKeeps", spec := "cueKeeps", inPlace := ["slices.overlaps[luminaire/api.Move]", "internal/bytealg.IndexByteString", "internal/bytealg.IndexString"], unfollowed := true, recurses := true, named := ["internal/bytealg.MaxLen"], apart := false }
def CueKeepsSaid : Prop := cueKeepsRow.holds Try.pinned (OpenSpec.ofChange cueKeepsSpec)

/-- ITS FALSE NEIGHBOUR: 'it returns false'. Refute it at one input. -/
def cueKeepsWrong : ChangeSpec := { name := "cueKeeps", fn := fun _ => fun
  | [d1, d2, d3] => { results := [.lit (.bool false)], args := [d1, d2, d3] }
  | _ => none }
def CueKeepsWrongFalsely : Prop := cueKeepsRow.holds Try.pinned (OpenSpec.ofChange cueKeepsWrong)

/-- 'luminairelaw16.CueChecks': WHATEVER THE INPUT: true; the input reads as it did. -/
def cueChecksSpec : ChangeSpec := { name := "cueChecks", fn := fun _ => fun
  | [d1, d2, d3] => { results := [.lit (.bool true)], args := [d1, d2, d3] }
  | _ => none }
def cueChecksRow : OpenClaim := { program := "ytgmicckeefoghaa", sum := "932e901eeab54fffac023364ea006770c5bad301baaa051e8ca11d3499ac0921", func := "luminaire/luminairelaw16.CueChecks", spec := "cueChecks", inPlace := ["slices.overlaps[luminaire/api.Move]", "internal/bytealg.IndexByteString", "internal/bytealg.IndexString"], unfollowed := true, recurses := true, named := ["internal/bytealg.MaxLen"], apart := false }
def CueChecksSaid : Prop := cueChecksRow.holds Try.pinned (OpenSpec.ofChange cueChecksSpec)

/-- ITS FALSE NEIGHBOUR: 'it returns false'. Refute it at one input. -/
def cueChecksWrong : ChangeSpec := { name := "cueChecks", fn := fun _ => fun
  | [d1, d2, d3] => { results := [.lit (.bool false)], args := [d1, d2, d3] }
  | _ => none }
def CueChecksWrongFalsely : Prop := cueChecksRow.holds Try.pinned (OpenSpec.ofChange cueChecksWrong)

/-- 'luminairelaw16.CueFinds': WHATEVER THE INPUT: true; the input reads as it did. -/
def cueFindsSpec : ChangeSpec := { name := "cueFinds", fn := fun _ => fun
  | [d1, d2, d3] => { results := [.lit (.bool true)], args := [d1, d2, d3] }
  | _ => none }
def cueFindsRow : OpenClaim := { program := "ytgmicckeefoghaa", sum := "932e901eeab54fffac023364ea006770c5bad301baaa051e8ca11d3499ac0921", func := "luminaire/luminairelaw16.CueFinds", spec := "cueFinds", inPlace := ["slices.overlaps[luminaire/api.Move]", "internal/bytealg.IndexByteString", "internal/bytealg.IndexString"], unfollowed := true, recurses := true, named := ["internal/bytealg.MaxLen"], apart := false }
def CueFindsSaid : Prop := cueFindsRow.holds Try.pinned (OpenSpec.ofChange cueFindsSpec)

/-- ITS FALSE NEIGHBOUR: 'it returns false'. Refute it at one input. -/
def cueFindsWrong : ChangeSpec := { name := "cueFinds", fn := fun _ => fun
  | [d1, d2, d3] => { results := [.lit (.bool false)], args := [d1, d2, d3] }
  | _ => none }
def CueFindsWrongFalsely : Prop := cueFindsRow.holds Try.pinned (OpenSpec.ofChange cueFindsWrong)

/-- 'luminairetop.TopPalettesGroups': WHATEVER THE INPUT: true; the input reads as it did. -/
def topPalettesGroupsSpec : ChangeSpec := { name := "topPalettesGroups", fn := fun _ => fun
  | [d1, d2, d3] => { results := [.lit (.bool true)], args := [d1, d2, d3] }
  | _ => none }
def topPalettesGroupsRow : OpenClaim := { program := "ytgmicckeefoghaa", sum := "932e901eeab54fffac023364ea006770c5bad301baaa051e8ca11d3499ac0921", func := "luminaire/luminairetop.TopPalettesGroups", spec := "topPalettesGroups", inPlace := ["slices.overlaps[luminaire/api.Palette]", "internal/bytealg.IndexByteString", "internal/bytealg.IndexString", "slices.overlaps[luminaire/api.Move]"], unfollowed := true, recurses := true, named := ["internal/bytealg.MaxLen"], apart := false }
def TopPalettesGroupsSaid : Prop := topPalettesGroupsRow.holds Try.pinned (OpenSpec.ofChange topPalettesGroupsSpec)

/-- ITS FALSE NEIGHBOUR: 'it returns false'. Refute it at one input. -/
def topPalettesGroupsWrong : ChangeSpec := { name := "topPalettesGroups", fn := fun _ => fun
  | [d1, d2, d3] => { results := [.lit (.bool false)], args := [d1, d2, d3] }
  | _ => none }
def TopPalettesGroupsWrongFalsely : Prop := topPalettesGroupsRow.holds Try.pinned (OpenSpec.ofChange topPalettesGroupsWrong)

/- THE SECOND FORM. 'bulk': how many values and letters a reading holds, each counted each time it is reached (what is shared counts as often as it is met; a slice's spare places count too). A statement '..UptoSaid' is the law's where the arguments, and the package variables that the reading takes, are together of bulk at most 1048576: NARROWER than '..Said'. Prove '..Said' where nothing that the law and all that it calls make is longer than what came in: it says more and counts as full. Else prove '..UptoSaid'. A law counts once. -/
mutual
def uptoBulk {H : Type} : DataW H → Nat
  | .lit (.string bytes) => bytes.length + 1
  | .lit _ => 1
  | .nil => 1
  | .ptr d => uptoBulk d + 1
  | .slice elems spare => uptoBulkAll elems + uptoBulkAll spare + 1
  | .agg parts => uptoBulkAll parts + 1
  | .iface _ d => uptoBulk d + 1
  | .map entries => uptoBulkEntries entries + 1
  | .held _ => 1
def uptoBulkAll {H : Type} : List (DataW H) → Nat
  | [] => 0
  | d :: r => uptoBulk d + uptoBulkAll r
def uptoBulkEntries {H : Type} : List (Lit × DataW H) → Nat
  | [] => 0
  | x :: r => uptoBulkEntry x + uptoBulkEntries r
def uptoBulkEntry {H : Type} : Lit × DataW H → Nat
  | (.string bytes, d) => bytes.length + uptoBulk d + 1
  | (_, d) => uptoBulk d + 1
 end
def uptoSmall : (H : Type) → List (DataW H) → Bool := fun _ ds => decide (uptoBulkAll ds ≤ 1048576)
def OpenSpec.upto (s : _root_.Go.ChangeSpec) : _root_.Go.OpenSpec := { _root_.Go.OpenSpec.ofChange s with cond := some uptoSmall }

/-- 'luminairelaw21.TimingTimes', WHERE WHAT IT READS IS OF BULK AT MOST 1048576: true; the input reads as it did. -/
def timingTimesUptoRow : OpenClaim := { program := "ytgmicckeefoghaa", sum := "932e901eeab54fffac023364ea006770c5bad301baaa051e8ca11d3499ac0921", func := "luminaire/luminairelaw21.TimingTimes", spec := "timingTimes", inPlace := ["internal/bytealg.IndexByteString", "internal/bytealg.IndexString"], unfollowed := true, recurses := true, named := ["internal/bytealg.MaxLen"], apart := false, narrowed := true }
def TimingTimesUptoSaid : Prop := timingTimesUptoRow.holds Try.pinned (OpenSpec.upto timingTimesSpec)

/-- 'luminairelaw21.TimingParts', WHERE WHAT IT READS IS OF BULK AT MOST 1048576: true; the input reads as it did. -/
def timingPartsUptoRow : OpenClaim := { program := "ytgmicckeefoghaa", sum := "932e901eeab54fffac023364ea006770c5bad301baaa051e8ca11d3499ac0921", func := "luminaire/luminairelaw21.TimingParts", spec := "timingParts", inPlace := ["internal/bytealg.IndexByteString", "internal/bytealg.IndexString"], unfollowed := true, recurses := true, named := ["internal/bytealg.MaxLen"], apart := false, narrowed := true }
def TimingPartsUptoSaid : Prop := timingPartsUptoRow.holds Try.pinned (OpenSpec.upto timingPartsSpec)

/-- 'luminairelaw21.TimingScales', WHERE WHAT IT READS IS OF BULK AT MOST 1048576: true; the input reads as it did. -/
def timingScalesUptoRow : OpenClaim := { program := "ytgmicckeefoghaa", sum := "932e901eeab54fffac023364ea006770c5bad301baaa051e8ca11d3499ac0921", func := "luminaire/luminairelaw21.TimingScales", spec := "timingScales", inPlace := ["internal/bytealg.IndexByteString", "internal/bytealg.IndexString"], unfollowed := true, recurses := true, named := ["internal/bytealg.MaxLen"], apart := false, narrowed := true }
def TimingScalesUptoSaid : Prop := timingScalesUptoRow.holds Try.pinned (OpenSpec.upto timingScalesSpec)

/-- 'luminairelaw21.TimingEnds', WHERE WHAT IT READS IS OF BULK AT MOST 1048576: true; the input reads as it did. -/
def timingEndsUptoRow : OpenClaim := { program := "ytgmicckeefoghaa", sum := "932e901eeab54fffac023364ea006770c5bad301baaa051e8ca11d3499ac0921", func := "luminaire/luminairelaw21.TimingEnds", spec := "timingEnds", inPlace := ["internal/bytealg.IndexByteString", "internal/bytealg.IndexString"], unfollowed := true, recurses := true, named := ["internal/bytealg.MaxLen"], apart := false, narrowed := true }
def TimingEndsUptoSaid : Prop := timingEndsUptoRow.holds Try.pinned (OpenSpec.upto timingEndsSpec)

/-- 'luminairelaw21.TimingSlows', WHERE WHAT IT READS IS OF BULK AT MOST 1048576: true; the input reads as it did. -/
def timingSlowsUptoRow : OpenClaim := { program := "ytgmicckeefoghaa", sum := "932e901eeab54fffac023364ea006770c5bad301baaa051e8ca11d3499ac0921", func := "luminaire/luminairelaw21.TimingSlows", spec := "timingSlows", inPlace := ["internal/bytealg.IndexByteString", "internal/bytealg.IndexString"], unfollowed := true, recurses := true, named := ["internal/bytealg.MaxLen"], apart := false, narrowed := true }
def TimingSlowsUptoSaid : Prop := timingSlowsUptoRow.holds Try.pinned (OpenSpec.upto timingSlowsSpec)

/-- 'luminairelaw21.TimingSets', WHERE WHAT IT READS IS OF BULK AT MOST 1048576: true; the input reads as it did. -/
def timingSetsUptoRow : OpenClaim := { program := "ytgmicckeefoghaa", sum := "932e901eeab54fffac023364ea006770c5bad301baaa051e8ca11d3499ac0921", func := "luminaire/luminairelaw21.TimingSets", spec := "timingSets", inPlace := ["internal/bytealg.IndexByteString", "internal/bytealg.IndexString"], unfollowed := true, recurses := true, named := ["internal/bytealg.MaxLen"], apart := false, narrowed := true }
def TimingSetsUptoSaid : Prop := timingSetsUptoRow.holds Try.pinned (OpenSpec.upto timingSetsSpec)

/-- 'luminairelaw21.TimingChanges', WHERE WHAT IT READS IS OF BULK AT MOST 1048576: true; the input reads as it did. -/
def timingChangesUptoRow : OpenClaim := { program := "ytgmicckeefoghaa", sum := "932e901eeab54fffac023364ea006770c5bad301baaa051e8ca11d3499ac0921", func := "luminaire/luminairelaw21.TimingChanges", spec := "timingChanges", inPlace := ["internal/bytealg.IndexByteString", "internal/bytealg.IndexString"], unfollowed := true, recurses := true, named := ["internal/bytealg.MaxLen"], apart := false, narrowed := true }
def TimingChangesUptoSaid : Prop := timingChangesUptoRow.holds Try.pinned (OpenSpec.upto timingChangesSpec)

/-- 'luminairelaw16.CueMerges', WHERE WHAT IT READS IS OF BULK AT MOST 1048576: true; the input reads as it did. -/
def cueMergesUptoRow : OpenClaim := { program := "ytgmicckeefoghaa", sum := "932e901eeab54fffac023364ea006770c5bad301baaa051e8ca11d3499ac0921", func := "luminaire/luminairelaw16.CueMerges", spec := "cueMerges", inPlace := ["slices.overlaps[luminaire/api.Move]", "internal/bytealg.IndexByteString", "internal/bytealg.IndexString"], unfollowed := true, recurses := true, named := ["internal/bytealg.MaxLen"], apart := false, narrowed := true }
def CueMergesUptoSaid : Prop := cueMergesUptoRow.holds Try.pinned (OpenSpec.upto cueMergesSpec)

/-- 'luminairelaw16.CueSets', WHERE WHAT IT READS IS OF BULK AT MOST 1048576: true; the input reads as it did. -/
def cueSetsUptoRow : OpenClaim := { program := "ytgmicckeefoghaa", sum := "932e901eeab54fffac023364ea006770c5bad301baaa051e8ca11d3499ac0921", func := "luminaire/luminairelaw16.CueSets", spec := "cueSets", inPlace := ["slices.overlaps[luminaire/api.Move]", "internal/bytealg.IndexByteString", "internal/bytealg.IndexString"], unfollowed := true, recurses := true, named := ["internal/bytealg.MaxLen"], apart := false, narrowed := true }
def CueSetsUptoSaid : Prop := cueSetsUptoRow.holds Try.pinned (OpenSpec.upto cueSetsSpec)

/-- 'luminairelaw16.CueDrops', WHERE WHAT IT READS IS OF BULK AT MOST 1048576: true; the input reads as it did. -/
def cueDropsUptoRow : OpenClaim := { program := "ytgmicckeefoghaa", sum := "932e901eeab54fffac023364ea006770c5bad301baaa051e8ca11d3499ac0921", func := "luminaire/luminairelaw16.CueDrops", spec := "cueDrops", inPlace := ["slices.overlaps[luminaire/api.Move]", "internal/bytealg.IndexByteString", "internal/bytealg.IndexString"], unfollowed := true, recurses := true, named := ["internal/bytealg.MaxLen"], apart := false, narrowed := true }
def CueDropsUptoSaid : Prop := cueDropsUptoRow.holds Try.pinned (OpenSpec.upto cueDropsSpec)

/-- 'luminairelaw16.CuePacks', WHERE WHAT IT READS IS OF BULK AT MOST 1048576: true; the input reads as it did. -/
def cuePacksUptoRow : OpenClaim := { program := "ytgmicckeefoghaa", sum := "932e901eeab54fffac023364ea006770c5bad301baaa051e8ca11d3499ac0921", func := "luminaire/luminairelaw16.CuePacks", spec := "cuePacks", inPlace := ["slices.overlaps[luminaire/api.Move]", "internal/bytealg.IndexByteString", "internal/bytealg.IndexString"], unfollowed := true, recurses := true, named := ["internal/bytealg.MaxLen"], apart := false, narrowed := true }
def CuePacksUptoSaid : Prop := cuePacksUptoRow.holds Try.pinned (OpenSpec.upto cuePacksSpec)

/-- 'luminairetop.TopPalettesSpecial', WHERE WHAT IT READS IS OF BULK AT MOST 1048576: true; the input reads as it did. -/
def topPalettesSpecialUptoRow : OpenClaim := { program := "ytgmicckeefoghaa", sum := "932e901eeab54fffac023364ea006770c5bad301baaa051e8ca11d3499ac0921", func := "luminaire/luminairetop.TopPalettesSpecial", spec := "topPalettesSpecial", inPlace := ["slices.overlaps[luminaire/api.Palette]", "internal/bytealg.IndexByteString", "internal/bytealg.IndexString", "slices.overlaps[luminaire/api.Move]"], unfollowed := true, recurses := true, named := ["internal/bytealg.MaxLen"], apart := false, narrowed := true }
def TopPalettesSpecialUptoSaid : Prop := topPalettesSpecialUptoRow.holds Try.pinned (OpenSpec.upto topPalettesSpecialSpec)

/-- 'luminairelaw16.CueAssociates', WHERE WHAT IT READS IS OF BULK AT MOST 1048576: true; the input reads as it did. -/
def cueAssociatesUptoRow : OpenClaim := { program := "ytgmicckeefoghaa", sum := "932e901eeab54fffac023364ea006770c5bad301baaa051e8ca11d3499ac0921", func := "luminaire/luminairelaw16.CueAssociates", spec := "cueAssociates", inPlace := ["slices.overlaps[luminaire/api.Move]", "internal/bytealg.IndexByteString", "internal/bytealg.IndexString"], unfollowed := true, recurses := true, named := ["internal/bytealg.MaxLen"], apart := false, narrowed := true }
def CueAssociatesUptoSaid : Prop := cueAssociatesUptoRow.holds Try.pinned (OpenSpec.upto cueAssociatesSpec)

/-- 'luminairelaw16.CueKeeps', WHERE WHAT IT READS IS OF BULK AT MOST 1048576: true; the input reads as it did. -/
def cueKeepsUptoRow : OpenClaim := { program := "ytgmicckeefoghaa", sum := "932e901eeab54fffac023364ea006770c5bad301baaa051e8ca11d3499ac0921", func := "luminaire/luminairelaw16.CueKeeps", spec := "cueKeeps", inPlace := ["slices.overlaps[luminaire/api.Move]", "internal/bytealg.IndexByteString", "internal/bytealg.IndexString"], unfollowed := true, recurses := true, named := ["internal/bytealg.MaxLen"], apart := false, narrowed := true }
def CueKeepsUptoSaid : Prop := cueKeepsUptoRow.holds Try.pinned (OpenSpec.upto cueKeepsSpec)

/-- 'luminairelaw16.CueChecks', WHERE WHAT IT READS IS OF BULK AT MOST 1048576: true; the input reads as it did. -/
def cueChecksUptoRow : OpenClaim := { program := "ytgmicckeefoghaa", sum := "932e901eeab54fffac023364ea006770c5bad301baaa051e8ca11d3499ac0921", func := "luminaire/luminairelaw16.CueChecks", spec := "cueChecks", inPlace := ["slices.overlaps[luminaire/api.Move]", "internal/bytealg.IndexByteString", "internal/bytealg.IndexString"], unfollowed := true, recurses := true, named := ["internal/bytealg.MaxLen"], apart := false, narrowed := true }
def CueChecksUptoSaid : Prop := cueChecksUptoRow.holds Try.pinned (OpenSpec.upto cueChecksSpec)

/-- 'luminairelaw16.CueFinds', WHERE WHAT IT READS IS OF BULK AT MOST 1048576: true; the input reads as it did. -/
def cueFindsUptoRow : OpenClaim := { program := "ytgmicckeefoghaa", sum := "932e901eeab54fffac023364ea006770c5bad301baaa051e8ca11d3499ac0921", func := "luminaire/luminairelaw16.CueFinds", spec := "cueFinds", inPlace := ["slices.overlaps[luminaire/api.Move]", "internal/bytealg.IndexByteString", "internal/bytealg.IndexString"], unfollowed := true, recurses := true, named := ["internal/bytealg.MaxLen"], apart := false, narrowed := true }
def CueFindsUptoSaid : Prop := cueFindsUptoRow.holds Try.pinned (OpenSpec.upto cueFindsSpec)

/-- 'luminairetop.TopPalettesGroups', WHERE WHAT IT READS IS OF BULK AT MOST 1048576: true; the input reads as it did. -/
def topPalettesGroupsUptoRow : OpenClaim := { program := "ytgmicckeefoghaa", sum := "932e901eeab54fffac023364ea006770c5bad301baaa051e8ca11d3499ac0921", func := "luminaire/luminairetop.TopPalettesGroups", spec := "topPalettesGroups", inPlace := ["slices.overlaps[luminaire/api.Palette]", "internal/bytealg.IndexByteString", "internal/bytealg.IndexString", "slices.overlaps[luminaire/api.Move]"], unfollowed := true, recurses := true, named := ["internal/bytealg.MaxLen"], apart := false, narrowed := true }
def TopPalettesGroupsUptoSaid : Prop := topPalettesGroupsUptoRow.holds Try.pinned (OpenSpec.upto topPalettesGroupsSpec)

end Rows
end Go.Proofs.Ytgmicckeefoghaa
