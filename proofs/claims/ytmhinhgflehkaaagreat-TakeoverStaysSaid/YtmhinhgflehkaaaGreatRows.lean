/-
  No cell of these rows narrows 'for every input' (looked for: loops, veiled, ifaces, maps, wideKeys, modest, calm, conditions, laid).
  DERIVED. THE GIVEN ROWS OF THIS SEAT. 12 by the template 'for every input the law returns true; each argument reads behind the call as it read before'; 0 by the template 'total and deterministic' (their statements: YtmhinhgflehkaaaGreatTotals.lean).
  GIVEN WITH THE SEED: the statements are not yours to turn. If you find one false, say at which input.
  Laid BY PROGRAM, IN A SANDBOX (cutbox-rows.mjs): the forced cells as the released guide's own fill.sh prints them over the translation 87b73ddc2f36d20f… (all of the seat's roots in one cut). By AI agents, Wed Nov 11 2026. No macro, syntax, notation, axiom, sorry.
-/
import Derived.Test.YtmhinhgflehkaaaGreatChecked
import GoSem.Claim
import GoSem.ClaimJoined
import GoSem.ClaimMapViews
import Derived.JoinedTies
import Derived.KernelRfl
namespace Go.Proofs.YtmhinhgflehkaaaGreat
/- THE CELL 'sum', in the pinned program and in every row, IS THE sha256 OF THE DUMP (.gsa) THAT YtmhinhgflehkaaaGreatProg.lean LOADS. Nothing in Lean hashes anything: it is a label: what it is worth is what the hold of that sum in a sandbox is worth. -/
noncomputable def Tryz.pinned : Pinned := { name := "ytmhinhgflehkaaagreat", sum := "87b73ddc2f36d20fd86c6bf887308ce1bae590dc8c8dde5afb411184d0002811", checked := Tryz.checked }
namespace Rows
def none {H : Type} : Left H := { results := [], args := [] }

/-- 'luminairelaw55.TakeoverChecks': WHATEVER THE INPUT: true; the input reads as it did. -/
def takeoverChecksSpec : ChangeSpec := { name := "takeoverChecks", fn := fun _ => fun
  | [d1, d2, d3] => { results := [.lit (.bool true)], args := [d1, d2, d3] }
  | _ => none }
def takeoverChecksRow : OpenClaim := { program := "ytmhinhgflehkaaagreat", sum := "87b73ddc2f36d20fd86c6bf887308ce1bae590dc8c8dde5afb411184d0002811", func := "luminaire/luminairelaw55.TakeoverChecks", spec := "takeoverChecks", inPlace := ["internal/bytealg.IndexByteString", "internal/bytealg.IndexString"], unfollowed := true, recurses := true, named := ["internal/bytealg.MaxLen"], apart := false }
def TakeoverChecksSaid : Prop := takeoverChecksRow.holds Tryz.pinned (OpenSpec.ofChange takeoverChecksSpec)

/-- ITS FALSE NEIGHBOUR: 'it returns false'. Refute it at one input. -/
def takeoverChecksWrong : ChangeSpec := { name := "takeoverChecks", fn := fun _ => fun
  | [d1, d2, d3] => { results := [.lit (.bool false)], args := [d1, d2, d3] }
  | _ => none }
def TakeoverChecksWrongFalsely : Prop := takeoverChecksRow.holds Tryz.pinned (OpenSpec.ofChange takeoverChecksWrong)

/-- 'luminairelaw55.TakeoverSoon': WHATEVER THE INPUT: true; the input reads as it did. -/
def takeoverSoonSpec : ChangeSpec := { name := "takeoverSoon", fn := fun _ => fun
  | [d1, d2, d3] => { results := [.lit (.bool true)], args := [d1, d2, d3] }
  | _ => none }
def takeoverSoonRow : OpenClaim := { program := "ytmhinhgflehkaaagreat", sum := "87b73ddc2f36d20fd86c6bf887308ce1bae590dc8c8dde5afb411184d0002811", func := "luminaire/luminairelaw55.TakeoverSoon", spec := "takeoverSoon", inPlace := ["internal/bytealg.IndexByteString", "internal/bytealg.IndexString"], unfollowed := true, recurses := true, named := ["internal/bytealg.MaxLen"], apart := false }
def TakeoverSoonSaid : Prop := takeoverSoonRow.holds Tryz.pinned (OpenSpec.ofChange takeoverSoonSpec)

/-- ITS FALSE NEIGHBOUR: 'it returns false'. Refute it at one input. -/
def takeoverSoonWrong : ChangeSpec := { name := "takeoverSoon", fn := fun _ => fun
  | [d1, d2, d3] => { results := [.lit (.bool false)], args := [d1, d2, d3] }
  | _ => none }
def TakeoverSoonWrongFalsely : Prop := takeoverSoonRow.holds Tryz.pinned (OpenSpec.ofChange takeoverSoonWrong)

/-- 'luminairelaw55.TakeoverCopies': WHATEVER THE INPUT: true; the input reads as it did. -/
def takeoverCopiesSpec : ChangeSpec := { name := "takeoverCopies", fn := fun _ => fun
  | [d1, d2, d3] => { results := [.lit (.bool true)], args := [d1, d2, d3] }
  | _ => none }
def takeoverCopiesRow : OpenClaim := { program := "ytmhinhgflehkaaagreat", sum := "87b73ddc2f36d20fd86c6bf887308ce1bae590dc8c8dde5afb411184d0002811", func := "luminaire/luminairelaw55.TakeoverCopies", spec := "takeoverCopies", inPlace := ["internal/bytealg.IndexByteString", "internal/bytealg.IndexString"], unfollowed := true, recurses := true, named := ["internal/bytealg.MaxLen"], apart := false }
def TakeoverCopiesSaid : Prop := takeoverCopiesRow.holds Tryz.pinned (OpenSpec.ofChange takeoverCopiesSpec)

/-- ITS FALSE NEIGHBOUR: 'it returns false'. Refute it at one input. -/
def takeoverCopiesWrong : ChangeSpec := { name := "takeoverCopies", fn := fun _ => fun
  | [d1, d2, d3] => { results := [.lit (.bool false)], args := [d1, d2, d3] }
  | _ => none }
def TakeoverCopiesWrongFalsely : Prop := takeoverCopiesRow.holds Tryz.pinned (OpenSpec.ofChange takeoverCopiesWrong)

/-- 'luminairelaw55.TakeoverTicks': WHATEVER THE INPUT: true; the input reads as it did. -/
def takeoverTicksSpec : ChangeSpec := { name := "takeoverTicks", fn := fun _ => fun
  | [d1, d2] => { results := [.lit (.bool true)], args := [d1, d2] }
  | _ => none }
def takeoverTicksRow : OpenClaim := { program := "ytmhinhgflehkaaagreat", sum := "87b73ddc2f36d20fd86c6bf887308ce1bae590dc8c8dde5afb411184d0002811", func := "luminaire/luminairelaw55.TakeoverTicks", spec := "takeoverTicks", inPlace := ["internal/bytealg.IndexByteString", "internal/bytealg.IndexString"], unfollowed := true, recurses := true, named := ["internal/bytealg.MaxLen"], apart := false }
def TakeoverTicksSaid : Prop := takeoverTicksRow.holds Tryz.pinned (OpenSpec.ofChange takeoverTicksSpec)

/-- ITS FALSE NEIGHBOUR: 'it returns false'. Refute it at one input. -/
def takeoverTicksWrong : ChangeSpec := { name := "takeoverTicks", fn := fun _ => fun
  | [d1, d2] => { results := [.lit (.bool false)], args := [d1, d2] }
  | _ => none }
def TakeoverTicksWrongFalsely : Prop := takeoverTicksRow.holds Tryz.pinned (OpenSpec.ofChange takeoverTicksWrong)

/-- 'luminairelaw55.TakeoverRuns': WHATEVER THE INPUT: true; the input reads as it did. -/
def takeoverRunsSpec : ChangeSpec := { name := "takeoverRuns", fn := fun _ => fun
  | [d1, d2, d3] => { results := [.lit (.bool true)], args := [d1, d2, d3] }
  | _ => none }
def takeoverRunsRow : OpenClaim := { program := "ytmhinhgflehkaaagreat", sum := "87b73ddc2f36d20fd86c6bf887308ce1bae590dc8c8dde5afb411184d0002811", func := "luminaire/luminairelaw55.TakeoverRuns", spec := "takeoverRuns", inPlace := ["internal/bytealg.IndexByteString", "internal/bytealg.IndexString"], unfollowed := true, recurses := true, named := ["internal/bytealg.MaxLen"], apart := false }
def TakeoverRunsSaid : Prop := takeoverRunsRow.holds Tryz.pinned (OpenSpec.ofChange takeoverRunsSpec)

/-- ITS FALSE NEIGHBOUR: 'it returns false'. Refute it at one input. -/
def takeoverRunsWrong : ChangeSpec := { name := "takeoverRuns", fn := fun _ => fun
  | [d1, d2, d3] => { results := [.lit (.bool false)], args := [d1, d2, d3] }
  | _ => none }
def TakeoverRunsWrongFalsely : Prop := takeoverRunsRow.holds Tryz.pinned (OpenSpec.ofChange takeoverRunsWrong)

/-- 'luminairelaw55.TakeoverStays': WHATEVER THE INPUT: true; the input reads as it did. -/
def takeoverStaysSpec : ChangeSpec := { name := "takeoverStays", fn := fun _ => fun
  | [d1, d2, d3] => { results := [.lit (.bool true)], args := [d1, d2, d3] }
  | _ => none }
def takeoverStaysRow : OpenClaim := { program := "ytmhinhgflehkaaagreat", sum := "87b73ddc2f36d20fd86c6bf887308ce1bae590dc8c8dde5afb411184d0002811", func := "luminaire/luminairelaw55.TakeoverStays", spec := "takeoverStays", inPlace := ["internal/bytealg.IndexByteString", "internal/bytealg.IndexString"], unfollowed := true, recurses := true, named := ["internal/bytealg.MaxLen"], apart := false }
def TakeoverStaysSaid : Prop := takeoverStaysRow.holds Tryz.pinned (OpenSpec.ofChange takeoverStaysSpec)

/-- ITS FALSE NEIGHBOUR: 'it returns false'. Refute it at one input. -/
def takeoverStaysWrong : ChangeSpec := { name := "takeoverStays", fn := fun _ => fun
  | [d1, d2, d3] => { results := [.lit (.bool false)], args := [d1, d2, d3] }
  | _ => none }
def TakeoverStaysWrongFalsely : Prop := takeoverStaysRow.holds Tryz.pinned (OpenSpec.ofChange takeoverStaysWrong)

/-- 'luminairelaw55.TakeoverTerms': WHATEVER THE INPUT: true; the input reads as it did. -/
def takeoverTermsSpec : ChangeSpec := { name := "takeoverTerms", fn := fun _ => fun
  | [d1, d2, d3] => { results := [.lit (.bool true)], args := [d1, d2, d3] }
  | _ => none }
def takeoverTermsRow : OpenClaim := { program := "ytmhinhgflehkaaagreat", sum := "87b73ddc2f36d20fd86c6bf887308ce1bae590dc8c8dde5afb411184d0002811", func := "luminaire/luminairelaw55.TakeoverTerms", spec := "takeoverTerms", inPlace := ["internal/bytealg.IndexByteString", "internal/bytealg.IndexString"], unfollowed := true, recurses := true, named := ["internal/bytealg.MaxLen"], apart := false }
def TakeoverTermsSaid : Prop := takeoverTermsRow.holds Tryz.pinned (OpenSpec.ofChange takeoverTermsSpec)

/-- ITS FALSE NEIGHBOUR: 'it returns false'. Refute it at one input. -/
def takeoverTermsWrong : ChangeSpec := { name := "takeoverTerms", fn := fun _ => fun
  | [d1, d2, d3] => { results := [.lit (.bool false)], args := [d1, d2, d3] }
  | _ => none }
def TakeoverTermsWrongFalsely : Prop := takeoverTermsRow.holds Tryz.pinned (OpenSpec.ofChange takeoverTermsWrong)

/-- 'luminairetop.TopReplicasKeep': WHATEVER THE INPUT: true; the input reads as it did. -/
def topReplicasKeepSpec : ChangeSpec := { name := "topReplicasKeep", fn := fun _ => fun
  | [d] => { results := [.lit (.bool true)], args := [d] }
  | _ => none }
def topReplicasKeepRow : OpenClaim := { program := "ytmhinhgflehkaaagreat", sum := "87b73ddc2f36d20fd86c6bf887308ce1bae590dc8c8dde5afb411184d0002811", func := "luminaire/luminairetop.TopReplicasKeep", spec := "topReplicasKeep", inPlace := ["internal/bytealg.IndexByteString", "internal/bytealg.IndexString"], unfollowed := true, recurses := true, named := ["internal/bytealg.MaxLen"], apart := false }
def TopReplicasKeepSaid : Prop := topReplicasKeepRow.holds Tryz.pinned (OpenSpec.ofChange topReplicasKeepSpec)

/-- ITS FALSE NEIGHBOUR: 'it returns false'. Refute it at one input. -/
def topReplicasKeepWrong : ChangeSpec := { name := "topReplicasKeep", fn := fun _ => fun
  | [d] => { results := [.lit (.bool false)], args := [d] }
  | _ => none }
def TopReplicasKeepWrongFalsely : Prop := topReplicasKeepRow.holds Tryz.pinned (OpenSpec.ofChange topReplicasKeepWrong)

/-- 'luminairetop.TopReplicasSettle': WHATEVER THE INPUT: true; the input reads as it did. -/
def topReplicasSettleSpec : ChangeSpec := { name := "topReplicasSettle", fn := fun _ => fun
  | [d1, d2] => { results := [.lit (.bool true)], args := [d1, d2] }
  | _ => none }
def topReplicasSettleRow : OpenClaim := { program := "ytmhinhgflehkaaagreat", sum := "87b73ddc2f36d20fd86c6bf887308ce1bae590dc8c8dde5afb411184d0002811", func := "luminaire/luminairetop.TopReplicasSettle", spec := "topReplicasSettle", inPlace := ["internal/bytealg.IndexByteString", "internal/bytealg.IndexString"], unfollowed := true, recurses := true, named := ["internal/bytealg.MaxLen"], apart := false }
def TopReplicasSettleSaid : Prop := topReplicasSettleRow.holds Tryz.pinned (OpenSpec.ofChange topReplicasSettleSpec)

/-- ITS FALSE NEIGHBOUR: 'it returns false'. Refute it at one input. -/
def topReplicasSettleWrong : ChangeSpec := { name := "topReplicasSettle", fn := fun _ => fun
  | [d1, d2] => { results := [.lit (.bool false)], args := [d1, d2] }
  | _ => none }
def TopReplicasSettleWrongFalsely : Prop := topReplicasSettleRow.holds Tryz.pinned (OpenSpec.ofChange topReplicasSettleWrong)

/-- 'luminairetop.TopTakeoversKeep': WHATEVER THE INPUT: true; the input reads as it did. -/
def topTakeoversKeepSpec : ChangeSpec := { name := "topTakeoversKeep", fn := fun _ => fun
  | [d1, d2, d3] => { results := [.lit (.bool true)], args := [d1, d2, d3] }
  | _ => none }
def topTakeoversKeepRow : OpenClaim := { program := "ytmhinhgflehkaaagreat", sum := "87b73ddc2f36d20fd86c6bf887308ce1bae590dc8c8dde5afb411184d0002811", func := "luminaire/luminairetop.TopTakeoversKeep", spec := "topTakeoversKeep", inPlace := ["internal/bytealg.IndexByteString", "internal/bytealg.IndexString"], unfollowed := true, recurses := true, named := ["internal/bytealg.MaxLen"], apart := false }
def TopTakeoversKeepSaid : Prop := topTakeoversKeepRow.holds Tryz.pinned (OpenSpec.ofChange topTakeoversKeepSpec)

/-- ITS FALSE NEIGHBOUR: 'it returns false'. Refute it at one input. -/
def topTakeoversKeepWrong : ChangeSpec := { name := "topTakeoversKeep", fn := fun _ => fun
  | [d1, d2, d3] => { results := [.lit (.bool false)], args := [d1, d2, d3] }
  | _ => none }
def TopTakeoversKeepWrongFalsely : Prop := topTakeoversKeepRow.holds Tryz.pinned (OpenSpec.ofChange topTakeoversKeepWrong)

/-- 'luminairetop.TopTakeoversSpeak': WHATEVER THE INPUT: true; the input reads as it did. -/
def topTakeoversSpeakSpec : ChangeSpec := { name := "topTakeoversSpeak", fn := fun _ => fun
  | [d1, d2, d3] => { results := [.lit (.bool true)], args := [d1, d2, d3] }
  | _ => none }
def topTakeoversSpeakRow : OpenClaim := { program := "ytmhinhgflehkaaagreat", sum := "87b73ddc2f36d20fd86c6bf887308ce1bae590dc8c8dde5afb411184d0002811", func := "luminaire/luminairetop.TopTakeoversSpeak", spec := "topTakeoversSpeak", inPlace := ["internal/bytealg.IndexByteString", "internal/bytealg.IndexString"], unfollowed := true, recurses := true, named := ["internal/bytealg.MaxLen"], apart := false }
def TopTakeoversSpeakSaid : Prop := topTakeoversSpeakRow.holds Tryz.pinned (OpenSpec.ofChange topTakeoversSpeakSpec)

/-- ITS FALSE NEIGHBOUR: 'it returns false'. Refute it at one input. -/
def topTakeoversSpeakWrong : ChangeSpec := { name := "topTakeoversSpeak", fn := fun _ => fun
  | [d1, d2, d3] => { results := [.lit (.bool false)], args := [d1, d2, d3] }
  | _ => none }
def TopTakeoversSpeakWrongFalsely : Prop := topTakeoversSpeakRow.holds Tryz.pinned (OpenSpec.ofChange topTakeoversSpeakWrong)

/-- 'luminairetop.TopTakeoversGoOn': WHATEVER THE INPUT: true; the input reads as it did. -/
def topTakeoversGoOnSpec : ChangeSpec := { name := "topTakeoversGoOn", fn := fun _ => fun
  | [d1, d2, d3] => { results := [.lit (.bool true)], args := [d1, d2, d3] }
  | _ => none }
def topTakeoversGoOnRow : OpenClaim := { program := "ytmhinhgflehkaaagreat", sum := "87b73ddc2f36d20fd86c6bf887308ce1bae590dc8c8dde5afb411184d0002811", func := "luminaire/luminairetop.TopTakeoversGoOn", spec := "topTakeoversGoOn", inPlace := ["internal/bytealg.IndexByteString", "internal/bytealg.IndexString"], unfollowed := true, recurses := true, named := ["internal/bytealg.MaxLen"], apart := false }
def TopTakeoversGoOnSaid : Prop := topTakeoversGoOnRow.holds Tryz.pinned (OpenSpec.ofChange topTakeoversGoOnSpec)

/-- ITS FALSE NEIGHBOUR: 'it returns false'. Refute it at one input. -/
def topTakeoversGoOnWrong : ChangeSpec := { name := "topTakeoversGoOn", fn := fun _ => fun
  | [d1, d2, d3] => { results := [.lit (.bool false)], args := [d1, d2, d3] }
  | _ => none }
def TopTakeoversGoOnWrongFalsely : Prop := topTakeoversGoOnRow.holds Tryz.pinned (OpenSpec.ofChange topTakeoversGoOnWrong)

/- THE SECOND FORM. 'bulk': how many values and letters a reading holds, each counted each time it is reached (what is shared counts as often as it is met; a slice's spare places count too). A statement '..UptoSaid' is the law's where the arguments, and the package variables that the reading takes, are together of bulk at most 1048576: NARROWER than '..Said'. Prove '..Said' where nothing that the law and all that it calls make is longer than what came in: it says more and counts as full. Else prove '..UptoSaid'. A law counts once. -/
mutual
def uptoBulk {H : Type} : DataW H → Nat
  | .lit (.string bytes) => bytes.length + 1
  | .lit _ => 1
  | .nil => 1
  | .ptr d => uptoBulk d + 1
  | .slice elems spare => uptoBulkAll elems + uptoBulkAll spare + 1
  | .agg parts => uptoBulkAll parts + 1
  | .iface _ d => uptoBulk d + 1
  | .map entries => uptoBulkEntries entries + 1
  | .held _ => 1
def uptoBulkAll {H : Type} : List (DataW H) → Nat
  | [] => 0
  | d :: r => uptoBulk d + uptoBulkAll r
def uptoBulkEntries {H : Type} : List (Lit × DataW H) → Nat
  | [] => 0
  | x :: r => uptoBulkEntry x + uptoBulkEntries r
def uptoBulkEntry {H : Type} : Lit × DataW H → Nat
  | (.string bytes, d) => bytes.length + uptoBulk d + 1
  | (_, d) => uptoBulk d + 1
 end
def uptoSmall : (H : Type) → List (DataW H) → Bool := fun _ ds => decide (uptoBulkAll ds ≤ 1048576)
def OpenSpec.upto (s : _root_.Go.ChangeSpec) : _root_.Go.OpenSpec := { _root_.Go.OpenSpec.ofChange s with cond := some uptoSmall }

/-- 'luminairelaw55.TakeoverChecks', WHERE WHAT IT READS IS OF BULK AT MOST 1048576: true; the input reads as it did. -/
def takeoverChecksUptoRow : OpenClaim := { program := "ytmhinhgflehkaaagreat", sum := "87b73ddc2f36d20fd86c6bf887308ce1bae590dc8c8dde5afb411184d0002811", func := "luminaire/luminairelaw55.TakeoverChecks", spec := "takeoverChecks", inPlace := ["internal/bytealg.IndexByteString", "internal/bytealg.IndexString"], unfollowed := true, recurses := true, named := ["internal/bytealg.MaxLen"], apart := false, narrowed := true }
def TakeoverChecksUptoSaid : Prop := takeoverChecksUptoRow.holds Tryz.pinned (OpenSpec.upto takeoverChecksSpec)

/-- 'luminairelaw55.TakeoverSoon', WHERE WHAT IT READS IS OF BULK AT MOST 1048576: true; the input reads as it did. -/
def takeoverSoonUptoRow : OpenClaim := { program := "ytmhinhgflehkaaagreat", sum := "87b73ddc2f36d20fd86c6bf887308ce1bae590dc8c8dde5afb411184d0002811", func := "luminaire/luminairelaw55.TakeoverSoon", spec := "takeoverSoon", inPlace := ["internal/bytealg.IndexByteString", "internal/bytealg.IndexString"], unfollowed := true, recurses := true, named := ["internal/bytealg.MaxLen"], apart := false, narrowed := true }
def TakeoverSoonUptoSaid : Prop := takeoverSoonUptoRow.holds Tryz.pinned (OpenSpec.upto takeoverSoonSpec)

/-- 'luminairelaw55.TakeoverCopies', WHERE WHAT IT READS IS OF BULK AT MOST 1048576: true; the input reads as it did. -/
def takeoverCopiesUptoRow : OpenClaim := { program := "ytmhinhgflehkaaagreat", sum := "87b73ddc2f36d20fd86c6bf887308ce1bae590dc8c8dde5afb411184d0002811", func := "luminaire/luminairelaw55.TakeoverCopies", spec := "takeoverCopies", inPlace := ["internal/bytealg.IndexByteString", "internal/bytealg.IndexString"], unfollowed := true, recurses := true, named := ["internal/bytealg.MaxLen"], apart := false, narrowed := true }
def TakeoverCopiesUptoSaid : Prop := takeoverCopiesUptoRow.holds Tryz.pinned (OpenSpec.upto takeoverCopiesSpec)

/-- 'luminairelaw55.TakeoverTicks', WHERE WHAT IT READS IS OF BULK AT MOST 1048576: true; the input reads as it did. -/
def takeoverTicksUptoRow : OpenClaim := { program := "ytmhinhgflehkaaagreat", sum := "87b73ddc2f36d20fd86c6bf887308ce1bae590dc8c8dde5afb411184d0002811", func := "luminaire/luminairelaw55.TakeoverTicks", spec := "takeoverTicks", inPlace := ["internal/bytealg.IndexByteString", "internal/bytealg.IndexString"], unfollowed := true, recurses := true, named := ["internal/bytealg.MaxLen"], apart := false, narrowed := true }
def TakeoverTicksUptoSaid : Prop := takeoverTicksUptoRow.holds Tryz.pinned (OpenSpec.upto takeoverTicksSpec)

/-- 'luminairelaw55.TakeoverRuns', WHERE WHAT IT READS IS OF BULK AT MOST 1048576: true; the input reads as it did. -/
def takeoverRunsUptoRow : OpenClaim := { program := "ytmhinhgflehkaaagreat", sum := "87b73ddc2f36d20fd86c6bf887308ce1bae590dc8c8dde5afb411184d0002811", func := "luminaire/luminairelaw55.TakeoverRuns", spec := "takeoverRuns", inPlace := ["internal/bytealg.IndexByteString", "internal/bytealg.IndexString"], unfollowed := true, recurses := true, named := ["internal/bytealg.MaxLen"], apart := false, narrowed := true }
def TakeoverRunsUptoSaid : Prop := takeoverRunsUptoRow.holds Tryz.pinned (OpenSpec.upto takeoverRunsSpec)

/-- 'luminairelaw55.TakeoverStays', WHERE WHAT IT READS IS OF BULK AT MOST 1048576: true; the input reads as it did. -/
def takeoverStaysUptoRow : OpenClaim := { program := "ytmhinhgflehkaaagreat", sum := "87b73ddc2f36d20fd86c6bf887308ce1bae590dc8c8dde5afb411184d0002811", func := "luminaire/luminairelaw55.TakeoverStays", spec := "takeoverStays", inPlace := ["internal/bytealg.IndexByteString", "internal/bytealg.IndexString"], unfollowed := true, recurses := true, named := ["internal/bytealg.MaxLen"], apart := false, narrowed := true }
def TakeoverStaysUptoSaid : Prop := takeoverStaysUptoRow.holds Tryz.pinned (OpenSpec.upto takeoverStaysSpec)

/-- 'luminairelaw55.TakeoverTerms', WHERE WHAT IT READS IS OF BULK AT MOST 1048576: true; the input reads as it did. -/
def takeoverTermsUptoRow : OpenClaim := { program := "ytmhinhgflehkaaagreat", sum := "87b73ddc2f36d20fd86c6bf887308ce1bae590dc8c8dde5afb411184d0002811", func := "luminaire/luminairelaw55.TakeoverTerms", spec := "takeoverTerms", inPlace := ["internal/bytealg.IndexByteString", "internal/bytealg.IndexString"], unfollowed := true, recurses := true, named := ["internal/bytealg.MaxLen"], apart := false, narrowed := true }
def TakeoverTermsUptoSaid : Prop := takeoverTermsUptoRow.holds Tryz.pinned (OpenSpec.upto takeoverTermsSpec)

/-- 'luminairetop.TopReplicasKeep', WHERE WHAT IT READS IS OF BULK AT MOST 1048576: true; the input reads as it did. -/
def topReplicasKeepUptoRow : OpenClaim := { program := "ytmhinhgflehkaaagreat", sum := "87b73ddc2f36d20fd86c6bf887308ce1bae590dc8c8dde5afb411184d0002811", func := "luminaire/luminairetop.TopReplicasKeep", spec := "topReplicasKeep", inPlace := ["internal/bytealg.IndexByteString", "internal/bytealg.IndexString"], unfollowed := true, recurses := true, named := ["internal/bytealg.MaxLen"], apart := false, narrowed := true }
def TopReplicasKeepUptoSaid : Prop := topReplicasKeepUptoRow.holds Tryz.pinned (OpenSpec.upto topReplicasKeepSpec)

/-- 'luminairetop.TopReplicasSettle', WHERE WHAT IT READS IS OF BULK AT MOST 1048576: true; the input reads as it did. -/
def topReplicasSettleUptoRow : OpenClaim := { program := "ytmhinhgflehkaaagreat", sum := "87b73ddc2f36d20fd86c6bf887308ce1bae590dc8c8dde5afb411184d0002811", func := "luminaire/luminairetop.TopReplicasSettle", spec := "topReplicasSettle", inPlace := ["internal/bytealg.IndexByteString", "internal/bytealg.IndexString"], unfollowed := true, recurses := true, named := ["internal/bytealg.MaxLen"], apart := false, narrowed := true }
def TopReplicasSettleUptoSaid : Prop := topReplicasSettleUptoRow.holds Tryz.pinned (OpenSpec.upto topReplicasSettleSpec)

/-- 'luminairetop.TopTakeoversKeep', WHERE WHAT IT READS IS OF BULK AT MOST 1048576: true; the input reads as it did. -/
def topTakeoversKeepUptoRow : OpenClaim := { program := "ytmhinhgflehkaaagreat", sum := "87b73ddc2f36d20fd86c6bf887308ce1bae590dc8c8dde5afb411184d0002811", func := "luminaire/luminairetop.TopTakeoversKeep", spec := "topTakeoversKeep", inPlace := ["internal/bytealg.IndexByteString", "internal/bytealg.IndexString"], unfollowed := true, recurses := true, named := ["internal/bytealg.MaxLen"], apart := false, narrowed := true }
def TopTakeoversKeepUptoSaid : Prop := topTakeoversKeepUptoRow.holds Tryz.pinned (OpenSpec.upto topTakeoversKeepSpec)

/-- 'luminairetop.TopTakeoversSpeak', WHERE WHAT IT READS IS OF BULK AT MOST 1048576: true; the input reads as it did. -/
def topTakeoversSpeakUptoRow : OpenClaim := { program := "ytmhinhgflehkaaagreat", sum := "87b73ddc2f36d20fd86c6bf887308ce1bae590dc8c8dde5afb411184d0002811", func := "luminaire/luminairetop.TopTakeoversSpeak", spec := "topTakeoversSpeak", inPlace := ["internal/bytealg.IndexByteString", "internal/bytealg.IndexString"], unfollowed := true, recurses := true, named := ["internal/bytealg.MaxLen"], apart := false, narrowed := true }
def TopTakeoversSpeakUptoSaid : Prop := topTakeoversSpeakUptoRow.holds Tryz.pinned (OpenSpec.upto topTakeoversSpeakSpec)

/-- 'luminairetop.TopTakeoversGoOn', WHERE WHAT IT READS IS OF BULK AT MOST 1048576: true; the input reads as it did. -/
def topTakeoversGoOnUptoRow : OpenClaim := { program := "ytmhinhgflehkaaagreat", sum := "87b73ddc2f36d20fd86c6bf887308ce1bae590dc8c8dde5afb411184d0002811", func := "luminaire/luminairetop.TopTakeoversGoOn", spec := "topTakeoversGoOn", inPlace := ["internal/bytealg.IndexByteString", "internal/bytealg.IndexString"], unfollowed := true, recurses := true, named := ["internal/bytealg.MaxLen"], apart := false, narrowed := true }
def TopTakeoversGoOnUptoSaid : Prop := topTakeoversGoOnUptoRow.holds Tryz.pinned (OpenSpec.upto topTakeoversGoOnSpec)

end Rows
end Go.Proofs.YtmhinhgflehkaaaGreat
