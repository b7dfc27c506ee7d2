/-
  No cell of these rows narrows 'for every input' (looked for: loops, veiled, ifaces, maps, wideKeys, modest, calm, conditions, laid).
  DERIVED. THE GIVEN ROWS OF THIS SEAT. 4 by the template 'for every input the law returns true; each argument reads behind the call as it read before'; 0 by the template 'total and deterministic' (their statements: YtnpdghjpcnjokaaGreatTotals.lean).
  GIVEN WITH THE SEED: the statements are not yours to turn. If you find one false, say at which input.
  Laid BY PROGRAM, IN A SANDBOX (cutbox-rows.mjs): the forced cells as the released guide's own fill.sh prints them over the translation 82bcc0d0f8b28acd… (all of the seat's roots in one cut). By AI agents, Wed Nov 11 2026. No macro, syntax, notation, axiom, sorry.
-/
import Derived.Test.YtnpdghjpcnjokaaGreatChecked
import GoSem.Claim
import GoSem.ClaimJoined
import GoSem.ClaimMapViews
import Derived.JoinedTies
import Derived.KernelRfl
namespace Go.Proofs.YtnpdghjpcnjokaaGreat
/- THE CELL 'sum', in the pinned program and in every row, IS THE sha256 OF THE DUMP (.gsa) THAT YtnpdghjpcnjokaaGreatProg.lean LOADS. Nothing in Lean hashes anything: it is a label: what it is worth is what the hold of that sum in a sandbox is worth. -/
noncomputable def Tryz.pinned : Pinned := { name := "ytnpdghjpcnjokaagreat", sum := "82bcc0d0f8b28acd8724df2306b983269cdffef8b268cbdaf3571065f3282f54", checked := Tryz.checked }
namespace Rows
def none {H : Type} : Left H := { results := [], args := [] }

/-- 'luminairelaw55.TakeoverChecks': WHATEVER THE INPUT: true; the input reads as it did. -/
def takeoverChecksSpec : ChangeSpec := { name := "takeoverChecks", fn := fun _ => fun
  | [d1, d2, d3] => { results := [.lit (.bool true)], args := [d1, d2, d3] }
  | _ => none }
def takeoverChecksRow : OpenClaim := { program := "ytnpdghjpcnjokaagreat", sum := "82bcc0d0f8b28acd8724df2306b983269cdffef8b268cbdaf3571065f3282f54", func := "luminaire/luminairelaw55.TakeoverChecks", spec := "takeoverChecks", inPlace := ["internal/bytealg.IndexByteString", "internal/bytealg.IndexString"], unfollowed := true, recurses := true, named := ["internal/bytealg.MaxLen"], apart := false }
def TakeoverChecksSaid : Prop := takeoverChecksRow.holds Tryz.pinned (OpenSpec.ofChange takeoverChecksSpec)

/-- ITS FALSE NEIGHBOUR: 'it returns false'. Refute it at one input. -/
def takeoverChecksWrong : ChangeSpec := { name := "takeoverChecks", fn := fun _ => fun
  | [d1, d2, d3] => { results := [.lit (.bool false)], args := [d1, d2, d3] }
  | _ => none }
def TakeoverChecksWrongFalsely : Prop := takeoverChecksRow.holds Tryz.pinned (OpenSpec.ofChange takeoverChecksWrong)

/-- 'luminairelaw55.TakeoverTicks': WHATEVER THE INPUT: true; the input reads as it did. -/
def takeoverTicksSpec : ChangeSpec := { name := "takeoverTicks", fn := fun _ => fun
  | [d1, d2] => { results := [.lit (.bool true)], args := [d1, d2] }
  | _ => none }
def takeoverTicksRow : OpenClaim := { program := "ytnpdghjpcnjokaagreat", sum := "82bcc0d0f8b28acd8724df2306b983269cdffef8b268cbdaf3571065f3282f54", func := "luminaire/luminairelaw55.TakeoverTicks", spec := "takeoverTicks", inPlace := ["internal/bytealg.IndexByteString", "internal/bytealg.IndexString"], unfollowed := true, recurses := true, named := ["internal/bytealg.MaxLen"], apart := false }
def TakeoverTicksSaid : Prop := takeoverTicksRow.holds Tryz.pinned (OpenSpec.ofChange takeoverTicksSpec)

/-- ITS FALSE NEIGHBOUR: 'it returns false'. Refute it at one input. -/
def takeoverTicksWrong : ChangeSpec := { name := "takeoverTicks", fn := fun _ => fun
  | [d1, d2] => { results := [.lit (.bool false)], args := [d1, d2] }
  | _ => none }
def TakeoverTicksWrongFalsely : Prop := takeoverTicksRow.holds Tryz.pinned (OpenSpec.ofChange takeoverTicksWrong)

/-- 'luminairelaw55.TakeoverRuns': WHATEVER THE INPUT: true; the input reads as it did. -/
def takeoverRunsSpec : ChangeSpec := { name := "takeoverRuns", fn := fun _ => fun
  | [d1, d2, d3] => { results := [.lit (.bool true)], args := [d1, d2, d3] }
  | _ => none }
def takeoverRunsRow : OpenClaim := { program := "ytnpdghjpcnjokaagreat", sum := "82bcc0d0f8b28acd8724df2306b983269cdffef8b268cbdaf3571065f3282f54", func := "luminaire/luminairelaw55.TakeoverRuns", spec := "takeoverRuns", inPlace := ["internal/bytealg.IndexByteString", "internal/bytealg.IndexString"], unfollowed := true, recurses := true, named := ["internal/bytealg.MaxLen"], apart := false }
def TakeoverRunsSaid : Prop := takeoverRunsRow.holds Tryz.pinned (OpenSpec.ofChange takeoverRunsSpec)

/-- ITS FALSE NEIGHBOUR: 'it returns false'. Refute it at one input. -/
def takeoverRunsWrong : ChangeSpec := { name := "takeoverRuns", fn := fun _ => fun
  | [d1, d2, d3] => { results := [.lit (.bool false)], args := [d1, d2, d3] }
  | _ => none }
def TakeoverRunsWrongFalsely : Prop := takeoverRunsRow.holds Tryz.pinned (OpenSpec.ofChange takeoverRunsWrong)

/-- 'luminairetop.TopTakeoversKeep': WHATEVER THE INPUT: true; the input reads as it did. -/
def topTakeoversKeepSpec : ChangeSpec := { name := "topTakeoversKeep", fn := fun _ => fun
  | [d1, d2, d3] => { results := [.lit (.bool true)], args := [d1, d2, d3] }
  | _ => none }
def topTakeoversKeepRow : OpenClaim := { program := "ytnpdghjpcnjokaagreat", sum := "82bcc0d0f8b28acd8724df2306b983269cdffef8b268cbdaf3571065f3282f54", func := "luminaire/luminairetop.TopTakeoversKeep", spec := "topTakeoversKeep", inPlace := ["internal/bytealg.IndexByteString", "internal/bytealg.IndexString"], unfollowed := true, recurses := true, named := ["internal/bytealg.MaxLen"], apart := false }
def TopTakeoversKeepSaid : Prop := topTakeoversKeepRow.holds Tryz.pinned (OpenSpec.ofChange topTakeoversKeepSpec)

/-- ITS FALSE NEIGHBOUR: 'it returns false'. Refute it at one input. -/
def topTakeoversKeepWrong : ChangeSpec := { name := "topTakeoversKeep", fn := fun _ => fun
  | [d1, d2, d3] => { results := [.lit (.bool false)], args := [d1, d2, d3] }
  | _ => none }
def TopTakeoversKeepWrongFalsely : Prop := topTakeoversKeepRow.holds Tryz.pinned (OpenSpec.ofChange topTakeoversKeepWrong)

/- THE SECOND FORM. 'bulk': how many values and letters a reading holds, each counted each time it is reached (what is shared counts as often as it is met; a slice's spare places count too). A statement '..UptoSaid' is the law's where the arguments, and the package variables that the reading takes, are together of bulk at most 1048576: NARROWER than '..Said'. Prove '..Said' where nothing that the law and all that it calls make is longer than what came in: it says more and counts as full. Else prove '..UptoSaid'. A law counts once. -/
mutual
def uptoBulk {H : Type} : DataW H → Nat
  | .lit (.string bytes) => bytes.length + 1
  | .lit _ => 1
  | .nil => 1
  | .ptr d => uptoBulk d + 1
  | .slice elems spare => uptoBulkAll elems + uptoBulkAll spare + 1
  | .agg parts => uptoBulkAll parts + 1
  | .iface _ d => uptoBulk d + 1
  | .map entries => uptoBulkEntries entries + 1
  | .held _ => 1
def uptoBulkAll {H : Type} : List (DataW H) → Nat
  | [] => 0
  | d :: r => uptoBulk d + uptoBulkAll r
def uptoBulkEntries {H : Type} : List (Lit × DataW H) → Nat
  | [] => 0
  | x :: r => uptoBulkEntry x + uptoBulkEntries r
def uptoBulkEntry {H : Type} : Lit × DataW H → Nat
  | (.string bytes, d) => bytes.length + uptoBulk d + 1
  | (_, d) => uptoBulk d + 1
 end
def uptoSmall : (H : Type) → List (DataW H) → Bool := fun _ ds => decide (uptoBulkAll ds ≤ 1048576)
def OpenSpec.upto (s : _root_.Go.ChangeSpec) : _root_.Go.OpenSpec := { _root_.Go.OpenSpec.ofChange s with cond := some uptoSmall }

/-- 'luminairelaw55.TakeoverChecks', WHERE WHAT IT READS IS OF BULK AT MOST 1048576: true; the input reads as it did. -/
def takeoverChecksUptoRow : OpenClaim := { program := "ytnpdghjpcnjokaagreat", sum := "82bcc0d0f8b28acd8724df2306b983269cdffef8b268cbdaf3571065f3282f54", func := "luminaire/luminairelaw55.TakeoverChecks", spec := "takeoverChecks", inPlace := ["internal/bytealg.IndexByteString", "internal/bytealg.IndexString"], unfollowed := true, recurses := true, named := ["internal/bytealg.MaxLen"], apart := false, narrowed := true }
def TakeoverChecksUptoSaid : Prop := takeoverChecksUptoRow.holds Tryz.pinned (OpenSpec.upto takeoverChecksSpec)

/-- 'luminairelaw55.TakeoverTicks', WHERE WHAT IT READS IS OF BULK AT MOST 1048576: true; the input reads as it did. -/
def takeoverTicksUptoRow : OpenClaim := { program := "ytnpdghjpcnjokaagreat", sum := "82bcc0d0f8b28acd8724df2306b983269cdffef8b268cbdaf3571065f3282f54", func := "luminaire/luminairelaw55.TakeoverTicks", spec := "takeoverTicks", inPlace := ["internal/bytealg.IndexByteString", "internal/bytealg.IndexString"], unfollowed := true, recurses := true, named := ["internal/bytealg.MaxLen"], apart := false, narrowed := true }
def TakeoverTicksUptoSaid : Prop := takeoverTicksUptoRow.holds Tryz.pinned (OpenSpec.upto takeoverTicksSpec)

/-- 'luminairelaw55.TakeoverRuns', WHERE WHAT IT READS IS OF BULK AT MOST 1048576: true; the input reads as it did. -/
def takeoverRunsUptoRow : OpenClaim := { program := "ytnpdghjpcnjokaagreat", sum := "82bcc0d0f8b28acd8724df2306b983269cdffef8b268cbdaf3571065f3282f54", func := "luminaire/luminairelaw55.TakeoverRuns", spec := "takeoverRuns", inPlace := ["internal/bytealg.IndexByteString", "internal/bytealg.IndexString"], unfollowed := true, recurses := true, named := ["internal/bytealg.MaxLen"], apart := false, narrowed := true }
def TakeoverRunsUptoSaid : Prop := takeoverRunsUptoRow.holds Tryz.pinned (OpenSpec.upto takeoverRunsSpec)

/-- 'luminairetop.TopTakeoversKeep', WHERE WHAT IT READS IS OF BULK AT MOST 1048576: true; the input reads as it did. -/
def topTakeoversKeepUptoRow : OpenClaim := { program := "ytnpdghjpcnjokaagreat", sum := "82bcc0d0f8b28acd8724df2306b983269cdffef8b268cbdaf3571065f3282f54", func := "luminaire/luminairetop.TopTakeoversKeep", spec := "topTakeoversKeep", inPlace := ["internal/bytealg.IndexByteString", "internal/bytealg.IndexString"], unfollowed := true, recurses := true, named := ["internal/bytealg.MaxLen"], apart := false, narrowed := true }
def TopTakeoversKeepUptoSaid : Prop := topTakeoversKeepUptoRow.holds Tryz.pinned (OpenSpec.upto topTakeoversKeepSpec)

end Rows
end Go.Proofs.YtnpdghjpcnjokaaGreat
