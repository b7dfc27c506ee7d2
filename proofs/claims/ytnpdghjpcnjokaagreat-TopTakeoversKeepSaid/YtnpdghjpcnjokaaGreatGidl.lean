import Derived.Test.YtnpdghjpcnjokaaGreatGarf
import Derived.Test.YtnpdghjpcnjokaaGreatGwl
namespace Go.Proofs.YtnpdghjpcnjokaaGreat
open Go.RowKit

def c12 (a : Acn) : Bool:=!tgB a.kind && decide (a.target ≠ 0)
def c22 (a : Acn) : Bool:=c12 a || (decide (a.kind ≠ 1) && !a.cue.toList.isEmpty)
def c33 (a : Acn) : Bool:=c22 a || (!lvB a.kind && decide (a.level ≠ 0))
def i1B (a : Acn) : Bool:=decide ((tgB a.kind = false ∧ a.target ≠ 0) ∨ (a.kind ≠ 1 ∧ a.cue.toList.isEmpty = false) ∨ (lvB a.kind = false ∧ a.level ≠ 0) ∨ (tmB a.kind = false ∧ a.time ≠ 0))
def c53 (a : Acn) : Bool:=decide (a.kind ≠ 12) && !a.entries.l.isEmpty
def c64 (a : Acn) : Bool:=c53 a || (decide (a.kind ≠ 13) && !a.params.l.isEmpty)
def i2B (a : Acn) : Bool:=decide ((a.kind ≠ 12 ∧ ¬ a.entries.l = []) ∨ (a.kind ≠ 13 ∧ ¬ a.params.l = []) ∨ (a.kind ≠ 14 ∧ ¬ a.chans.l = []))
noncomputable def idleR (a : Acn) : Bool:=!i1B a && !i2B a && (decide (a.kind = 17) || sameE a.edit zdP)
end Go.Proofs.YtnpdghjpcnjokaaGreat

namespace Go.Proofs.YtnpdghjpcnjokaaGreat
open Go.RowKit

noncomputable def r33E (a : Acn) : Int:=if a.kind < 0 ∨ 19 < a.kind then 1 else if inE a.at_ 0 10000000 ≠ 0 then 2 else if numsR a ≠ 0 then numsR a else if zjl a ≠ 0 then zjl a else if idleR a = true then 0 else 3
end Go.Proofs.YtnpdghjpcnjokaaGreat

namespace Go.Proofs.YtnpdghjpcnjokaaGreat
open Go.RowKit
end Go.Proofs.YtnpdghjpcnjokaaGreat
