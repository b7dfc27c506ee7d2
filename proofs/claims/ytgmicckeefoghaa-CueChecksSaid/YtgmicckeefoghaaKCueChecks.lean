/-
  The closed facts of the row of CueChecks, one by one.
-/
import Derived.Test.YtgmicckeefoghaaRow
namespace Go.Proofs.Ytgmicckeefoghaa
open Go.RowKit
theorem CueChecks_ip : Try.prog.inPlace 17 = Rows.cueChecksRow.inPlace := by kernel_rfl
theorem CueChecks_un : Try.prog.unfollowed 17 = true := by kernel_rfl
theorem CueChecks_re : Try.prog.recurses 17 = true := by kernel_rfl
theorem CueChecks_na : Try.prog.varsNamed 17 = Rows.cueChecksRow.named := by kernel_rfl
theorem CueChecks_all : joinedFacts Try.prog 17 Try.f17 Rows.cueChecksSpec Rows.cueChecksRow = true := by
  unfold joinedFacts
  rw [CueChecks_ip, CueChecks_un, CueChecks_re, CueChecks_na]
  kernel_rfl
end Go.Proofs.Ytgmicckeefoghaa
