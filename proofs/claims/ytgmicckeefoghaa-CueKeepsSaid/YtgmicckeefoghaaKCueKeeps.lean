/-
  The closed facts of the row of CueKeeps, one by one.
-/
import Derived.Test.YtgmicckeefoghaaRow
namespace Go.Proofs.Ytgmicckeefoghaa
open Go.RowKit
theorem CueKeeps_ip : Try.prog.inPlace 16 = Rows.cueKeepsRow.inPlace := by kernel_rfl
theorem CueKeeps_un : Try.prog.unfollowed 16 = true := by kernel_rfl
theorem CueKeeps_re : Try.prog.recurses 16 = true := by kernel_rfl
theorem CueKeeps_na : Try.prog.varsNamed 16 = Rows.cueKeepsRow.named := by kernel_rfl
theorem CueKeeps_all : joinedFacts Try.prog 16 Try.f16 Rows.cueKeepsSpec Rows.cueKeepsRow = true := by
  unfold joinedFacts
  rw [CueKeeps_ip, CueKeeps_un, CueKeeps_re, CueKeeps_na]
  kernel_rfl
end Go.Proofs.Ytgmicckeefoghaa
