/-
  The closed facts of the row of CueAssociates, one by one.
-/
import Derived.Test.YtgmicckeefoghaaRow
namespace Go.Proofs.Ytgmicckeefoghaa
open Go.RowKit
theorem CueAssociates_ip : Try.prog.inPlace 15 = Rows.cueAssociatesRow.inPlace := by kernel_rfl
theorem CueAssociates_un : Try.prog.unfollowed 15 = true := by kernel_rfl
theorem CueAssociates_re : Try.prog.recurses 15 = true := by kernel_rfl
theorem CueAssociates_na : Try.prog.varsNamed 15 = Rows.cueAssociatesRow.named := by kernel_rfl
theorem CueAssociates_all : joinedFacts Try.prog 15 Try.f15 Rows.cueAssociatesSpec Rows.cueAssociatesRow = true := by
  unfold joinedFacts
  rw [CueAssociates_ip, CueAssociates_un, CueAssociates_re, CueAssociates_na]
  kernel_rfl
end Go.Proofs.Ytgmicckeefoghaa
