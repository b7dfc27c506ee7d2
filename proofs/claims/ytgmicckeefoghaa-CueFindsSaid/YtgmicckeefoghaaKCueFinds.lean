/-
  The closed facts of the row of CueFinds, one by one.
-/
import Derived.Test.YtgmicckeefoghaaRow
namespace Go.Proofs.Ytgmicckeefoghaa
open Go.RowKit
theorem CueFinds_ip : Try.prog.inPlace 18 = Rows.cueFindsRow.inPlace := by kernel_rfl
theorem CueFinds_un : Try.prog.unfollowed 18 = true := by kernel_rfl
theorem CueFinds_re : Try.prog.recurses 18 = true := by kernel_rfl
theorem CueFinds_na : Try.prog.varsNamed 18 = Rows.cueFindsRow.named := by kernel_rfl
theorem CueFinds_all : joinedFacts Try.prog 18 Try.f18 Rows.cueFindsSpec Rows.cueFindsRow = true := by
  unfold joinedFacts
  rw [CueFinds_ip, CueFinds_un, CueFinds_re, CueFinds_na]
  kernel_rfl
end Go.Proofs.Ytgmicckeefoghaa
