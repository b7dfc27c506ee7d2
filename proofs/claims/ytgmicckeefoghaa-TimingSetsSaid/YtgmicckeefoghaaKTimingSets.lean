/-
  The closed facts of the row of TimingSets, one by one.
-/
import Derived.Test.YtgmicckeefoghaaRow
namespace Go.Proofs.Ytgmicckeefoghaa
open Go.RowKit
theorem TimingSets_ip : Try.prog.inPlace 8 = Rows.timingSetsRow.inPlace := by kernel_rfl
theorem TimingSets_un : Try.prog.unfollowed 8 = true := by kernel_rfl
theorem TimingSets_re : Try.prog.recurses 8 = true := by kernel_rfl
theorem TimingSets_na : Try.prog.varsNamed 8 = Rows.timingSetsRow.named := by kernel_rfl
theorem TimingSets_all : joinedFacts Try.prog 8 Try.f8 Rows.timingSetsSpec Rows.timingSetsRow = true := by
  unfold joinedFacts
  rw [TimingSets_ip, TimingSets_un, TimingSets_re, TimingSets_na]
  kernel_rfl
end Go.Proofs.Ytgmicckeefoghaa
