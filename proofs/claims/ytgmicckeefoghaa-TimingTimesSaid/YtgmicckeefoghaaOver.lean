/-
  The closed facts of a row, one by one.
-/
import Derived.Test.YtgmicckeefoghaaRow
namespace Go.Proofs.Ytgmicckeefoghaa
open Go.RowKit
theorem k_ip : Try.prog.inPlace 3 = Rows.timingTimesRow.inPlace := by kernel_rfl
theorem k_un : Try.prog.unfollowed 3 = true := by kernel_rfl
theorem k_re : Try.prog.recurses 3 = true := by kernel_rfl
theorem k_na : Try.prog.varsNamed 3 = Rows.timingTimesRow.named := by kernel_rfl
theorem k_all : joinedFacts Try.prog 3 Try.f3 Rows.timingTimesSpec Rows.timingTimesRow = true := by
  unfold joinedFacts
  rw [k_ip, k_un, k_re, k_na]
  kernel_rfl
end Go.Proofs.Ytgmicckeefoghaa
