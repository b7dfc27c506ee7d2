/-
  The closed facts of the row of TimingParts, one by one.
-/
import Derived.Test.YtgmicckeefoghaaRow
namespace Go.Proofs.Ytgmicckeefoghaa
open Go.RowKit
theorem TimingParts_ip : Try.prog.inPlace 4 = Rows.timingPartsRow.inPlace := by kernel_rfl
theorem TimingParts_un : Try.prog.unfollowed 4 = true := by kernel_rfl
theorem TimingParts_re : Try.prog.recurses 4 = true := by kernel_rfl
theorem TimingParts_na : Try.prog.varsNamed 4 = Rows.timingPartsRow.named := by kernel_rfl
theorem TimingParts_all : joinedFacts Try.prog 4 Try.f4 Rows.timingPartsSpec Rows.timingPartsRow = true := by
  unfold joinedFacts
  rw [TimingParts_ip, TimingParts_un, TimingParts_re, TimingParts_na]
  kernel_rfl
end Go.Proofs.Ytgmicckeefoghaa
