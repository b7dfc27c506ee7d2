/-
  The closed facts of the row of TimingEnds, one by one.
-/
import Derived.Test.YtgmicckeefoghaaRow
namespace Go.Proofs.Ytgmicckeefoghaa
open Go.RowKit
theorem TimingEnds_ip : Try.prog.inPlace 6 = Rows.timingEndsRow.inPlace := by kernel_rfl
theorem TimingEnds_un : Try.prog.unfollowed 6 = true := by kernel_rfl
theorem TimingEnds_re : Try.prog.recurses 6 = true := by kernel_rfl
theorem TimingEnds_na : Try.prog.varsNamed 6 = Rows.timingEndsRow.named := by kernel_rfl
theorem TimingEnds_all : joinedFacts Try.prog 6 Try.f6 Rows.timingEndsSpec Rows.timingEndsRow = true := by
  unfold joinedFacts
  rw [TimingEnds_ip, TimingEnds_un, TimingEnds_re, TimingEnds_na]
  kernel_rfl
end Go.Proofs.Ytgmicckeefoghaa
