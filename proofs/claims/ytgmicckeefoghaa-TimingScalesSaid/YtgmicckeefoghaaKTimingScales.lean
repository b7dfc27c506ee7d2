/-
  The closed facts of the row of TimingScales, one by one.
-/
import Derived.Test.YtgmicckeefoghaaRow
namespace Go.Proofs.Ytgmicckeefoghaa
open Go.RowKit
theorem TimingScales_ip : Try.prog.inPlace 5 = Rows.timingScalesRow.inPlace := by kernel_rfl
theorem TimingScales_un : Try.prog.unfollowed 5 = true := by kernel_rfl
theorem TimingScales_re : Try.prog.recurses 5 = true := by kernel_rfl
theorem TimingScales_na : Try.prog.varsNamed 5 = Rows.timingScalesRow.named := by kernel_rfl
theorem TimingScales_all : joinedFacts Try.prog 5 Try.f5 Rows.timingScalesSpec Rows.timingScalesRow = true := by
  unfold joinedFacts
  rw [TimingScales_ip, TimingScales_un, TimingScales_re, TimingScales_na]
  kernel_rfl
end Go.Proofs.Ytgmicckeefoghaa
