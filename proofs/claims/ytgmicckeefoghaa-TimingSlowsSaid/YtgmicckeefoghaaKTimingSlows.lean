/-
  The closed facts of the row of TimingSlows, one by one.
-/
import Derived.Test.YtgmicckeefoghaaRow
namespace Go.Proofs.Ytgmicckeefoghaa
open Go.RowKit
theorem TimingSlows_ip : Try.prog.inPlace 7 = Rows.timingSlowsRow.inPlace := by kernel_rfl
theorem TimingSlows_un : Try.prog.unfollowed 7 = true := by kernel_rfl
theorem TimingSlows_re : Try.prog.recurses 7 = true := by kernel_rfl
theorem TimingSlows_na : Try.prog.varsNamed 7 = Rows.timingSlowsRow.named := by kernel_rfl
theorem TimingSlows_all : joinedFacts Try.prog 7 Try.f7 Rows.timingSlowsSpec Rows.timingSlowsRow = true := by
  unfold joinedFacts
  rw [TimingSlows_ip, TimingSlows_un, TimingSlows_re, TimingSlows_na]
  kernel_rfl
end Go.Proofs.Ytgmicckeefoghaa
