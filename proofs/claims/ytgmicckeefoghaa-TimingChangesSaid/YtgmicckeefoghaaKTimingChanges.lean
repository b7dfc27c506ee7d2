/-
  The closed facts of the row of TimingChanges, one by one.
-/
import Derived.Test.YtgmicckeefoghaaRow
namespace Go.Proofs.Ytgmicckeefoghaa
open Go.RowKit
theorem TimingChanges_ip : Try.prog.inPlace 9 = Rows.timingChangesRow.inPlace := by kernel_rfl
theorem TimingChanges_un : Try.prog.unfollowed 9 = true := by kernel_rfl
theorem TimingChanges_re : Try.prog.recurses 9 = true := by kernel_rfl
theorem TimingChanges_na : Try.prog.varsNamed 9 = Rows.timingChangesRow.named := by kernel_rfl
theorem TimingChanges_all : joinedFacts Try.prog 9 Try.f9 Rows.timingChangesSpec Rows.timingChangesRow = true := by
  unfold joinedFacts
  rw [TimingChanges_ip, TimingChanges_un, TimingChanges_re, TimingChanges_na]
  kernel_rfl
end Go.Proofs.Ytgmicckeefoghaa
