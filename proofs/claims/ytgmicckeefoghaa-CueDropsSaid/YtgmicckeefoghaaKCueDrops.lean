/-
  The closed facts of the row of CueDrops, one by one.
-/
import Derived.Test.YtgmicckeefoghaaRow
namespace Go.Proofs.Ytgmicckeefoghaa
open Go.RowKit
theorem CueDrops_ip : Try.prog.inPlace 12 = Rows.cueDropsRow.inPlace := by kernel_rfl
theorem CueDrops_un : Try.prog.unfollowed 12 = true := by kernel_rfl
theorem CueDrops_re : Try.prog.recurses 12 = true := by kernel_rfl
theorem CueDrops_na : Try.prog.varsNamed 12 = Rows.cueDropsRow.named := by kernel_rfl
theorem CueDrops_all : joinedFacts Try.prog 12 Try.f12 Rows.cueDropsSpec Rows.cueDropsRow = true := by
  unfold joinedFacts
  rw [CueDrops_ip, CueDrops_un, CueDrops_re, CueDrops_na]
  kernel_rfl
end Go.Proofs.Ytgmicckeefoghaa
