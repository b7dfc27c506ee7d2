/-
  The closed facts of the row of CueSets, one by one.
-/
import Derived.Test.YtgmicckeefoghaaRow
namespace Go.Proofs.Ytgmicckeefoghaa
open Go.RowKit
theorem CueSets_ip : Try.prog.inPlace 11 = Rows.cueSetsRow.inPlace := by kernel_rfl
theorem CueSets_un : Try.prog.unfollowed 11 = true := by kernel_rfl
theorem CueSets_re : Try.prog.recurses 11 = true := by kernel_rfl
theorem CueSets_na : Try.prog.varsNamed 11 = Rows.cueSetsRow.named := by kernel_rfl
theorem CueSets_all : joinedFacts Try.prog 11 Try.f11 Rows.cueSetsSpec Rows.cueSetsRow = true := by
  unfold joinedFacts
  rw [CueSets_ip, CueSets_un, CueSets_re, CueSets_na]
  kernel_rfl
end Go.Proofs.Ytgmicckeefoghaa
