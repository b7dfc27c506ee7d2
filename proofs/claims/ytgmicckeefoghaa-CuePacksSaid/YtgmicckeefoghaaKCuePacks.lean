/-
  The closed facts of the row of CuePacks, one by one.
-/
import Derived.Test.YtgmicckeefoghaaRow
namespace Go.Proofs.Ytgmicckeefoghaa
open Go.RowKit
theorem CuePacks_ip : Try.prog.inPlace 13 = Rows.cuePacksRow.inPlace := by kernel_rfl
theorem CuePacks_un : Try.prog.unfollowed 13 = true := by kernel_rfl
theorem CuePacks_re : Try.prog.recurses 13 = true := by kernel_rfl
theorem CuePacks_na : Try.prog.varsNamed 13 = Rows.cuePacksRow.named := by kernel_rfl
theorem CuePacks_all : joinedFacts Try.prog 13 Try.f13 Rows.cuePacksSpec Rows.cuePacksRow = true := by
  unfold joinedFacts
  rw [CuePacks_ip, CuePacks_un, CuePacks_re, CuePacks_na]
  kernel_rfl
end Go.Proofs.Ytgmicckeefoghaa
