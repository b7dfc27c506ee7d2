/-
  The closed facts of the row of TopPalettesSpecial, one by one.
-/
import Derived.Test.YtgmicckeefoghaaRow
namespace Go.Proofs.Ytgmicckeefoghaa
open Go.RowKit
theorem TopPalettesSpecial_ip : Try.prog.inPlace 14 = Rows.topPalettesSpecialRow.inPlace := by kernel_rfl
theorem TopPalettesSpecial_un : Try.prog.unfollowed 14 = true := by kernel_rfl
theorem TopPalettesSpecial_re : Try.prog.recurses 14 = true := by kernel_rfl
theorem TopPalettesSpecial_na : Try.prog.varsNamed 14 = Rows.topPalettesSpecialRow.named := by kernel_rfl
theorem TopPalettesSpecial_all : joinedFacts Try.prog 14 Try.f14 Rows.topPalettesSpecialSpec Rows.topPalettesSpecialRow = true := by
  unfold joinedFacts
  rw [TopPalettesSpecial_ip, TopPalettesSpecial_un, TopPalettesSpecial_re, TopPalettesSpecial_na]
  kernel_rfl
end Go.Proofs.Ytgmicckeefoghaa
