import Derived.Test.YtgbecbnjokkfoaaRow
namespace Go.Proofs.Ytgbecbnjokkfoaa
open Go.RowKit
theorem TopPalettesGroups_ip : Try.prog.inPlace 3 = Rows.topPalettesGroupsRow.inPlace:=by kernel_rfl
theorem TopPalettesGroups_un : Try.prog.unfollowed 3 = true:=by kernel_rfl
theorem TopPalettesGroups_re : Try.prog.recurses 3 = true:=by kernel_rfl
theorem TopPalettesGroups_na : Try.prog.varsNamed 3 = Rows.topPalettesGroupsRow.named:=by kernel_rfl
theorem TopPalettesGroups_all : joinedFacts Try.prog 3 Try.f3 Rows.topPalettesGroupsSpec Rows.topPalettesGroupsRow = true:=by
 unfold joinedFacts
 rw [TopPalettesGroups_ip,TopPalettesGroups_un,TopPalettesGroups_re,TopPalettesGroups_na]
 kernel_rfl
end Go.Proofs.Ytgbecbnjokkfoaa
