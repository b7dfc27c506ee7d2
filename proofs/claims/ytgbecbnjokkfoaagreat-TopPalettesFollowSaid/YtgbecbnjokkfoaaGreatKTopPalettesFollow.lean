import Derived.Test.YtgbecbnjokkfoaaGreatRow
namespace Go.Proofs.YtgbecbnjokkfoaaGreat
open Go.RowKit
theorem TopPalettesFollow_ip : Tryz.prog.inPlace 3 = Rows.topPalettesFollowRow.inPlace:=by kernel_rfl
theorem TopPalettesFollow_un : Tryz.prog.unfollowed 3 = true:=by kernel_rfl
theorem TopPalettesFollow_re : Tryz.prog.recurses 3 = true:=by kernel_rfl
theorem TopPalettesFollow_na : Tryz.prog.varsNamed 3 = Rows.topPalettesFollowRow.named:=by kernel_rfl
theorem TopPalettesFollow_all : joinedFacts Tryz.prog 3 Tryz.f3 Rows.topPalettesFollowSpec Rows.topPalettesFollowRow = true:=by
 unfold joinedFacts
 rw [TopPalettesFollow_ip,TopPalettesFollow_un,TopPalettesFollow_re,TopPalettesFollow_na]
 kernel_rfl
end Go.Proofs.YtgbecbnjokkfoaaGreat
