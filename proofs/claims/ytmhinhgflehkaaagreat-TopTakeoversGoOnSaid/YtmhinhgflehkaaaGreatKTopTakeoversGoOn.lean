/-
 The closed facts of the row of TopTakeoversGoOn, one by one.
-/
import Derived.Test.YtmhinhgflehkaaaGreatRow
namespace Go.Proofs.YtmhinhgflehkaaaGreat
open Go.RowKit
theorem TopTakeoversGoOn_ip : Tryz.prog.inPlace 14 = Rows.topTakeoversGoOnRow.inPlace := by kernel_rfl
theorem TopTakeoversGoOn_un : Tryz.prog.unfollowed 14 = true := by kernel_rfl
theorem TopTakeoversGoOn_re : Tryz.prog.recurses 14 = true := by kernel_rfl
theorem TopTakeoversGoOn_na : Tryz.prog.varsNamed 14 = Rows.topTakeoversGoOnRow.named := by kernel_rfl
theorem TopTakeoversGoOn_all : joinedFacts Tryz.prog 14 Tryz.f14 Rows.topTakeoversGoOnSpec Rows.topTakeoversGoOnRow = true := by
 unfold joinedFacts
 rw [TopTakeoversGoOn_ip, TopTakeoversGoOn_un, TopTakeoversGoOn_re, TopTakeoversGoOn_na]
 kernel_rfl
end Go.Proofs.YtmhinhgflehkaaaGreat
