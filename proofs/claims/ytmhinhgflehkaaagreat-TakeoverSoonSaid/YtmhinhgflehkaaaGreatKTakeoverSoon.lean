/-
 The closed facts of the row of TakeoverSoon, one by one.
-/
import Derived.Test.YtmhinhgflehkaaaGreatRow
namespace Go.Proofs.YtmhinhgflehkaaaGreat
open Go.RowKit
theorem TakeoverSoon_ip : Tryz.prog.inPlace 4 = Rows.takeoverSoonRow.inPlace := by kernel_rfl
theorem TakeoverSoon_un : Tryz.prog.unfollowed 4 = true := by kernel_rfl
theorem TakeoverSoon_re : Tryz.prog.recurses 4 = true := by kernel_rfl
theorem TakeoverSoon_na : Tryz.prog.varsNamed 4 = Rows.takeoverSoonRow.named := by kernel_rfl
theorem TakeoverSoon_all : joinedFacts Tryz.prog 4 Tryz.f4 Rows.takeoverSoonSpec Rows.takeoverSoonRow = true := by
 unfold joinedFacts
 rw [TakeoverSoon_ip, TakeoverSoon_un, TakeoverSoon_re, TakeoverSoon_na]
 kernel_rfl
end Go.Proofs.YtmhinhgflehkaaaGreat
