/-
 The closed facts of the row of TakeoverCopies, one by one.
-/
import Derived.Test.YtmhinhgflehkaaaGreatRow
namespace Go.Proofs.YtmhinhgflehkaaaGreat
open Go.RowKit
theorem TakeoverCopies_ip : Tryz.prog.inPlace 5 = Rows.takeoverCopiesRow.inPlace := by kernel_rfl
theorem TakeoverCopies_un : Tryz.prog.unfollowed 5 = true := by kernel_rfl
theorem TakeoverCopies_re : Tryz.prog.recurses 5 = true := by kernel_rfl
theorem TakeoverCopies_na : Tryz.prog.varsNamed 5 = Rows.takeoverCopiesRow.named := by kernel_rfl
theorem TakeoverCopies_all : joinedFacts Tryz.prog 5 Tryz.f5 Rows.takeoverCopiesSpec Rows.takeoverCopiesRow = true := by
 unfold joinedFacts
 rw [TakeoverCopies_ip, TakeoverCopies_un, TakeoverCopies_re, TakeoverCopies_na]
 kernel_rfl
end Go.Proofs.YtmhinhgflehkaaaGreat
