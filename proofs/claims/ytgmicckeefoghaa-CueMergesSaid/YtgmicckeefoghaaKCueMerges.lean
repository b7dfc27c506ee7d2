/-
  The closed facts of the row of CueMerges, one by one.
-/
import Derived.Test.YtgmicckeefoghaaRow
namespace Go.Proofs.Ytgmicckeefoghaa
open Go.RowKit
theorem CueMerges_ip : Try.prog.inPlace 10 = Rows.cueMergesRow.inPlace := by kernel_rfl
theorem CueMerges_un : Try.prog.unfollowed 10 = true := by kernel_rfl
theorem CueMerges_re : Try.prog.recurses 10 = true := by kernel_rfl
theorem CueMerges_na : Try.prog.varsNamed 10 = Rows.cueMergesRow.named := by kernel_rfl
theorem CueMerges_all : joinedFacts Try.prog 10 Try.f10 Rows.cueMergesSpec Rows.cueMergesRow = true := by
  unfold joinedFacts
  rw [CueMerges_ip, CueMerges_un, CueMerges_re, CueMerges_na]
  kernel_rfl
end Go.Proofs.Ytgmicckeefoghaa
