/-
  The closed facts of the row of ActionReturns, one by one.
-/
import Derived.Test.YtbgpcgapkeddpaaGreatRow
namespace Go.Proofs.YtbgpcgapkeddpaaGreat
open Go.RowKit
theorem ActionReturns_ip : Tryz.prog.inPlace 5 = Rows.actionReturnsRow.inPlace := by kernel_rfl
theorem ActionReturns_un : Tryz.prog.unfollowed 5 = true := by kernel_rfl
theorem ActionReturns_re : Tryz.prog.recurses 5 = true := by kernel_rfl
theorem ActionReturns_na : Tryz.prog.varsNamed 5 = Rows.actionReturnsRow.named := by kernel_rfl
theorem ActionReturns_all : joinedFacts Tryz.prog 5 Tryz.f5 Rows.actionReturnsSpec Rows.actionReturnsRow = true := by
  unfold joinedFacts
  rw [ActionReturns_ip, ActionReturns_un, ActionReturns_re, ActionReturns_na]
  kernel_rfl
end Go.Proofs.YtbgpcgapkeddpaaGreat
