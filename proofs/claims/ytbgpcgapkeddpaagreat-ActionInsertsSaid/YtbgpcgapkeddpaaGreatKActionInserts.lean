/-
  The closed facts of the row of ActionInserts, one by one.
-/
import Derived.Test.YtbgpcgapkeddpaaGreatRow
namespace Go.Proofs.YtbgpcgapkeddpaaGreat
open Go.RowKit
theorem ActionInserts_ip : Tryz.prog.inPlace 3 = Rows.actionInsertsRow.inPlace := by kernel_rfl
theorem ActionInserts_un : Tryz.prog.unfollowed 3 = true := by kernel_rfl
theorem ActionInserts_re : Tryz.prog.recurses 3 = true := by kernel_rfl
theorem ActionInserts_na : Tryz.prog.varsNamed 3 = Rows.actionInsertsRow.named := by kernel_rfl
theorem ActionInserts_all : joinedFacts Tryz.prog 3 Tryz.f3 Rows.actionInsertsSpec Rows.actionInsertsRow = true := by
  unfold joinedFacts
  rw [ActionInserts_ip, ActionInserts_un, ActionInserts_re, ActionInserts_na]
  kernel_rfl
end Go.Proofs.YtbgpcgapkeddpaaGreat
