/-
  The closed facts of the row of ActionParts, one by one.
-/
import Derived.Test.YtbgpcgapkeddpaaGreatRow
namespace Go.Proofs.YtbgpcgapkeddpaaGreat
open Go.RowKit
theorem ActionParts_ip : Tryz.prog.inPlace 8 = Rows.actionPartsRow.inPlace := by kernel_rfl
theorem ActionParts_un : Tryz.prog.unfollowed 8 = true := by kernel_rfl
theorem ActionParts_re : Tryz.prog.recurses 8 = true := by kernel_rfl
theorem ActionParts_na : Tryz.prog.varsNamed 8 = Rows.actionPartsRow.named := by kernel_rfl
theorem ActionParts_all : joinedFacts Tryz.prog 8 Tryz.f8 Rows.actionPartsSpec Rows.actionPartsRow = true := by
  unfold joinedFacts
  rw [ActionParts_ip, ActionParts_un, ActionParts_re, ActionParts_na]
  kernel_rfl
end Go.Proofs.YtbgpcgapkeddpaaGreat
