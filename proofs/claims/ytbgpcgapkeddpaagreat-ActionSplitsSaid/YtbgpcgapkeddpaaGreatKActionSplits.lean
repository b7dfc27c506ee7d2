/-
  The closed facts of the row of ActionSplits, one by one.
-/
import Derived.Test.YtbgpcgapkeddpaaGreatRow
namespace Go.Proofs.YtbgpcgapkeddpaaGreat
open Go.RowKit
theorem ActionSplits_ip : Tryz.prog.inPlace 4 = Rows.actionSplitsRow.inPlace := by kernel_rfl
theorem ActionSplits_un : Tryz.prog.unfollowed 4 = true := by kernel_rfl
theorem ActionSplits_re : Tryz.prog.recurses 4 = true := by kernel_rfl
theorem ActionSplits_na : Tryz.prog.varsNamed 4 = Rows.actionSplitsRow.named := by kernel_rfl
theorem ActionSplits_all : joinedFacts Tryz.prog 4 Tryz.f4 Rows.actionSplitsSpec Rows.actionSplitsRow = true := by
  unfold joinedFacts
  rw [ActionSplits_ip, ActionSplits_un, ActionSplits_re, ActionSplits_na]
  kernel_rfl
end Go.Proofs.YtbgpcgapkeddpaaGreat
