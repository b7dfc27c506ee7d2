/-
  The closed facts of the row of ActionKeeps, one by one.
-/
import Derived.Test.YtbgpcgapkeddpaaGreatRow
namespace Go.Proofs.YtbgpcgapkeddpaaGreat
open Go.RowKit
theorem ActionKeeps_ip : Tryz.prog.inPlace 9 = Rows.actionKeepsRow.inPlace := by kernel_rfl
theorem ActionKeeps_un : Tryz.prog.unfollowed 9 = true := by kernel_rfl
theorem ActionKeeps_re : Tryz.prog.recurses 9 = true := by kernel_rfl
theorem ActionKeeps_na : Tryz.prog.varsNamed 9 = Rows.actionKeepsRow.named := by kernel_rfl
theorem ActionKeeps_all : joinedFacts Tryz.prog 9 Tryz.f9 Rows.actionKeepsSpec Rows.actionKeepsRow = true := by
  unfold joinedFacts
  rw [ActionKeeps_ip, ActionKeeps_un, ActionKeeps_re, ActionKeeps_na]
  kernel_rfl
end Go.Proofs.YtbgpcgapkeddpaaGreat
