/-
  The closed facts of the row of ActionChecks, one by one.
-/
import Derived.Test.YtbgpcgapkeddpaaGreatRow
namespace Go.Proofs.YtbgpcgapkeddpaaGreat
open Go.RowKit
theorem ActionChecks_ip : Tryz.prog.inPlace 7 = Rows.actionChecksRow.inPlace := by kernel_rfl
theorem ActionChecks_un : Tryz.prog.unfollowed 7 = true := by kernel_rfl
theorem ActionChecks_re : Tryz.prog.recurses 7 = true := by kernel_rfl
theorem ActionChecks_na : Tryz.prog.varsNamed 7 = Rows.actionChecksRow.named := by kernel_rfl
theorem ActionChecks_all : joinedFacts Tryz.prog 7 Tryz.f7 Rows.actionChecksSpec Rows.actionChecksRow = true := by
  unfold joinedFacts
  rw [ActionChecks_ip, ActionChecks_un, ActionChecks_re, ActionChecks_na]
  kernel_rfl
end Go.Proofs.YtbgpcgapkeddpaaGreat
