/-
  The closed facts of the row of ActionRefuses, one by one.
-/
import Derived.Test.YtlpboikonnpjbaaGreatRow
namespace Go.Proofs.YtlpboikonnpjbaaGreat
open Go.RowKit
theorem ActionRefuses_ip : Tryz.prog.inPlace 3 = Rows.actionRefusesRow.inPlace := by kernel_rfl
theorem ActionRefuses_un : Tryz.prog.unfollowed 3 = true := by kernel_rfl
theorem ActionRefuses_re : Tryz.prog.recurses 3 = true := by kernel_rfl
theorem ActionRefuses_na : Tryz.prog.varsNamed 3 = Rows.actionRefusesRow.named := by kernel_rfl
theorem ActionRefuses_all : joinedFacts Tryz.prog 3 Tryz.f3 Rows.actionRefusesSpec Rows.actionRefusesRow = true := by
  unfold joinedFacts
  rw [ActionRefuses_ip, ActionRefuses_un, ActionRefuses_re, ActionRefuses_na]
  kernel_rfl
end Go.Proofs.YtlpboikonnpjbaaGreat
