/-
  The closed facts of the row of ReplicaChecks, one by one.
-/
import Derived.Test.YtlpboikonnpjbaaGreatRow
namespace Go.Proofs.YtlpboikonnpjbaaGreat
open Go.RowKit
theorem ReplicaChecks_ip : Tryz.prog.inPlace 7 = Rows.replicaChecksRow.inPlace := by kernel_rfl
theorem ReplicaChecks_un : Tryz.prog.unfollowed 7 = true := by kernel_rfl
theorem ReplicaChecks_re : Tryz.prog.recurses 7 = true := by kernel_rfl
theorem ReplicaChecks_na : Tryz.prog.varsNamed 7 = Rows.replicaChecksRow.named := by kernel_rfl
theorem ReplicaChecks_all : joinedFacts Tryz.prog 7 Tryz.f7 Rows.replicaChecksSpec Rows.replicaChecksRow = true := by
  unfold joinedFacts
  rw [ReplicaChecks_ip, ReplicaChecks_un, ReplicaChecks_re, ReplicaChecks_na]
  kernel_rfl
end Go.Proofs.YtlpboikonnpjbaaGreat
