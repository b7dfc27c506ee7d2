/-
  The closed facts of the row of ReplicaKeeps, one by one.
-/
import Derived.Test.YtlpboikonnpjbaaGreatRow
namespace Go.Proofs.YtlpboikonnpjbaaGreat
open Go.RowKit
theorem ReplicaKeeps_ip : Tryz.prog.inPlace 5 = Rows.replicaKeepsRow.inPlace := by kernel_rfl
theorem ReplicaKeeps_un : Tryz.prog.unfollowed 5 = true := by kernel_rfl
theorem ReplicaKeeps_re : Tryz.prog.recurses 5 = true := by kernel_rfl
theorem ReplicaKeeps_na : Tryz.prog.varsNamed 5 = Rows.replicaKeepsRow.named := by kernel_rfl
theorem ReplicaKeeps_all : joinedFacts Tryz.prog 5 Tryz.f5 Rows.replicaKeepsSpec Rows.replicaKeepsRow = true := by
  unfold joinedFacts
  rw [ReplicaKeeps_ip, ReplicaKeeps_un, ReplicaKeeps_re, ReplicaKeeps_na]
  kernel_rfl
end Go.Proofs.YtlpboikonnpjbaaGreat
