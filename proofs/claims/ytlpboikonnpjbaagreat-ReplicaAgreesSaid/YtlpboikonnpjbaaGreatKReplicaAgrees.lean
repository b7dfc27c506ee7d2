/-
  The closed facts of the row of ReplicaAgrees, one by one.
-/
import Derived.Test.YtlpboikonnpjbaaGreatRow
namespace Go.Proofs.YtlpboikonnpjbaaGreat
open Go.RowKit
theorem ReplicaAgrees_ip : Tryz.prog.inPlace 10 = Rows.replicaAgreesRow.inPlace := by kernel_rfl
theorem ReplicaAgrees_un : Tryz.prog.unfollowed 10 = true := by kernel_rfl
theorem ReplicaAgrees_re : Tryz.prog.recurses 10 = true := by kernel_rfl
theorem ReplicaAgrees_na : Tryz.prog.varsNamed 10 = Rows.replicaAgreesRow.named := by kernel_rfl
theorem ReplicaAgrees_all : joinedFacts Tryz.prog 10 Tryz.f10 Rows.replicaAgreesSpec Rows.replicaAgreesRow = true := by
  unfold joinedFacts
  rw [ReplicaAgrees_ip, ReplicaAgrees_un, ReplicaAgrees_re, ReplicaAgrees_na]
  kernel_rfl
end Go.Proofs.YtlpboikonnpjbaaGreat
