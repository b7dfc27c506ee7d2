/-
  The closed facts of the row of ReplicaReceives, one by one.
-/
import Derived.Test.YtlpboikonnpjbaaGreatRow
namespace Go.Proofs.YtlpboikonnpjbaaGreat
open Go.RowKit
theorem ReplicaReceives_ip : Tryz.prog.inPlace 4 = Rows.replicaReceivesRow.inPlace := by kernel_rfl
theorem ReplicaReceives_un : Tryz.prog.unfollowed 4 = true := by kernel_rfl
theorem ReplicaReceives_re : Tryz.prog.recurses 4 = true := by kernel_rfl
theorem ReplicaReceives_na : Tryz.prog.varsNamed 4 = Rows.replicaReceivesRow.named := by kernel_rfl
theorem ReplicaReceives_all : joinedFacts Tryz.prog 4 Tryz.f4 Rows.replicaReceivesSpec Rows.replicaReceivesRow = true := by
  unfold joinedFacts
  rw [ReplicaReceives_ip, ReplicaReceives_un, ReplicaReceives_re, ReplicaReceives_na]
  kernel_rfl
end Go.Proofs.YtlpboikonnpjbaaGreat
