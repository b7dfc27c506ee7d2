/-
  The closed facts of the row of ReplicaActs, one by one.
-/
import Derived.Test.YtlpboikonnpjbaaGreatRow
namespace Go.Proofs.YtlpboikonnpjbaaGreat
open Go.RowKit
theorem ReplicaActs_ip : Tryz.prog.inPlace 6 = Rows.replicaActsRow.inPlace := by kernel_rfl
theorem ReplicaActs_un : Tryz.prog.unfollowed 6 = true := by kernel_rfl
theorem ReplicaActs_re : Tryz.prog.recurses 6 = true := by kernel_rfl
theorem ReplicaActs_na : Tryz.prog.varsNamed 6 = Rows.replicaActsRow.named := by kernel_rfl
theorem ReplicaActs_all : joinedFacts Tryz.prog 6 Tryz.f6 Rows.replicaActsSpec Rows.replicaActsRow = true := by
  unfold joinedFacts
  rw [ReplicaActs_ip, ReplicaActs_un, ReplicaActs_re, ReplicaActs_na]
  kernel_rfl
end Go.Proofs.YtlpboikonnpjbaaGreat
