/-
  The closed facts of the row of ReplicaSettles, one by one.
-/
import Derived.Test.YtlpboikonnpjbaaGreatRow
namespace Go.Proofs.YtlpboikonnpjbaaGreat
open Go.RowKit
theorem ReplicaSettles_ip : Tryz.prog.inPlace 9 = Rows.replicaSettlesRow.inPlace := by kernel_rfl
theorem ReplicaSettles_un : Tryz.prog.unfollowed 9 = true := by kernel_rfl
theorem ReplicaSettles_re : Tryz.prog.recurses 9 = true := by kernel_rfl
theorem ReplicaSettles_na : Tryz.prog.varsNamed 9 = Rows.replicaSettlesRow.named := by kernel_rfl
theorem ReplicaSettles_all : joinedFacts Tryz.prog 9 Tryz.f9 Rows.replicaSettlesSpec Rows.replicaSettlesRow = true := by
  unfold joinedFacts
  rw [ReplicaSettles_ip, ReplicaSettles_un, ReplicaSettles_re, ReplicaSettles_na]
  kernel_rfl
end Go.Proofs.YtlpboikonnpjbaaGreat
