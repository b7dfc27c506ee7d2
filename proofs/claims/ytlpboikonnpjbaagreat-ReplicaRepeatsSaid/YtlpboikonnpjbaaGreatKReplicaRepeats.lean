/-
  The closed facts of the row of ReplicaRepeats, one by one.
-/
import Derived.Test.YtlpboikonnpjbaaGreatRow
namespace Go.Proofs.YtlpboikonnpjbaaGreat
open Go.RowKit
theorem ReplicaRepeats_ip : Tryz.prog.inPlace 8 = Rows.replicaRepeatsRow.inPlace := by kernel_rfl
theorem ReplicaRepeats_un : Tryz.prog.unfollowed 8 = true := by kernel_rfl
theorem ReplicaRepeats_re : Tryz.prog.recurses 8 = true := by kernel_rfl
theorem ReplicaRepeats_na : Tryz.prog.varsNamed 8 = Rows.replicaRepeatsRow.named := by kernel_rfl
theorem ReplicaRepeats_all : joinedFacts Tryz.prog 8 Tryz.f8 Rows.replicaRepeatsSpec Rows.replicaRepeatsRow = true := by
  unfold joinedFacts
  rw [ReplicaRepeats_ip, ReplicaRepeats_un, ReplicaRepeats_re, ReplicaRepeats_na]
  kernel_rfl
end Go.Proofs.YtlpboikonnpjbaaGreat
