/-
 The closed facts of the row of TopReplicasKeep, one by one.
-/
import Derived.Test.YtmhinhgflehkaaaGreatRow
namespace Go.Proofs.YtmhinhgflehkaaaGreat
open Go.RowKit
theorem TopReplicasKeep_ip : Tryz.prog.inPlace 10 = Rows.topReplicasKeepRow.inPlace := by kernel_rfl
theorem TopReplicasKeep_un : Tryz.prog.unfollowed 10 = true := by kernel_rfl
theorem TopReplicasKeep_re : Tryz.prog.recurses 10 = true := by kernel_rfl
theorem TopReplicasKeep_na : Tryz.prog.varsNamed 10 = Rows.topReplicasKeepRow.named := by kernel_rfl
theorem TopReplicasKeep_all : joinedFacts Tryz.prog 10 Tryz.f10 Rows.topReplicasKeepSpec Rows.topReplicasKeepRow = true := by
 unfold joinedFacts
 rw [TopReplicasKeep_ip, TopReplicasKeep_un, TopReplicasKeep_re, TopReplicasKeep_na]
 kernel_rfl
end Go.Proofs.YtmhinhgflehkaaaGreat
