/-
 The closed facts of the row of TakeoverStays, one by one.
-/
import Derived.Test.YtmhinhgflehkaaaGreatRow
namespace Go.Proofs.YtmhinhgflehkaaaGreat
open Go.RowKit
theorem TakeoverStays_ip : Tryz.prog.inPlace 8 = Rows.takeoverStaysRow.inPlace := by kernel_rfl
theorem TakeoverStays_un : Tryz.prog.unfollowed 8 = true := by kernel_rfl
theorem TakeoverStays_re : Tryz.prog.recurses 8 = true := by kernel_rfl
theorem TakeoverStays_na : Tryz.prog.varsNamed 8 = Rows.takeoverStaysRow.named := by kernel_rfl
set_option maxHeartbeats 12800000 in
theorem TakeoverStays_all : joinedFacts Tryz.prog 8 Tryz.f8 Rows.takeoverStaysSpec Rows.takeoverStaysRow = true := by
 unfold joinedFacts
 rw [TakeoverStays_ip, TakeoverStays_un, TakeoverStays_re, TakeoverStays_na]
 simp only [Bool.and_eq_true]
 refine ⟨⟨⟨⟨⟨⟨⟨⟨⟨⟨⟨⟨⟨⟨⟨⟨⟨⟨⟨⟨⟨⟨⟨⟨⟨⟨⟨⟨⟨⟨⟨?_, ?_⟩, ?_⟩, ?_⟩, ?_⟩, ?_⟩, ?_⟩, ?_⟩, ?_⟩, ?_⟩, ?_⟩, ?_⟩, ?_⟩, ?_⟩, ?_⟩, ?_⟩, ?_⟩, ?_⟩, ?_⟩, ?_⟩, ?_⟩, ?_⟩, ?_⟩, ?_⟩, ?_⟩, ?_⟩, ?_⟩, ?_⟩, ?_⟩, ?_⟩, ?_⟩, ?_⟩
 all_goals (as_aux_lemma => kernel_rfl)
end Go.Proofs.YtmhinhgflehkaaaGreat
