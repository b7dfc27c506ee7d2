/-
 The closed facts of the row of TakeoverTerms, one by one.
-/
import Derived.Test.YtmhinhgflehkaaaGreatRow
namespace Go.Proofs.YtmhinhgflehkaaaGreat
open Go.RowKit
theorem TakeoverTerms_ip : Tryz.prog.inPlace 9 = Rows.takeoverTermsRow.inPlace := by kernel_rfl
theorem TakeoverTerms_un : Tryz.prog.unfollowed 9 = true := by kernel_rfl
theorem TakeoverTerms_re : Tryz.prog.recurses 9 = true := by kernel_rfl
theorem TakeoverTerms_na : Tryz.prog.varsNamed 9 = Rows.takeoverTermsRow.named := by kernel_rfl
set_option maxHeartbeats 12800000 in
theorem TakeoverTerms_all : joinedFacts Tryz.prog 9 Tryz.f9 Rows.takeoverTermsSpec Rows.takeoverTermsRow = true := by
 unfold joinedFacts
 rw [TakeoverTerms_ip, TakeoverTerms_un, TakeoverTerms_re, TakeoverTerms_na]
 simp only [Bool.and_eq_true]
 refine ⟨⟨⟨⟨⟨⟨⟨⟨⟨⟨⟨⟨⟨⟨⟨⟨⟨⟨⟨⟨⟨⟨⟨⟨⟨⟨⟨⟨⟨⟨⟨?_, ?_⟩, ?_⟩, ?_⟩, ?_⟩, ?_⟩, ?_⟩, ?_⟩, ?_⟩, ?_⟩, ?_⟩, ?_⟩, ?_⟩, ?_⟩, ?_⟩, ?_⟩, ?_⟩, ?_⟩, ?_⟩, ?_⟩, ?_⟩, ?_⟩, ?_⟩, ?_⟩, ?_⟩, ?_⟩, ?_⟩, ?_⟩, ?_⟩, ?_⟩, ?_⟩, ?_⟩
 all_goals (as_aux_lemma => kernel_rfl)
end Go.Proofs.YtmhinhgflehkaaaGreat
