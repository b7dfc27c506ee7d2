import Derived.Test.YtnpdghjpcnjokaaGreatRow
namespace Go.Proofs.YtnpdghjpcnjokaaGreat
set_option maxHeartbeats 12800000
open Go.RowKit
theorem zjH : Tryz.prog.inPlace 6 = Rows.topTakeoversKeepRow.inPlace:=by kernel_rfl
theorem zjK : Tryz.prog.unfollowed 6 = true:=by kernel_rfl
theorem zjJ : Tryz.prog.recurses 6 = true:=by kernel_rfl
theorem zjI : Tryz.prog.varsNamed 6 = Rows.topTakeoversKeepRow.named:=by kernel_rfl
theorem zja : joinedFacts Tryz.prog 6 Tryz.f6 Rows.topTakeoversKeepSpec Rows.topTakeoversKeepRow = true:=by
 unfold joinedFacts
 rw [zjH,zjK,zjJ,zjI]
 simp only [Bool.and_eq_true]
 refine ⟨⟨⟨⟨⟨⟨⟨⟨⟨⟨⟨⟨⟨⟨⟨⟨⟨⟨⟨⟨⟨⟨⟨⟨⟨⟨⟨⟨⟨⟨⟨?_,?_⟩,?_⟩,?_⟩,?_⟩,?_⟩,?_⟩,?_⟩,?_⟩,?_⟩,?_⟩,?_⟩,?_⟩,?_⟩,?_⟩,?_⟩,?_⟩,?_⟩,?_⟩,?_⟩,?_⟩,?_⟩,?_⟩,?_⟩,?_⟩,?_⟩,?_⟩,?_⟩,?_⟩,?_⟩,?_⟩,?_⟩
 all_goals (as_aux_lemma => kernel_rfl)
end Go.Proofs.YtnpdghjpcnjokaaGreat
