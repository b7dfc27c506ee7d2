import Derived.Test.YtnpdghjpcnjokaaGreatGrow
namespace Go.Proofs.YtnpdghjpcnjokaaGreat
set_option maxHeartbeats 12800000
open Go.RowKit Go.Proofs.Tryz
theorem TakeoverChecks_ip:prog.inPlace 3 =Rows.takeoverChecksRow.inPlace:=by kernel_rfl
theorem TakeoverChecks_un:prog.unfollowed 3 =true:=by kernel_rfl
theorem TakeoverChecks_re:prog.recurses 3 =true:=by kernel_rfl
theorem TakeoverChecks_na:prog.varsNamed 3 =Rows.takeoverChecksRow.named:=by kernel_rfl
theorem TakeoverChecks_all:joinedFacts prog 3 Tryz.f3 Rows.takeoverChecksSpec Rows.takeoverChecksRow=true:=by
 unfold joinedFacts
 rw[TakeoverChecks_ip,TakeoverChecks_un,TakeoverChecks_re,TakeoverChecks_na]
 simp only[Bool.and_eq_true]
 refine⟨⟨⟨⟨⟨⟨⟨⟨⟨⟨⟨⟨⟨⟨⟨⟨⟨⟨⟨⟨⟨⟨⟨⟨⟨⟨⟨⟨⟨⟨⟨?_,?_⟩,?_⟩,?_⟩,?_⟩,?_⟩,?_⟩,?_⟩,?_⟩,?_⟩,?_⟩,?_⟩,?_⟩,?_⟩,?_⟩,?_⟩,?_⟩,?_⟩,?_⟩,?_⟩,?_⟩,?_⟩,?_⟩,?_⟩,?_⟩,?_⟩,?_⟩,?_⟩,?_⟩,?_⟩,?_⟩,?_⟩
 all_goals (as_aux_lemma=>kernel_rfl)
end Go.Proofs.YtnpdghjpcnjokaaGreat
