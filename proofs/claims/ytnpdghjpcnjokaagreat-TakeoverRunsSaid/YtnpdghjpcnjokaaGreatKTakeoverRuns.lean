import Derived.Test.YtnpdghjpcnjokaaGreatGrow
namespace Go.Proofs.YtnpdghjpcnjokaaGreat
open Go.RowKit Go.Proofs.Tryz
theorem TakeoverRuns_ip:prog.inPlace 5 =Rows.takeoverRunsRow.inPlace:=by kernel_rfl
theorem TakeoverRuns_un:prog.unfollowed 5 =true:=by kernel_rfl
theorem TakeoverRuns_re:prog.recurses 5 =true:=by kernel_rfl
theorem TakeoverRuns_na:prog.varsNamed 5 =Rows.takeoverRunsRow.named:=by kernel_rfl
theorem TakeoverRuns_all:joinedFacts prog 5 Tryz.f5 Rows.takeoverRunsSpec Rows.takeoverRunsRow=true:=by
 unfold joinedFacts;rw[TakeoverRuns_ip,TakeoverRuns_un,TakeoverRuns_re,TakeoverRuns_na]
 kernel_rfl
