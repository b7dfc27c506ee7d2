import Derived.Test.YtnpdghjpcnjokaaGreatGrow
namespace Go.Proofs.YtnpdghjpcnjokaaGreat
open Go.RowKit Go.Proofs.Tryz
theorem TakeoverTicks_ip:prog.inPlace 4 =Rows.takeoverTicksRow.inPlace:=by kernel_rfl
theorem TakeoverTicks_un:prog.unfollowed 4 =true:=by kernel_rfl
theorem TakeoverTicks_re:prog.recurses 4 =true:=by kernel_rfl
theorem TakeoverTicks_na:prog.varsNamed 4 =Rows.takeoverTicksRow.named:=by kernel_rfl
theorem TakeoverTicks_all:joinedFacts prog 4 Tryz.f4 Rows.takeoverTicksSpec Rows.takeoverTicksRow=true:=by
 unfold joinedFacts;rw[TakeoverTicks_ip,TakeoverTicks_un,TakeoverTicks_re,TakeoverTicks_na]
 kernel_rfl
