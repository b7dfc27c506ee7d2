import Derived.Test.YtgbecbnjokkfoaaGreatSame
import Derived.Test.YtgbecbnjokkfoaaGreatPure
namespace Go.Proofs.YtgbecbnjokkfoaaGreat
open Go.RowKit

def eqE (s t : Entry) : Bool:=decide (s = t)
theorem eqE_def (m n : Entry) : eqE ⟨⟨m.p.ch,m.p.attr⟩,⟨m.v.pal,m.v.lev⟩⟩ ⟨⟨n.p.ch,n.p.attr⟩,⟨n.v.pal,n.v.lev⟩⟩ = decide (m = n):=rfl
@[go_sem high] theorem eqIn_en (w : World) (a b c d a' b' c' d' : Int) : (Op.equalIn 10000 47 (.agg #[.int .i64 a,.int .i64 b,.int .i64 c,.int .i64 d]) (.agg #[.int .i64 a',.int .i64 b',.int .i64 c',.int .i64 d'])).run Tryz.prog w = .ok (eqE ⟨⟨a,b⟩,⟨c,d⟩⟩ ⟨⟨a',b'⟩,⟨c',d'⟩⟩) w:=by
 have hS : Tryz.prog.underlying 47 = some (.struct (Tryz.prog.fieldsOf 47)):=by kernel_rfl
 have hp : Tryz.prog.stoodInHeld 47 = false:=by kernel_rfl
 have e1:=fun w => eqIn_prm w a b a' b'
 have e2:=fun w => eqIn_val w c d c' d'
 rw [show (10000 : Nat) = 9999 + 1 from rfl,run_equalIn_agg w 9999 47 _ _ hS hp]
 simp only [Program.fieldsOf,Tryz.underlying47]
 go_simp
 unfold eqE
 simp only [Entry.mk.injEq,Param.mk.injEq,Val.mk.injEq]
 by_cases h1 : a = a'
 ·by_cases h2 : b = b'
  ·by_cases h3 : c = c'
   ·by_cases h4 : d = d' <;> simp [h1,h2,h3,h4]
   ·simp [h1,h2,h3]
  ·simp [h1,h2]
 ·simp [h1]
@[go_sem] theorem guard_en (w : World) (op : BinOp) (x y : Operand) (xs ys : Array Value) : (eqGuard op 47 x y (.agg xs) (.agg ys)).run Tryz.prog w = .ok () w:=run_eqGuard_agg w op _ x y xs ys (by kernel_rfl)

def fewE (l : List Entry) : Bool:=decide (l.length ≤ 200) || decide (4096 < l.length)
end Go.Proofs.YtgbecbnjokkfoaaGreat
