import Derived.Test.YtgbecbnjokkfoaaGreatTim2
namespace Go.Proofs.YtgbecbnjokkfoaaGreat
open Go.RowKit

def eqP (a b c d : Int) : Bool:=decide ((⟨a,b⟩ : Param) = ⟨c,d⟩)
@[go_sem high] theorem eq_prm (a b c d : Int) (w : World) : (binOp .eql 43 (.agg #[.int .i64 a,.int .i64 b]) (.agg #[.int .i64 c,.int .i64 d])).run Tryz.prog w = .ok (.bool (eqP a b c d)) w:=by
 have hS : Tryz.prog.underlying 43 = some (.struct (Tryz.prog.fieldsOf 43)):=by kernel_rfl
 have hp : Tryz.prog.stoodInHeld 43 = false:=by kernel_rfl
 rw [run_eql_struct,show (10000 : Nat) = 9999 + 1 from rfl,run_equalIn_agg w 9999 43 _ _ hS hp]
 simp only [Program.fieldsOf,Tryz.underlying43]
 go_simp
 unfold eqP
 by_cases h1 : a = c <;> by_cases h2 : b = d <;> simp [h1,h2]
@[go_sem] theorem guard_prm (op : BinOp) (x y : Operand) (xs ys : Array Value) (w : World) : (eqGuard op 43 x y (.agg xs) (.agg ys)).run Tryz.prog w = .ok () w:=run_eqGuard_agg w op _ x y xs ys (by kernel_rfl)
theorem eqP_def (p q : Param) : eqP p.ch p.attr q.ch q.attr = decide (p = q):=rfl
theorem Calls.grows_same {P : Program} {f : FuncId} {args : Array Value} {w : World} {y : Gr} {v : Value} (h : Calls P f args (xt w y) fun e w' => e = .returned v ∧ xt w y = w') :
  Calls P f args (xt w y) fun e w'' => e = .returned v ∧ ∃ z,w'' = xt w z :=
 h.mono fun _ _ ⟨he,hx⟩ => ⟨he,y,hx.symm⟩
end Go.Proofs.YtgbecbnjokkfoaaGreat

namespace Go.Proofs.YtgbecbnjokkfoaaGreat
open Go.RowKit

def eqT (s t : Timing) : Bool:=decide (s = t)
def eqV (s t : Val) : Bool:=decide (s = t)
def eqM (s t : Move) : Bool:=decide (s = t)
theorem eqT_self (s : Timing) : eqT s s = true:=by simp [eqT]
theorem eqM_self (s : Move) : eqM s s = true:=by simp [eqM]
section
variable (w : World)
@[go_sem high] theorem eqIn_tmg (a b c d e f a' b' c' d' e' f' : Int) : (Op.equalIn 10000 82 (.agg #[.int .i64 a,.int .i64 b,.int .i64 c,.int .i64 d,.int .i64 e,.int .i64 f]) (.agg #[.int .i64 a',.int .i64 b',.int .i64 c',.int .i64 d',.int .i64 e',.int .i64 f'])).run Tryz.prog w = .ok (eqT ⟨a,b,c,d,e,f⟩ ⟨a',b',c',d',e',f'⟩) w:=by
 have hS : Tryz.prog.underlying 82 = some (.struct (Tryz.prog.fieldsOf 82)):=by kernel_rfl
 have hp : Tryz.prog.stoodInHeld 82 = false:=by kernel_rfl
 rw [show (10000 : Nat) = 9999 + 1 from rfl,run_equalIn_agg w 9999 82 _ _ hS hp]
 simp only [Program.fieldsOf,Tryz.underlying82]
 go_simp
 unfold eqT
 simp only [Timing.mk.injEq]
 by_cases h1 : a = a'
 ·by_cases h2 : b = b'
  ·by_cases h3 : c = c'
   ·by_cases h4 : d = d'
    ·by_cases h5 : e = e'
     ·by_cases h6 : f = f' <;> simp [h1,h2,h3,h4,h5,h6]
     ·simp [h1,h2,h3,h4,h5]
    ·simp [h1,h2,h3,h4]
   ·simp [h1,h2,h3]
  ·simp [h1,h2]
 ·simp [h1]
theorem eqIn_prm (a b a' b' : Int) : (Op.equalIn 9999 43 (.agg #[.int .i64 a,.int .i64 b]) (.agg #[.int .i64 a',.int .i64 b'])).run Tryz.prog w = .ok (decide (a = a') && decide (b = b')) w:=by
 have hS : Tryz.prog.underlying 43 = some (.struct (Tryz.prog.fieldsOf 43)):=by kernel_rfl
 have hp : Tryz.prog.stoodInHeld 43 = false:=by kernel_rfl
 rw [show (9999 : Nat) = 9998 + 1 from rfl,run_equalIn_agg w 9998 43 _ _ hS hp]
 simp only [Program.fieldsOf,Tryz.underlying43]
 go_simp
 by_cases h1 : a = a' <;> by_cases h2 : b = b' <;> simp [h1,h2]
theorem eqIn_val (a b a' b' : Int) : (Op.equalIn 9999 45 (.agg #[.int .i64 a,.int .i64 b]) (.agg #[.int .i64 a',.int .i64 b'])).run Tryz.prog w = .ok (decide (a = a') && decide (b = b')) w:=by
 have hS : Tryz.prog.underlying 45 = some (.struct (Tryz.prog.fieldsOf 45)):=by kernel_rfl
 have hp : Tryz.prog.stoodInHeld 45 = false:=by kernel_rfl
 rw [show (9999 : Nat) = 9998 + 1 from rfl,run_equalIn_agg w 9998 45 _ _ hS hp]
 simp only [Program.fieldsOf,Tryz.underlying45]
 go_simp
 by_cases h1 : a = a' <;> by_cases h2 : b = b' <;> simp [h1,h2]
@[go_sem high] theorem eqIn_mv (a b c d e a' b' c' d' e' : Int) : (Op.equalIn 10000 55 (.agg #[.int .i64 a,.int .i64 b,.int .i64 c,.int .i64 d,.int .i64 e]) (.agg #[.int .i64 a',.int .i64 b',.int .i64 c',.int .i64 d',.int .i64 e'])).run Tryz.prog w = .ok (eqM ⟨⟨a,b⟩,⟨c,d⟩,e⟩ ⟨⟨a',b'⟩,⟨c',d'⟩,e'⟩) w:=by
 have hS : Tryz.prog.underlying 55 = some (.struct (Tryz.prog.fieldsOf 55)):=by kernel_rfl
 have hp : Tryz.prog.stoodInHeld 55 = false:=by kernel_rfl
 have e1:=fun w => eqIn_prm w a b a' b'
 have e2:=fun w => eqIn_val w c d c' d'
 rw [show (10000 : Nat) = 9999 + 1 from rfl,run_equalIn_agg w 9999 55 _ _ hS hp]
 simp only [Program.fieldsOf,Tryz.underlying55]
 go_simp
 unfold eqM
 simp only [Move.mk.injEq,Param.mk.injEq,Val.mk.injEq]
 by_cases h1 : a = a'
 ·by_cases h2 : b = b'
  ·by_cases h3 : c = c'
   ·by_cases h4 : d = d'
    ·by_cases h5 : e = e' <;> simp [h1,h2,h3,h4,h5]
    ·simp [h1,h2,h3,h4]
   ·simp [h1,h2,h3]
  ·simp [h1,h2]
 ·simp [h1]
@[go_sem] theorem guard_tmg (op : BinOp) (x y : Operand) (xs ys : Array Value) : (eqGuard op 82 x y (.agg xs) (.agg ys)).run Tryz.prog w = .ok () w:=run_eqGuard_agg w op _ x y xs ys (by kernel_rfl)
@[go_sem] theorem guard_mv (op : BinOp) (x y : Operand) (xs ys : Array Value) : (eqGuard op 55 x y (.agg xs) (.agg ys)).run Tryz.prog w = .ok () w:=run_eqGuard_agg w op _ x y xs ys (by kernel_rfl)
end
end Go.Proofs.YtgbecbnjokkfoaaGreat
