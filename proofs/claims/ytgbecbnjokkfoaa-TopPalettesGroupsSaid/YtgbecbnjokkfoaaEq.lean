import Derived.Test.YtgbecbnjokkfoaaTim2
namespace Go.Proofs.Ytgbecbnjokkfoaa
open Go.RowKit

def eqP (a b c d : Int) : Bool:=decide ((⟨a,b⟩ : Param) = ⟨c,d⟩)
@[go_sem high] theorem eq_prm (a b c d : Int) (w : World) : (binOp .eql 40 (.agg #[.int .i64 a,.int .i64 b]) (.agg #[.int .i64 c,.int .i64 d])).run Try.prog w = .ok (.bool (eqP a b c d)) w:=by
 have hS : Try.prog.underlying 40 = some (.struct (Try.prog.fieldsOf 40)):=by kernel_rfl
 have hp : Try.prog.stoodInHeld 40 = false:=by kernel_rfl
 rw [run_eql_struct,show (10000 : Nat) = 9999 + 1 from rfl,run_equalIn_agg w 9999 40 _ _ hS hp]
 simp only [Program.fieldsOf,Try.underlying40]
 go_simp
 unfold eqP
 by_cases h1 : a = c <;> by_cases h2 : b = d <;> simp [h1,h2]
@[go_sem] theorem guard_prm (op : BinOp) (x y : Operand) (xs ys : Array Value) (w : World) : (eqGuard op 40 x y (.agg xs) (.agg ys)).run Try.prog w = .ok () w:=run_eqGuard_agg w op _ x y xs ys (by kernel_rfl)
theorem eqP_def (p q : Param) : eqP p.ch p.attr q.ch q.attr = decide (p = q):=rfl
theorem Calls.grows_same {P : Program} {f : FuncId} {args : Array Value} {w : World} {y : Gr} {v : Value} (h : Calls P f args (xt w y) fun e w' => e = .returned v ∧ xt w y = w') :
  Calls P f args (xt w y) fun e w'' => e = .returned v ∧ ∃ z,w'' = xt w z :=
 h.mono fun _ _ ⟨he,hx⟩ => ⟨he,y,hx.symm⟩
end Go.Proofs.Ytgbecbnjokkfoaa

namespace Go.Proofs.Ytgbecbnjokkfoaa
open Go.RowKit

def eqT (s t : Timing) : Bool:=decide (s = t)
def eqV (s t : Val) : Bool:=decide (s = t)
def eqM (s t : Move) : Bool:=decide (s = t)
theorem eqT_self (s : Timing) : eqT s s = true:=by simp [eqT]
theorem eqM_self (s : Move) : eqM s s = true:=by simp [eqM]
section
variable (w : World)
@[go_sem high] theorem eqIn_tmg (a b c d e f a' b' c' d' e' f' : Int) : (Op.equalIn 10000 99 (.agg #[.int .i64 a,.int .i64 b,.int .i64 c,.int .i64 d,.int .i64 e,.int .i64 f]) (.agg #[.int .i64 a',.int .i64 b',.int .i64 c',.int .i64 d',.int .i64 e',.int .i64 f'])).run Try.prog w = .ok (eqT ⟨a,b,c,d,e,f⟩ ⟨a',b',c',d',e',f'⟩) w:=by
 have hS : Try.prog.underlying 99 = some (.struct (Try.prog.fieldsOf 99)):=by kernel_rfl
 have hp : Try.prog.stoodInHeld 99 = false:=by kernel_rfl
 rw [show (10000 : Nat) = 9999 + 1 from rfl,run_equalIn_agg w 9999 99 _ _ hS hp]
 simp only [Program.fieldsOf,Try.underlying99]
 go_simp
 unfold eqT
 simp only [Timing.mk.injEq]
 by_cases h1 : a = a'
 ·by_cases h2 : b = b'
  ·by_cases h3 : c = c'
   ·by_cases h4 : d = d'
    ·by_cases h5 : e = e'
     ·by_cases h6 : f = f' <;> simp [h1,h2,h3,h4,h5,h6]
     ·simp [h1,h2,h3,h4,h5]
    ·simp [h1,h2,h3,h4]
   ·simp [h1,h2,h3]
  ·simp [h1,h2]
 ·simp [h1]
theorem eqIn_prm (a b a' b' : Int) : (Op.equalIn 9999 40 (.agg #[.int .i64 a,.int .i64 b]) (.agg #[.int .i64 a',.int .i64 b'])).run Try.prog w = .ok (decide (a = a') && decide (b = b')) w:=by
 have hS : Try.prog.underlying 40 = some (.struct (Try.prog.fieldsOf 40)):=by kernel_rfl
 have hp : Try.prog.stoodInHeld 40 = false:=by kernel_rfl
 rw [show (9999 : Nat) = 9998 + 1 from rfl,run_equalIn_agg w 9998 40 _ _ hS hp]
 simp only [Program.fieldsOf,Try.underlying40]
 go_simp
 by_cases h1 : a = a' <;> by_cases h2 : b = b' <;> simp [h1,h2]
theorem eqIn_val (a b a' b' : Int) : (Op.equalIn 9999 42 (.agg #[.int .i64 a,.int .i64 b]) (.agg #[.int .i64 a',.int .i64 b'])).run Try.prog w = .ok (decide (a = a') && decide (b = b')) w:=by
 have hS : Try.prog.underlying 42 = some (.struct (Try.prog.fieldsOf 42)):=by kernel_rfl
 have hp : Try.prog.stoodInHeld 42 = false:=by kernel_rfl
 rw [show (9999 : Nat) = 9998 + 1 from rfl,run_equalIn_agg w 9998 42 _ _ hS hp]
 simp only [Program.fieldsOf,Try.underlying42]
 go_simp
 by_cases h1 : a = a' <;> by_cases h2 : b = b' <;> simp [h1,h2]
@[go_sem high] theorem eqIn_mv (a b c d e a' b' c' d' e' : Int) : (Op.equalIn 10000 60 (.agg #[.int .i64 a,.int .i64 b,.int .i64 c,.int .i64 d,.int .i64 e]) (.agg #[.int .i64 a',.int .i64 b',.int .i64 c',.int .i64 d',.int .i64 e'])).run Try.prog w = .ok (eqM ⟨⟨a,b⟩,⟨c,d⟩,e⟩ ⟨⟨a',b'⟩,⟨c',d'⟩,e'⟩) w:=by
 have hS : Try.prog.underlying 60 = some (.struct (Try.prog.fieldsOf 60)):=by kernel_rfl
 have hp : Try.prog.stoodInHeld 60 = false:=by kernel_rfl
 have e1:=fun w => eqIn_prm w a b a' b'
 have e2:=fun w => eqIn_val w c d c' d'
 rw [show (10000 : Nat) = 9999 + 1 from rfl,run_equalIn_agg w 9999 60 _ _ hS hp]
 simp only [Program.fieldsOf,Try.underlying60]
 go_simp
 unfold eqM
 simp only [Move.mk.injEq,Param.mk.injEq,Val.mk.injEq]
 by_cases h1 : a = a'
 ·by_cases h2 : b = b'
  ·by_cases h3 : c = c'
   ·by_cases h4 : d = d'
    ·by_cases h5 : e = e' <;> simp [h1,h2,h3,h4,h5]
    ·simp [h1,h2,h3,h4]
   ·simp [h1,h2,h3]
  ·simp [h1,h2]
 ·simp [h1]
@[go_sem] theorem guard_tmg (op : BinOp) (x y : Operand) (xs ys : Array Value) : (eqGuard op 99 x y (.agg xs) (.agg ys)).run Try.prog w = .ok () w:=run_eqGuard_agg w op _ x y xs ys (by kernel_rfl)
@[go_sem] theorem guard_mv (op : BinOp) (x y : Operand) (xs ys : Array Value) : (eqGuard op 60 x y (.agg xs) (.agg ys)).run Try.prog w = .ok () w:=run_eqGuard_agg w op _ x y xs ys (by kernel_rfl)
end
end Go.Proofs.Ytgbecbnjokkfoaa
