/-
  Two parameters are equal when both their numbers are.
-/
import Derived.Test.YtgmicckeefoghaaTim3
namespace Go.Proofs.Ytgmicckeefoghaa
open Go.RowKit

/-- Two parameters, by their four numbers. -/
def eqP (a b c d : Int) : Bool := decide ((⟨a, b⟩ : Param) = ⟨c, d⟩)
@[go_sem high] theorem eq_prm (a b c d : Int) (w : World) : (binOp .eql 40 (.agg #[.int .i64 a, .int .i64 b]) (.agg #[.int .i64 c, .int .i64 d])).run Try.prog w = .ok (.bool (eqP a b c d)) w := by
  have hS : Try.prog.underlying 40 = some (.struct (Try.prog.fieldsOf 40)) := by kernel_rfl
  have hp : Try.prog.stoodInHeld 40 = false := by kernel_rfl
  rw [run_eql_struct, show (10000 : Nat) = 9999 + 1 from rfl, run_equalIn_agg w 9999 40 _ _ hS hp]
  simp only [Program.fieldsOf, Try.underlying40]
  go_simp
  unfold eqP
  by_cases h1 : a = c <;> by_cases h2 : b = d <;> simp [h1, h2]
@[go_sem] theorem guard_prm (op : BinOp) (x y : Operand) (xs ys : Array Value) (w : World) : (eqGuard op 40 x y (.agg xs) (.agg ys)).run Try.prog w = .ok () w := run_eqGuard_agg w op _ x y xs ys (by kernel_rfl)
/-- The test of two parameters, read. -/
theorem eqP_def (p q : Param) : eqP p.ch p.attr q.ch q.attr = decide (p = q) := rfl
/-- A call that leaves the world alone, in a class of grown worlds. -/
theorem Calls.grows_same {P : Program} {f : FuncId} {args : Array Value} {w : World} {y : Gr} {v : Value} (h : Calls P f args (xt w y) fun e w' => e = .returned v ∧ xt w y = w') :
    Calls P f args (xt w y) fun e w'' => e = .returned v ∧ ∃ z, w'' = xt w z :=
  h.mono fun _ _ ⟨he, hx⟩ => ⟨he, y, hx.symm⟩
end Go.Proofs.Ytgmicckeefoghaa
