import Derived.Test.YtgbecbnjokkfoaaTim7
import Derived.Test.YtgbecbnjokkfoaaTail
namespace Go.Proofs.Ytgbecbnjokkfoaa
open Go.RowKit
attribute [local go_sem] Oper.semAt_some

def putT (t : Timing) (k : Nat) (v : Int) : Timing :=
 match k with
 | 0 => { t with up:=v }
 | 1 => { t with down:=v }
 | 2 => { t with pos:=v }
 | 3 => { t with col:=v }
 | 4 => { t with beam:=v }
 | _ => { t with del:=v }
def stT (t : Timing) (p : Int) (pre : List (Fin 6)) : Timing:=pre.foldl (fun s x => putT s x.val (scl (tnth s x.val) p)) t
theorem stT_snoc (t : Timing) (p : Int) (pre : List (Fin 6)) (x : Fin 6) : stT t p (pre ++ [x]) = putT (stT t p pre) x.val (scl (tnth (stT t p pre) x.val) p):=by
 unfold stT;rw [List.foldl_append];rfl
theorem stT_all (t : Timing) (p : Int) : stT t p seq6 = scaleT t p:=rfl
theorem scl_in {v p : Int} (h1 : 0 ≤ v) (h2 : v ≤ 10000000) (h3 : 1 ≤ p) (h4 : p ≤ 400) : 0 ≤ scl v p ∧ scl v p ≤ 10000000:=by
 unfold scl
 have : 0 ≤ (200 * v + p) / (2 * p):=Int.ediv_nonneg (by omega) (by omega)
 omega
theorem scl_wraps {v p : Int} (h1 : 0 ≤ v) (h2 : v ≤ 10000000) (h3 : 1 ≤ p) (h4 : p ≤ 400) : IntKind.i64.wrap (200 * v) = 200 * v ∧ IntKind.i64.wrap (200 * v + p) = 200 * v + p ∧ IntKind.i64.wrap (2 * p) = 2 * p ∧ IntKind.i64.wrap ((200 * v + p).tdiv (2 * p)) = (200 * v + p) / (2 * p) ∧ ¬ p = 0 :=
 ⟨IntWalk.i64_in _ (by omega),IntWalk.i64_in _ (by omega),IntWalk.i64_in _ (by omega),IntWalk.i64_quo _ _ (by omega),by omega⟩
theorem tnth_in {t : Timing} (h : timingE t = 0) (k : Nat) (hk : k < 6) : 0 ≤ tnth t k ∧ tnth t k ≤ 10000000:=by
 have:=timing_in h
 rcases (by omega : k = 0 ∨ k = 1 ∨ k = 2 ∨ k = 3 ∨ k = 4 ∨ k = 5) with rfl | rfl | rfl | rfl | rfl | rfl
 all_goals (simp only [tnth];omega)
theorem putT_ok {t : Timing} (h : timingE t = 0) (k : Nat) (v : Int) (h1 : 0 ≤ v) (h2 : v ≤ 10000000) : timingE (putT t k v) = 0:=by
 have:=timing_in h
 have h3 : timingOk (putT t k v) = true:=by
  unfold putT timingOk isTime
  split
  all_goals (simp only [Bool.and_eq_true,decide_eq_true_eq];omega)
 unfold timingE;rw [h3];rfl
theorem stT_ok {t : Timing} (h : timingE t = 0) {p : Int} (h3 : 1 ≤ p) (h4 : p ≤ 400) (pre : List (Fin 6)) : timingE (stT t p pre) = 0:=by
 unfold stT
 induction pre generalizing t with
 | nil => exact h
 | cons x l ih =>
  have hx:=tnth_in h x.val x.isLt
  have hs:=scl_in hx.1 hx.2 h3 h4
  exact ih (putT_ok h _ _ hs.1 hs.2)
theorem keeps_xt (w : World) (y : Gr) : KeepsOthers w (xt w y):=⟨by simp [xt_size],fun k o hk _ => by
 show (w.heap ++ y.objs)[k]? = some o
 rw [Array.getElem?_append_left (Array.getElem?_eq_some_iff.1 hk).1];exact hk⟩
theorem xt_high (w1 w2 : World) (z : Gr) (D : Nat) (h : w1.heap.size = w2.heap.size) (hD : w1.heap.size ≤ D) : (xt w1 z).heap[D]? = (xt w2 z).heap[D]?:=by
 unfold xt
 simp only []
 rw [Array.getElem?_append_right hD,Array.getElem?_append_right (by omega),h]
theorem ownFrom_ext' {β : Type} {B : Nat} (w0 : β → World) (q : Prop) (hB : ∀ s,(w0 s).heap.size ≤ B) : OwnFrom B (fun s W => Ext (w0 s) W ∧ q) :=
 fun s _ _ _ hs hg hr => ⟨hs.1.trans_own hg (fun k e => Nat.le_trans (hB s) (hr k e).1),hs.2⟩

end Go.Proofs.Ytgbecbnjokkfoaa
