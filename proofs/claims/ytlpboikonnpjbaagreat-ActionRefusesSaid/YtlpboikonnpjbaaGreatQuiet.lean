/-
  Loads of whole structs in regions that draw their order and only read; a box that is known further on.
-/
import Derived.Test.YtlpboikonnpjbaaGreatBig
import Derived.Deep.MidRow
import Derived.BigQuiet
namespace Go.Proofs.YtlpboikonnpjbaaGreat
open Go.RowKit

theorem quiet_load_row {P : Program} {C : World → Prop} {a : Act} {op : Oper} {K : Act → Prop} (ty : TypeId) (x : Operand) (ho : op.op = .load ty x) (b o : Nat) (hx : a.eval x = .pointer (some ⟨b, o, none⟩)) (cs : List Value) (d : TypeDesc)
    (hu : P.underlying ty = some d) (hd : d.isRow = true) (hi : (P.info? ty).map (·.size) = some cs.length) (hc : ∀ w, C w → w.rangeAt b o cs) {a' : Act} (ha : a.put op.dst (.agg cs.toArray) = a') (hk : K a') : op.quiet P a C K := by
  subst ha
  refine ⟨.agg cs.toArray, fun w hw => ?_, hk⟩
  unfold Oper.quietAt execOp
  simp only [ho, hx, Instr.loadAt, Instr.sureAddr, Sem.run_bind, Sem.run_pure, Result.andThen_ok, run_loadVar_mid w b o ty cs d (hc w hw) hu hd hi]
  exact ⟨rfl, rfl⟩
theorem heap_kept {W W' : World} {blk : Obj} {b : Nat} (hx : Ext (W.alloc blk) W') (hb : W.heap.size = b) : W'.heap[b]? = some blk := by
  subst hb
  rw [hx.block _ (by simp)]
  exact heap_alloc_new W blk
theorem Own.below {w0 w : World} {E : TypeId} {size : Nat} {A : Option Addr} {n k : Nat} {rows : List (List Value)} (h : Own w0 w E size A n k rows) (hk : k ≠ 0) : ∀ a, A = some a → a.block < w.heap.size := fun a ha => by
  rcases h.at_ with h0 | ⟨g, cur, h1, _, h3, _⟩
  · exact absurd h0 hk
  · rw [h1] at ha; injection ha with ha; subst ha; exact (Array.getElem?_eq_some_iff.1 h3).1
theorem Own.above {w0 w : World} {E : TypeId} {size : Nat} {A : Option Addr} {n k : Nat} {rows : List (List Value)} (h : Own w0 w E size A n k rows) (hk : k ≠ 0) : ∀ a, A = some a → w0.heap.size ≤ a.block := fun a ha => by
  rcases h.at_ with h0 | ⟨g, cur, h1, h2, _⟩
  · exact absurd h0 hk
  · rw [h1] at ha; injection ha with ha; subst ha; exact h2
/-- The front of an own slice. -/
theorem Own.front {w0 w : World} {E : TypeId} {size : Nat} {A : Option Addr} {n k : Nat} {rows : List (List Value)} (h : Own w0 w E size A n k rows) (i : Nat) (hi : i ≤ n) : Own w0 w E size A i k (rows.take i) := by
  have hn := h.len
  refine ⟨by rw [List.length_take]; omega, fun r hr => h.row r (List.mem_of_mem_take hr), fun r hr => h.one r (List.mem_of_mem_take hr), by have := h.le; omega, h.cap, ?_⟩
  rcases h.at_ with h0 | ⟨g, cur, h1, h2, h3, h4, h5⟩
  · exact .inl h0
  · refine .inr ⟨g, cur, h1, h2, h3, h4, ?_⟩
    have h6 := congrArg (List.take (i * size)) h5
    rw [List.take_take, Nat.min_eq_left (Nat.mul_le_mul_right _ hi)] at h6
    rw [h6]
    clear h3 h4 h5 h6
    have : ∀ (l : List (List Value)) (j : Nat) (_ : ∀ r ∈ l, r.length = size), l.flatten.take (j * size) = (l.take j).flatten := by
      intro l
      induction l with
      | nil => intro j _; simp
      | cons r l ih =>
        intro j hl
        cases j with
        | zero => simp
        | succ j =>
          have hr := hl r (by simp)
          rw [List.flatten_cons, List.take_succ_cons, List.flatten_cons, List.take_append, hr, List.take_of_length_le (by rw [hr, Nat.succ_mul]; omega), show (j + 1) * size - size = j * size by rw [Nat.succ_mul]; omega, ih j fun x hx => hl x (by simp [hx])]
    exact this rows i h.row
end Go.Proofs.YtlpboikonnpjbaaGreat
