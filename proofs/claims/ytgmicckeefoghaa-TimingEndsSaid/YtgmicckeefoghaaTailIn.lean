/-
  XTail's law inside a round of a loop over an iterator (the wide fence, within a round).
-/
import Derived.Test.YtgmicckeefoghaaTail
import Derived.OrdersIn
import Derived.TacticsIn
namespace Go.Proofs.Ytgmicckeefoghaa
open Go.RowKit

section
variable {P : Program} {ops : Array Oper} {md : Region.Mode} {C : World → Prop} {l n : Nat}

theorem wpOpIn_of_qOp {i : Nat} {a : Act} {K : Act → Prop} {K' : Act → World → Prop} {Q' : Exit → Act → World → Prop} {w : World} (hd : ∀ (j : Nat) (o : Oper) c, ops[j]? = some o → o.op ≠ .defer c) (hC : C w)
    (h : ∀ a w', C w' → K a → K' a w') (hh : qOp P ops C i K a) : wpOpIn (Fence.wide.inRound l) n P ops Q' i K' a w := by
  unfold qOp at hh
  unfold wpOpIn
  split
  · rename_i ho; simp only [ho] at hh; exact h _ _ hC hh
  · rename_i o ho
    simp only [ho] at hh
    split
    · rename_i hw
      simp only [hw, if_true] at hh
      obtain ⟨v, h1, h2⟩ := hh
      have h3 := h1 w hC
      refine ⟨fun _ _ => trivial, ?_⟩
      rw [show (Fence.wide.inRound l).round = some l from rfl, Oper.semAt_some l _ o (fun c => hd i o c ho)]
      unfold Oper.quietAt at h3
      generalize (execOp a.eval o).run P w = r at *
      cases r with
      | ok x w' =>
        cases x <;> simp only [Oper.quietUpon] at h3 <;> simp only [Oper.uponIn]
        case value u =>
          obtain ⟨e1, e2⟩ := h3
          rw [e1, e2]
          exact h _ _ hC h2
        case skip =>
          obtain ⟨e1, e2⟩ := h3
          rw [e1, ← e2]
          exact h _ _ hC h2
        case enter f args =>
          obtain ⟨e1, hc⟩ := h3
          rw [e1]
          refine ⟨fun hh => by simp [Fence.wide, Fence.inRound] at hh, ?_⟩
          have hc' : CallsIn (Fence.wide.inRound l) (n - 1) P f args w (fun e w'' => e = .returned v ∧ C w'') := callsIn_wide.2 hc
          exact hc'.mono fun e w'' ⟨he, hw''⟩ => by subst he; exact h _ _ hw'' h2
      | halt x w' => simp only [Oper.quietUpon] at h3
    · rename_i hw; simp only [hw] at hh; exact ⟨fun _ _ => trivial, h _ _ hC hh⟩

theorem wpAnyIn_of_headQ {k g : Nat} {L : Array Bool → Act → Prop} {Q' : Exit → Act → World → Prop} (hd : ∀ (j : Nat) (o : Oper) c, ops[j]? = some o → o.op ≠ .defer c)
    (hL : ∀ listed a w, C w → L listed a → wpAnyIn (Fence.wide.inRound l) n P md ops Q' g listed a w) :
    ∀ (f : Nat) (listed : Array Bool) (a : Act) (w : World), C w → headQ P md ops C k L f listed a → wpAnyIn (Fence.wide.inRound l) n P md ops Q' (f + g) listed a w
  | 0, _, _, _, hw, h => by rw [Nat.zero_add]; exact hL _ _ _ hw h
  | f + 1, _, _, _, hw, h => by
    rw [show f + 1 + g = (f + g) + 1 by omega]
    exact ⟨fun h0 => absurd h0 h.1, fun i hi => wpOpIn_of_qOp hd hw (fun a' w' hw' h' => wpAnyIn_of_headQ hd hL f _ a' w' hw' h') (h.2 i hi).2⟩

theorem wpAnyIn_of_seq {F : Fence} {Q' : Exit → Act → World → Prop} : ∀ (l : List Oper) (k : Nat) (listed : Array Bool) (a : Act) (w : World), (∀ j, l[j]? = ops[k + j]?) →
    Region.seqB md ops l.length k listed = true → wpListIn F n P ops Q' l a w → wpAnyIn F n P md ops Q' l.length listed a w
  | [], _, _, _, _, _, hB, h => ⟨by simpa [Region.seqB] using hB, h⟩
  | o :: l, k, listed, a, w, hl, hB, h => by
    have h0 : ops[k]? = some o := by simpa using (hl 0).symm
    simp only [List.length_cons, Region.seqB, Bool.and_eq_true, decide_eq_true_eq] at hB
    refine ⟨fun h1 => (by rw [hB.1] at h1; cases h1), fun i hi => ?_⟩
    rw [hB.1] at hi
    have hik : i = k := by simpa using hi
    subst hik
    have hw : wpOpIn F n P ops Q' i (wpListIn F n P ops Q' l) a w := by unfold wpOpIn; simp only [h0]; exact h
    exact wpOpIn_mono (fun a' w' h' => wpAnyIn_of_seq l (i + 1) _ a' w' (fun j => by have := hl (j + 1); simpa [Nat.add_assoc, Nat.add_comm 1 j] using this) hB.2 h') hw

/-- No operation defers. -/
def noDefer (ops : List Oper) : Bool := ops.all fun o => match o.op with | .defer _ => false | _ => true

/-- The head in one walk, in the worlds that have grown; the tail from each of them: within a round. -/
theorem wpIn_region_tail {id : Nat} {Q : Exit → Act → World → Prop} {a : Act} {w : World} {s : List Oper} (k : Nat) (hm : P.follows .mixedOrders = true) (hB : Region.lexTailB .any s.toArray k = true) (hD : noDefer s = true)
    (h : wpQuiet P s.toArray (fun w' => ∃ y, w' = xt w y) (fun a' => ∀ w', (∃ y, w' = xt w y) → wpListIn (Fence.wide.inRound l) n P s.toArray Q (s.drop k) a' w') (s.take k) a) : (Code.region id s.toArray true).wpIn (Fence.wide.inRound l) n P Q a w := by
  simp only [Region.lexTailB, Bool.and_eq_true, decide_eq_true_eq] at hB
  obtain ⟨⟨⟨⟨hsel, hn⟩, hs⟩, hc⟩, hlex⟩ := hB
  have hn' : k < s.length := by simpa using hn
  have htl : (s.take k).length = k := by simp; omega
  have hdl : (s.drop k).length = s.toArray.size - k := by simp
  have hd : ∀ (j : Nat) (o : Oper) c, s.toArray[j]? = some o → o.op ≠ .defer c := fun j o c hj he => by
    have hmem : o ∈ s := List.mem_of_getElem? (by simpa using hj)
    have := List.all_eq_true.1 hD o hmem
    rw [he] at this
    cases this
  have inv0 : HeadInv .any s.toArray k (Array.replicate s.toArray.size false) :=
    ⟨by simp, fun j oj _ hl => (by rw [getD_replicate_false] at hl; cases hl), fun t _ ht => getD_in (by simpa using ht) (getD_replicate_false _ _)⟩
  have H := headQ_lex (md := .any) (g := s.toArray.size - k) hsel hs hc hn (s.take k) 0 _ a (fun j hj => by
    have hj' : j < k := by rw [htl] at hj; exact hj
    simp [hj']) (by simpa using htl) inv0 (by rw [htl]; exact hlex) h
  refine wpIn_region_any hm ?_
  have := wpAnyIn_of_headQ (l := l) (n := n) (Q' := Q) (g := s.toArray.size - k) hd (fun listed a' w' hw' hL => by
    have := wpAnyIn_of_seq (md := .any) (Q' := Q) (s.drop k) k listed a' w' (fun j => by simp [List.getElem?_drop]) (by rw [hdl]; exact hL.1) (hL.2 w' hw')
    rwa [hdl] at this) _ _ _ w.drew (Ext.refl w).drew.get H
  rw [htl, show k + (s.toArray.size - k) = s.toArray.size by omega] at this
  exact this
end
end Go.Proofs.Ytgmicckeefoghaa
