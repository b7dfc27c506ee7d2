/-
 The checks of the examples' actions, plain.
-/
import Derived.Test.YtmhinhgflehkaaaGreatGlog
import Derived.Test.YtmhinhgflehkaaaGreatGrpl
namespace Go.Proofs.YtmhinhgflehkaaaGreat
open Go.RowKit

def mkA (t k g v : Int) : Acn := ⟨t, k, g, ⟨#[]⟩, v, 0, ⟨[], none, 0⟩, ⟨[], none, 0⟩, ⟨[], none, 0⟩, noEdit⟩
theorem mkA_at (t k g v : Int) (w : World) : AcnAt w (mkA t k g v) := ⟨Nat.zero_le _, LstAt.nil, LstAt.nil, LstAt.nil, noEdit_at w⟩
open Classical in
theorem acnE_mk (t k g v : Int) (hk : ¬ (k < 0 ∨ 20 ≤ k)) (ht : inE t 0 10000000 = 0) :
  acnE (mkA t k g v) = chkS (useB k) (fun i => [inE g 1 1048576, numE ⟨#[]⟩, levelsE k v, inE 0 0 10000000, setE [], parsE [], chansE [], editE noEdit].getD i 0) (fun i => [g == 0, true, v == 0, true, true, true, true, true].getD i true) 8 0 true := by
 have hs : sameE noEdit noEdit = true := by unfold sameE; exact decide_eq_true ⟨rfl, rfl, rfl, rfl, rfl, rfl, rfl, rfl, rfl, rfl, rfl, rfl, rfl, rfl, rfl, rfl, rfl, rfl, rfl, rfl, rfl⟩
 unfold acnE
 rw [if_neg (show ¬ ((mkA t k g v).kind < 0 ∨ 20 ≤ (mkA t k g v).kind) from hk), if_neg (by show ¬ inE t 0 10000000 ≠ 0; simpa using ht)]
 unfold fieldZ
 have hc : (⟨#[]⟩ : ByteArray).toList.isEmpty = true := by decide +kernel
 simp only [mkA, hs, hc]
 rfl
/-! ### With all fields set no action is right -/
def fullA (a : Acn) (A B : Option Addr) : Acn := { a with target := max a.target 1, cue := ⟨#[49]⟩, level := max a.level 1, time := max a.time 1, params := ⟨[⟨1, 0⟩], A, 1⟩, chans := ⟨[1], B, 1⟩ }
end Go.Proofs.YtmhinhgflehkaaaGreat

/-
 Chapter 54 in plain: two nodes that settle.
-/
namespace Go.Proofs.YtmhinhgflehkaaaGreat

/-! ### Equal records -/
open Classical in
/-! ### One exchange -/
theorem own_other {i j t : Int} (hi1 : 1 ≤ i) (hi2 : i ≤ 2) (hj1 : 1 ≤ j) (hj2 : j ≤ 2) (hne : ¬ i = j) (h : ownB i t = true) : ownB j t = false := by
 unfold ownB at h ⊢
 have := of_decide_eq_true h
 apply decide_eq_false
 omega
theorem own_pos {i t : Int} (h : ownB i t = true) : 1 ≤ t := by
 unfold ownB at h
 exact (of_decide_eq_true h).1
theorem termAt_get {l : List Rec} {k : Nat} {r : Rec} (h : l[k]? = some r) : termAt l (k : Int) = r.term := by
 unfold termAt
 rw [if_neg (by omega), Int.toNat_natCast, h]
theorem sentM_ok {n : Nod} (hn : NodOk n) (hs : n.speaks = true) : MsgOk (sentM n) := by
 have h1 := own_pos (hn.own hs)
 have h2 := hn.n0; have h3 := hn.n1; have h4 := hn.len; have h5 := hn.a0; have h6 := hn.a1; have h7 := hn.t1
 have hb : 0 < n.next → ∃ r, n.log[(n.next - 1).toNat]? = some r ∧ termAt n.log (n.next - 1) = r.term := fun h0 => by
  refine ⟨n.log[(n.next - 1).toNat]'(by omega), List.getElem?_eq_getElem (by omega), ?_⟩
  have := termAt_get (List.getElem?_eq_getElem (l := n.log) (i := (n.next - 1).toNat) (by omega))
  rwa [Int.toNat_of_nonneg (by omega)] at this
 refine ⟨Int.le_refl _, by show (0 : Int) ≤ 2; omega, h1, h7, h2, by show n.next ≤ 256; omega, fun _ => ⟨fun h0 => ?_, fun h0 => ?_, ?_, ?_, h5, by show n.acked ≤ 256; omega⟩, fun h => absurd rfl h⟩
 ·show (if 0 < n.next then _ else (0 : Int)) = 0
  have h0' : n.next = 0 := h0
  rw [if_neg (by omega)]
 ·have h0' : 0 < n.next := h0
  show 1 ≤ (if 0 < n.next then _ else (0 : Int)) ∧ (if 0 < n.next then _ else (0 : Int)) ≤ n.term
  rw [if_pos h0']
  obtain ⟨r, hr, he⟩ := hb h0'
  have hm := List.mem_of_getElem? hr
  have := hn.recs.pos r hm; have := hn.recs.hi r hm
  omega
 ·show ((n.log.drop n.next.toNat).take 16).length ≤ 16
  rw [List.length_take]; omega
 ·have hsub := hn.recs.sub ((List.take_sublist 16 _).trans (List.drop_sublist n.next.toNat n.log))
  refine ⟨fun r hr => ?_, hsub.pos, hsub.hi, hsub.act, hsub.asc⟩
  show (if 0 < n.next then _ else (0 : Int)) ≤ r.term
  by_cases h0 : 0 < n.next
  ·rw [if_pos h0]
   obtain ⟨q, hq, he⟩ := hb h0
   obtain ⟨j, hj⟩ := List.getElem?_of_mem (List.mem_of_mem_take hr)
   rw [List.getElem?_drop] at hj
   have := (recs_get hn.recs.asc (show (n.next - 1).toNat < n.next.toNat + j by omega) hq hj).1
   omega
  ·rw [if_neg h0]; have := hsub.pos r hr; omega

/-! ### What settling leaves -/
structure Pair (a b : Nod) : Prop where
 na : NodOk a
 nb : NodOk b
 ne : ¬ a.id = b.id
 speaks : a.speaks = true
 term : b.term ≤ a.term
/-! ### They do settle -/
structure Half (L : List Rec) (n : Nat) (T : Int) (s o : Nod) : Prop where
 pair : Pair s o
 len : L.length = n + 1
 log : s.log = L
 term : s.term = T
 acked : s.acked = n
 next : s.next ≤ n
 oacked : o.acked = n
 olen : n ≤ o.log.length
 same : sameRs (L.take n) (o.log.take n) = true
 new : ∀ r, o.log[n]? = some r → r.term ≠ T
 last : (L[n]?).map (·.term) = some T
structure Full (L : List Rec) (n : Nat) (T : Int) (s o : Nod) : Prop where
 pair : Pair s o
 len : L.length = n + 1
 log : s.log = L
 term : s.term = T
 acked : s.acked = n + 1
 next : s.next = n + 1
 oacked : o.acked ≤ n + 1
 same : sameRs L o.log = true
structure Done (L : List Rec) (p q : Nod) : Prop where
 np : NodOk p
 nq : NodOk q
 log : p.log = L
 same : sameRs L q.log = true
 pa : p.acked = L.length
 qa : q.acked = L.length
end Go.Proofs.YtmhinhgflehkaaaGreat

/-
 The action of the examples.
-/
namespace Go.Proofs.YtmhinhgflehkaaaGreat

def goA (t : Int) : Acn := mkA t 0 1 0
theorem acnE_goA {t : Int} (h0 : 0 ≤ t) (h1 : t ≤ 10000000) : acnE (goA t) = 0 := by
 unfold goA
 rw [acnE_mk t 0 1 0 (by decide) (by unfold inE; rw [if_neg (by omega)])]
 simp only [chkS, show useB 0 0 = true by decide +kernel, show useB 0 1 = false by decide +kernel, show useB 0 2 = false by decide +kernel, show useB 0 3 = false by decide +kernel, show useB 0 4 = false by decide +kernel, show useB 0 5 = false by decide +kernel, show useB 0 6 = false by decide +kernel, show useB 0 7 = false by decide +kernel, Nat.zero_add, Nat.reduceAdd]
 simp [inE, parsE, scan]
end Go.Proofs.YtmhinhgflehkaaaGreat

/-
 Chapter 54's examples in plain.
-/
namespace Go.Proofs.YtmhinhgflehkaaaGreat

noncomputable def exR0 : Rec := ⟨1, goA 0⟩
noncomputable def exR1 : Rec := ⟨1, goA 100⟩
noncomputable def exR7 : Rec := ⟨2, goA 7⟩
end Go.Proofs.YtmhinhgflehkaaaGreat
