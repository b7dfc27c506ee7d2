import Derived.Test.YtgbecbnjokkfoaaEq
namespace Go.Proofs.Ytgbecbnjokkfoaa
open Go.RowKit

def inV (l : List Move) (p : Param) : Int:=match l.find? (fun m => decide (m.p = p)) with | some m => m.part | none => 1
def placeV (l : List Move) (p : Param) : Int:=match l.findIdx? (fun m => decide (m.p = p)) with | some i => i | none => -1
def givenE (c : Cue) (p : Param) : Int:=if cueE c ≠ 0 then cueE c else paramE p
def partV (c : Cue) (p : Param) : Int × Int:=if givenE c p ≠ 0 then (0,givenE c p) else (inV c.moves p,0)
def emptyT : Timing:=⟨0,0,0,0,0,0⟩
def partOf (c : Cue) (p : Param) : Timing:=(c.parts[(inV c.moves p).toNat - 1]?).getD emptyT
def ofV (c : Cue) (p : Param) (r : Bool) : Int × Int × Int:=if givenE c p ≠ 0 then (0,0,givenE c p) else ((partOf c p).del,taken (partOf c p) p.attr r,0)

theorem found_iff {l : List Move} (h : scan moveE none l = 0) (p : Param) : (foundP l p = true → ∃ m,l[posP l p]? = some m ∧ m.p = p ∧ l.find? (fun m => decide (m.p = p)) = some m) ∧ (foundP l p = false → l.find? (fun m => decide (m.p = p)) = none):=by
 constructor
 ·intro hf
  unfold foundP at hf
  split at hf
  ·rename_i m hm
   have hmp : m.p = p:=by simpa using hf
   refine ⟨m,hm,hmp,?_⟩
   rw [List.find?_eq_some_iff_getElem]
   obtain ⟨hlt,hx⟩:=List.getElem?_eq_some_iff.1 hm
   refine ⟨by simpa using hmp,posP l p,hlt,hx,fun j hj => ?_⟩
   have hb:=(posP_iff h p (List.getElem?_eq_getElem (by omega : j < l.length))).2 hj
   simp only [Bool.not_eq_true',decide_eq_false_iff_not]
   intro he
   rw [he,before_irrefl] at hb;cases hb
  ·cases hf
 ·intro hf
  rw [List.find?_eq_none]
  intro a ha
  obtain ⟨i,hi,rfl⟩:=List.getElem_of_mem ha
  simp only [decide_eq_true_eq]
  intro he
  have h1 : ¬ i < posP l p:=fun h2 => by
   have:=(posP_iff h p (List.getElem?_eq_getElem hi)).2 h2
   rw [he,before_irrefl] at this;cases this
  obtain ⟨x,hx⟩ : ∃ x,l[posP l p]? = some x:=⟨_,List.getElem?_eq_getElem (by omega)⟩
  unfold foundP at hf
  rw [hx] at hf
  simp only [decide_eq_false_iff_not] at hf
  rcases Nat.lt_or_ge (posP l p) i with h2 | h2
  ·have h3:=movesOk_lt h (i - posP l p - 1) (posP l p) x l[i] hx (by rw [show posP l p + (i - posP l p - 1) + 1 = i by omega];exact List.getElem?_eq_getElem hi)
   rw [he] at h3
   exact absurd ((posP_iff h p hx).1 h3) (by omega)
  ·have h4 : posP l p = i:=by omega
   rw [h4,List.getElem?_eq_getElem hi] at hx
   injection hx with hx
   exact hf (by rw [← hx];exact he)
theorem part_range {c : Cue} (h : cueE c = 0) (p : Param) : 1 ≤ inV c.moves p ∧ inV c.moves p ≤ c.parts.length ∧ c.parts.length ≤ 4 ∧ 1 ≤ c.parts.length:=by
 obtain ⟨_,_,hm,hp,_⟩:=cueE_ok h
 have hs:=(movesE_scan hm).2
 unfold partsE timesE at hp
 have h1 : c.parts.length ≠ 0 ∧ ¬ 4 < c.parts.length ∧ (c.moves.any fun m => decide ((c.parts.length : Int) < m.part)) = false:=by grind
 obtain ⟨h2,h3,h4⟩:=h1
 unfold inV
 split
 ·rename_i m hmf
  have hmem:=List.mem_of_find?_eq_some hmf
  obtain ⟨i,hi,hx⟩:=List.getElem_of_mem hmem
  have h5:=scan_ok moveE c.moves hs i m (by rw [List.getElem?_eq_getElem hi,hx])
  have h6 : 1 ≤ m.part:=by unfold moveE moveE1 at h5;grind
  have h7:=List.any_eq_false.1 h4 m hmem
  simp at h7
  omega
 ·omega

end Go.Proofs.Ytgbecbnjokkfoaa
