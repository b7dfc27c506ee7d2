import Derived.Test.YtgbecbnjokkfoaaIMap
namespace Go.Proofs.Ytgbecbnjokkfoaa
open Go.RowKit

def usedB (l : List Move) (n : Int) : Bool:=l.any fun m => m.part == n
def keepB (l : List Move) (i : Nat) : Bool:=i == 0 || usedB l ((i : Int) + 1)
def cntP (l : List Move) (j : Nat) : Nat:=((List.range j).filter (keepB l)).length
def packT (l : List Move) (ts : List Timing) (j : Nat) : List Timing:=((List.range j).filter (keepB l)).filterMap fun i => ts[i]?
def packM (l : List Move) (k : List Move) : List Move:=k.map fun m => { m with part:=(cntP l m.part.toNat : Int) }
def packV (c : Cue) : Cue × Int:=if cueE c ≠ 0 then (emptyC,cueE c) else ({ c with moves:=packM c.moves c.moves,parts:=packT c.moves c.parts c.parts.length },0)
theorem cntP_step (l : List Move) (j : Nat) : cntP l (j + 1) = cntP l j + if keepB l j then 1 else 0:=by
 unfold cntP
 rw [List.range_succ,List.filter_append,List.length_append]
 cases h : keepB l j <;> simp [h]
theorem packT_step (l : List Move) {ts : List Timing} {j : Nat} {t : Timing} (h : ts[j]? = some t) : packT l ts (j + 1) = packT l ts j ++ if keepB l j then [t] else []:=by
 unfold packT
 rw [List.range_succ,List.filter_append,List.filterMap_append]
 cases hk : keepB l j <;> simp [hk,h]
theorem packT_len (l : List Move) (ts : List Timing) : ∀ j,j ≤ ts.length → (packT l ts j).length = cntP l j
 | 0,_ => rfl
 | j + 1,h => by
  rw [packT_step l (List.getElem?_eq_getElem (show j < ts.length by omega)),cntP_step,List.length_append,packT_len l ts j (by omega)]
  cases keepB l j <;> simp
theorem cntP_le (l : List Move) : ∀ j,cntP l j ≤ j
 | 0 => Nat.le_refl _
 | j + 1 => by
  rw [cntP_step]
  have:=cntP_le l j
  split <;> omega
def PackF (l : List Move) (j : Nat) (f : Int → Int) : Prop:=∀ m ∈ l,1 ≤ m.part → m.part ≤ (j : Int) → f m.part = (cntP l m.part.toNat : Int)
theorem PackF.start (l : List Move) (f : Int → Int) : PackF l 0 f:=fun m _ h1 h2 => by omega
theorem PackF.put {l : List Move} {j : Nat} {f : Int → Int} (h : PackF l j f) (hk : keepB l j = true) : PackF l (j + 1) (fun q => if q = (j : Int) + 1 then ((cntP l j + 1 : Nat) : Int) else f q):=fun m hm h1 h2 => by
 by_cases hq : m.part = (j : Int) + 1
 ·show (if m.part = (j : Int) + 1 then _ else f m.part) = _
  rw [if_pos hq,hq,show ((j : Int) + 1).toNat = j + 1 by omega,cntP_step,hk];rfl
 ·show (if m.part = (j : Int) + 1 then _ else f m.part) = _
  rw [if_neg hq];exact h m hm h1 (by omega)
theorem PackF.skip {l : List Move} {j : Nat} {f : Int → Int} (h : PackF l j f) (hk : usedB l ((j : Int) + 1) = false) : PackF l (j + 1) f:=fun m hm h1 h2 => by
 by_cases hq : m.part = (j : Int) + 1
 ·have:=List.any_eq_false.1 hk m hm
  simp [hq] at this
 ·exact h m hm h1 (by omega)
theorem packM_step {l k : List Move} {j : Nat} {m : Move} (h : k[j]? = some m) : (packM l (k.take j) ++ k.drop j).set j { m with part:=(cntP l m.part.toNat : Int) } = packM l (k.take (j + 1)) ++ k.drop (j + 1):=by
 obtain ⟨hk,hm⟩:=List.getElem?_eq_some_iff.1 h
 have hl : (packM l (k.take j)).length = j:=by simp [packM];omega
 rw [List.set_append_right _ _ (by omega),hl,Nat.sub_self,List.drop_eq_getElem_cons hk,List.set_cons_zero,List.take_succ_eq_append_getElem hk]
 simp [packM,hm]
end Go.Proofs.Ytgbecbnjokkfoaa

namespace Go.Proofs.Ytgbecbnjokkfoaa
open Go.RowKit

theorem packM_len (l k : List Move) : (packM l k).length = k.length:=by simp [packM]
theorem used_hit {l : List Move} {k : Nat} {m : Move} (h : l[k]? = some m) {n : Int} (he : m.part = n) : usedB l n = true :=
 List.any_eq_true.2 ⟨m,List.mem_of_getElem? h,by simp [he]⟩
theorem used_miss {l : List Move} {n : Int} (h : l.all (fun m => !decide (m.part = n)) = true) : usedB l n = false:=by
 unfold usedB
 rw [List.any_eq_false]
 intro m hm
 have:=List.all_eq_true.1 h m hm
 simpa using this
theorem keep_zero (l : List Move) : keepB l 0 = true:=rfl
theorem keep_pos (l : List Move) {j : Nat} (h : j ≠ 0) : keepB l j = usedB l ((j : Int) + 1):=by
 unfold keepB
 simp [h]
theorem parts_in {c : Cue} (h : cueE c = 0) : ∀ x ∈ c.moves,1 ≤ x.part ∧ x.part ≤ (c.parts.length : Int):=fun x hx => by
 have h1:=((okM_iff _).1 (movesE_scan (cueE_ok h).2.2.1).2).1 x hx
 have h2:=(cueE_ok h).2.2.2.1
 constructor
 ·unfold moveE1 at h1
  split at h1
  ·contradiction
  ·split at h1
   ·contradiction
   ·split at h1
    ·simp at h1
    ·omega
 ·unfold partsE at h2
  split at h2
  ·contradiction
  ·split at h2
   ·simp at h2
   ·rename_i h3
    have h4 : (c.moves.any fun m => decide ((c.parts.length : Int) < m.part)) = false:=by simpa using h3
    have:=(List.any_eq_false.1 h4) x hx
    simpa using this
theorem tmg_app (o : List Timing) (x : Timing) : o.map tmg ++ [tmg x] = (o ++ [x]).map tmg:=by simp

def packC (c : Cue) : Cue:={ c with moves:=packM c.moves c.moves,parts:=packT c.moves c.parts c.parts.length }
theorem packV_ok {c : Cue} (h : cueE c = 0) : packV c = (packC c,0):=by unfold packV;rw [if_neg (by simpa using h)];rfl
end Go.Proofs.Ytgbecbnjokkfoaa
