import Derived.Test.YtgbecbnjokkfoaaGflt
import Derived.Test.YtgbecbnjokkfoaaPalLaw
import Derived.Test.YtgbecbnjokkfoaaPal9
import Derived.Test.YtgbecbnjokkfoaaAssoc
namespace Go.Proofs.Ytgbecbnjokkfoaa
open Go.RowKit

def lkU (ch lv : List Int) : Nat → Int → Option Int
 | 0 => fun _ => none
 | j + 1 => fun q => if q = ch.getD j 0 then some (lv.getD j 0) else lkU ch lv j q
theorem lkU_some {ch lv : List Int} : ∀ {j : Nat} {q v : Int},lkU ch lv j q = some v → ∃ i,i < j ∧ ch.getD i 0 = q ∧ lv.getD i 0 = v
 | 0,_,_,h => by cases h
 | j + 1,q,v,h => by
  unfold lkU at h
  split at h
  ·rename_i hq;injection h with h;exact ⟨j,by omega,hq.symm,h⟩
  ·obtain ⟨i,h1,h2,h3⟩:=lkU_some h;exact ⟨i,by omega,h2,h3⟩
theorem lkU_at {ch lv : List Int} (hd : ch.Nodup) : ∀ {j i : Nat},i < j → j ≤ ch.length → lkU ch lv j (ch.getD i 0) = some (lv.getD i 0)
 | 0,_,h,_ => by omega
 | j + 1,i,h,hj => by
  unfold lkU
  by_cases hi : i = j
  ·subst hi;rw [if_pos rfl]
  ·rw [if_neg,lkU_at hd (by omega) (by omega)]
   intro e
   rw [List.getD_eq_getElem?_getD,List.getD_eq_getElem?_getD,List.getElem?_eq_getElem (by omega),List.getElem?_eq_getElem (by omega)] at e
   rw [List.Nodup,List.pairwise_iff_getElem] at hd
   exact hd i j (by omega) (by omega) (by omega) e
def ups (f : Int → Option Int) : Nat → List (Int × Int)
 | 0 => []
 | k + 1 => ups f k ++ (match f ((k : Int) + 1) with | some v => [((k : Int) + 1,v)] | none => [])
theorem ups_yes {f : Int → Option Int} {k : Nat} {v : Int} (h : f ((k : Int) + 1) = some v) : ups f (k + 1) = ups f k ++ [((k : Int) + 1,v)]:=by
 show ups f k ++ _ = _;rw [h]
theorem ups_no {f : Int → Option Int} {k : Nat} (h : f ((k : Int) + 1) = none) : ups f (k + 1) = ups f k:=by
 show ups f k ++ _ = _;rw [h];simp
theorem ups_mem (f : Int → Option Int) : ∀ (k : Nat) (p : Int × Int),p ∈ ups f k ↔ 1 ≤ p.1 ∧ p.1 ≤ k ∧ f p.1 = some p.2
 | 0,p => by simp [ups];omega
 | k + 1,p => by
  cases h : f ((k : Int) + 1) with
  | none =>
   rw [ups_no h,ups_mem f k p]
   constructor
   ·rintro ⟨a,b,c⟩;exact ⟨a,by omega,c⟩
   ·rintro ⟨a,b,c⟩
    refine ⟨a,?_,c⟩
    by_cases h1 : (k : Int) < p.1
    ·have : p.1 = (k : Int) + 1:=by omega
     rw [this,h] at c;cases c
    ·omega
  | some v =>
   rw [ups_yes h,List.mem_append,ups_mem f k p,List.mem_singleton]
   constructor
   ·rintro (⟨a,b,c⟩ | rfl)
    ·exact ⟨a,by omega,c⟩
    ·exact ⟨by simp only [];omega,by simp only [];omega,h⟩
   ·rintro ⟨a,b,c⟩
    by_cases h1 : (k : Int) < p.1
    ·have e : p.1 = (k : Int) + 1:=by omega
     right
     rw [e,h] at c
     injection c with c
     obtain ⟨x,y⟩:=p
     simp only at e c
     rw [e,c]
    ·exact .inl ⟨a,by omega,c⟩
theorem ups_sorted (f : Int → Option Int) : ∀ k : Nat,(ups f k).Pairwise fun a b => a.1 < b.1
 | 0 => List.Pairwise.nil
 | k + 1 => by
  cases h : f ((k : Int) + 1) with
  | none => rw [ups_no h];exact ups_sorted f k
  | some v =>
   rw [ups_yes h,List.pairwise_append]
   refine ⟨ups_sorted f k,by simp,fun a ha b hb => ?_⟩
   obtain rfl:=List.mem_singleton.1 hb
   have:=((ups_mem f k a).1 ha).2.1
   simp only [];omega
theorem nodup_le : ∀ (a b : List Int),a.Nodup → (∀ x ∈ a,x ∈ b) → a.length ≤ b.length
 | [],_,_,_ => Nat.zero_le _
 | x :: a,b,hd,hs => by
  rw [List.nodup_cons] at hd
  have hx:=hs x (by simp)
  have h:=nodup_le a (b.erase x) hd.2 (fun z hz => (List.mem_erase_of_ne (by rintro rfl;exact hd.1 hz)).2 (hs z (by simp [hz])))
  rw [List.length_erase_of_mem hx] at h
  have:=List.length_pos_of_mem hx
  simp only [List.length_cons];omega
theorem ups_len {ch lv : List Int} (k : Nat) : (ups (lkU ch lv ch.length) k).length ≤ ch.length:=by
 have h:=nodup_le ((ups (lkU ch lv ch.length) k).map (·.1)) ch (by
  rw [List.Nodup,List.pairwise_map]
  exact (ups_sorted _ k).imp (fun h e => by rw [e] at h;omega)) (fun x hx => by
  obtain ⟨p,hp,rfl⟩:=List.mem_map.1 hx
  obtain ⟨i,h1,h2,-⟩:=lkU_some ((ups_mem _ k p).1 hp).2.2
  rw [← h2,List.getD_eq_getElem?_getD,List.getElem?_eq_getElem h1]
  exact List.getElem_mem h1)
 simpa using h

def hueOf (p : Int × Int) : Hue:=⟨⟨p.1,1⟩,p.2⟩
def entOf (p : Int × Int) : Entry:=⟨⟨p.1,1⟩,⟨7,0⟩⟩
def movOf (p : Int × Int) : Move:=⟨⟨p.1,1⟩,⟨7,0⟩,1⟩
theorem fan_param {c : Int} (h1 : 1 ≤ c) (h2 : c ≤ 999) : paramE ⟨c,1⟩ = 0:=by
 unfold paramE;rw [if_neg (by simp only [];omega)]
structure Fanned (us : List (Int × Int)) : Prop where
 srt : us.Pairwise fun a b => a.1 < b.1
 rng : ∀ p ∈ us,1 ≤ p.1 ∧ p.1 ≤ 999 ∧ 0 ≤ p.2 ∧ p.2 ≤ 65535
 len : us.length ≤ 60
theorem Fanned.of {ch lv : List Int} (hn : ch.length ≤ 60) (hl : lv.length = ch.length) (hv : ∀ v ∈ lv,0 ≤ v ∧ v ≤ 65535) : Fanned (ups (lkU ch lv ch.length) 999):=by
 refine ⟨ups_sorted _ _,fun p hp => ?_,Nat.le_trans (ups_len 999) hn⟩
 obtain ⟨h1,h2,h3⟩:=(ups_mem _ 999 p).1 hp
 obtain ⟨i,h4,-,h6⟩:=lkU_some h3
 have:=hv p.2 (by rw [← h6,List.getD_eq_getElem?_getD,List.getElem?_eq_getElem (by omega)];exact List.getElem_mem (by omega))
 exact ⟨h1,by omega,this.1,this.2⟩
section
variable {us : List (Int × Int)} (h : Fanned us)
include h
theorem Fanned.next {k : Nat} {p : Int × Int} (hp : us[k + 1]? = some p) : ∃ q,us[k]? = some q ∧ q.1 < p.1:=by
 obtain ⟨hk,rfl⟩:=List.getElem?_eq_some_iff.1 hp
 refine ⟨us[k],List.getElem?_eq_getElem (by omega),?_⟩
 have:=h.srt
 rw [List.pairwise_iff_getElem] at this
 exact this k (k + 1) (by omega) hk (by omega)
theorem Fanned.hues : huesE (us.map hueOf) = 0:=by
 unfold huesE
 rw [if_neg (by rw [List.length_map];have:=h.len;omega)]
 refine scan_zero hueE _ fun k x hx => ?_
 rw [List.getElem?_map] at hx
 obtain ⟨p,hp,rfl⟩:=Option.map_eq_some_iff.1 hx
 have hr:=h.rng p (List.mem_of_getElem? hp)
 have e1 : hueE1 (hueOf p) = 0:=by
  unfold hueE1 hueOf levB paramE0
  simp only []
  rw [if_pos (by simp;omega),if_neg (by omega)]
 unfold hueE
 rw [if_neg (by rw [e1];simp)]
 cases k with
 | zero => rfl
 | succ k =>
  obtain ⟨q,hq,hlt⟩:=h.next hp
  rw [prv_succ,List.getElem?_map,hq]
  simp [hueOf,before];omega
theorem Fanned.ents : entriesE (us.map entOf) = 0:=by
 unfold entriesE
 rw [if_neg (by rw [List.length_map];have:=h.len;omega)]
 refine scan_zero entryE _ fun k x hx => ?_
 rw [List.getElem?_map] at hx
 obtain ⟨p,hp,rfl⟩:=Option.map_eq_some_iff.1 hx
 have hr:=h.rng p (List.mem_of_getElem? hp)
 have e1 : entryE1 (entOf p) = 0:=by
  show (if paramE ⟨p.1,1⟩ ≠ 0 then paramE ⟨p.1,1⟩ else valueE ⟨7,0⟩) = 0
  rw [fan_param hr.1 hr.2.1,show valueE ⟨7,0⟩ = 0 by decide]
  simp
 unfold entryE
 rw [if_neg (by rw [e1];simp)]
 cases k with
 | zero => rfl
 | succ k =>
  obtain ⟨q,hq,hlt⟩:=h.next hp
  rw [prv_succ,List.getElem?_map,hq]
  simp [entOf,before];omega
theorem Fanned.okM : okM (us.map movOf):=by
 refine ⟨fun m hm => ?_,?_⟩
 ·obtain ⟨p,hp,rfl⟩:=List.mem_map.1 hm
  have hr:=h.rng p hp
  show (if paramE ⟨p.1,1⟩ ≠ 0 then paramE ⟨p.1,1⟩ else if valueE ⟨7,0⟩ ≠ 0 then valueE ⟨7,0⟩ else if (1 : Int) < 1 ∨ (4 : Int) < 1 then 2 else 0) = 0
  rw [fan_param hr.1 hr.2.1,show valueE ⟨7,0⟩ = 0 by decide]
  simp
 ·rw [List.pairwise_map]
  exact h.srt.imp (fun h => by simp [movOf,before];omega)
theorem Fanned.moves : movesE (us.map movOf) = 0:=by
 unfold movesE
 rw [if_neg (by rw [List.length_map];have:=h.len;omega)]
 exact (okM_iff _).2 h.okM
theorem Fanned.cue : cueE (oneC (us.map movOf)) = 0:=one_ok _ h.moves (by
 unfold partsE
 have e : timesE (oneC (us.map movOf)).parts = 0:=by show timesE [⟨0,0,0,0,0,0⟩] = 0;decide
 rw [if_neg (by rw [e];simp),if_neg]
 rw [Bool.not_eq_true,List.any_eq_false]
 intro m hm
 obtain ⟨p,-,rfl⟩:=List.mem_map.1 hm
 simp [movOf,oneC])
theorem Fanned.set : csetV (oneC []) (us.map entOf) 1 = (oneC (us.map movOf),0):=by
 have e0 : cueE (oneC []) = 0:=one_ok _ (by decide) (by decide)
 have e1 : givenM (us.map entOf) 1 = us.map movOf:=by simp [givenM,entOf,movOf]
 have e2 : mergedV (oneC []).moves (us.map movOf) = (us.map movOf,0):=by
  unfold mergedV
  show (if 128 < (mergeL [] (us.map movOf)).length then _ else (mergeL [] (us.map movOf),0)) = _
  rw [mergeL_nil h.okM,if_neg (by rw [List.length_map];have:=h.len;omega)]
 unfold csetV
 rw [if_neg (by rw [e0];simp),if_neg (by rw [h.ents];simp),if_neg (by show ¬ ((1 : Int) < 1 ∨ ((1 : Nat) : Int) < 1);omega),e1,e2,if_neg (by simp)]
 rfl
theorem Fanned.find {p : Int × Int} (hp : p ∈ us) : findV (oneC (us.map movOf)) ⟨p.1,1⟩ = ((posP (us.map movOf) ⟨p.1,1⟩ : Int),true,0) ∧ (us.map movOf)[posP (us.map movOf) ⟨p.1,1⟩]? = some (movOf p):=by
 obtain ⟨i,hi,rfl⟩:=List.getElem_of_mem hp
 have hok:=(okM_iff _).2 h.okM
 have hm : (us.map movOf)[i]? = some (movOf us[i]):=by rw [List.getElem?_map,List.getElem?_eq_getElem hi];rfl
 have hpos : posP (us.map movOf) ⟨us[i].1,1⟩ = i:=by
  have h1 : ¬ i < posP (us.map movOf) ⟨us[i].1,1⟩:=fun hlt => by
   have:=(posP_iff hok ⟨us[i].1,1⟩ hm).2 hlt
   rw [show (movOf us[i]).p = ⟨us[i].1,1⟩ from rfl,before_irrefl] at this
   cases this
  rcases Nat.lt_or_ge (posP (us.map movOf) ⟨us[i].1,1⟩) i with h2 | h2
  ·exfalso
   have h3 : posP (us.map movOf) ⟨us[i].1,1⟩ < (us.map movOf).length:=by rw [List.length_map];omega
   have h4:=h.okM.2
   rw [List.pairwise_iff_getElem] at h4
   have h5:=h4 _ i h3 (by rw [List.length_map];exact hi) h2
   rw [show (us.map movOf)[i]'(by rw [List.length_map];exact hi) = movOf us[i] from List.getElem_map _] at h5
   have:=(posP_iff hok ⟨us[i].1,1⟩ (List.getElem?_eq_getElem h3)).1 h5
   omega
  ·omega
 refine ⟨?_,by rw [hpos];exact hm⟩
 have hr:=h.rng us[i] (List.getElem_mem hi)
 have hf : foundP (us.map movOf) ⟨us[i].1,1⟩ = true:=by unfold foundP;rw [hpos,hm];simp [movOf]
 unfold findV
 rw [if_neg (by rw [h.cue];simp),if_neg (by rw [fan_param hr.1 hr.2.1];simp)]
 show (if foundP (us.map movOf) ⟨us[i].1,1⟩ = true then _ else _) = _
 rw [if_pos hf]
 rfl
def pal6 : Pal:=⟨6,[],none,0⟩
omit h in
theorem place6 (x : Pal) (hx : x.number = 7) : placeP [pal6] x = [pal6,x]:=by
 have hf : foundN [pal6] 7 = false:=by decide
 have hp : posN [pal6] 7 = 1:=by decide
 unfold placeP
 rw [hx,hf,hp,if_neg (by simp)]
 rfl
theorem Fanned.pal (A : Option Addr) (k : Nat) : palsE [⟨7,us.map hueOf,A,k⟩] = 0:=by
 rw [palsE_one 7 _ A k (by decide) (by decide)];exact h.hues
theorem Fanned.pals (A : Option Addr) (k : Nat) : palsE [pal6,⟨7,us.map hueOf,A,k⟩] = 0:=by
 have h1:=placeP_ok (l:=[pal6]) (x:=⟨7,us.map hueOf,A,k⟩) (by decide) (palsE_scan (h.pal A k)).2
 rw [place6 _ rfl] at h1
 unfold palsE
 rw [if_neg (by simp)]
 exact h1
theorem Fanned.level {p : Int × Int} (hp : p ∈ us) (A : Option Addr) (k : Nat) : levelV [pal6,⟨7,us.map hueOf,A,k⟩] ⟨7,0⟩ ⟨p.1,1⟩ 1 = (p.2,0):=by
 have hr:=h.rng p hp
 have hq:=h.pals A k
 have hh:=hueV_mem (palsE_scan hq).2 (a:=⟨7,us.map hueOf,A,k⟩) (n:=7) (by simp) rfl ⟨p.1,1⟩
 obtain ⟨i,hi,rfl⟩:=List.getElem_of_mem hp
 have ha:=hueAt_mem (huesE_scan h.hues).2 (i:=i) (a:=hueOf us[i]) (by rw [List.getElem?_map,List.getElem?_eq_getElem hi];rfl)
 have hin : hueIn (us.map hueOf) ⟨us[i].1,1⟩ = (us[i].2,true):=by
  unfold hueIn
  rw [show hueAt (us.map hueOf) ⟨us[i].1,1⟩ = some us[i].2 from ha]
 unfold levelV
 rw [if_neg (by rw [hq];simp),if_neg (by decide),if_neg (by rw [fan_param hr.1 hr.2.1];simp),if_neg (by decide),if_neg (by decide),hh,hin]
 rfl
end
end Go.Proofs.Ytgbecbnjokkfoaa
