import Derived.Test.YtgbecbnjokkfoaaFind
namespace Go.Proofs.Ytgbecbnjokkfoaa
open Go.RowKit

def putGo (m : Move) : Bool → List Move → List Move
 | d,[] => if d then [] else [m]
 | d,x :: l => (if !d && !before x.p m.p then [m] else []) ++ ((if x.p = m.p then [] else [x]) ++ putGo m (d || !before x.p m.p) l)
def putL (l : List Move) (m : Move) : List Move:=l.takeWhile (fun n => before n.p m.p) ++ m :: (l.dropWhile (fun n => before n.p m.p)).filter (fun n => decide (n.p ≠ m.p))
theorem putGo_true (m : Move) : ∀ l : List Move,putGo m true l = l.filter (fun n => decide (n.p ≠ m.p))
 | [] => rfl
 | x :: l => by
  simp only [putGo,Bool.not_true,Bool.false_and,Bool.true_or,List.filter_cons,Bool.false_eq_true,if_false,List.nil_append]
  rw [putGo_true m l]
  by_cases h : x.p = m.p <;> simp [h]
theorem putGo_eq (m : Move) : ∀ l : List Move,putGo m false l = putL l m
 | [] => rfl
 | x :: l => by
  by_cases hb : before x.p m.p = true
  ·have hne : x.p ≠ m.p:=fun e => by rw [e,before_irrefl] at hb;cases hb
   simp only [putGo,hb,Bool.not_true,Bool.and_false,Bool.or_false,if_neg hne,Bool.false_eq_true,if_false,List.nil_append]
   rw [putGo_eq m l]
   simp [putL,hb]
  ·have hb' : before x.p m.p = false:=by simpa using hb
   simp only [putGo,hb',Bool.not_false,Bool.and_true,Bool.or_true,if_true]
   rw [putGo_true]
   simp only [putL,List.takeWhile_cons,List.dropWhile_cons,hb',Bool.false_eq_true,if_false,List.filter_cons]
   by_cases h : x.p = m.p <;> simp [h]
theorem putL_len (l : List Move) (m : Move) : (putL l m).length ≤ l.length + 1:=by
 unfold putL
 rw [List.length_append,List.length_cons]
 have h1:=(List.filter_sublist (p:=fun n : Move => decide (n.p ≠ m.p)) (l:=l.dropWhile fun n => before n.p m.p)).length_le
 have h2:=congrArg List.length (List.takeWhile_append_dropWhile (p:=fun n : Move => before n.p m.p) (l:=l))
 rw [List.length_append] at h2
 omega

theorem tw_mem {α : Type} (q : α → Bool) : ∀ (l : List α),∀ a ∈ l.takeWhile q,q a = true
 | [],a,h => by simp at h
 | x :: l,a,h => by
  rw [List.takeWhile_cons] at h
  split at h
  ·rename_i hx
   rcases List.mem_cons.1 h with rfl | h
   ·exact hx
   ·exact tw_mem q l a h
  ·simp at h
theorem tw_take {α : Type} (q : α → Bool) : ∀ (l : List α),l.takeWhile q = l.take (l.takeWhile q).length
 | [] => by simp
 | x :: l => by
  rw [List.takeWhile_cons]
  split
  ·rw [List.length_cons,List.take_succ_cons,← tw_take q l]
  ·simp
theorem dw_drop {α : Type} (q : α → Bool) : ∀ (l : List α),l.dropWhile q = l.drop (l.takeWhile q).length
 | [] => by simp
 | x :: l => by
  rw [List.takeWhile_cons,List.dropWhile_cons]
  split
  ·rw [List.length_cons,List.drop_succ_cons,← dw_drop q l]
  ·simp
def okM (l : List Move) : Prop:=(∀ m ∈ l,moveE1 m = 0) ∧ l.Pairwise fun a b => before a.p b.p = true
theorem okM_iff (l : List Move) : scan moveE none l = 0 ↔ okM l:=by
 constructor
 ·intro h
  refine ⟨fun m hm => ?_,?_⟩
  ·obtain ⟨i,hi,rfl⟩:=List.getElem_of_mem hm
   have:=scan_ok moveE l h i _ (List.getElem?_eq_getElem hi)
   unfold moveE at this
   split at this
   ·contradiction
   ·rename_i h2;simpa using h2
  ·rw [List.pairwise_iff_getElem]
   intro i j hi hj hij
   exact movesOk_lt h (j - i - 1) i _ _ (List.getElem?_eq_getElem hi) (by rw [show i + (j - i - 1) + 1 = j by omega];exact List.getElem?_eq_getElem hj)
 ·intro ⟨h1,h2⟩
  refine scan_zero moveE l fun k x hx => ?_
  obtain ⟨hk,hxe⟩:=List.getElem?_eq_some_iff.1 hx
  have e1:=h1 x (List.mem_of_getElem? hx)
  unfold moveE
  rw [if_neg (by omega)]
  cases k with
  | zero => rfl
  | succ k =>
   rw [prv_succ,List.getElem?_eq_getElem (by omega : k < l.length)]
   rw [List.pairwise_iff_getElem] at h2
   have:=h2 k (k + 1) (by omega) hk (by omega)
   simp only [hxe] at this
   simp [this]
theorem drop_not {l : List Move} (h : l.Pairwise fun a b => before a.p b.p = true) (p : Param) : ∀ b ∈ l.dropWhile (fun n => before n.p p),before b.p p = false:=by
 induction l with
 | nil => simp
 | cons x l ih =>
  rw [List.pairwise_cons] at h
  rw [List.dropWhile_cons]
  split
  ·exact ih h.2
  ·rename_i hx
   have hx' : before x.p p = false:=by simpa using hx
   intro b hb
   rcases List.mem_cons.1 hb with rfl | hb
   ·exact hx'
   ·rw [Bool.eq_false_iff]
    intro hbp
    rw [before_trans (h.1 b hb) hbp] at hx'
    cases hx'
theorem okM_put {l : List Move} (h : okM l) {m : Move} (hm : moveE1 m = 0) : okM (putL l m):=by
 obtain ⟨h1,h2⟩:=h
 have hT:=(List.takeWhile_sublist (fun n : Move => before n.p m.p) (l:=l))
 have hD:=(List.dropWhile_sublist (fun n : Move => before n.p m.p) (l:=l))
 have hF:=(List.filter_sublist (p:=fun n : Move => decide (n.p ≠ m.p)) (l:=l.dropWhile fun n => before n.p m.p)).trans hD
 have hTb : ∀ a ∈ l.takeWhile (fun n => before n.p m.p),before a.p m.p = true:=fun a ha => tw_mem _ _ a ha
 have hFb : ∀ b ∈ (l.dropWhile (fun n => before n.p m.p)).filter (fun n => decide (n.p ≠ m.p)),before m.p b.p = true:=fun b hb => by
  obtain ⟨hb1,hb2⟩:=List.mem_filter.1 hb
  rcases before_total (drop_not h2 m.p b hb1) with h3 | h3
  ·exact h3
  ·simp at hb2;exact absurd h3 hb2
 refine ⟨fun a ha => ?_,?_⟩
 ·unfold putL at ha
  rcases List.mem_append.1 ha with ha | ha
  ·exact h1 a (hT.subset ha)
  ·rcases List.mem_cons.1 ha with rfl | ha
   ·exact hm
   ·exact h1 a (hF.subset ha)
 ·unfold putL
  rw [List.pairwise_append,List.pairwise_cons]
  refine ⟨h2.sublist hT,⟨hFb,h2.sublist hF⟩,fun a ha b hb => ?_⟩
  rcases List.mem_cons.1 hb with rfl | hb
  ·exact hTb a ha
  ·exact before_trans (hTb a ha) (hFb b hb)
theorem putL_found {l : List Move} (h : okM l) (m : Move) (hf : foundP l m.p = true) : putL l m = l.set (posP l m.p) m ∧ posP l m.p < l.length:=by
 have hs:=(okM_iff l).2 h
 obtain ⟨x,hx,hxp,_⟩ : ∃ x,l[posP l m.p]? = some x ∧ x.p = m.p ∧ True:=by
  unfold foundP at hf
  split at hf
  ·rename_i x hx;exact ⟨x,hx,by simpa using hf,trivial⟩
  ·cases hf
 obtain ⟨hlt,hxe⟩:=List.getElem?_eq_some_iff.1 hx
 refine ⟨?_,hlt⟩
 have htake : l.takeWhile (fun n => before n.p m.p) = l.take (posP l m.p):=tw_take _ l
 have hdrop : l.dropWhile (fun n => before n.p m.p) = l.drop (posP l m.p):=dw_drop _ l
 have hd : l.drop (posP l m.p) = x :: l.drop (posP l m.p + 1):=by rw [List.drop_eq_getElem_cons hlt,hxe]
 have hrest : (l.drop (posP l m.p + 1)).filter (fun n => decide (n.p ≠ m.p)) = l.drop (posP l m.p + 1):=by
  rw [List.filter_eq_self]
  intro b hb
  have hp:=h.2.sublist (List.drop_sublist (posP l m.p) l)
  rw [hd,List.pairwise_cons] at hp
  have:=hp.1 b hb
  simp only [decide_eq_true_eq]
  intro e
  rw [hxp,e,before_irrefl] at this
  cases this
 unfold putL
 rw [htake,hdrop,hd,List.filter_cons,if_neg (by simp [hxp]),hrest,List.set_eq_take_append_cons_drop,if_pos hlt]
theorem putL_new {l : List Move} (h : okM l) (m : Move) (hf : foundP l m.p = false) : putL l m = l.take (posP l m.p) ++ m :: l.drop (posP l m.p):=by
 have hs:=(okM_iff l).2 h
 have htake : l.takeWhile (fun n => before n.p m.p) = l.take (posP l m.p):=tw_take _ l
 have hdrop : l.dropWhile (fun n => before n.p m.p) = l.drop (posP l m.p):=dw_drop _ l
 unfold putL
 rw [htake,hdrop]
 congr 2
 rw [List.filter_eq_self]
 intro b hb
 simp only [decide_eq_true_eq]
 intro e
 have hlt : posP l m.p < l.length:=by
  have:=List.length_pos_of_mem hb
  rw [List.length_drop] at this;omega
 have hd : l.drop (posP l m.p) = l[posP l m.p] :: l.drop (posP l m.p + 1):=List.drop_eq_getElem_cons hlt
 have hx0 : l[posP l m.p].p ≠ m.p:=by
  unfold foundP at hf
  rw [List.getElem?_eq_getElem hlt] at hf
  simpa using hf
 rw [hd] at hb
 rcases List.mem_cons.1 hb with rfl | hb
 ·exact hx0 e
 ·have hp:=h.2.sublist (List.drop_sublist (posP l m.p) l)
  rw [hd,List.pairwise_cons] at hp
  have h1:=hp.1 b hb
  rw [e] at h1
  have h2:=(posP_iff hs m.p (List.getElem?_eq_getElem hlt)).1 h1
  omega
def mergeL (a b : List Move) : List Move:=b.foldl putL a
theorem mergeL_ok {a b : List Move} (ha : okM a) (hb : ∀ m ∈ b,moveE1 m = 0) : okM (mergeL a b):=by
 unfold mergeL
 induction b generalizing a with
 | nil => exact ha
 | cons x b ih => exact ih (okM_put ha (hb x (by simp))) (fun m hm => hb m (by simp [hm]))
theorem mergeL_len (a b : List Move) : (mergeL a b).length ≤ a.length + b.length:=by
 unfold mergeL
 induction b generalizing a with
 | nil => simp
 | cons x b ih =>
  have h1:=ih (putL a x)
  have h2:=putL_len a x
  simp only [List.foldl_cons,List.length_cons]
  omega
theorem mergeL_step (a : List Move) {b : List Move} {k : Nat} {m : Move} (h : b[k]? = some m) : mergeL a (b.take (k + 1)) = putL (mergeL a (b.take k)) m:=by
 obtain ⟨hk,hx⟩:=List.getElem?_eq_some_iff.1 h
 unfold mergeL
 rw [List.take_succ_eq_append_getElem hk,List.foldl_append,hx];rfl
def mergedV (a b : List Move) : List Move × Int:=if 128 < (mergeL a b).length then ([],5) else (mergeL a b,0)
def mergeV (a b : List Move) : List Move × Int:=if movesE a ≠ 0 then ([],movesE a) else if movesE b ≠ 0 then ([],movesE b) else mergedV a b
end Go.Proofs.Ytgbecbnjokkfoaa
