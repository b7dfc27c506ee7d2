import Derived.Test.YtgbecbnjokkfoaaMerge
import Derived.Test.YtgbecbnjokkfoaaDel
namespace Go.Proofs.Ytgbecbnjokkfoaa
open Go.RowKit

def hasP (ps : List Param) (p : Param) : Bool:=ps.any fun q => decide (p = q)

def idxQ {α : Type} (q : α → Bool) (l : List α) : Int:=match l.findIdx? q with | some i => i | none => -1
theorem idxQ_at {α : Type} {q : α → Bool} {l : List α} {j : Nat} {x : α} (hx : l[j]? = some x) (hq : q x = true) (hn : (l.take j).all (fun y => !q y) = true) : idxQ q l = j:=by
 unfold idxQ
 obtain ⟨hj,hxe⟩:=List.getElem?_eq_some_iff.1 hx
 rw [show l.findIdx? q = some j by
  rw [List.findIdx?_eq_some_iff_getElem]
  refine ⟨hj,by rw [hxe];exact hq,fun k hk => ?_⟩
  have:=List.all_eq_true.1 hn l[k] (by rw [List.mem_iff_getElem];exact ⟨k,by rw [List.length_take];omega,by rw [List.getElem_take]⟩)
  simpa using this]
theorem idxQ_none {α : Type} {q : α → Bool} {l : List α} (hn : l.all (fun y => !q y) = true) : idxQ q l = -1:=by
 unfold idxQ
 rw [List.findIdx?_eq_none_iff.2 (fun x hx => by have:=List.all_eq_true.1 hn x hx;simpa using this)]
theorem idxQ_cases {α : Type} (q : α → Bool) (l : List α) : (idxQ q l = -1 ∧ l.filter (fun x => !q x) = l) ∨ ∃ i : Nat,idxQ q l = i ∧ i < l.length ∧ Deleting q l l i (i + 1):=by
 unfold idxQ
 cases h : l.findIdx? q with
 | none =>
  left
  rw [List.findIdx?_eq_none_iff] at h
  exact ⟨rfl,List.filter_eq_self.2 fun x hx => by rw [h x hx];rfl⟩
 | some i =>
  right
  obtain ⟨hlt,hp,hj⟩:=List.findIdx?_eq_some_iff_getElem.1 h
  refine ⟨i,rfl,hlt,rfl,?_,rfl,by omega⟩
  rw [List.take_succ_eq_append_getElem hlt,List.filter_append]
  have : (l.take i).filter (fun x => !q x) = l.take i:=List.filter_eq_self.2 fun x hx => by
   obtain ⟨k,hk,rfl⟩:=List.getElem_of_mem hx
   rw [List.length_take] at hk
   rw [List.getElem_take]
   have:=hj k (by omega)
   simpa using this
  rw [this]
  simp [hp]
end Go.Proofs.Ytgbecbnjokkfoaa

namespace Go.Proofs.Ytgbecbnjokkfoaa
open Go.RowKit

def RetSl' (w0 : World) (o : List Move) (e : Ending) (w' : World) : Prop:=∃ A k,e = .returned (.slice A o.length k) ∧ Ext w0 w' ∧ Own w0 w' 60 5 A o.length k (o.map mv)

end Go.Proofs.Ytgbecbnjokkfoaa
