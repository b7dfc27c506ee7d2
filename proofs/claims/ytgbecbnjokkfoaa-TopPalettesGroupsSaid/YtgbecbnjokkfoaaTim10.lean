import Derived.Test.YtgbecbnjokkfoaaTim9
namespace Go.Proofs.Ytgbecbnjokkfoaa
open Go.RowKit

def at9 : Val:=⟨0,9⟩
def slowC : Cue:=⟨⟨#[49]⟩,⟨#[]⟩,[⟨⟨1,0⟩,at9,1⟩,⟨⟨1,1⟩,at9,2⟩],[⟨1000,2000,500,0,0,0⟩,⟨3000,3000,3000,3000,3000,100⟩],false,false,-1,⟨#[]⟩,0⟩
theorem dot_one : dotAt ⟨#[49]⟩ = -1:=by decide
theorem numE_one : numE ⟨#[49]⟩ = 0:=by
 have h1 : whole ⟨#[49]⟩ = ⟨#[49]⟩:=by unfold whole;rw [dot_one];rfl
 have h2 : rest ⟨#[49]⟩ = ByteArray.empty:=by unfold rest;rw [dot_one];rfl
 have h3 : point ⟨#[49]⟩ = false:=by unfold point;rw [dot_one];rfl
 unfold numE digs
 rw [h1,h2,h3,Lib.toList_data]
 decide
theorem nextE_none (c : Cue) (h1 : c.follow = -1) (h2 : c.link = ⟨#[]⟩) (h3 : c.loops = 0) : nextE c = 0:=by
 unfold nextE
 rw [h1,h2,h3,Lib.toList_data]
 simp
theorem slow_ok : cueE slowC = 0:=by
 unfold cueE
 rw [show numE slowC.number = 0 from numE_one,nextE_none slowC rfl rfl rfl]
 decide
theorem slow_of1 : ofV slowC ⟨1,0⟩ true = (0,1000,0):=by
 unfold ofV givenE;rw [slow_ok];decide
theorem slow_of2 : ofV slowC ⟨1,0⟩ false = (0,2000,0):=by
 unfold ofV givenE;rw [slow_ok];decide
theorem slow_of3 : ofV slowC ⟨1,1⟩ true = (100,3000,0):=by
 unfold ofV givenE;rw [slow_ok];decide
theorem slow_of4 : ofV slowC ⟨2,2⟩ true = (0,500,0):=by
 unfold ofV givenE;rw [slow_ok];decide
theorem slow_total : totalV slowC = (3100,0):=by
 unfold totalV;rw [slow_ok];decide
theorem slow_scale : scaleV ⟨3000,3000,3000,3000,3000,100⟩ 200 = (⟨1500,1500,1500,1500,1500,50⟩,0):=by decide

theorem flat_at {α : Type} {size : Nat} : ∀ (rows : List (List α)) (_ : ∀ r ∈ rows,r.length = size) (i : Nat) (row : List α),rows[i]? = some row → ∀ j,j < size → rows.flatten[i * size + j]? = row[j]?
 | [],_,_,_,h,_,_ => by simp at h
 | r :: rs,hr,0,row,h,j,hj => by
  have h0 : r = row:=by simpa using h
  subst h0
  rw [List.flatten_cons,Nat.zero_mul,Nat.zero_add,List.getElem?_append_left (by rw [hr r (by simp)];exact hj)]
 | r :: rs,hr,i + 1,row,h,j,hj => by
  have hl:=hr r (by simp)
  rw [List.flatten_cons,List.getElem?_append_right (by rw [hl,Nat.succ_mul];omega),hl,show (i + 1) * size + j - size = i * size + j by rw [Nat.succ_mul];omega]
  exact flat_at rs (fun x hx => hr x (by simp [hx])) i row (by simpa using h) j hj
theorem Sl.alloc {w : World} {size : Nat} {rows : List (List Value)} {T : TypeId} (h : ∀ r ∈ rows,r.length = size) : Sl (w.alloc (.cells rows.flatten.toArray T)) (some ⟨w.heap.size,0,none⟩) size rows :=
 ⟨fun i row hr => ⟨h row (List.mem_of_getElem? hr),w.heap.size,0,rfl,fun j v hv => by
  have hj : j < size:=by rw [← h row (List.mem_of_getElem? hr)];exact (List.getElem?_eq_some_iff.1 hv).1
  have:=flat_at rows h i row hr j hj
  simp only [Nat.zero_add]
  unfold World.cell?
  rw [World.alloc_heap_new]
  simp [this,hv]⟩⟩
theorem Sl.alloc' {w : World} {n size : Nat} {cells : Array Value} {rows : List (List Value)} {T : TypeId} (hs : w.heap.size = n) (hc : cells = rows.flatten.toArray) (h : ∀ r ∈ rows,r.length = size) : Sl (w.alloc (.cells cells T)) (some ⟨n,0,none⟩) size rows:=by
 subst hs hc;exact Sl.alloc h

end Go.Proofs.Ytgbecbnjokkfoaa
