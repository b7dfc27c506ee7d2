import Derived.Test.YtgbecbnjokkfoaaGins
import Derived.Test.YtgbecbnjokkfoaaPure
namespace Go.Proofs.Ytgbecbnjokkfoaa
open Go.RowKit

def zeroOne (P : Program) (E : TypeId) : Bool:=match P.info? E with
 | some i => (match i.zero with | some z => z.cells.all (·.oneCell') | none => false)
 | none => false
section
variable {P : Program} {W : World}
theorem zero_cells_one {z : Array Value} (h : z.all (·.oneCell') = true) (m : Nat) : ∀ v ∈ (Builtin.zeroCells z m).toList,v.oneCell' = true:=fun v hv => by
 unfold Builtin.zeroCells at hv
 simp only [Array.toList_map,Array.toList_range,List.mem_map,List.mem_range] at hv
 obtain ⟨j,hj,rfl⟩:=hv
 have hz : 0 < z.size:=by
  rcases Nat.eq_zero_or_pos z.size with h0 | h0
  ·rw [h0,Nat.mul_zero] at hj;omega
  ·exact h0
 have hlt:=Nat.mod_lt j hz
 rw [getElem!_pos z _ hlt]
 exact Array.all_eq_true.1 h _ hlt
theorem run_clear_blk (t ty E : TypeId) (i : TypeInfo) (z : Value) (size : Nat) (hu : P.underlying t = some (.slice E)) (hi : P.info? E = some i) (hz : i.zero = some z) (hzs : z.cells.size = size) (hz1 : z.cells.all (·.oneCell') = true)
  (g off m c : Nat) (cur : Array Value) (T : TypeId) (hg : W.heap[g]? = some (.cells cur T (0,0))) (hm : 0 < m) (hfit : off + m * size ≤ cur.size) :
  (Builtin.clear_ #[t] ty #[.slice (some ⟨g,off,none⟩) m c]).run P W = .ok (.tuple #[]) (W.setRow g (cur.toList.take off ++ (Builtin.zeroCells z.cells m).toList ++ cur.toList.drop (off + m * size)).toArray):=by
 have hl : (Builtin.zeroCells z.cells m).toList.length = m * size:=by rw [Array.length_toList,size_zeroCells,hzs]
 have hst:=run_storeCells_at P g off T (Builtin.zeroCells z.cells m).toList 0 cur W hg (by rw [hl];simpa using hfit) (zero_cells_one hz1 m)
 simp only [Nat.add_zero,hl] at hst
 cases m with
 | zero => omega
 | succ m => simp [Builtin.clear_,run_underlying hu,zeroValue,typeInfo,hi,hz,hst]

theorem wpList_clear_mine {ops : Array Oper} {rest : List Oper} {o : Oper} {a : Act} {Q : Exit → Act → World → Prop} (hgd : o.guard = none) (d : Operand) (t : TypeId) (ho : o.op = .call { callee:=.builtin .clear,args:=#[d],argTypes:=#[t] })
  (E : TypeId) (size bytes : Nat) (hu : P.underlying t = some (.slice E)) (hI : infoOk P E size bytes = true) (hZ : zeroOne P E = true) {w0 : World} (hx : Ext w0 W) (g n k i : Nat) (c : Nat) (rows : List (List Value)) (hown : Own w0 W E size (some ⟨g,0,none⟩) n k rows) (hin : i < n)
  (hd : a.eval d = .slice (some ⟨g,i * size,none⟩) (n - i) c)
  (h : ∀ w',Ext w0 w' → Own w0 w' E size (some ⟨g,0,none⟩) i k (rows.take i) → W.grownBy w' (some g) → wpList P ops Q rest (a.put o.dst (.tuple #[])) w') : wpList P ops Q (o :: rest) a W:=by
 obtain ⟨I,z,e1,e2,e3,_,e5⟩:=infoOk_get hI
 have hz1 : z.cells.all (·.oneCell') = true:=by
  unfold zeroOne at hZ
  rw [e1] at hZ
  simp only [e2] at hZ
  exact hZ
 rcases hown.at_ with h0 | ⟨g',cur,hA,hg0,hb,hcs,htk⟩
 ·have:=hown.le;omega
 injection hA with hA
 injection hA with hA
 subst hA
 have hfit : i * size + (n - i) * size ≤ cur.size:=by
  rw [hcs,← Nat.add_mul];exact Nat.mul_le_mul_right _ (by have:=hown.le;omega)
 have hr:=run_clear_blk (P:=P) (W:=W) t o.type E I z size hu e1 e2 e5 hz1 g (i * size) (n - i) c cur E hb (by omega) hfit
 refine wpList_plain hgd fun K hK => ?_
 unfold Oper.wp execOp
 simp only [ho,resolve,invoke,builtin,Sem.run_bind,Sem.run_pure,Result.andThen_ok,List.map_toArray,List.map_cons,List.map_nil,hd,hr]
 refine hK _ _ (h _ (below_setRow hx hg0 _) ⟨by rw [List.length_take,hown.len];omega,fun r hr => hown.row r (List.mem_of_mem_take hr),fun r hr => hown.one r (List.mem_of_mem_take hr),by have:=hown.le;omega,hown.cap,.inr ⟨g,_,rfl,hg0,setRow_heap W g cur _ E _ hb,?_,?_⟩⟩ ⟨rfl,rfl,rfl,by simp [World.setRow],fun j _ hne => setRow_other W g j _ (fun e => hne (by rw [e]))⟩)
 ·rw [List.size_toArray,len_splice3 _ _ _ _ (by rw [Array.length_toList,size_zeroCells,e5]) (by simpa using hfit)];simpa using hcs
 ·have hlen : (cur.toList.take (i * size)).length = i * size:=by rw [List.length_take,Array.length_toList];omega
  show (cur.toList.take (i * size) ++ _ ++ _).take (i * size) = _
  rw [List.append_assoc,List.take_append_of_le_length (by omega),List.take_of_length_le (by omega)]
  have hfl:=flat_get (size:=size) rows hown.row
  have e : cur.toList.take (i * size) = (cur.toList.take (n * size)).take (i * size):=by rw [List.take_take,Nat.min_eq_left (Nat.mul_le_mul_right _ (by omega))]
  rw [e,htk]
  have key : ∀ (rs : List (List Value)) (_ : ∀ r ∈ rs,r.length = size) (i : Nat),rs.flatten.take (i * size) = (rs.take i).flatten:=by
   intro rs
   induction rs with
   | nil => intro _ i;simp
   | cons r rs ih =>
    intro h i
    cases i with
    | zero => simp
    | succ i =>
     have hl:=h r (by simp)
     rw [List.flatten_cons,List.take_succ_cons,List.flatten_cons,← ih (fun x hx => h x (by simp [hx])) i,Nat.succ_mul,List.take_append,hl,List.take_of_length_le (by omega)]
     congr 2
     omega
  exact key rows hown.row i
end

structure Deleting {α : Type} (q : α → Bool) (l cur : List α) (i j : Nat) : Prop where
 len : cur.length = l.length
 kept : cur.take i = (l.take j).filter (fun x => !q x)
 left : cur.drop j = l.drop j
 le : i ≤ j
theorem Deleting.skip {α : Type} {q : α → Bool} {l cur : List α} {i j : Nat} (h : Deleting q l cur i j) {x : α} (hx : l[j]? = some x) (hq : q x = true) : Deleting q l cur i (j + 1):=by
 obtain ⟨hj,hxe⟩:=List.getElem?_eq_some_iff.1 hx
 refine ⟨h.len,?_,?_,by have:=h.le;omega⟩
 ·rw [h.kept,List.take_succ_eq_append_getElem hj,List.filter_append,hxe]
  simp [hq]
 ·have:=congrArg (List.drop 1) h.left
  simpa [List.drop_drop] using this
theorem Deleting.keep {α : Type} {q : α → Bool} {l cur : List α} {i j : Nat} (h : Deleting q l cur i j) {x : α} (hx : l[j]? = some x) (hq : q x = false) (hi : i < l.length) (hij : i < j + 1) : Deleting q l (cur.set i x) (i + 1) (j + 1):=by
 obtain ⟨hj,hxe⟩:=List.getElem?_eq_some_iff.1 hx
 have hic : i < cur.length:=by rw [h.len];exact hi
 refine ⟨by simpa using h.len,?_,?_,by omega⟩
 ·rw [List.take_succ_eq_append_getElem (by simpa using hic),List.take_set_of_le (Nat.le_refl _),h.kept,List.take_succ_eq_append_getElem hj,List.filter_append,hxe]
  simp [hq]
 ·rw [List.drop_set_of_lt (by omega)]
  have:=congrArg (List.drop 1) h.left
  simpa [List.drop_drop] using this
theorem Deleting.get {α : Type} {q : α → Bool} {l cur : List α} {i j : Nat} (h : Deleting q l cur i j) {x : α} (hx : l[j]? = some x) : cur[j]? = some x:=by
 have e1 : (cur.drop j)[0]? = cur[j]?:=by rw [List.getElem?_drop];rfl
 have e2 : (l.drop j)[0]? = l[j]?:=by rw [List.getElem?_drop];rfl
 rw [← e1,h.left,e2,hx]
theorem Deleting.done {α : Type} {q : α → Bool} {l cur : List α} {i j : Nat} (h : Deleting q l cur i j) (hj : l.length ≤ j) : cur.take i = l.filter fun x => !q x:=by
 rw [h.kept,List.take_of_length_le hj]
end Go.Proofs.Ytgbecbnjokkfoaa
