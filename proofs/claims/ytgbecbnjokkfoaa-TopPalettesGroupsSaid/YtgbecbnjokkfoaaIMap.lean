import Derived.Test.YtgbecbnjokkfoaaDrop
import Derived.Maps.OwnOps
import Derived.Maps.Views
namespace Go.Proofs.Ytgbecbnjokkfoaa
open Go.RowKit

theorem set_mid {α : Type} (cur row : List α) (o j : Nat) (v : α) (hj : j < row.length) (hc : (cur.drop o).take row.length = row) (hl : o + row.length ≤ cur.length) :
  cur.take o ++ row.set j v ++ cur.drop (o + row.length) = cur.set (o + j) v:=by
 obtain ⟨a,c,ha,rfl⟩ : ∃ a c,a.length = o ∧ cur = a ++ (row ++ c):=by
  refine ⟨cur.take o,cur.drop (o + row.length),by rw [List.length_take];omega,?_⟩
  have h1:=List.take_append_drop o cur
  have h2:=List.take_append_drop row.length (cur.drop o)
  rw [hc,List.drop_drop] at h2
  rw [h2,h1]
 subst ha
 rw [List.set_append_right _ _ (by omega),Nat.add_sub_cancel_left,List.set_append_left _ _ hj,List.take_left,← List.drop_drop,List.drop_left,List.drop_left,List.append_assoc]

section
variable {w0 w : World} {E : TypeId} {size : Nat} {A : Option Addr} {n k : Nat} {rows : List (List Value)}
theorem Own.put1 (h : Own w0 w E size A n k rows) {i g j : Nat} {row : List Value} (hi : rows[i]? = some row) (hA : A = some ⟨g,0,none⟩) (hj : j < size) {v : Value} (hv : v.oneCell' = true) :
  Own w0 (w.setCell ⟨g,i * size + j,none⟩ v) E size A n k (rows.set i (row.set j v)):=by
 have hlt : i < n:=by rw [← h.len];exact (List.getElem?_eq_some_iff.1 hi).1
 have hmem:=List.mem_of_getElem? hi
 have hrl:=h.row row hmem
 have hset:=h.set hlt hA (row:=row.set j v) (by simpa using hrl) (fun u hu => by
  rcases List.mem_or_eq_of_mem_set hu with h2 | h2
  ·exact h.one row hmem u h2
  ·rw [h2];exact hv)
 refine ⟨hset.len,hset.row,hset.one,hset.le,hset.cap,?_⟩
 rcases h.at_ with h0 | ⟨g',cur,h2,h3,h4,h5,h6⟩
 ·exact .inl h0
 ·have hg : g' = g:=by rw [hA] at h2;injection h2 with h2;injection h2 with h2;exact h2.symm
  subst hg
  rcases hset.at_ with h0 | ⟨g2,X,k2,_,k4,k5,k6⟩
  ·exact .inl h0
  ·have hg : g2 = g':=by rw [hA] at k2;injection k2 with k2;injection k2 with k2;exact k2.symm
   subst hg
   have hb : i * size + size ≤ n * size:=by
    have:=Nat.mul_le_mul_right size (show i + 1 ≤ n by omega)
    rwa [Nat.succ_mul] at this
   have hb2 : n * size ≤ cur.size:=by rw [h5];exact Nat.mul_le_mul_right _ h.le
   rw [setCells_heap g2 E (row.set j v) (i * size) w cur h4 (by simp [hrl];omega)] at k4
   injection k4 with k4
   injection k4 with k4
   refine .inr ⟨g2,X,hA,h3,?_,k5,k6⟩
   rw [heap_setCell_same w g2 (i * size + j) cur E v h4,← k4]
   congr 2
   have hm:=set_mid cur.toList row (i * size) j v (by omega) (by
    apply List.ext_getElem?
    intro q
    rw [List.getElem?_take,List.getElem?_drop]
    by_cases hq : q < size
    ·have:=flat_get rows h.row i row hi q hq
     rw [← h6,List.getElem?_take,if_pos (by omega)] at this
     rw [if_pos (by omega)];exact this
    ·rw [if_neg (by omega)];exact (List.getElem?_eq_none (by omega)).symm) (by simp;omega)
   rw [List.length_set,hm,← Array.toList_setIfInBounds]
end

def IMap (w : World) (b n : Nat) (f : Int → Int) : Prop:=∃ D : DataW Unit,Maps.IsMap D ∧ w.ownsMap Try.prog 3 (plainElem Try.prog 3) b n D ∧ ∀ z,D.atKey (.int .i64 z) (.lit (.int .i64 0)) = .lit (.int .i64 (f z))
theorem zero_int (w : World) : (zeroValue 3).run Try.prog w = .ok (.int .i64 0) w:=by kernel_rfl
theorem IMap.new (w : World) : IMap (w.alloc (.map #[] 0)) w.heap.size 0 (fun _ => 0):=⟨.map [],Maps.isMap_empty,World.ownsMap_made _ _ _ _,fun _ => rfl⟩
theorem IMap.kept {w w' : World} {b n : Nat} {f : Int → Int} {row : Option Nat} (h : IMap w b n f) (hg : w.grownBy w' row) (hne : some b ≠ row) : IMap w' b n f:=by
 obtain ⟨D,h1,h2,h3⟩:=h;exact ⟨D,h1,h2.kept hg hne,h3⟩
theorem IMap.get {w : World} {b n : Nat} {f : Int → Int} (h : IMap w b n f) {z : Int} (hz : (Lit.int .i64 z).wf = true) : (Instr.lookup 31 (.map (some b)) (.int .i64 z) false).run Try.prog w = .ok (.int .i64 (f z)) w:=by
 obtain ⟨D,h1,h2,h3⟩:=h
 obtain ⟨c,hrun,hat,_⟩:=h2.lookup_int (Maps.int_keyed Try.underlying3) Try.underlying31 Try.underlying3 (zero_int w) (Maps.keyOf_int_mk Try.underlying3 hz)
 rw [h3 z] at hat
 rw [(Lit.int.inj (DataW.lit.inj hat)).2];exact hrun
section
variable {ops : Array Oper} {rest : List Oper} {o : Oper} {a : Act} {Q : Exit → Act → World → Prop} {w0 W : World}
theorem wpList_put_mine (hg : o.guard = none) (m x v : Operand) (hop : o.op = Op.mapUpdate 31 m x v) (b n : Nat) (f : Int → Int) (hx : Ext w0 W) (hb : w0.heap.size ≤ b) (hm : a.eval m = .map (some b)) (hown : IMap W b n f) (hn : n < maxLen)
  (z y : Int) (hxe : a.eval x = .int .i64 z) (hve : a.eval v = .int .i64 y) (hz : (Lit.int .i64 z).wf = true) (hy : (Lit.int .i64 y).wf = true)
  (hK : ∀ w',Ext w0 w' → IMap w' b (n + 1) (fun q => if q = z then y else f q) → W.grownBy w' (some b) → wpList Try.prog ops Q rest (a.put o.dst undef) w') : wpList Try.prog ops Q (o :: rest) a W:=by
 obtain ⟨D,h1,h2,h3⟩:=hown
 refine wpList_mapUpdate_own W hg m x v _ hop _ 3 (Maps.int_keyed Try.underlying3) Try.underlying31 _ b n D hm h2 hn _ _ (.int .i64 z) hxe hve (Maps.keyOf_int_mk Try.underlying3 hz) (.lit (.int .i64 y)) [] (plainElem_int Try.underlying3 hy) ?_
 intro w' hown hgr
 refine hK w' (hx.trans_own hgr (fun q hq => by injection hq with hq;omega)) ⟨_,h1.put _ _,hown,fun q => ?_⟩ hgr
 show _ = DataW.lit (Lit.int .i64 (if q = z then y else f q))
 by_cases hq : q = z
 ·subst hq;rw [if_pos rfl];exact Maps.atKey_put_same h1 (show WideAt.IsKeyLit (.int .i64 q) from (by simp [WideAt.IsKeyLit])) _ _
 ·rw [if_neg hq,Maps.atKey_put_other (fun e => hq (Lit.int.inj e).2)];exact h3 q
end
end Go.Proofs.Ytgbecbnjokkfoaa
