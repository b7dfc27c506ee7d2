import Derived.Test.YtgbecbnjokkfoaaPackP
namespace Go.Proofs.Ytgbecbnjokkfoaa
open Go.RowKit

def IMo (o : Obj) (n : Nat) (f : Int → Int) : Prop:=∀ (W : World) (b : Nat),W.heap[b]? = some o → IMap W b n f
theorem wf_small {z : Int} (h1 : -1000000 ≤ z) (h2 : z ≤ 1000000) : (Lit.int .i64 z).wf = true:=by
 simp only [Lit.wf,Bool.and_eq_true,decide_eq_true_eq]
 have h3 : IntKind.i64.min = -9223372036854775808:=rfl
 have h4 : IntKind.i64.max = 9223372036854775807:=rfl
 omega
theorem IMap.obj {W : World} {b n : Nat} {f : Int → Int} (h : IMap W b n f) : ∃ o,W.heap[b]? = some o ∧ IMo o n f:=by
 obtain ⟨D,h1,⟨es,clock,h2,h3,h4,h5⟩,h6⟩:=h
 exact ⟨_,h2,fun W' b' hb => ⟨D,h1,⟨es,clock,hb,h3,h4,h5⟩,h6⟩⟩
theorem IMo.new : IMo (.map #[] 0) 0 (fun _ => 0):=fun W b hb => by
 obtain ⟨o,h1,h2⟩:=(IMap.new W).obj
 rw [heap_alloc_new] at h1
 injection h1 with h1
 subst h1
 exact h2 W b hb
theorem xt_top {Y : World} {o : Obj} {y : Gr} : (xt (Y.alloc o) y).heap[Y.heap.size]? = some o:=by
 unfold xt
 simp only []
 rw [Array.getElem?_append_left (by simp)]
 exact heap_alloc_new Y o
theorem grown_top {Y : World} {o : Obj} {y : Gr} {w1 : World} (hg : (xt (Y.alloc o) y).grownBy w1 (some Y.heap.size)) : ∃ o' z,w1 = xt (Y.alloc o') z:=by
 have hs : Y.heap.size + 1 + y.n ≤ w1.heap.size:=by have:=hg.size;simpa [go_sem] using this
 have ho : ∃ o',w1.heap[Y.heap.size]? = some o':=⟨_,Array.getElem?_eq_getElem (by omega)⟩
 obtain ⟨o',ho⟩:=ho
 refine ⟨o',⟨w1.heap.extract (Y.heap.size + 1) w1.heap.size,w1.drawn⟩,?_⟩
 have hh : w1.heap = Y.heap.push o' ++ w1.heap.extract (Y.heap.size + 1) w1.heap.size:=by
  apply Array.ext_getElem?
  intro k
  rcases Nat.lt_or_ge k (Y.heap.size + 1) with hk | hk
  ·rw [Array.getElem?_append_left (by rw [Array.size_push];exact hk),Array.getElem?_push]
   split
   ·rename_i hk2;rw [hk2,ho]
   ·rename_i hk2
    rw [hg.block k (by simp [go_sem];omega) (by simp;omega)]
    unfold xt
    simp only []
    rw [Array.getElem?_append_left (by simp;omega)]
    exact heap_alloc_old Y o (by omega)
  ·rw [Array.getElem?_append_right (by rw [Array.size_push];exact hk),Array.size_push,Array.getElem?_extract]
   split
   ·congr 1;omega
   ·rw [Array.getElem?_eq_none (by omega)]
 have g1:=hg.os
 have g2:=hg.tape
 have g3:=hg.output
 cases w1
 simp only [xt,World.alloc] at *
 simp only [World.mk.injEq]
 refine ⟨?_,?_,?_,?_,?_⟩ <;> first | assumption | trivial
theorem Ext.blk {a w : World} (h : Ext a w) {n : Nat} {o : Obj} (hb : a.heap[n]? = some o) : w.heap[n]? = some o:=by
 rw [h.block n (Array.getElem?_eq_some_iff.1 hb).1];exact hb
theorem Own.past {w0 w w' : World} {E : TypeId} {size : Nat} {A : Option Addr} {n k r : Nat} {rows : List (List Value)} (h : Own w0 w E size A n k rows) (hg : w.grownBy w' (some r)) (hr : r < w0.heap.size) : Own w0 w' E size A n k rows:=by
 refine ⟨h.len,h.row,h.one,h.le,h.cap,?_⟩
 rcases h.at_ with h0 | ⟨g,cur,h1,h2,h3,h4⟩
 ·exact .inl h0
 ·exact .inr ⟨g,cur,h1,h2,by rw [hg.block g (Array.getElem?_eq_some_iff.1 h3).1 (by intro e;injection e with e;omega)];exact h3,h4⟩
theorem Own.since {w0 w0' w : World} {E : TypeId} {size : Nat} {A : Option Addr} {n k : Nat} {rows : List (List Value)} (h : Own w0 w E size A n k rows) (hs : w0'.heap.size ≤ w0.heap.size) : Own w0' w E size A n k rows:=by
 refine ⟨h.len,h.row,h.one,h.le,h.cap,?_⟩
 rcases h.at_ with h0 | ⟨g,cur,h1,h2,h3⟩
 ·exact .inl h0
 ·exact .inr ⟨g,cur,h1,by omega,h3⟩
theorem Own.moved {X X' : World} {y : Gr} {E : TypeId} {size : Nat} {A : Option Addr} {n k : Nat} {rows : List (List Value)} (h : Own X (xt X y) E size A n k rows) (hs : X.heap.size = X'.heap.size) : Own X' (xt X' y) E size A n k rows :=
 Own.swapped h hs (Ext.refl _)
structure CueOwn (w0 w : World) (c : Cue) (A : Option Addr) (k : Nat) (B : Option Addr) (m : Nat) : Prop where
 mv : Own w0 w 60 5 A c.moves.length k (c.moves.map Go.Proofs.Ytgbecbnjokkfoaa.mv)
 pt : Own w0 w 99 6 B c.parts.length m (c.parts.map tmg)
 num : c.number.size ≤ maxLen
 lab : c.label.size ≤ maxLen
 lnk : c.link.size ≤ maxLen
theorem CueOwn.at_ {w0 w : World} {c : Cue} {A : Option Addr} {k : Nat} {B : Option Addr} {m : Nat} (h : CueOwn w0 w c A k B m) : CueAt w c A k B m :=
 ⟨h.mv.sl,h.pt.sl,h.mv.le,h.pt.le,h.mv.cap,h.pt.cap,h.num,h.lab,h.lnk⟩
theorem CueOwn.moved {X X' : World} {y : Gr} {c : Cue} {A : Option Addr} {k : Nat} {B : Option Addr} {m : Nat} (h : CueOwn X (xt X y) c A k B m) (hs : X.heap.size = X'.heap.size) : CueOwn X' (xt X' y) c A k B m :=
 ⟨h.mv.moved hs,h.pt.moved hs,h.num,h.lab,h.lnk⟩
theorem CueAt.upon {w1 w2 : World} {c : Cue} {A : Option Addr} {k : Nat} {B : Option Addr} {m : Nat} (hx : Ext w1 w2) (h : CueAt w1 c A k B m) : CueAt w2 c A k B m:=h.mono hx
theorem emptyC_own (w0 w : World) : CueOwn w0 w emptyC none 0 none 0:=⟨Own.nil _,Own.nil _,by decide,by decide,by decide⟩
def RetCueO (w : World) (R : Cue × Int) (e : Ending) (w' : World) : Prop:=∃ A k B m,e = .returned (.tuple #[.agg (cueV R.1 A k B m).toArray,.int .i64 R.2]) ∧ Ext w w' ∧ CueOwn w w' R.1 A k B m
theorem RetCueO.empty {w w' : World} {R : Cue × Int} {x : Int} {e : Ending} (hR : R = (emptyC,x)) (he : e = .returned (.tuple #[.agg (cueV emptyC none 0 none 0).toArray,.int .i64 x])) (hx : Ext w w') : RetCueO w R e w':=by
 subst hR;exact ⟨none,0,none,0,he,hx,emptyC_own w w'⟩
theorem RetCueO.ret {w w' : World} {R : Cue × Int} {e : Ending} (h : RetCueO w R e w') : RetCue w R e w':=by
 obtain ⟨A,k,B,m,h1,h2,h3⟩:=h;exact ⟨A,k,B,m,h1,h2,h3.at_⟩
theorem Own.upon {w0 w1 w2 : World} {E : TypeId} {A : Option Addr} {size n k : Nat} {rows : List (List Value)} (hx : Ext w1 w2) (h : Own w0 w1 E size A n k rows) : Own w0 w2 E size A n k rows:=h.mono hx
section
variable {ops : Array Oper} {rest : List Oper} {o : Oper} {a : Act} {Q : Exit → Act → World → Prop} {Y : World} {y : Gr} {ob : Obj}
theorem wpList_put_top (hg : o.guard = none) (m x v : Operand) (hop : o.op = Op.mapUpdate 31 m x v) (n : Nat) (f : Int → Int) (hm : a.eval m = .map (some Y.heap.size)) (hown : IMo ob n f) (hn : n < maxLen)
  (z u : Int) (hxe : a.eval x = .int .i64 z) (hve : a.eval v = .int .i64 u) (hz : (Lit.int .i64 z).wf = true) (hu : (Lit.int .i64 u).wf = true)
  (hK : ∀ ob' y',IMo ob' (n + 1) (fun q => if q = z then u else f q) → (xt (Y.alloc ob) y).grownBy (xt (Y.alloc ob') y') (some Y.heap.size) → wpList Try.prog ops Q rest (a.put o.dst undef) (xt (Y.alloc ob') y')) : wpList Try.prog ops Q (o :: rest) a (xt (Y.alloc ob) y):=by
 refine wpList_put_mine (w0:=Y) hg m x v hop Y.heap.size n f (Ext.xt (Ext.alloc (Ext.refl _) _) _) (Nat.le_refl _) hm (hown _ _ xt_top) hn z u hxe hve hz hu fun w1 _ h2 h3 => ?_
 obtain ⟨ob',y',rfl⟩:=grown_top h3
 obtain ⟨o2,h4,h5⟩:=h2.obj
 rw [xt_top] at h4
 injection h4 with h4
 subst h4
 exact hK _ _ h5 h3
end
end Go.Proofs.Ytgbecbnjokkfoaa
