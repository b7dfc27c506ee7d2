import Derived.Test.YtgbecbnjokkfoaaOwn
import Derived.Test.YtgbecbnjokkfoaaFew
import Derived.Test.YtgbecbnjokkfoaaSame
import Derived.Deep.RegionLaw
import Derived.Deep.DrawnRows
set_option maxHeartbeats 400000
set_option maxRecDepth 100000
namespace Go.Proofs.Ytgbecbnjokkfoaa
open Go.RowKit
attribute [local go_sem ↓] Go.wp_at_zero Go.wp_at_succ

theorem tmg_one : ∀ (l : List Timing),∀ r ∈ l.map tmg,∀ u ∈ r,u.oneCell' = true:=fun l r hr u hu => by
 obtain ⟨t,_,rfl⟩:=List.mem_map.1 hr
 simp only [tmg,List.mem_cons,List.not_mem_nil,or_false] at hu
 rcases hu with rfl | rfl | rfl | rfl | rfl | rfl <;> rfl
theorem mv_one : ∀ (l : List Move),∀ r ∈ l.map mv,∀ u ∈ r,u.oneCell' = true:=fun l r hr u hu => by
 obtain ⟨t,_,rfl⟩:=List.mem_map.1 hr
 simp only [mv,List.mem_cons,List.not_mem_nil,or_false] at hu
 rcases hu with rfl | rfl | rfl | rfl | rfl <;> rfl
theorem info_T : infoOk Try.prog 99 6 48 = true:=by kernel_rfl
theorem info_M : infoOk Try.prog 60 5 40 = true:=by kernel_rfl

@[go_sem] theorem nil_T (A : Option Addr) (n c n' c' : Nat) (w : World) : (binOp .eql 50 (.slice A n c) (.slice none n' c')).run Try.prog w = .ok (.bool A.isNone) w:=Lib.run_eql_slice_nil w _ _ A n c n' c' Try.underlying50
@[go_sem] theorem nil_M (A : Option Addr) (n c n' c' : Nat) (w : World) : (binOp .eql 49 (.slice A n c) (.slice none n' c')).run Try.prog w = .ok (.bool A.isNone) w:=Lib.run_eql_slice_nil w _ _ A n c n' c' Try.underlying49

def RetSl (w : World) (E : TypeId) (size n : Nat) (rows : List (List Value)) (e : Ending) (w' : World) : Prop:=∃ A k,e = .returned (.slice A n k) ∧ Ext w w' ∧ Own w w' E size A n k rows
theorem Sl.none_nil {w : World} {size : Nat} {rows : List (List Value)} (h : Sl w none size rows) : rows = []:=by
 cases rows with
 | nil => rfl
 | cons r rs =>
  obtain ⟨_,b,o,h,_⟩:=h.at_ 0 r rfl
  cases h

theorem Clone_T (A : Option Addr) (k : Nat) (l : List Timing) (w : World) (hs : Sl w A 6 (l.map tmg)) (hl : l.length ≤ 1000000) : Calls Try.prog 50 #[.slice A l.length k] w (RetSl w 99 6 l.length (l.map tmg)):=by
 cases A with
 | none =>
  have hnil : l = []:=by simpa using hs.none_nil
  subst hnil
  go_enter Try.func50,Try.ntmps50
  go_wp2
  go_ret
  exact ⟨_,_,rfl,ex,Own.nil _⟩
 | some a =>
  go_enter Try.func50,Try.ntmps50
  go_wp2_with (at_builtin;refine wpList_append_mine (w0:=w) rfl _ _ 50 50 rfl 99 99 6 48 Try.underlying50 Try.underlying50 info_T (by decide) (ex) _ 0 0 [] rfl (Own.nil _) (some a) l.length _ (l.map tmg) rfl (hs.mono (ex)) (by simp) (tmg_one l) (by unfold maxLen;omega) (by omega) l.length (by omega) (l.map tmg) rfl ?_;intro A' k' w1 hx1 hown hg hA;have HO:=Lib.hid hown;obtain ⟨y,rfl⟩:=hx1.get;clear hown hx1 hg hA)
  go_ret
  exact ⟨_,_,rfl,ex,HO.out⟩

theorem Own.base {w w0 w1 : World} {E : TypeId} {size : Nat} {A : Option Addr} {n k : Nat} {rows : List (List Value)} (hx : Ext w w0) (h : Own w0 w1 E size A n k rows) : Own w w1 E size A n k rows:=by
 refine ⟨h.len,h.row,h.one,h.le,h.cap,?_⟩
 rcases h.at_ with h0 | ⟨g,cur,h1,h2,h3⟩
 ·exact .inl h0
 ·exact .inr ⟨g,cur,h1,Nat.le_trans hx.size h2,h3⟩
theorem Own.setOld {w0 w1 : World} {E : TypeId} {size : Nat} {A : Option Addr} {n k : Nat} {rows : List (List Value)} (h : Own w0 w1 E size A n k rows) {p : Addr} (hp : p.block < w0.heap.size) (u : Value) : Own w0 (w1.setCell p u) E size A n k rows:=by
 refine ⟨h.len,h.row,h.one,h.le,h.cap,?_⟩
 rcases h.at_ with h0 | ⟨g,cur,h1,h2,h3,h4⟩
 ·exact .inl h0
 ·exact .inr ⟨g,cur,h1,h2,(heap_setCell_other w1 p g u (by omega)).trans h3,h4⟩

theorem Own.swapped {w X X' : World} {y : Gr} {E : TypeId} {size : Nat} {A : Option Addr} {n k : Nat} {rows : List (List Value)} (h : Own X (xt X y) E size A n k rows) (hs : X.heap.size = X'.heap.size) (hx : Ext w X') : Own w (xt X' y) E size A n k rows:=by
 refine Own.base hx ⟨h.len,h.row,h.one,h.le,h.cap,?_⟩
 rcases h.at_ with h0 | ⟨g,cur,h1,h2,h3⟩
 ·exact .inl h0
 ·exact .inr ⟨g,cur,h1,by omega,by rw [← xt_high X X' y g hs h2];exact h3⟩

theorem Sl.allocD {w : World} {n size : Nat} {cells : Array Value} {rows : List (List Value)} {T : TypeId} (hs : w.heap.size = n) (hc : cells = rows.flatten.toArray) (h : ∀ r ∈ rows,r.length = size) : Sl (w.alloc (.cells cells T)).drew (some ⟨n,0,none⟩) size rows :=
 (Sl.alloc' hs hc h).mono ((Ext.refl _).drew)
def RetCopied (w : World) (c : Cue) (A : Option Addr) (k : Nat) (e : Ending) (w' : World) : Prop:=∃ B m,e = .returned (.agg (cueV c A k B m).toArray) ∧ Ext w w' ∧ Own w w' 99 6 B c.parts.length m (c.parts.map tmg)

def emptyC : Cue:=⟨⟨#[]⟩,⟨#[]⟩,[],[],false,false,0,⟨#[]⟩,0⟩
theorem emptyC_at (w : World) : CueAt w emptyC none 0 none 0:=⟨Sl.nil _ _ _,Sl.nil _ _ _,by decide,by decide,by decide,by decide,by decide,by decide,by decide⟩
def setV (c : Cue) (part : Int) (t : Timing) : Cue × Int :=
 if cueE c ≠ 0 then (emptyC,cueE c) else if timingE t ≠ 0 then (emptyC,timingE t)
 else if part = (c.parts.length : Int) + 1 then (if c.parts.length = 4 then (emptyC,5) else ({ c with parts:=c.parts ++ [t] },0))
 else if part < 1 ∨ (c.parts.length : Int) < part then (emptyC,6) else ({ c with parts:=c.parts.set (part.toNat - 1) t },0)
def RetCue (w : World) (R : Cue × Int) (e : Ending) (w' : World) : Prop:=∃ A k B m,e = .returned (.tuple #[.agg (cueV R.1 A k B m).toArray,.int .i64 R.2]) ∧ Ext w w' ∧ CueAt w' R.1 A k B m
theorem parts_len {c : Cue} (h : cueE c = 0) : 1 ≤ c.parts.length ∧ c.parts.length ≤ 4:=by
 have:=part_range h ⟨0,0⟩
 exact ⟨this.2.2.2,this.2.2.1⟩
theorem CueAt.parted {w w' : World} {c : Cue} {A : Option Addr} {k : Nat} {B : Option Addr} {m : Nat} (h : CueAt w c A k B m) (hx : Ext w w') {l : List Timing} {D : Option Addr} {n n' : Nat} (hn : l.length = n) (ho : Own w w' 99 6 D n n' (l.map tmg)) : CueAt w' { c with parts:=l } A k D n' :=
 ⟨h.mv.mono hx,ho.sl,h.hk,by rw [hn];exact ho.le,h.hk',ho.cap,h.num,h.lab,h.lnk⟩
theorem RetCue.empty {w w' : World} {R : Cue × Int} {x : Int} {e : Ending} (hR : R = (emptyC,x)) (he : e = .returned (.tuple #[.agg (cueV emptyC none 0 none 0).toArray,.int .i64 x])) (hx : Ext w w') : RetCue w R e w':=by
 subst hR;exact ⟨none,0,none,0,he,hx,emptyC_at w'⟩

section
variable (c : Cue) (A : Option Addr) (k : Nat) (B : Option Addr) (m : Nat) (part : Int) (t : Timing) (w : World) (hc : CueAt w c A k B m)
include hc
end
end Go.Proofs.Ytgbecbnjokkfoaa

namespace Go.Proofs.Ytgbecbnjokkfoaa
open Go.RowKit
attribute [local go_sem ↓] Go.wp_at_zero Go.wp_at_succ

theorem grown_split {X : World} {y : Gr} {o : Obj} {w1 : World} {g : Nat} (hg : ((xt X y).alloc o).grownBy w1 (some g)) (h1 : X.heap.size ≤ g) (h2 : g < X.heap.size + y.n) : ∃ y' z,y'.n = y.n ∧ w1 = xt ((xt X y').alloc o) z:=by
 have hs : X.heap.size + y.n + 1 ≤ w1.heap.size:=by have:=hg.size;simpa [go_sem] using this
 refine ⟨⟨w1.heap.extract X.heap.size (X.heap.size + y.n),y.drawn⟩,⟨w1.heap.extract (X.heap.size + y.n + 1) w1.heap.size,w1.drawn⟩,?_,?_⟩
 ·simp only [Gr.n,Array.size_extract] at *;omega
 ·have hh : w1.heap = (X.heap ++ w1.heap.extract X.heap.size (X.heap.size + y.n)).push o ++ w1.heap.extract (X.heap.size + y.n + 1) w1.heap.size:=by
   have e1 : (w1.heap.extract X.heap.size (X.heap.size + y.n)).size = y.n:=by simp only [Array.size_extract];omega
   have e2 : (X.heap ++ w1.heap.extract X.heap.size (X.heap.size + y.n)).size = X.heap.size + y.n:=by rw [Array.size_append,e1]
   apply Array.ext_getElem?
   intro k
   rcases Nat.lt_or_ge k (X.heap.size + y.n + 1) with hk | hk
   ·rw [Array.getElem?_append_left (by rw [Array.size_push,e2];exact hk),Array.getElem?_push,e2]
    split
    ·rename_i hk2
     subst hk2
     rw [hg.block _ (by simp [go_sem]) (by simp;omega)]
     have : ((xt X y).alloc o).heap[(xt X y).heap.size]? = some o:=heap_alloc_new _ _
     rwa [xt_size] at this
    ·rename_i hk2
     rcases Nat.lt_or_ge k X.heap.size with hk3 | hk3
     ·rw [Array.getElem?_append_left hk3,hg.block k (by simp [go_sem];omega) (by simp;omega)]
      rw [heap_alloc_old _ _ (by simp [go_sem];omega)]
      show (X.heap ++ y.objs)[k]? = _
      rw [Array.getElem?_append_left hk3]
     ·rw [Array.getElem?_append_right hk3,Array.getElem?_extract]
      split
      ·congr 1;omega
      ·rw [Array.getElem?_eq_none (by omega)]
   ·rw [Array.getElem?_append_right (by rw [Array.size_push,e2];exact hk),Array.size_push,e2,Array.getElem?_extract]
    split
    ·congr 1;omega
    ·rw [Array.getElem?_eq_none (by omega)]
  have g1:=hg.os
  have g2:=hg.tape
  have g3:=hg.output
  cases w1
  simp only [xt,World.alloc] at *
  simp only [World.mk.injEq]
  refine ⟨?_,?_,?_,?_,?_⟩ <;> first | assumption | trivial

theorem grown_alloc {W w1 : World} {o : Obj} {row : Option Nat} (h : (W.alloc o).grownBy w1 row) : W.grownBy w1 row :=
 ⟨h.os,h.tape,h.output,Nat.le_trans (by simp) h.size,fun k hk hne => (h.block k (by simp;omega) hne).trans (heap_alloc_old W o hk)⟩
theorem Own.other {w w1 w2 : World} {E : TypeId} {size : Nat} {A : Option Addr} {n k : Nat} {rows : List (List Value)} (h : Own w w1 E size A n k rows) (hh : ∀ g,A = some ⟨g,0,none⟩ → w2.heap[g]? = w1.heap[g]?) : Own w w2 E size A n k rows:=by
 refine ⟨h.len,h.row,h.one,h.le,h.cap,?_⟩
 rcases h.at_ with h0 | ⟨g,cur,h1,h2,h3,h4⟩
 ·exact .inl h0
 ·exact .inr ⟨g,cur,h1,h2,(hh g h1).trans h3,h4⟩
theorem xt2_low {X X' : World} {y z : Gr} {o o' : Obj} {g : Nat} (hs : X.heap.size = X'.heap.size) (h1 : X.heap.size ≤ g) (h2 : g < X.heap.size + y.n) : (xt ((xt X y).alloc o) z).heap[g]? = (xt ((xt X' y).alloc o') z).heap[g]?:=by
 have e1 : ∀ (Y : World) (q : Obj),Y.heap.size = X.heap.size → (xt ((xt Y y).alloc q) z).heap[g]? = y.objs[g - X.heap.size]?:=fun Y q hY => by
  show (((Y.heap ++ y.objs).push q) ++ z.objs)[g]? = _
  unfold Gr.n at h2
  rw [Array.getElem?_append_left (by simp;omega),Array.getElem?_push,if_neg (by simp;omega),Array.getElem?_append_right (by omega),hY]
 rw [e1 X o rfl,e1 X' o' hs.symm]
theorem xt2_high {X X' : World} {y z : Gr} {o o' : Obj} {g : Nat} (hs : X.heap.size = X'.heap.size) (h1 : X.heap.size + y.n + 1 ≤ g) : (xt ((xt X y).alloc o) z).heap[g]? = (xt ((xt X' y).alloc o') z).heap[g]? :=
 xt_high _ _ z g (by simp [go_sem,hs]) (by simp [go_sem];omega)
theorem Own.split {w X X' : World} {y z : Gr} {o o' : Obj} {E : TypeId} {size g : Nat} {A : Option Addr} {n k : Nat} {rows : List (List Value)} (h : Own w (xt ((xt X y).alloc o) z) E size A n k rows) (hs : X.heap.size = X'.heap.size) (h1 : X.heap.size ≤ g) (h2 : g < X.heap.size + y.n)
  (hA : A = some ⟨g,0,none⟩ ∨ ∃ j,X.heap.size + y.n + 1 ≤ j ∧ A = some ⟨j,0,none⟩) : Own w (xt ((xt X' y).alloc o') z) E size A n k rows :=
 h.other fun g' hg' => by
  rcases hA with hA | ⟨j,hj,hA⟩
  ·rw [hA] at hg';injection hg' with hg';injection hg' with hg';subst hg';exact (xt2_low hs h1 h2).symm
  ·rw [hA] at hg';injection hg' with hg';injection hg' with hg';subst hg';exact (xt2_high hs hj).symm

theorem Sl.via {w1 w2 : World} {A : Option Addr} {size : Nat} {rows : List (List Value)} (hx : Ext w1 w2) (h : Sl w1 A size rows) : Sl w2 A size rows:=h.mono hx
theorem made_at {w w' : World} {c : Cue} {A : Option Addr} {k : Nat} {B : Option Addr} {m : Nat} (h : CueAt w c A k B m) (l : List Timing) {M D : Option Addr} {k' n n' : Nat} (hn : l.length = n) (hs : Sl w' M 5 (c.moves.map mv)) (hle : c.moves.length ≤ k') (hcap : k' ≤ maxLen)
  (ho : Own w w' 99 6 D n n' (l.map tmg)) : CueAt w' { c with parts:=l } M k' D n' :=
 ⟨hs,ho.sl,hle,by rw [hn];exact ho.le,hcap,ho.cap,h.num,h.lab,h.lnk⟩

section
variable (c : Cue) (A : Option Addr) (k : Nat) (B : Option Addr) (m : Nat) (part : Int) (t : Timing) (w : World) (hc : CueAt w c A k B m)
include hc
end

end Go.Proofs.Ytgbecbnjokkfoaa
