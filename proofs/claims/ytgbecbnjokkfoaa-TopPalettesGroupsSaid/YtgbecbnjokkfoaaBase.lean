import Derived.WalkKit
import Derived.WalkSpells
import Derived.WalkLawsBesides
import Derived.Deep.MidRow
import Derived.BigQuiet
import Derived.Lib.Hide
import Derived.Lib.ConvBytes
import Derived.Deep.Light
import Derived.Deep.LoopGhost
import Derived.Deep.DeepMust
import Derived.Deep.DeepFit
import Derived.Deep.RegionHeld3
import Derived.Deep.AppendLies
import Derived.Deep.DeepCutAuto
import Derived.Maps.AppendAt
import Derived.StillTailTactics
namespace Go.Proofs.Ytgbecbnjokkfoaa
open Go.RowKit

def Ext (w w' : World) : Prop:=Below w.heap.size w w'

theorem Ext.refl (w : World) : Ext w w:=Below.refl _ _
theorem Ext.trans {a b c : World} (h : Ext a b) (k : Ext b c) : Ext a c:=Below.trans h (Below.mono k h.size)
theorem Ext.trans_own {a b c : World} (h : Ext a b) {row : Option Nat} (hg : b.grownBy c row) (hr : ∀ k,row = some k → a.heap.size ≤ k) : Ext a c:=Below.grown h hg h.size hr
theorem Ext.drew {a w : World} (h : Ext a w) : Ext a w.drew:=Below.drew h
theorem Ext.drewN {a w : World} (h : Ext a w) (n : Nat) : Ext a (w.drewN n):=⟨h.os,h.tape,h.output,h.size,h.block⟩
theorem Ext.alloc {a w : World} (h : Ext a w) (o : Obj) : Ext a (w.alloc o):=Below.alloc h h.size o
theorem Ext.setCell {a w : World} (h : Ext a w) {p : Addr} (hp : a.heap.size ≤ p.block) (u : Value) : Ext a (w.setCell p u):=Below.setCell h hp u

structure Gr where
 objs : Array Obj
 drawn : Nat
instance : Inhabited Gr:=⟨⟨#[],0⟩⟩
def Gr.n (y : Gr) : Nat:=y.objs.size
def xt (w : World) (y : Gr) : World:={ w with heap:=w.heap ++ y.objs,drawn:=y.drawn }

theorem xt_below (w : World) (y : Gr) : Below w.heap.size w (xt w y):=by
 refine ⟨rfl,rfl,rfl,by simp [xt],fun k hk => ?_⟩
 show (w.heap ++ y.objs)[k]? = _
 rw [Array.getElem?_append_left hk]

theorem Ext.xt {a w : World} (h : Ext a w) (y : Gr) : Ext a (xt w y):=h.trans (xt_below w y)

theorem ex {a w : World} (h : Ext a w:=by repeat (first | exact Ext.refl _ | assumption | apply Ext.xt | apply Ext.alloc | apply Ext.drew | apply Ext.drewN)) : Ext a w:=h
theorem Ext.get {w w' : World} (h : Ext w w') : ∃ y,w' = Ytgbecbnjokkfoaa.xt w y:=by
 have hs:=h.size
 refine ⟨⟨w'.heap.extract w.heap.size w'.heap.size,w'.drawn⟩,?_⟩
 have hh : w'.heap = w.heap ++ w'.heap.extract w.heap.size w'.heap.size:=by
  apply Array.ext_getElem?
  intro k
  rcases Nat.lt_or_ge k w.heap.size with hk | hk
  ·rw [Array.getElem?_append_left hk,h.block k hk]
  ·rw [Array.getElem?_append_right hk,Array.getElem?_extract]
   split
   ·congr 1;omega
   ·rw [Array.getElem?_eq_none (by omega)]
 obtain ⟨h1,h2,h3,_,_⟩:=h
 cases w;cases w'
 simp only [Ytgbecbnjokkfoaa.xt] at *
 subst h1 h2 h3
 rw [← hh]

@[go_sem] theorem xt_size (w : World) (y : Gr) : (xt w y).heap.size = w.heap.size + y.n:=by simp [xt,Gr.n]
@[go_sem] theorem xt_tape (w : World) (y : Gr) : (xt w y).tape = w.tape:=rfl
@[go_sem] theorem xt_os (w : World) (y : Gr) : (xt w y).os = w.os:=rfl
@[go_sem] theorem xt_output (w : World) (y : Gr) : (xt w y).output = w.output:=rfl
noncomputable def xtCell (w : World) (y : Gr) (p : Addr) : Option Value:=(xt w y).cell? p
noncomputable def xtFroz (w : World) (y : Gr) (p : Addr) : Bool:=(xt w y).frozen? p

@[go_sem] theorem xt_cell (w : World) (y : Gr) (p : Addr) : (xt w y).cell? p = (w.cell? p).or (xtCell w y p):=by
 cases h : w.cell? p with
 | none => rfl
 | some v =>
  rw [(xt_below w y).cell (World.block_lt_of_cell? w p h),h]
  rfl
theorem lt_of_some {w : World} {p : Addr} (h : (w.cell? p).isSome = true) : p.block < w.heap.size:=by
 obtain ⟨v,hv⟩:=Option.isSome_iff_exists.1 h
 exact World.block_lt_of_cell? w p hv
@[go_sem] theorem xt_froz (w : World) (y : Gr) (p : Addr) (h : (w.cell? p).isSome = true) : (xt w y).frozen? p = w.frozen? p:=(xt_below w y).frozen (lt_of_some h)
@[go_sem] theorem xt_setCell (w : World) (y : Gr) (n i : Nat) (v : Value) (h : (w.cell? ⟨n,i,none⟩).isSome = true) : (xt w y).setCell ⟨n,i,none⟩ v = xt (w.setCell ⟨n,i,none⟩ v) y:=by
 have h:=lt_of_some h
 simp only [] at h
 unfold World.setCell xt
 congr 1
 apply Array.ext_getElem?
 intro k
 simp only [Array.getElem?_modify,Array.getElem?_append,Array.size_modify]
 by_cases hk : k < w.heap.size
 ·simp [hk]
 ·rw [if_neg hk,if_neg hk,if_neg (by omega)]
noncomputable def newCell (w : World) (o : Obj) (p : Addr) : Option Value:=(w.alloc o).cell? p
theorem alloc_cell (w : World) (o : Obj) (p : Addr) : (w.alloc o).cell? p = (w.cell? p).or (newCell w o p):=by
 cases h : w.cell? p with
 | none => rfl
 | some v =>
  rw [World.cell?_alloc_lt w o p (World.block_lt_of_cell? w p h),h]
  rfl
attribute [go_sem low] alloc_cell
@[go_sem] theorem alloc_froz (w : World) (o : Obj) (p : Addr) (h : (w.cell? p).isSome = true) : (w.alloc o).frozen? p = w.frozen? p :=
 World.frozen?_alloc_old w o p (Nat.ne_of_lt (lt_of_some h))
@[go_sem] theorem alloc_setCell (w : World) (o : Obj) (n i : Nat) (v : Value) (h : (w.cell? ⟨n,i,none⟩).isSome = true) : (w.alloc o).setCell ⟨n,i,none⟩ v = (w.setCell ⟨n,i,none⟩ v).alloc o :=
 World.setCell_alloc_past o n i v (lt_of_some h)

@[go_sem] theorem cell_none (w : World) (i : Nat) : w.cell? ⟨w.heap.size,i,none⟩ = none:=by simp [World.cell?]
@[go_sem] theorem cell_none' (w : World) (n i : Nat) : w.cell? ⟨w.heap.size + n,i,none⟩ = none:=by
 unfold World.cell?
 rw [Array.getElem?_eq_none (by simp)]
theorem Calls.grows {P : Program} {f : FuncId} {args : Array Value} {w : World} {y : Gr} {v : Value} (h : Calls P f args (xt w y) fun e w' => e = .returned v ∧ Ext (xt w y) w') :
  Calls P f args (xt w y) fun e w'' => e = .returned v ∧ ∃ z,w'' = xt w z :=
 h.mono fun _ _ ⟨he,hx⟩ => ⟨he,((Ext.refl w).xt y |>.trans hx).get⟩

theorem wp_region_grows {P : Program} {id : Nat} {Q : Exit → Act → World → Prop} {a : Act} {w : World} {l : List Oper} (hm : P.follows .mixedOrders = true) (hB : Region.lexB .any l.toArray = true)
  (h : wpQuiet P l.toArray (fun w' => ∃ y,w' = xt w y) (fun a' => ∀ w',(∃ y,w' = xt w y) → Q .normal a' w') l a) : (Code.region id l.toArray true).wp P Q a w :=
 wp_region_quiet (C:=fun w' => ∃ y,w' = xt w y) hm hB (Ext.refl w).drew.get (by simpa using h)

theorem wqN {P : Program} {ops : Array Oper} {w : World} {R : Act → World → Prop} {a : Act} (h : ∀ y,R a (xt w y)) : wpQuiet P ops (fun w' => ∃ y,w' = xt w y) (fun a' => ∀ w',(∃ y,w' = xt w y) → R a' w') [] a:=wpQuiet_nil (by rintro _ ⟨y,rfl⟩;exact h y)

theorem run_bytes {P : Program} (w : World) (src dst e : TypeId) (s : ByteArray) {u : TypeDesc} (hs : P.underlying src = some u) (hd : P.underlying dst = some (.slice e)) (he : P.underlying e = some (.int .u8)) :
  ∃ y cap,(convert src dst (.string s)).run P w = .ok (.slice (some ⟨w.heap.size,0,none⟩) s.size cap) (xt w y) ∧ ∀ j (hj : j < s.size),xtCell w y ⟨w.heap.size,j,none⟩ = some (.int .u8 s[j].toNat):=by
 have hx : Ext w (Lib.bytesWorld w e s):=⟨rfl,rfl,rfl,by rw [Lib.bytesWorld_size];omega,fun k hk => Lib.bytesWorld_at_old w e s k hk⟩
 obtain ⟨y,hy⟩:=hx.get
 refine ⟨y,grownCap w s.size 0 e,?_,fun j hj => ?_⟩
 ·rw [← hy];exact Lib.run_convert_string_bytes w src dst e s hs hd he
 ·unfold xtCell
  rw [← hy,Lib.bytesWorld_cell w e s j hj]
  have : s.data.toList.getD j 0 = s[j]:=by
   rw [List.getD_eq_getElem?_getD,List.getElem?_eq_getElem (by exact hj)];rfl
  rw [this]

theorem Ext.cell {w w' : World} (h : Ext w w') {p : Addr} {v : Value} (hc : w.cell? p = some v) : w'.cell? p = some v:=by
 rw [Below.cell h (World.block_lt_of_cell? w p hc),hc]

noncomputable def cellx (w : World) (p : Addr) : Option Value:=w.cell? p
theorem held {W w' : World} (h : Ext W w') : (∀ p,w'.cell? p = (W.cell? p).or (cellx w' p)) ∧ Ext W w':=⟨fun p => by
 cases hc : W.cell? p with
 | none => rfl
 | some v => rw [h.cell hc];rfl,h⟩


structure Sl (w : World) (A : Option Addr) (size : Nat) (rows : List (List Value)) : Prop where
 at_ : ∀ i row,rows[i]? = some row → row.length = size ∧ ∃ b o,A = some ⟨b,o,none⟩ ∧ ∀ j v,row[j]? = some v → w.cell? ⟨b,o + i * size + j,none⟩ = some v

theorem Sl.mono {w w' : World} {A : Option Addr} {size : Nat} {rows : List (List Value)} (h : Sl w A size rows) (hx : Ext w w') : Sl w' A size rows :=
 ⟨fun i row hr => by
  obtain ⟨h1,b,o,h2,h3⟩:=h.at_ i row hr
  exact ⟨h1,b,o,h2,fun j v hv => hx.cell (h3 j v hv)⟩⟩

theorem Sl.nil (w : World) (A : Option Addr) (size : Nat) : Sl w A size []:=⟨fun i row h => by simp at h⟩

theorem Sl.row2 {w : World} {A : Option Addr} {rows : List (List Value)} {i : Nat} {v0 v1 : Value} (h : Sl w A 2 rows) (hr : rows[i]? = some [v0,v1]) :
  ∃ b o,A = some ⟨b,o,none⟩ ∧ w.cell? ⟨b,o + i * 2,none⟩ = some v0 ∧ w.cell? ⟨b,o + i * 2 + 1,none⟩ = some v1:=by
 obtain ⟨_,b,o,hA,hc⟩:=h.at_ i _ hr
 exact ⟨b,o,hA,hc 0 _ rfl,hc 1 _ rfl⟩
theorem Sl.row3 {w : World} {A : Option Addr} {rows : List (List Value)} {i : Nat} {v0 v1 v2 : Value} (h : Sl w A 3 rows) (hr : rows[i]? = some [v0,v1,v2]) :
  ∃ b o,A = some ⟨b,o,none⟩ ∧ w.cell? ⟨b,o + i * 3,none⟩ = some v0 ∧ w.cell? ⟨b,o + i * 3 + 1,none⟩ = some v1 ∧ w.cell? ⟨b,o + i * 3 + 2,none⟩ = some v2:=by
 obtain ⟨_,b,o,hA,hc⟩:=h.at_ i _ hr
 exact ⟨b,o,hA,hc 0 _ rfl,hc 1 _ rfl,hc 2 _ rfl⟩
theorem Sl.row4 {w : World} {A : Option Addr} {rows : List (List Value)} {i : Nat} {v0 v1 v2 v3 : Value} (h : Sl w A 4 rows) (hr : rows[i]? = some [v0,v1,v2,v3]) :
  ∃ b o,A = some ⟨b,o,none⟩ ∧ w.cell? ⟨b,o + i * 4,none⟩ = some v0 ∧ w.cell? ⟨b,o + i * 4 + 1,none⟩ = some v1 ∧ w.cell? ⟨b,o + i * 4 + 2,none⟩ = some v2 ∧ w.cell? ⟨b,o + i * 4 + 3,none⟩ = some v3:=by
 obtain ⟨_,b,o,hA,hc⟩:=h.at_ i _ hr
 exact ⟨b,o,hA,hc 0 _ rfl,hc 1 _ rfl,hc 2 _ rfl,hc 3 _ rfl⟩
theorem Sl.row5 {w : World} {A : Option Addr} {rows : List (List Value)} {i : Nat} {v0 v1 v2 v3 v4 : Value} (h : Sl w A 5 rows) (hr : rows[i]? = some [v0,v1,v2,v3,v4]) :
  ∃ b o,A = some ⟨b,o,none⟩ ∧ w.cell? ⟨b,o + i * 5,none⟩ = some v0 ∧ w.cell? ⟨b,o + i * 5 + 1,none⟩ = some v1 ∧ w.cell? ⟨b,o + i * 5 + 2,none⟩ = some v2 ∧ w.cell? ⟨b,o + i * 5 + 3,none⟩ = some v3 ∧ w.cell? ⟨b,o + i * 5 + 4,none⟩ = some v4:=by
 obtain ⟨_,b,o,hA,hc⟩:=h.at_ i _ hr
 exact ⟨b,o,hA,hc 0 _ rfl,hc 1 _ rfl,hc 2 _ rfl,hc 3 _ rfl,hc 4 _ rfl⟩
theorem Sl.row6 {w : World} {A : Option Addr} {rows : List (List Value)} {i : Nat} {v0 v1 v2 v3 v4 v5 : Value} (h : Sl w A 6 rows) (hr : rows[i]? = some [v0,v1,v2,v3,v4,v5]) :
  ∃ b o,A = some ⟨b,o,none⟩ ∧ w.cell? ⟨b,o + i * 6,none⟩ = some v0 ∧ w.cell? ⟨b,o + i * 6 + 1,none⟩ = some v1 ∧ w.cell? ⟨b,o + i * 6 + 2,none⟩ = some v2 ∧ w.cell? ⟨b,o + i * 6 + 3,none⟩ = some v3 ∧ w.cell? ⟨b,o + i * 6 + 4,none⟩ = some v4 ∧ w.cell? ⟨b,o + i * 6 + 5,none⟩ = some v5:=by
 obtain ⟨_,b,o,hA,hc⟩:=h.at_ i _ hr
 exact ⟨b,o,hA,hc 0 _ rfl,hc 1 _ rfl,hc 2 _ rfl,hc 3 _ rfl,hc 4 _ rfl,hc 5 _ rfl⟩

end Go.Proofs.Ytgbecbnjokkfoaa
