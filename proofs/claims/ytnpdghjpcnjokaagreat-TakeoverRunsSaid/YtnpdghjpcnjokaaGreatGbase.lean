import Derived.WalkKit
import Derived.WalkSpells
import Derived.WalkLawsBesides
import Derived.Deep.MidRow
import Derived.BigQuiet
import Derived.Lib.Hide
import Derived.Lib.ConvBytes
import Derived.Deep.Light
import Derived.Deep.LoopGhost
import Derived.Deep.DeepMust
import Derived.Deep.DeepFit
import Derived.Deep.RegionHeld3
import Derived.Deep.AppendLies
import Derived.Deep.DeepCutAuto
import Derived.Maps.AppendAt
import Derived.StillTailTactics
namespace Go.Proofs.YtnpdghjpcnjokaaGreat
open Go.RowKit
theorem kr {p:Prop}(h:p:=by kernel_rfl):p:=h
theorem om {p:Prop}(h:p:=by omega):p:=h
theorem dk {p:Prop}(h:p:=by decide):p:=h
theorem sg {p:Prop}(h:p:=by simp[go_sem]):p:=h
theorem zh {p:Prop}(h:p):Hid p:=Lib.hid h

def Ext (w w':World):Prop:=Below w.heap.size w w'

theorem Ext.refl (w:World):Ext w w:=Below.refl _ _
theorem Ext.trans {a b c:World}(h:Ext a b)(k:Ext b c):Ext a c:=Below.trans h (Below.mono k h.size)
theorem Ext.drew {a w:World}(h:Ext a w):Ext a w.drew:=Below.drew h
theorem Ext.drewN {a w:World}(h:Ext a w)(n:Nat):Ext a (w.drewN n):=⟨h.os,h.tape,h.output,h.size,h.block⟩
theorem Ext.alloc {a w:World}(h:Ext a w)(o:Obj):Ext a (w.alloc o):=Below.alloc h h.size o
structure Gr where
 objs:Array Obj
 drawn:Nat
instance : Inhabited Gr:=⟨⟨#[],0⟩⟩
def Gr.n (y:Gr):Nat:=y.objs.size
def xt (w:World) (y:Gr):World:={w with heap:=w.heap++y.objs,drawn:=y.drawn}

theorem zlu (w:World)(y:Gr):Below w.heap.size w (xt w y):=by refine⟨rfl,rfl,rfl,by simp[xt],fun k hk=> ?_⟩;show(w.heap++y.objs)[k]?=_;rw[Array.getElem?_append_left hk]

theorem Ext.xt {a w:World}(h:Ext a w)(y:Gr):Ext a (xt w y):=h.trans (zlu w y)

theorem ex {a w:World}(h:Ext a w:=by repeat(first|exact Ext.refl _|assumption|apply Ext.xt|apply Ext.alloc|apply Ext.drew|apply Ext.drewN)):Ext a w:=h
theorem Ext.get {w w':World}(h:Ext w w'):∃y,w'= YtnpdghjpcnjokaaGreat.xt w y:=by
 have hs:=h.size;refine⟨⟨w'.heap.extract w.heap.size w'.heap.size,w'.drawn⟩,?_⟩;have hh:w'.heap=w.heap++w'.heap.extract w.heap.size w'.heap.size:=by
  apply Array.ext_getElem?;intro k;rcases Nat.lt_or_ge k w.heap.size with hk|hk
  ·rw[Array.getElem?_append_left hk,h.block k hk]
  ·rw[Array.getElem?_append_right hk,Array.getElem?_extract];split
   ·congr 1;omega
   ·rw[Array.getElem?_eq_none om]
 obtain⟨h1,h2,h3,_,_⟩:=h;cases w;cases w';simp only[YtnpdghjpcnjokaaGreat.xt] at *
 subst h1 h2 h3;rw[←hh]

theorem zzg {P : Program} {f : FuncId} {a : Array Value} {w : World} {V : Ending} {R : Ending → World → Prop} (h : Calls P f a w fun e w' => e = V ∧ Ext w w') (k : ∀ y : Gr, R V (xt w y)) : Calls P f a w R := h.mono fun e w' ⟨he, hx⟩ => by obtain ⟨y, rfl⟩ := hx.get; subst he; exact k y
theorem lsT {α : Type} (l : List α) (i : Nat) (a : α) : l.toArray.setIfInBounds i a = (l.set i a).toArray := by simp only [List.setIfInBounds_toArray]
theorem lsS {α : Type} (x : α) (l : List α) (i : Nat) (a : α) : (x :: l).set (i + 1) a = x :: l.set i a := rfl
theorem lsZ {α : Type} (x : α) (l : List α) (a : α) : (x :: l).set 0 a = a :: l := rfl
instance : Coe Int Value := ⟨fun x => .int .i64 x⟩
instance : Coe Nat Value := ⟨fun x => .int .i64 (x : Int)⟩
instance : Coe Bool Value := ⟨fun x => .bool x⟩
structure RZ where
  k : Nat
def zI : RZ := ⟨0⟩
instance : CoeDep RZ zI Value := ⟨.int .i64 0⟩
@[go_sem] theorem zmJ (w : World) (y : Gr) : (xt w y).heap.size = w.heap.size + y.n:=by simp [xt,Gr.n]
@[go_sem] theorem xt_tape (w : World) (y : Gr) : (xt w y).tape = w.tape:=rfl
@[go_sem] theorem xt_os (w : World) (y : Gr) : (xt w y).os = w.os:=rfl
@[go_sem] theorem xt_output (w : World) (y : Gr) : (xt w y).output = w.output:=rfl
noncomputable def zFN (w:World) (y:Gr) (p:Addr):Option Value:=(xt w y).cell? p
noncomputable def xtFroz (w:World) (y:Gr) (p:Addr):Bool:=(xt w y).frozen? p

@[go_sem] theorem xt_cell (w : World) (y : Gr) (p : Addr) : (xt w y).cell? p = (w.cell? p).or (zFN w y p):=by
 cases h:w.cell? p with
 |none=>rfl
 |some v=>rw[(zlu w y).cell (World.block_lt_of_cell? w p h),h];rfl
theorem lt_of_some {w:World}{p:Addr}(h:(w.cell? p).isSome=true):p.block<w.heap.size:=by obtain⟨v,hv⟩:=Option.isSome_iff_exists.1 h;exact World.block_lt_of_cell? w p hv
@[go_sem] theorem xt_froz (w : World) (y : Gr) (p : Addr) (h : (w.cell? p).isSome = true) : (xt w y).frozen? p = w.frozen? p:=(zlu w y).frozen (lt_of_some h)
@[go_sem] theorem xt_setCell (w : World) (y : Gr) (n i : Nat) (v : Value) (h : (w.cell? ⟨n,i,none⟩).isSome = true) : (xt w y).setCell ⟨n,i,none⟩ v = xt (w.setCell ⟨n,i,none⟩ v) y:=by
 have h:=lt_of_some h;simp only[] at h;unfold World.setCell xt;congr 1;apply Array.ext_getElem?;intro k;simp only[Array.getElem?_modify,Array.getElem?_append,Array.size_modify];by_cases hk:k<w.heap.size
 ·simp[hk]
 ·rw[if_neg hk,if_neg hk,if_neg om]
noncomputable def newCell (w:World) (o:Obj) (p:Addr):Option Value:=(w.alloc o).cell? p
theorem zAX (w:World)(o:Obj)(p:Addr):(w.alloc o).cell? p=(w.cell? p).or (newCell w o p):=by
 cases h:w.cell? p with
 |none=>rfl
 |some v=>rw[World.cell?_alloc_lt w o p (World.block_lt_of_cell? w p h),h];rfl
attribute [go_sem low] zAX
@[go_sem] theorem alloc_froz (w : World) (o : Obj) (p : Addr) (h : (w.cell? p).isSome = true) : (w.alloc o).frozen? p = w.frozen? p :=
 World.frozen?_alloc_old w o p (Nat.ne_of_lt (lt_of_some h))
@[go_sem] theorem alloc_setCell (w : World) (o : Obj) (n i : Nat) (v : Value) (h : (w.cell? ⟨n,i,none⟩).isSome = true) : (w.alloc o).setCell ⟨n,i,none⟩ v = (w.setCell ⟨n,i,none⟩ v).alloc o :=
 World.setCell_alloc_past o n i v (lt_of_some h)

@[go_sem] theorem cell_none (w : World) (i : Nat) : w.cell? ⟨w.heap.size,i,none⟩ = none:=by simp [World.cell?]
@[go_sem] theorem cell_none' (w : World) (n i : Nat) : w.cell? ⟨w.heap.size + n,i,none⟩ = none:=by unfold World.cell?;rw[Array.getElem?_eq_none (by simp)]
theorem Calls.grows {P:Program}{f:FuncId}{args:Array Value}{w:World}{y:Gr}{v:Value}(h:Calls P f args (xt w y) fun e w'=>e=.returned v∧Ext (xt w y) w'):
  Calls P f args (xt w y) fun e w''=>e=.returned v∧∃z,w''=xt w z:=
 h.mono fun _ _ ⟨he,hx⟩=>⟨he,((Ext.refl w).xt y|>.trans hx).get⟩

theorem zcL {P:Program} {id:Nat} {Q:Exit→Act→World→Prop} {a:Act} {w:World} {l:List Oper} (hm:P.follows .mixedOrders=true) (hB:Region.lexB .any l.toArray=true)
  (h:wpQuiet P l.toArray (fun w'=> ∃y,w'=xt w y) (fun a'=> ∀w',(∃y,w'=xt w y)→Q .normal a' w') l a):(Code.region id l.toArray true).wp P Q a w:=
 wp_region_quiet (C:=fun w'=> ∃y,w'=xt w y) hm hB (Ext.refl w).drew.get (by simpa using h)

theorem wqN {P:Program}{ops:Array Oper}{w:World}{R:Act→World→Prop}{a:Act}(h:∀y,R a (xt w y)):wpQuiet P ops (fun w'=> ∃y,w'=xt w y) (fun a'=> ∀w',(∃y,w'=xt w y)→R a' w') [] a:=wpQuiet_nil (by rintro _ ⟨y,rfl⟩;exact h y)

theorem Ext.cell {w w':World}(h:Ext w w'){p:Addr}{v:Value}(hc:w.cell? p=some v):w'.cell? p=some v:=by rw[Below.cell h (World.block_lt_of_cell? w p hc),hc]

noncomputable def cellx (w:World) (p:Addr):Option Value:=w.cell? p
theorem held {W w':World}(h:Ext W w'):(∀p,w'.cell? p=(W.cell? p).or (cellx w' p))∧Ext W w':=⟨fun p=>by
 cases hc:W.cell? p with
 |none=>rfl
 |some v=>rw[h.cell hc];rfl,h⟩


structure Sl (w : World) (A : Option Addr) (size : Nat) (rows : List (List Value)) : Prop where
 at_:∀i row,rows[i]?=some row→row.length=size∧∃b o,A=some ⟨b,o,none⟩∧∀j v,row[j]?=some v→w.cell? ⟨b,o+i * size+j,none⟩=some v

theorem Sl.mono {w w':World}{A:Option Addr}{size:Nat}{rows:List (List Value)}(h:Sl w A size rows)(hx:Ext w w'):Sl w' A size rows:=
 ⟨fun i row hr=>by obtain⟨h1,b,o,h2,h3⟩:=h.at_ i row hr;exact⟨h1,b,o,h2,fun j v hv=>hx.cell (h3 j v hv)⟩⟩

theorem Sl.nil (w:World)(A:Option Addr)(size:Nat):Sl w A size []:=⟨fun i row h=>by simp at h⟩

theorem Sl.row2 {w:World}{A:Option Addr}{rows:List (List Value)}{i:Nat}{v0 v1:Value}(h:Sl w A 2 rows)(hr:rows[i]?=some [v0,v1]):
  ∃b o,A=some ⟨b,o,none⟩∧w.cell? ⟨b,o+i * 2,none⟩=some v0∧w.cell? ⟨b,o+i * 2+1,none⟩=some v1:=by
 obtain⟨_,b,o,hA,hc⟩:=h.at_ i _ hr;exact⟨b,o,hA,hc 0 _ rfl,hc 1 _ rfl⟩
theorem Sl.row3 {w:World}{A:Option Addr}{rows:List (List Value)}{i:Nat}{v0 v1 v2:Value}(h:Sl w A 3 rows)(hr:rows[i]?=some [v0,v1,v2]):
  ∃b o,A=some ⟨b,o,none⟩∧w.cell? ⟨b,o+i * 3,none⟩=some v0∧w.cell? ⟨b,o+i * 3+1,none⟩=some v1∧w.cell? ⟨b,o+i * 3+2,none⟩=some v2:=by
 obtain⟨_,b,o,hA,hc⟩:=h.at_ i _ hr;exact⟨b,o,hA,hc 0 _ rfl,hc 1 _ rfl,hc 2 _ rfl⟩
theorem Sl.row4 {w:World}{A:Option Addr}{rows:List (List Value)}{i:Nat}{v0 v1 v2 v3:Value}(h:Sl w A 4 rows)(hr:rows[i]?=some [v0,v1,v2,v3]):
  ∃b o,A=some ⟨b,o,none⟩∧w.cell? ⟨b,o+i * 4,none⟩=some v0∧w.cell? ⟨b,o+i * 4+1,none⟩=some v1∧w.cell? ⟨b,o+i * 4+2,none⟩=some v2∧w.cell? ⟨b,o+i * 4+3,none⟩=some v3:=by
 obtain⟨_,b,o,hA,hc⟩:=h.at_ i _ hr;exact⟨b,o,hA,hc 0 _ rfl,hc 1 _ rfl,hc 2 _ rfl,hc 3 _ rfl⟩
theorem Sl.row5 {w:World}{A:Option Addr}{rows:List (List Value)}{i:Nat}{v0 v1 v2 v3 v4:Value}(h:Sl w A 5 rows)(hr:rows[i]?=some [v0,v1,v2,v3,v4]):
  ∃b o,A=some ⟨b,o,none⟩∧w.cell? ⟨b,o+i * 5,none⟩=some v0∧w.cell? ⟨b,o+i * 5+1,none⟩=some v1∧w.cell? ⟨b,o+i * 5+2,none⟩=some v2∧w.cell? ⟨b,o+i * 5+3,none⟩=some v3∧w.cell? ⟨b,o+i * 5+4,none⟩=some v4:=by
 obtain⟨_,b,o,hA,hc⟩:=h.at_ i _ hr;exact⟨b,o,hA,hc 0 _ rfl,hc 1 _ rfl,hc 2 _ rfl,hc 3 _ rfl,hc 4 _ rfl⟩
theorem Sl.row6 {w:World}{A:Option Addr}{rows:List (List Value)}{i:Nat}{v0 v1 v2 v3 v4 v5:Value}(h:Sl w A 6 rows)(hr:rows[i]?=some [v0,v1,v2,v3,v4,v5]):
  ∃b o,A=some ⟨b,o,none⟩∧w.cell? ⟨b,o+i * 6,none⟩=some v0∧w.cell? ⟨b,o+i * 6+1,none⟩=some v1∧w.cell? ⟨b,o+i * 6+2,none⟩=some v2∧w.cell? ⟨b,o+i * 6+3,none⟩=some v3∧w.cell? ⟨b,o+i * 6+4,none⟩=some v4∧w.cell? ⟨b,o+i * 6+5,none⟩=some v5:=by
 obtain⟨_,b,o,hA,hc⟩:=h.at_ i _ hr;exact⟨b,o,hA,hc 0 _ rfl,hc 1 _ rfl,hc 2 _ rfl,hc 3 _ rfl,hc 4 _ rfl,hc 5 _ rfl⟩

open Go.RowKit

theorem ret_i {k:IntKind}{a b:Int}(h:a=b):Ending.returned (.int k a)=.returned (.int k b):=by rw[h]
theorem ret_b {a b:Bool}(h:a=b):Ending.returned (.bool a)=.returned (.bool b):=by rw[h]

structure Param where
 ch:Int
 attr:Int
 deriving DecidableEq
structure Val where
 pal:Int
 lev:Int
 deriving DecidableEq
structure Move where
 p:Param
 v:Val
 part:Int
 deriving DecidableEq
structure Timing where
 up:Int
 down:Int
 pos:Int
 col:Int
 beam:Int
 del:Int
 deriving DecidableEq
structure Cue where
 number:ByteArray
 label:ByteArray
 moves:List Move
 parts:List Timing
 block:Bool
 mark:Bool
 follow:Int
 link:ByteArray
 loops:Int

def prm (p:Param):List Value:=[.int .i64 p.ch,.int .i64 p.attr]
def vl (v:Val):List Value:=[.int .i64 v.pal,.int .i64 v.lev]
def mv (m:Move):List Value:=[.int .i64 m.p.ch,.int .i64 m.p.attr,.int .i64 m.v.pal,.int .i64 m.v.lev,.int .i64 m.part]
def tmg (t:Timing):List Value:=[.int .i64 t.up,.int .i64 t.down,.int .i64 t.pos,.int .i64 t.col,.int .i64 t.beam,.int .i64 t.del]

def scan {α:Type} (f:Option α→α→Int):Option α→List α→Int
 |_,[]=>0
 |q,x::l=>if f q x≠0 then f q x else scan f (some x) l
def prv {α:Type} (l:List α) (k:Nat):Option α:=if k=0 then none else l[k - 1]?
theorem zbk {α:Type}(l:List α)(k:Nat):prv l (k+1)=l[k]?:=by unfold prv;rw[if_neg om,Nat.add_sub_cancel]
theorem zcu {α:Type}(f:Option α→α→Int)(l:List α)(k:Nat)(x:α)(h:l[k]?=some x):
  scan f (prv l k) (l.drop k)=if f (prv l k) x≠0 then f (prv l k) x else scan f (prv l (k+1)) (l.drop (k+1)):=by
 obtain⟨hk,hx⟩:=List.getElem?_eq_some_iff.1 h;rw[List.drop_eq_getElem_cons hk,hx];simp only[scan];rw[zbk,h]
theorem zbX {α:Type}(f:Option α→α→Int)(l:List α)(k:Nat)(q:Option α)(h:l.length≤k):scan f q (l.drop k)=0:=by rw[List.drop_eq_nil_of_le h];rfl
theorem ze3 {α:Type}(f:Option α→α→Int)(l:List α)(h:scan f none l=0):∀k x,l[k]?=some x→f (prv l k) x=0:=by
 have key:∀k,k≤l.length→scan f (prv l k) (l.drop k)=0:=by
  intro k
  induction k with
  |zero=>intro _;simpa [prv] using h
  |succ k ih=>
   intro hk;have h1:=ih om;rw[zcu f l k l[k] (List.getElem?_eq_getElem om)] at h1;split at h1
   ·contradiction
   ·exact h1
 intro k x hx;have h1:=key k (Nat.le_of_lt (List.getElem?_eq_some_iff.1 hx).1);rw[zcu f l k x hx] at h1;split at h1
 ·exact h1
 ·rename_i h2;simpa using h2
theorem zf2 {α:Type}(f:Option α→α→Int)(l:List α)(h:∀k x,l[k]?=some x→f (prv l k) x=0):scan f none l=0:=by
 have key:∀n k,k+n=l.length→scan f (prv l k) (l.drop k)=0:=by
  intro n
  induction n with
  |zero=>intro k hk;exact zbX f l k _ om
  |succ n ih=>intro k hk;have hx:l[k]?=some l[k]:=List.getElem?_eq_getElem om;rw[zcu f l k _ hx,if_neg (by rw[h k _ hx];simp)];exact ih (k+1) om
 have:=key l.length 0 om;simpa [prv] using this

def zak (p:Param):Int:=if p.ch<1∨999<p.ch∨p.attr<0∨15≤p.attr then 2 else 0
def zev (v:Val):Int:=if(v.pal=0∧0≤v.lev∧v.lev≤65535)∨(-1≤v.pal∧v.pal≤1048576∧v.pal≠0∧v.lev=0) then 0 else 2
def before (p q:Param):Bool:=decide (p.ch<q.ch∨(p.ch=q.ch∧p.attr<q.attr))
def cmpP (p q:Param):Int:=if p.ch≠q.ch then p.ch - q.ch else p.attr - q.attr
theorem zfE (p q:Param):(cmpP p q<0)↔before p q=true:=by simp only[cmpP,before,decide_eq_true_eq];split<;>omega
theorem zcB {p:Param}(h:zak p=0):1≤p.ch∧p.ch≤999∧0≤p.attr∧p.attr<15:=by unfold zak at h;split at h<;>omega
def zcM (m:Move):Int:=if zak m.p≠0 then zak m.p else if zev m.v≠0 then zev m.v else if m.part<1∨4<m.part then 2 else 0
def moveE (q:Option Move) (m:Move):Int:=if zcM m≠0 then zcM m else match q with|some n=>if before n.p m.p then 0 else 9|none=>0
def zaV (l:List Move):Int:=if 128<l.length then 5 else scan moveE none l
def zcx (v:Int):Bool:=decide (0≤v∧v≤10000000)
def zbd (t:Timing):Bool:=zcx t.up && zcx t.down && zcx t.pos && zcx t.col && zcx t.beam && zcx t.del
def tnth (t:Timing):Nat→Int
 |0=>t.up|1=>t.down|2=>t.pos|3=>t.col|4=>t.beam|_=>t.del
def zer (l:List Timing):Int:=if l.length=0 then 12 else if 4<l.length then 5 else if l.all zbd then 0 else 2
def zcC (c:Cue):Int:=if zer c.parts≠0 then zer c.parts else if c.moves.any (fun m=>decide ((c.parts.length:Int)<m.part)) then 6 else 0
def zfj (c:UInt8):Bool:=!(decide ((c.toNat:Int)<32)||decide (126<(c.toNat:Int))||((c.toNat:Int)==34))
def zej (s:ByteArray):Int:=if 24<s.size then 13 else if s.data.toList.all zfj then 0 else 3

open Go.RowKit
structure Entry where
 p:Param
 v:Val
 deriving DecidableEq
def en (e:Entry):List Value:=[.int .i64 e.p.ch,.int .i64 e.p.attr,.int .i64 e.v.pal,.int .i64 e.v.lev]
