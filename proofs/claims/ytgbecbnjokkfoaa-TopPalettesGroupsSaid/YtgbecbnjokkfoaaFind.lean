import Derived.Test.YtgbecbnjokkfoaaCue4
namespace Go.Proofs.Ytgbecbnjokkfoaa
set_option maxHeartbeats 800000
open Go.RowKit

def posP (l : List Move) (p : Param) : Nat:=(l.takeWhile fun m => before m.p p).length
theorem posP_le (l : List Move) (p : Param) : posP l p ≤ l.length:=by
 unfold posP
 exact (List.takeWhile_sublist _).length_le
theorem movesOk_before {l : List Move} (h : scan moveE none l = 0) {i : Nat} {a b : Move} (ha : l[i]? = some a) (hb : l[i + 1]? = some b) : before a.p b.p = true:=by
 have h1:=scan_ok moveE l h (i + 1) b hb
 rw [prv_succ,ha] at h1
 unfold moveE at h1
 grind
theorem before_trans {a b c : Param} (h : before a b = true) (k : before b c = true) : before a c = true:=by
 simp only [before,decide_eq_true_eq] at *;omega
theorem before_irrefl (a : Param) : before a a = false:=by simp [before]
theorem before_total {a b : Param} (h : before a b = false) : before b a = true ∨ a = b:=by
 simp only [before,decide_eq_true_eq,decide_eq_false_iff_not] at *
 cases a;cases b;simp only [Param.mk.injEq] at *;omega
theorem movesOk_lt {l : List Move} (h : scan moveE none l = 0) : ∀ (d i : Nat) (a b : Move),l[i]? = some a → l[i + d + 1]? = some b → before a.p b.p = true
 | 0,i,a,b,ha,hb => movesOk_before h ha hb
 | d + 1,i,a,b,ha,hb => by
  obtain ⟨hlt,_⟩:=List.getElem?_eq_some_iff.1 hb
  have hc : l[i + d + 1]? = some l[i + d + 1]:=List.getElem?_eq_getElem (by omega)
  exact before_trans (movesOk_lt h d i a _ ha hc) (movesOk_before h hc hb)
theorem getElem?_takeWhile_lt {α : Type} (q : α → Bool) : ∀ (l : List α) (i : Nat) (x : α),l[i]? = some x → i < (l.takeWhile q).length → q x = true
 | [],i,x,h,_ => by simp at h
 | y :: l,i,x,h,hi => by
  rw [List.takeWhile_cons] at hi
  split at hi
  ·rename_i hy
   cases i with
   | zero => simp at h;subst h;exact hy
   | succ i => exact getElem?_takeWhile_lt q l i x (by simpa using h) (by simpa using hi)
  ·simp at hi
theorem getElem?_takeWhile_at {α : Type} (q : α → Bool) : ∀ (l : List α) (x : α),l[(l.takeWhile q).length]? = some x → q x = false
 | [],x,h => by simp at h
 | y :: l,x,h => by
  rw [List.takeWhile_cons] at h
  split at h
  ·exact getElem?_takeWhile_at q l x (by simpa using h)
  ·rename_i hy
   simp at h;subst h;simpa using hy
theorem posP_iff {l : List Move} (h : scan moveE none l = 0) (p : Param) {i : Nat} {a : Move} (ha : l[i]? = some a) : (before a.p p = true) ↔ i < posP l p:=by
 constructor
 ·intro hb
  rcases Nat.lt_or_ge i (posP l p) with h1 | h1
  ·exact h1
  ·obtain ⟨hil,_⟩:=List.getElem?_eq_some_iff.1 ha
   obtain ⟨x,hx⟩ : ∃ x,l[posP l p]? = some x:=⟨_,List.getElem?_eq_getElem (by omega)⟩
   have h2 : before x.p p = false:=getElem?_takeWhile_at (fun m => before m.p p) l x (by unfold posP at hx;exact hx)
   rcases Nat.lt_or_ge (posP l p) i with h3 | h3
   ·have h4:=movesOk_lt h (i - posP l p - 1) (posP l p) _ a hx (by rw [show posP l p + (i - posP l p - 1) + 1 = i by omega];exact ha)
    rw [before_trans h4 hb] at h2;cases h2
   ·have h5 : posP l p = i:=by omega
    rw [h5,ha] at hx
    injection hx with hx
    rw [← hx,hb] at h2;cases h2
 ·exact getElem?_takeWhile_lt (fun m => before m.p p) l i a ha
def foundP (l : List Move) (p : Param) : Bool:=match l[posP l p]? with | some m => decide (m.p = p) | none => false

theorem cue_find1 (m : Move) (p : Param) (w : World) (hm : paramE m.p = 0) (hp : paramE p = 0) :
  Calls Try.prog 52 #[.agg (mv m).toArray,.agg (prm p).toArray] w fun e w' => e = .returned (.int .i64 (cmpP m.p p)) ∧ Ext w w':=by
 simp only [mv,prm]
 go_enter Try.func52,Try.ntmps52
 go_wp2_with (go_at_call 53;refine (cue_compare m.p p _ hm hp).mono ?_;rintro e w' ⟨rfl,hx⟩;obtain ⟨y,rfl⟩:=hx.get;clear hx)
 go_ret
 exact ⟨rfl,ex⟩

theorem BinarySearch_moves (A : Option Addr) (c : Nat) (l : List Move) (p : Param) (w : World) (hs : Sl w A 5 (l.map mv)) (hl : l.length ≤ 1000000) (hok : scan moveE none l = 0) (hp : paramE p = 0) :
  Calls Try.prog 51 #[.slice A l.length c,.agg (prm p).toArray,.func (Fn.func 52) #[] #[]] w
   fun e w' => e = .returned (.tuple #[.int .i64 (posP l p),.bool (foundP l p)]) ∧ Ext w w':=by
 have hpl:=posP_le l p
 have HOK:=Lib.hid hok
 have HP:=Lib.hid hp
 clear hok hp
 simp only [prm]
 go_enter Try.func51,Try.ntmps51
 go_wp2
 go_loopw [9,10] (fun i j wr => ∃ lo hi : Nat,lo ≤ posP l p ∧ posP l p ≤ hi ∧ hi ≤ l.length ∧ i = .int .i64 lo ∧ j = .int .i64 hi ∧ Ext (w.alloc (.cells #[.int .i64 p.ch,.int .i64 p.attr] 40)) wr) (fun i j _ => (intOf j).toNat - (intOf i).toNat)
 case atStart => exact ⟨0,l.length,by omega,hpl,by omega,rfl,rfl,Ext.refl _⟩
 case round =>
  obtain ⟨lo,hi,h1,h2,h3,rfl,rfl,hx⟩:=hrel
  obtain ⟨y,rfl⟩:=hx.get
  clear hx
  by_cases hlt : lo < hi
  ·obtain ⟨mid,hmid,hm1,hm2⟩ : ∃ mid : Nat,((lo : Int) + (hi : Int)) / 2 = (mid : Int) ∧ lo ≤ mid ∧ mid < hi:=⟨(lo + hi) / 2,by omega,by omega,by omega⟩
   obtain ⟨m,hm⟩ : ∃ m,l[mid]? = some m:=⟨_,List.getElem?_eq_getElem (by omega)⟩
   have HI:=Lib.hid (posP_iff HOK.out p hm)
   have HQ:=Lib.hid (moveE_param (scan_ok moveE l HOK.out mid m hm))
   have HB:=Lib.hid (cmpP_before m.p p)
   obtain ⟨b,o,rfl,hc0,hc1,hc2,hc3,hc4⟩:=hs.row5 (i:=mid) (by rw [List.getElem?_map,hm];rfl)
   clear hm hs
   have hb0 : (0 : Int) ≤ (mid : Int):=by omega
   have hb1 : (mid : Int) < (l.length : Int):=by omega
   by_cases hbf : cmpP m.p p < 0
   ·have hlo : mid + 1 ≤ posP l p:=by have:=HI.out.1 (HB.out.1 hbf);omega
    clear HI HB
    go_wp2
    (refine wp_region_grows (by kernel_rfl) (by kernel_rfl) ?_;(repeat (go_big_quiet_step ((go_at_call 52;exact Calls.grows (cue_find1 m p _ HQ.out HP.out)))));refine wpQuiet_nil ?_;rintro _ ⟨y,rfl⟩)
    go_wp2
    go_light
    refine ⟨⟨mid + 1,hi,hlo,h2,h3,by go_num,rfl,ex⟩,by simp [intOf];omega⟩
   ·have hhi : posP l p ≤ mid:=by
     rcases Nat.lt_or_ge mid (posP l p) with h | h
     ·exact absurd (HB.out.2 (HI.out.2 h)) hbf
     ·exact h
    have hbf' : 0 ≤ cmpP m.p p:=by omega
    clear HI HB hbf
    go_wp2
    (refine wp_region_grows (by kernel_rfl) (by kernel_rfl) ?_;(repeat (go_big_quiet_step ((go_at_call 52;exact Calls.grows (cue_find1 m p _ HQ.out HP.out)))));refine wpQuiet_nil ?_;rintro _ ⟨y,rfl⟩)
    go_wp2
    go_light
    refine ⟨⟨lo,mid,h1,hhi,by omega,rfl,by go_num,ex⟩,by simp [intOf];omega⟩
  ·obtain rfl : lo = hi:=by omega
   have hpos : posP l p = lo:=by omega
   have HE:=Lib.hid hpos
   by_cases hn : lo < l.length
   ·obtain ⟨m,hm⟩ : ∃ m,l[lo]? = some m:=⟨_,List.getElem?_eq_getElem (by omega)⟩
    have HQ:=Lib.hid (moveE_param (scan_ok moveE l HOK.out lo m hm))
    have HF : Hid (foundP l p = (cmpP m.p p == 0)):=Lib.hid (by
     unfold foundP
     rw [hpos,hm]
     simp only []
     rw [Bool.eq_iff_iff,decide_eq_true_iff,beq_iff_eq,cmpP_zero])
    obtain ⟨b,o,rfl,hc0,hc1,hc2,hc3,hc4⟩:=hs.row5 (i:=lo) (by rw [List.getElem?_map,hm];rfl)
    clear hm hs hpos
    have hb0 : (0 : Int) ≤ (lo : Int):=by omega
    have hb1 : (lo : Int) < (l.length : Int):=by omega
    go_wp2
    (refine wp_region_grows (by kernel_rfl) (by kernel_rfl) ?_;(repeat (go_big_quiet_step ((go_at_call 52;exact Calls.grows (cue_find1 m p _ HQ.out HP.out)))));refine wpQuiet_nil ?_;rintro _ ⟨y,rfl⟩)
    go_wp2
    go_ret2
    rw [HE.out,HF.out]
    exact ⟨rfl,ex⟩
   ·have HF : Hid (foundP l p = false):=Lib.hid (by
     unfold foundP
     rw [hpos,List.getElem?_eq_none (by omega)])
    have hb0 : (0 : Int) ≤ (lo : Int):=by omega
    have hb1 : decide ((lo : Int) < (l.length : Int)) = false:=by rw [decide_eq_false_iff_not];omega
    have hb2 : decide (lo < l.length) = false:=by rw [decide_eq_false_iff_not];omega
    clear hpos
    go_wp2
    (refine wp_region_grows (by kernel_rfl) (by kernel_rfl) ?_;(repeat (go_big_quiet_step (fail)));refine wpQuiet_nil ?_;rintro _ ⟨y,rfl⟩)
    go_wp2
    go_ret2
    rw [HE.out,HF.out]
    exact ⟨rfl,ex⟩

theorem cue_find (A : Option Addr) (c : Nat) (l : List Move) (p : Param) (w : World) (hs : Sl w A 5 (l.map mv)) (hl : l.length ≤ 1000000) (hok : scan moveE none l = 0) (hp : paramE p = 0) :
  Calls Try.prog 25 #[.slice A l.length c,.agg (prm p).toArray] w fun e w' => e = .returned (.tuple #[.int .i64 (posP l p),.bool (foundP l p)]) ∧ Ext w w':=by
 have HOK:=Lib.hid hok
 have HP:=Lib.hid hp
 clear hok hp
 simp only [prm]
 go_enter Try.func25,Try.ntmps25
 go_wp2_with (go_at_call 51;refine (BinarySearch_moves A c l p _ (hs.mono (ex)) hl HOK.out HP.out).mono ?_;rintro e w' ⟨rfl,hx⟩;obtain ⟨y,rfl⟩:=hx.get;clear hx)
 go_ret2
 exact ⟨rfl,ex⟩

theorem movesE_scan {l : List Move} (h : movesE l = 0) : l.length ≤ 128 ∧ scan moveE none l = 0:=by
 unfold movesE at h
 split at h
 ·omega
 ·exact ⟨by omega,h⟩
theorem cueE_ok {c : Cue} (h : cueE c = 0) : numE c.number = 0 ∧ labelE c.label = 0 ∧ movesE c.moves = 0 ∧ partsE c = 0 ∧ nextE c = 0:=by
 unfold cueE at h;grind

def findV (c : Cue) (p : Param) : Int × Bool × Int :=
 if cueE c ≠ 0 then (0,false,cueE c) else if paramE p ≠ 0 then (0,false,paramE p) else if foundP c.moves p then (posP c.moves p,true,0) else (0,false,0)
theorem ret_ibi {a b : Int} {p q : Bool} {x y : Int} (h : (a,p,x) = (b,q,y)) : Ending.returned (.tuple #[.int .i64 a,.bool p,.int .i64 x]) = .returned (.tuple #[.int .i64 b,.bool q,.int .i64 y]):=by
 injection h with h1 h2;injection h2 with h2 h3;rw [h1,h2,h3]

theorem cue_Find (c : Cue) (A : Option Addr) (k : Nat) (B : Option Addr) (m : Nat) (p : Param) (w : World) (hc : CueAt w c A k B m) :
  Calls Try.prog 10 #[.agg (cueV c A k B m).toArray,.agg (prm p).toArray] w
   fun e w' => e = .returned (.tuple #[.int .i64 (findV c p).1,.bool (findV c p).2.1,.int .i64 (findV c p).2.2]) ∧ Ext w w':=by
 have HC:=Lib.hid hc
 have hmv:=hc.mv
 clear hc
 simp only [cueV,prm]
 by_cases hE : cueE c = 0
 ·have HM:=Lib.hid (movesE_scan (cueE_ok hE).2.2.1)
  by_cases hp : paramE p = 0
  ·have HF : Hid (findV c p = if foundP c.moves p then ((posP c.moves p : Int),true,0) else (0,false,0)):=Lib.hid (by unfold findV;rw [if_neg (by omega),if_neg (by omega)])
   have HP:=Lib.hid hp
   have hE' : (cueE c != 0) = false:=by simpa using hE
   have hp' : (paramE p != 0) = false:=by simpa using hp
   clear hE hp
   go_enter Try.func10,Try.ntmps10
   go_wp2_with (first | (go_at_call 20;refine (cue_Check c A k B m _ (HC.out.mono (ex))).mono ?_;rintro e w' ⟨rfl,hx⟩;obtain ⟨y,rfl⟩:=hx.get;clear hx) | (go_at_call 24;refine (cue_param p _).mono ?_;rintro e w' ⟨rfl,hx⟩;obtain ⟨y,rfl⟩:=hx.get;clear hx) | (go_at_call 25;refine (cue_find A k c.moves p _ (hmv.mono (ex)) (Nat.le_trans HM.out.1 (by omega)) HM.out.2 HP.out).mono ?_;rintro e w' ⟨rfl,hx⟩;obtain ⟨y,rfl⟩:=hx.get;clear hx))
   all_goals
    go_ret3
    go_light
    refine ⟨ret_ibi ?_,ex⟩
    rw [HF.out]
    simp [*]
  ·have HF : Hid (findV c p = (0,false,paramE p)):=Lib.hid (by unfold findV;rw [if_neg (by omega),if_pos (by omega)])
   have hE' : (cueE c != 0) = false:=by simpa using hE
   have hp' : (paramE p != 0) = true:=by simpa using hp
   clear hE hp
   go_enter Try.func10,Try.ntmps10
   go_wp2_with (first | (go_at_call 20;refine (cue_Check c A k B m _ (HC.out.mono (ex))).mono ?_;rintro e w' ⟨rfl,hx⟩;obtain ⟨y,rfl⟩:=hx.get;clear hx) | (go_at_call 24;refine (cue_param p _).mono ?_;rintro e w' ⟨rfl,hx⟩;obtain ⟨y,rfl⟩:=hx.get;clear hx))
   go_ret3
   go_light
   refine ⟨ret_ibi ?_,ex⟩
   rw [HF.out]
 ·have HF : Hid (findV c p = (0,false,cueE c)):=Lib.hid (by unfold findV;rw [if_pos (by omega)])
  have hE' : (cueE c != 0) = true:=by simpa using hE
  clear hE
  go_enter Try.func10,Try.ntmps10
  go_wp2_with (go_at_call 20;refine (cue_Check c A k B m _ (HC.out.mono (ex))).mono ?_;rintro e w' ⟨rfl,hx⟩;obtain ⟨y,rfl⟩:=hx.get;clear hx)
  go_ret3
  go_light
  refine ⟨ret_ibi ?_,ex⟩
  rw [HF.out]
end Go.Proofs.Ytgbecbnjokkfoaa
