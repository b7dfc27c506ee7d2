import Derived.Test.YtgbecbnjokkfoaaGpal
import Derived.Test.YtgbecbnjokkfoaaFind
set_option maxHeartbeats 800000
set_option maxRecDepth 100000
namespace Go.Proofs.Ytgbecbnjokkfoaa
open Go.RowKit

theorem tw_iff {α : Type} (q : α → Bool) {l : List α} (hm : ∀ (i j : Nat) (a b : α),i < j → l[i]? = some a → l[j]? = some b → q b = true → q a = true) {i : Nat} {a : α} (ha : l[i]? = some a) : (q a = true) ↔ i < (l.takeWhile q).length:=by
 constructor
 ·intro hb
  rcases Nat.lt_or_ge i (l.takeWhile q).length with h1 | h1
  ·exact h1
  ·obtain ⟨hil,_⟩:=List.getElem?_eq_some_iff.1 ha
   obtain ⟨x,hx⟩ : ∃ x,l[(l.takeWhile q).length]? = some x:=⟨_,List.getElem?_eq_getElem (by omega)⟩
   have h2:=getElem?_takeWhile_at q l x hx
   rcases Nat.lt_or_ge (l.takeWhile q).length i with h3 | h3
   ·rw [hm _ _ _ _ h3 hx ha hb] at h2;cases h2
   ·have h5 : (l.takeWhile q).length = i:=by omega
    rw [h5,ha] at hx
    injection hx with hx
    rw [← hx,hb] at h2;cases h2
 ·exact getElem?_takeWhile_lt q l i a ha
theorem chain_lt {α : Type} (r : α → α → Prop) (ht : ∀ a b c,r a b → r b c → r a c) {l : List α} (hn : ∀ (i : Nat) (a b : α),l[i]? = some a → l[i + 1]? = some b → r a b) : ∀ (d i : Nat) (a b : α),l[i]? = some a → l[i + d + 1]? = some b → r a b
 | 0,i,a,b,ha,hb => hn i a b ha hb
 | d + 1,i,a,b,ha,hb => by
  obtain ⟨hlt,_⟩:=List.getElem?_eq_some_iff.1 hb
  have hc : l[i + d + 1]? = some l[i + d + 1]:=List.getElem?_eq_getElem (by omega)
  exact ht _ _ _ (chain_lt r ht hn d i a _ ha hc) (hn _ _ _ hc hb)

def posN (l : List Pal) (n : Int) : Nat:=(l.takeWhile fun p => decide (p.number < n)).length
def foundN (l : List Pal) (n : Int) : Bool:=match l[posN l n]? with | some p => decide (p.number = n) | none => false
theorem posN_le (l : List Pal) (n : Int) : posN l n ≤ l.length:=(List.takeWhile_sublist _).length_le
theorem palsE_scan {l : List Pal} (h : palsE l = 0) : l.length ≤ 32 ∧ scan palE none l = 0:=by
 unfold palsE at h
 split at h
 ·omega
 ·exact ⟨by omega,h⟩
theorem pal_in {l : List Pal} (h : scan palE none l = 0) {i : Nat} {a : Pal} (ha : l[i]? = some a) : 1 ≤ a.number ∧ a.number ≤ 1048576 ∧ huesE a.hues = 0:=by
 have h1:=scan_ok palE l h i a ha
 unfold palE at h1
 grind
theorem pal_next {l : List Pal} (h : scan palE none l = 0) (i : Nat) (a b : Pal) (ha : l[i]? = some a) (hb : l[i + 1]? = some b) : a.number < b.number:=by
 have h1:=scan_ok palE l h (i + 1) b hb
 rw [prv_succ,ha] at h1
 unfold palE at h1
 simp only [decide_eq_true_eq] at h1
 grind
theorem pal_lt {l : List Pal} (h : scan palE none l = 0) {i j : Nat} {a b : Pal} (hij : i < j) (ha : l[i]? = some a) (hb : l[j]? = some b) : a.number < b.number :=
 chain_lt (fun x y : Pal => x.number < y.number) (fun _ _ _ h1 h2 => Int.lt_trans h1 h2) (pal_next h) (j - i - 1) i a b ha (by rw [show i + (j - i - 1) + 1 = j by omega];exact hb)
theorem posN_iff {l : List Pal} (h : scan palE none l = 0) (n : Int) {i : Nat} {a : Pal} (ha : l[i]? = some a) : a.number < n ↔ i < posN l n:=by
 have:=tw_iff (fun p : Pal => decide (p.number < n)) (l:=l) (fun i j a b hij hi hj hb => by
  have h1:=pal_lt h hij hi hj
  simp at hb ⊢
  omega) ha
 simpa [posN] using this

theorem pal_search1 (p : Pal) (n : Int) (w : World) (hp : 1 ≤ p.number ∧ p.number ≤ 1048576) (hn : -2000000 ≤ n ∧ n ≤ 2000000) :
  Calls Try.prog 33 #[.agg (palR p).toArray,.int .i64 n] w fun e w' => e = .returned (.int .i64 (p.number - n)) ∧ Ext w w':=by
 obtain ⟨h1,h2⟩:=hp
 obtain ⟨h3,h4⟩:=hn
 simp only [palR]
 go_enter Try.func33,Try.ntmps33
 go_wp2
 go_ret
 exact ⟨rfl,ex⟩

theorem BinarySearch_pals (A : Option Addr) (c : Nat) (l : List Pal) (n : Int) (w : World) (hs : Sl w A 2 (l.map palR)) (hl : l.length ≤ 1000000) (hok : scan palE none l = 0) (hn : -2000000 ≤ n ∧ n ≤ 2000000) :
  Calls Try.prog 32 #[.slice A l.length c,.int .i64 n,.func (Fn.func 33) #[] #[]] w
   fun e w' => e = .returned (.tuple #[.int .i64 (posN l n),.bool (foundN l n)]) ∧ Ext w w':=by
 have hpl:=posN_le l n
 have HOK:=Lib.hid hok
 have HN:=Lib.hid hn
 clear hok hn
 go_enter Try.func32,Try.ntmps32
 go_wp2
 go_loopw [9,10] (fun i j wr => ∃ lo hi : Nat,lo ≤ posN l n ∧ posN l n ≤ hi ∧ hi ≤ l.length ∧ i = .int .i64 lo ∧ j = .int .i64 hi ∧ Ext w wr) (fun i j _ => (intOf j).toNat - (intOf i).toNat)
 case atStart => exact ⟨0,l.length,by omega,hpl,by omega,rfl,rfl,Ext.refl _⟩
 case round =>
  obtain ⟨lo,hi,h1,h2,h3,rfl,rfl,hx⟩:=hrel
  obtain ⟨y,rfl⟩:=hx.get
  clear hx
  by_cases hlt : lo < hi
  ·obtain ⟨mid,hmid,hm1,hm2⟩ : ∃ mid : Nat,((lo : Int) + (hi : Int)) / 2 = (mid : Int) ∧ lo ≤ mid ∧ mid < hi:=⟨(lo + hi) / 2,by omega,by omega,by omega⟩
   obtain ⟨m,hm⟩ : ∃ m,l[mid]? = some m:=⟨_,List.getElem?_eq_getElem (by omega)⟩
   have HI:=Lib.hid (posN_iff HOK.out n hm)
   have HQ:=Lib.hid (pal_in HOK.out hm)
   obtain ⟨b,o,rfl,hc0,hc1⟩:=hs.row2 (i:=mid) (by rw [List.getElem?_map,hm];rfl)
   clear hm hs
   have hb0 : (0 : Int) ≤ (mid : Int):=by omega
   have hb1 : (mid : Int) < (l.length : Int):=by omega
   by_cases hbf : m.number < n
   ·have hlo : mid + 1 ≤ posN l n:=by have:=HI.out.1 hbf;omega
    have hd : m.number - n < 0:=by omega
    clear HI
    go_wp2_with (go_at_call 33;refine (pal_search1 m n _ ⟨HQ.out.1,HQ.out.2.1⟩ HN.out).mono ?_;rintro e w' ⟨rfl,hx⟩;obtain ⟨y,rfl⟩:=hx.get;clear hx)
    go_light
    refine ⟨⟨mid + 1,hi,hlo,h2,h3,by go_num,rfl,ex⟩,by simp [intOf];omega⟩
   ·have hhi : posN l n ≤ mid:=by
     rcases Nat.lt_or_ge mid (posN l n) with h | h
     ·exact absurd (HI.out.2 h) hbf
     ·exact h
    have hd : 0 ≤ m.number - n:=by omega
    clear HI hbf
    go_wp2_with (go_at_call 33;refine (pal_search1 m n _ ⟨HQ.out.1,HQ.out.2.1⟩ HN.out).mono ?_;rintro e w' ⟨rfl,hx⟩;obtain ⟨y,rfl⟩:=hx.get;clear hx)
    go_light
    refine ⟨⟨lo,mid,h1,hhi,by omega,rfl,by go_num,ex⟩,by simp [intOf];omega⟩
  ·obtain rfl : lo = hi:=by omega
   have hpos : posN l n = lo:=by omega
   have HE:=Lib.hid hpos
   by_cases hnl : lo < l.length
   ·obtain ⟨m,hm⟩ : ∃ m,l[lo]? = some m:=⟨_,List.getElem?_eq_getElem (by omega)⟩
    have HQ:=Lib.hid (pal_in HOK.out hm)
    have HF : Hid (foundN l n = (m.number - n == 0)):=Lib.hid (by
     unfold foundN
     rw [hpos,hm]
     simp only []
     rw [Bool.eq_iff_iff,decide_eq_true_iff,beq_iff_eq]
     omega)
    obtain ⟨b,o,rfl,hc0,hc1⟩:=hs.row2 (i:=lo) (by rw [List.getElem?_map,hm];rfl)
    clear hm hs hpos
    have hb0 : (0 : Int) ≤ (lo : Int):=by omega
    have hb1 : (lo : Int) < (l.length : Int):=by omega
    go_wp2_with (go_at_call 33;refine (pal_search1 m n _ ⟨HQ.out.1,HQ.out.2.1⟩ HN.out).mono ?_;rintro e w' ⟨rfl,hx⟩;obtain ⟨y,rfl⟩:=hx.get;clear hx)
    go_ret2
    rw [HE.out,HF.out]
    exact ⟨rfl,ex⟩
   ·have HF : Hid (foundN l n = false):=Lib.hid (by
     unfold foundN
     rw [hpos,List.getElem?_eq_none (by omega)])
    have hb0 : (0 : Int) ≤ (lo : Int):=by omega
    have hb1 : decide ((lo : Int) < (l.length : Int)) = false:=by rw [decide_eq_false_iff_not];omega
    have hb2 : decide (lo < l.length) = false:=by rw [decide_eq_false_iff_not];omega
    clear hpos
    go_wp2
    go_ret2
    rw [HE.out,HF.out]
    exact ⟨rfl,ex⟩
theorem pal_search (A : Option Addr) (c : Nat) (l : List Pal) (n : Int) (w : World) (hs : Sl w A 2 (l.map palR)) (hl : l.length ≤ 1000000) (hok : scan palE none l = 0) (hn : -2000000 ≤ n ∧ n ≤ 2000000) :
  Calls Try.prog 17 #[.slice A l.length c,.int .i64 n] w fun e w' => e = .returned (.tuple #[.int .i64 (posN l n),.bool (foundN l n)]) ∧ Ext w w':=by
 have HOK:=Lib.hid hok
 have HN:=Lib.hid hn
 clear hok hn
 go_enter Try.func17,Try.ntmps17
 go_wp2_with (go_at_call 32;refine (BinarySearch_pals A c l n _ (hs.mono (ex)) hl HOK.out HN.out).mono ?_;rintro e w' ⟨rfl,hx⟩;obtain ⟨y,rfl⟩:=hx.get;clear hx)
 go_ret2
 exact ⟨rfl,ex⟩
end Go.Proofs.Ytgbecbnjokkfoaa

namespace Go.Proofs.Ytgbecbnjokkfoaa
open Go.RowKit

def posH (l : List Hue) (p : Param) : Nat:=(l.takeWhile fun h => before h.p p).length
def foundH (l : List Hue) (p : Param) : Bool:=match l[posH l p]? with | some h => decide (h.p = p) | none => false
theorem posH_le (l : List Hue) (p : Param) : posH l p ≤ l.length:=(List.takeWhile_sublist _).length_le
theorem huesE_scan {l : List Hue} (h : huesE l = 0) : l.length ≤ 256 ∧ scan hueE none l = 0:=by
 unfold huesE at h
 split at h
 ·omega
 ·exact ⟨by omega,h⟩
theorem hue_in {l : List Hue} (h : scan hueE none l = 0) {i : Nat} {a : Hue} (ha : l[i]? = some a) : paramE0 a.p = 0 ∧ levB a.lev = true:=by
 have h1:=scan_ok hueE l h i a ha
 unfold hueE hueE1 at h1
 grind
theorem hue_next {l : List Hue} (h : scan hueE none l = 0) (i : Nat) (a b : Hue) (ha : l[i]? = some a) (hb : l[i + 1]? = some b) : before a.p b.p = true:=by
 have h1:=scan_ok hueE l h (i + 1) b hb
 rw [prv_succ,ha] at h1
 unfold hueE at h1
 grind
theorem hue_lt {l : List Hue} (h : scan hueE none l = 0) {i j : Nat} {a b : Hue} (hij : i < j) (ha : l[i]? = some a) (hb : l[j]? = some b) : before a.p b.p = true :=
 chain_lt (fun x y : Hue => before x.p y.p = true) (fun _ _ _ h1 h2 => before_trans h1 h2) (hue_next h) (j - i - 1) i a b ha (by rw [show i + (j - i - 1) + 1 = j by omega];exact hb)
theorem posH_iff {l : List Hue} (h : scan hueE none l = 0) (p : Param) {i : Nat} {a : Hue} (ha : l[i]? = some a) : before a.p p = true ↔ i < posH l p :=
 tw_iff (fun x : Hue => before x.p p) (l:=l) (fun _ _ _ _ hij hi hj hb => before_trans (hue_lt h hij hi hj) hb) ha

theorem pal_hue1 (h : Hue) (p : Param) (w : World) (hh : paramE0 h.p = 0) (hp : paramE0 p = 0) :
  Calls Try.prog 55 #[.agg (hueR h).toArray,.agg (prm p).toArray] w fun e w' => e = .returned (.int .i64 (cmpP h.p p)) ∧ Ext w w':=by
 have HH:=Lib.hid hh
 have HP:=Lib.hid hp
 clear hh hp
 simp only [hueR,prm]
 go_enter Try.func55,Try.ntmps55
 go_wp2
 (refine wp_region_grows (by kernel_rfl) (by kernel_rfl) ?_;(repeat (go_big_quiet_step (first | (go_at_call 56;exact Calls.grows (pal_place h _)) | (go_at_call 47;exact Calls.grows (pal_compare0 h.p p _ HH.out HP.out)))));refine wpQuiet_nil ?_;rintro _ ⟨y,rfl⟩)
 go_wp2
 go_ret
 exact ⟨rfl,ex⟩

theorem BinarySearch_hues (A : Option Addr) (c : Nat) (l : List Hue) (p : Param) (w : World) (hs : Sl w A 3 (l.map hueR)) (hl : l.length ≤ 1000000) (hok : scan hueE none l = 0) (hp : paramE0 p = 0) :
  Calls Try.prog 54 #[.slice A l.length c,.agg (prm p).toArray,.func (Fn.func 55) #[] #[]] w
   fun e w' => e = .returned (.tuple #[.int .i64 (posH l p),.bool (foundH l p)]) ∧ Ext w w':=by
 have hpl:=posH_le l p
 have HOK:=Lib.hid hok
 have HP:=Lib.hid hp
 clear hok hp
 simp only [prm]
 go_enter Try.func54,Try.ntmps54
 go_wp2
 go_loopw [9,10] (fun i j wr => ∃ lo hi : Nat,lo ≤ posH l p ∧ posH l p ≤ hi ∧ hi ≤ l.length ∧ i = .int .i64 lo ∧ j = .int .i64 hi ∧ Ext (w.alloc (.cells #[.int .i64 p.ch,.int .i64 p.attr] 40)) wr) (fun i j _ => (intOf j).toNat - (intOf i).toNat)
 case atStart => exact ⟨0,l.length,by omega,hpl,by omega,rfl,rfl,Ext.refl _⟩
 case round =>
  obtain ⟨lo,hi,h1,h2,h3,rfl,rfl,hx⟩:=hrel
  obtain ⟨y,rfl⟩:=hx.get
  clear hx
  by_cases hlt : lo < hi
  ·obtain ⟨mid,hmid,hm1,hm2⟩ : ∃ mid : Nat,((lo : Int) + (hi : Int)) / 2 = (mid : Int) ∧ lo ≤ mid ∧ mid < hi:=⟨(lo + hi) / 2,by omega,by omega,by omega⟩
   obtain ⟨m,hm⟩ : ∃ m,l[mid]? = some m:=⟨_,List.getElem?_eq_getElem (by omega)⟩
   have HI:=Lib.hid (posH_iff HOK.out p hm)
   have HQ:=Lib.hid (hue_in HOK.out hm).1
   have HB:=Lib.hid (cmpP_before m.p p)
   obtain ⟨b,o,rfl,hc0,hc1,hc2⟩:=hs.row3 (i:=mid) (by rw [List.getElem?_map,hm];rfl)
   clear hm hs
   have hb0 : (0 : Int) ≤ (mid : Int):=by omega
   have hb1 : (mid : Int) < (l.length : Int):=by omega
   by_cases hbf : cmpP m.p p < 0
   ·have hlo : mid + 1 ≤ posH l p:=by have:=HI.out.1 (HB.out.1 hbf);omega
    clear HI HB
    go_wp2
    (refine wp_region_grows (by kernel_rfl) (by kernel_rfl) ?_;(repeat (go_big_quiet_step ((go_at_call 55;exact Calls.grows (pal_hue1 m p _ HQ.out HP.out)))));refine wpQuiet_nil ?_;rintro _ ⟨y,rfl⟩)
    go_wp2
    go_light
    refine ⟨⟨mid + 1,hi,hlo,h2,h3,by go_num,rfl,ex⟩,by simp [intOf];omega⟩
   ·have hhi : posH l p ≤ mid:=by
     rcases Nat.lt_or_ge mid (posH l p) with h | h
     ·exact absurd (HB.out.2 (HI.out.2 h)) hbf
     ·exact h
    have hbf' : 0 ≤ cmpP m.p p:=by omega
    clear HI HB hbf
    go_wp2
    (refine wp_region_grows (by kernel_rfl) (by kernel_rfl) ?_;(repeat (go_big_quiet_step ((go_at_call 55;exact Calls.grows (pal_hue1 m p _ HQ.out HP.out)))));refine wpQuiet_nil ?_;rintro _ ⟨y,rfl⟩)
    go_wp2
    go_light
    refine ⟨⟨lo,mid,h1,hhi,by omega,rfl,by go_num,ex⟩,by simp [intOf];omega⟩
  ·obtain rfl : lo = hi:=by omega
   have hpos : posH l p = lo:=by omega
   have HE:=Lib.hid hpos
   by_cases hn : lo < l.length
   ·obtain ⟨m,hm⟩ : ∃ m,l[lo]? = some m:=⟨_,List.getElem?_eq_getElem (by omega)⟩
    have HQ:=Lib.hid (hue_in HOK.out hm).1
    have HF : Hid (foundH l p = (cmpP m.p p == 0)):=Lib.hid (by
     unfold foundH
     rw [hpos,hm]
     simp only []
     rw [Bool.eq_iff_iff,decide_eq_true_iff,beq_iff_eq,cmpP_zero])
    obtain ⟨b,o,rfl,hc0,hc1,hc2⟩:=hs.row3 (i:=lo) (by rw [List.getElem?_map,hm];rfl)
    clear hm hs hpos
    have hb0 : (0 : Int) ≤ (lo : Int):=by omega
    have hb1 : (lo : Int) < (l.length : Int):=by omega
    go_wp2
    (refine wp_region_grows (by kernel_rfl) (by kernel_rfl) ?_;(repeat (go_big_quiet_step ((go_at_call 55;exact Calls.grows (pal_hue1 m p _ HQ.out HP.out)))));refine wpQuiet_nil ?_;rintro _ ⟨y,rfl⟩)
    go_wp2
    go_ret2
    rw [HE.out,HF.out]
    exact ⟨rfl,ex⟩
   ·have HF : Hid (foundH l p = false):=Lib.hid (by
     unfold foundH
     rw [hpos,List.getElem?_eq_none (by omega)])
    have hb0 : (0 : Int) ≤ (lo : Int):=by omega
    have hb1 : decide ((lo : Int) < (l.length : Int)) = false:=by rw [decide_eq_false_iff_not];omega
    have hb2 : decide (lo < l.length) = false:=by rw [decide_eq_false_iff_not];omega
    clear hpos
    go_wp2
    (refine wp_region_grows (by kernel_rfl) (by kernel_rfl) ?_;(repeat (go_big_quiet_step (fail)));refine wpQuiet_nil ?_;rintro _ ⟨y,rfl⟩)
    go_wp2
    go_ret2
    rw [HE.out,HF.out]
    exact ⟨rfl,ex⟩
end Go.Proofs.Ytgbecbnjokkfoaa
