import Derived.Test.YtgbecbnjokkfoaaInsP
import Derived.Test.YtgbecbnjokkfoaaMerge
import Derived.Test.YtgbecbnjokkfoaaGpale
import Derived.Test.YtgbecbnjokkfoaaRef6
import Derived.Test.YtgbecbnjokkfoaaCSet
set_option maxHeartbeats 1600000
set_option maxRecDepth 100000
namespace Go.Proofs.Ytgbecbnjokkfoaa
open Go.RowKit
attribute [local go_sem ↓] Go.wp_at_zero Go.wp_at_succ

theorem Clone_P (A : Option Addr) (k : Nat) (l : List Pal) (w : World) (hs : Sl w A 2 (l.map palR)) (hl : l.length ≤ 1000000) : Calls Try.prog 18 #[.slice A l.length k] w (RetSl w 34 2 l.length (l.map palR)):=by
 cases A with
 | none =>
  have hnil : l = []:=by simpa using hs.none_nil
  subst hnil
  go_enter Try.func18,Try.ntmps18
  go_wp2
  go_ret
  exact ⟨_,_,rfl,ex,Own.nil _⟩
 | some a =>
  go_enter Try.func18,Try.ntmps18
  go_wp2_with (at_builtin;refine wpList_append_mine (w0:=w) rfl _ _ 46 46 rfl 34 34 2 32 Try.underlying46 Try.underlying46 info_Pal (by decide) (ex) _ 0 0 [] rfl (Own.nil _) (some a) l.length _ (l.map palR) rfl (hs.mono (ex)) (by simp) (palR_one l) (by unfold maxLen;omega) (by omega) l.length (by omega) (l.map palR) rfl ?_;intro A' k' w1 hx1 hown hg hA;have HO:=Lib.hid hown;obtain ⟨y,rfl⟩:=hx1.get;clear hown hx1 hg hA)
  go_ret
  exact ⟨_,_,rfl,ex,HO.out⟩

def placeP (l : List Pal) (x : Pal) : List Pal:=if foundN l x.number then l.set (posN l x.number) x else insAtP l (posN l x.number) x
theorem placeP_mem {l : List Pal} {x p : Pal} (h : p ∈ placeP l x) : p ∈ l ∨ p = x:=by
 unfold placeP at h
 split at h
 ·exact List.mem_or_eq_of_mem_set h
 ·simp only [insAtP,List.mem_append,List.mem_cons] at h
  rcases h with h | h | h
  ·exact .inl (List.mem_of_mem_take h)
  ·exact .inr h
  ·exact .inl (List.mem_of_mem_drop h)
def RetPals (w : World) (l : List Pal) (e : Ending) (w' : World) : Prop:=∃ D q,e = .returned (.tuple #[.slice D l.length q,.int .i64 0]) ∧ Ext w w' ∧ Pals w' D l

section
variable (A : Option Addr) (c : Nat) (l : List Pal) (x : Pal) (w : World) (hp : Pals w A l) (hok : palsE l = 0) (hx : Sl w x.at_ 3 (x.hues.map hueR)) (hxl : x.hues.length ≤ maxLen) (hxo : palsE [x] = 0)
include hp hok hx hxl hxo
theorem pal_Put_ok (hne : foundN l x.number = true ∨ l.length < 32) : Calls Try.prog 8 #[.slice A l.length c,.agg (palR x).toArray] w (RetPals w (placeP l x)):=by
 have HP:=Lib.hid hp
 have HX:=Lib.hid hx
 have HXL:=Lib.hid hxl
 have hll:=(palsE_scan hok).1
 have HSC:=Lib.hid (palsE_scan hok).2
 have hone : [x].length ≤ maxLen:=(by decide : 1 ≤ maxLen)
 have hlm : l.length ≤ maxLen:=by unfold maxLen;omega
 have h0 : palsE l = 0:=hok
 have h1 : palsE [x] = 0:=hxo
 have hpl:=posN_le l x.number
 have HN:=Lib.hid (show -2000000 ≤ x.number ∧ x.number ≤ 2000000 by have:=pal_in (palsE_scan hxo).2 (i:=0) (a:=x) rfl;omega)
 have HM:=Lib.hid (fun p (h : p ∈ placeP l x) => placeP_mem h)
 clear hp hx hxl hok hxo
 simp only [palR]
 cases hf : foundN l x.number
 ·have hlt : l.length < 32:=hne.resolve_left (by rw [hf];simp)
  have HV:=Lib.hid (show placeP l x = insAtP l (posN l x.number) x by unfold placeP;rw [if_neg (by rw [hf];simp)])
  clear hne
  have hd : ((l.length : Int) == 32) = false:=by rw [beq_eq_false_iff_ne];omega
  go_enter Try.func8,Try.ntmps8
  go_wp2_with (first
   | (go_at_call 16;have hh:=G1;clear hh;refine (pal_Check _ 1 [x] _ (pals_one (Sl.alloc' (by simp [go_sem]) rfl (by simp [palR])) (HX.out.mono (ex)) HXL.out) hone).mono ?_;rintro e w' ⟨rfl,hx⟩;obtain ⟨y2,rfl⟩:=hx.get;clear hx)
   | (go_at_call 16;refine (pal_Check A c l _ (HP.out.mono (ex)) hlm).mono ?_;rintro e w' ⟨rfl,hx⟩;have G1:=Lib.hid trivial;obtain ⟨y1,rfl⟩:=hx.get;clear hx)
   | (go_at_call 17;refine (pal_search A c l x.number _ (HP.out.sl.mono (ex)) (by omega) HSC.out HN.out).mono ?_;rintro e w' ⟨rfl,hx⟩;obtain ⟨y,rfl⟩:=hx.get;clear hx)
   | (go_at_call 18;refine (Clone_P A c l _ (HP.out.sl.mono (ex)) (by omega)).mono ?_;rintro e w' ⟨D,d,rfl,hx,hown⟩;have HO:=Lib.hid (Own.base (show Ext w _ from ex) hown);obtain ⟨y3,rfl⟩:=hx.get;clear hx hown)
   | (go_at_call 19;refine (InsertP w D d l (posN l x.number) x _ _ (ex) (HO.out.mono (ex)) (by omega) hpl (heap_new (by simp [go_sem])) (fun hk a ha => by have:=(HO.out.lt hk a ha);simp [go_sem] at this ⊢;omega)).mono ?_;rintro e w' ⟨D1,c1,rfl,hx,hown,hgr⟩;have HO1:=Lib.hid hown;obtain ⟨y4,rfl⟩:=hx.get;clear hx hown hgr))
  go_ret2
  have hln : (placeP l x).length = l.length + 1:=by rw [HV.out];exact insAt_lenP _ _ _
  refine ⟨D1,c1,by rw [hln];rfl,ex,⟨by rw [HV.out];exact HO1.out.sl.mono (ex),fun p hp => ?_⟩⟩
  rcases HM.out p hp with h | h
  ·exact ⟨(HP.out.hu p h).1.mono (ex),(HP.out.hu p h).2⟩
  ·subst h;exact ⟨HX.out.mono (ex),HXL.out⟩
 ·clear hne
  obtain ⟨z,hz,hzn⟩:=foundN_get hf
  have hpos : posN l x.number < l.length:=(List.getElem?_eq_some_iff.1 hz).1
  have HV:=Lib.hid (show placeP l x = l.set (posN l x.number) x by unfold placeP;rw [if_pos (by rw [hf])])
  have hb2 : (0 : Int) ≤ (posN l x.number : Int):=by omega
  have hb3 : (posN l x.number : Int) < (l.length : Int):=by omega
  clear hz hzn
  go_enter Try.func8,Try.ntmps8
  go_wp2_with (first
   | (go_at_call 16;have hh:=G1;clear hh;refine (pal_Check _ 1 [x] _ (pals_one (Sl.alloc' (by simp [go_sem]) rfl (by simp [palR])) (HX.out.mono (ex)) HXL.out) hone).mono ?_;rintro e w' ⟨rfl,hx⟩;obtain ⟨y2,rfl⟩:=hx.get;clear hx)
   | (go_at_call 16;refine (pal_Check A c l _ (HP.out.mono (ex)) hlm).mono ?_;rintro e w' ⟨rfl,hx⟩;have G1:=Lib.hid trivial;obtain ⟨y1,rfl⟩:=hx.get;clear hx)
   | (go_at_call 17;refine (pal_search A c l x.number _ (HP.out.sl.mono (ex)) (by omega) HSC.out HN.out).mono ?_;rintro e w' ⟨rfl,hx⟩;obtain ⟨y,rfl⟩:=hx.get;clear hx)
   | (go_at_call 18;refine (Clone_P A c l _ (HP.out.sl.mono (ex)) (by omega)).mono ?_;rintro e w' ⟨D,d,rfl,hx,hown⟩;obtain ⟨g,rfl,_,_⟩:=hown.there (i:=posN l x.number) hpos;have HO:=Lib.hid (Own.base (show Ext w _ from ex) hown);obtain ⟨y3,rfl⟩:=hx.get;clear hx hown)
   | (refine wpList_store_mine (w0:=w) rfl 34 _ _ rfl 34 2 (ex) g l.length d (posN l x.number) (l.map palR) (HO.out.mono (ex)) hpos (palR x) (by rfl) (by rfl) rfl (palR_one [x] _ (by simp)) (by kernel_rfl) ?_;intro w1 hx1 hown hg;have HO1:=Lib.hid hown;obtain ⟨y4,rfl⟩:=hx1.get;clear hown hx1 hg))
  go_ret2
  have hln : (placeP l x).length = l.length:=by rw [HV.out];simp
  refine ⟨_,_,by rw [hln];rfl,ex,⟨by rw [HV.out,List.map_set];exact HO1.out.sl.mono (ex),fun p hp => ?_⟩⟩
  rcases HM.out p hp with h | h
  ·exact ⟨(HP.out.hu p h).1.mono (ex),(HP.out.hu p h).2⟩
  ·subst h;exact ⟨HX.out.mono (ex),HXL.out⟩
theorem pal_Put_full (hf : foundN l x.number = false) (h32 : l.length = 32) : Calls Try.prog 8 #[.slice A l.length c,.agg (palR x).toArray] w fun e w' => e = .returned (.tuple #[.slice none 0 0,.int .i64 5]) ∧ Ext w w':=by
 have HP:=Lib.hid hp
 have HX:=Lib.hid hx
 have HXL:=Lib.hid hxl
 have hll:=(palsE_scan hok).1
 have HSC:=Lib.hid (palsE_scan hok).2
 have hone : [x].length ≤ maxLen:=(by decide : 1 ≤ maxLen)
 have hlm : l.length ≤ maxLen:=by unfold maxLen;omega
 have h0 : palsE l = 0:=hok
 have h1 : palsE [x] = 0:=hxo
 have HN:=Lib.hid (show -2000000 ≤ x.number ∧ x.number ≤ 2000000 by have:=pal_in (palsE_scan hxo).2 (i:=0) (a:=x) rfl;omega)
 have hd : ((l.length : Int) == 32) = true:=by rw [h32];rfl
 clear hp hx hxl hok hxo h32
 simp only [palR]
 go_enter Try.func8,Try.ntmps8
 go_wp2_with (first
  | (go_at_call 16;have hh:=G1;clear hh;refine (pal_Check _ 1 [x] _ (pals_one (Sl.alloc' (by simp [go_sem]) rfl (by simp [palR])) (HX.out.mono (ex)) HXL.out) hone).mono ?_;rintro e w' ⟨rfl,hx⟩;obtain ⟨y2,rfl⟩:=hx.get;clear hx)
  | (go_at_call 16;refine (pal_Check A c l _ (HP.out.mono (ex)) hlm).mono ?_;rintro e w' ⟨rfl,hx⟩;have G1:=Lib.hid trivial;obtain ⟨y1,rfl⟩:=hx.get;clear hx)
  | (go_at_call 17;refine (pal_search A c l x.number _ (HP.out.sl.mono (ex)) (by omega) HSC.out HN.out).mono ?_;rintro e w' ⟨rfl,hx⟩;obtain ⟨y,rfl⟩:=hx.get;clear hx)
  | (go_at_call 18;refine (Clone_P A c l _ (HP.out.sl.mono (ex)) (by omega)).mono ?_;rintro e w' ⟨D,d,rfl,hx,hown⟩;obtain ⟨y3,rfl⟩:=hx.get;clear hx hown))
 go_ret2
 exact ⟨rfl,ex⟩
end
end Go.Proofs.Ytgbecbnjokkfoaa

namespace Go.Proofs.Ytgbecbnjokkfoaa
open Go.RowKit
attribute [local go_sem ↓] Go.wp_at_zero Go.wp_at_succ

section
variable {w0 w : World} {E : TypeId} {size : Nat} {A : Option Addr} {n k : Nat} {rows : List (List Value)}
theorem Own.setPart (h : Own w0 w E size A n k rows) {i off g : Nat} (hi : i < n) (hA : A = some ⟨g,0,none⟩) {old vs row : List Value} (hold : rows[i]? = some old) (hrow : old.take off ++ vs ++ old.drop (off + vs.length) = row) (hoff : off + vs.length ≤ size) (h1 : ∀ u ∈ vs,u.oneCell' = true) :
  Own w0 (w.setCells g (i * size + off) vs) E size A n k (rows.set i row):=by
 have hlr : i < rows.length:=by rw [h.len];exact hi
 have hol : old.length = size:=h.row old (List.mem_of_getElem? hold)
 have hr : row.length = size:=by rw [← hrow];simp;omega
 have ho1:=h.one old (List.mem_of_getElem? hold)
 have hr1 : ∀ u ∈ row,u.oneCell' = true:=fun u hu => by
  rw [← hrow,List.mem_append,List.mem_append] at hu
  rcases hu with (hu | hu) | hu
  ·exact ho1 u (List.mem_of_mem_take hu)
  ·exact h1 u hu
  ·exact ho1 u (List.mem_of_mem_drop hu)
 refine ⟨by simpa using h.len,fun r hr' => ?_,fun r hr' => ?_,h.le,h.cap,?_⟩
 ·rcases List.mem_or_eq_of_mem_set hr' with h2 | h2
  ·exact h.row r h2
  ·rw [h2];exact hr
 ·rcases List.mem_or_eq_of_mem_set hr' with h2 | h2
  ·exact h.one r h2
  ·rw [h2];exact hr1
 ·rcases h.at_ with h0 | ⟨g',cur,h2,h3,h4,h5,h6⟩
  ·exact .inl h0
  ·have hg : g' = g:=by rw [hA] at h2;injection h2 with h2;injection h2 with h2;exact h2.symm
   subst hg
   have hb : i * size + size ≤ n * size:=by
    have:=Nat.mul_le_mul_right size (show i + 1 ≤ n by omega)
    rwa [Nat.succ_mul] at this
   have hb2 : n * size ≤ cur.size:=by rw [h5];exact Nat.mul_le_mul_right _ h.le
   have hc : cur.toList.length = cur.size:=by simp
   have hcell : ∀ t,t < size → old[t]? = cur.toList[i * size + t]?:=fun t ht => by
    rw [← flat_get rows h.row i old hold t ht,← h6,List.getElem?_take,if_pos (by omega)]
   refine .inr ⟨g',_,h2,h3,setCells_heap g' E vs (i * size + off) w cur h4 (by omega),?_,?_⟩
   ·rw [List.size_toArray,len_splice3 _ _ _ _ rfl (by simp;omega)];simpa using h5
   ·rw [flat_set rows h.row i row hr hlr,← h6]
    apply List.ext_getElem?
    intro j
    simp only [List.append_assoc,List.getElem?_append,List.length_take,List.getElem?_take,List.getElem?_drop,hr,hc]
    have hm1 : min (i * size + off) cur.size = i * size + off:=by omega
    have hm2 : min (i * size) (min (n * size) cur.size) = i * size:=by omega
    simp only [hm1,hm2]
    by_cases h7 : j < i * size
    ·simp [h7,show j < n * size by omega,show j < i * size + off by omega]
    ·by_cases h8 : j - i * size < size
     ·have e0 : j < n * size:=by omega
      have hj:=hcell (j - i * size) h8
      rw [show i * size + (j - i * size) = j by omega] at hj
      simp only [if_pos e0,if_neg h7,if_pos h8]
      rw [← hrow,List.append_assoc,List.getElem?_append,List.getElem?_append,List.length_take,hol,List.getElem?_take,List.getElem?_drop,show min off size = off by omega]
      by_cases h9 : j - i * size < off
      ·rw [if_pos h9,if_pos h9,hj];simp [show j < i * size + off by omega]
      ·rw [if_neg (show ¬ j < i * size + off by omega),if_neg h9,show j - (i * size + off) = j - i * size - off by omega]
       by_cases h10 : j - i * size - off < vs.length
       ·rw [if_pos h10,if_pos h10]
       ·rw [if_neg h10,if_neg h10,show i * size + off + vs.length + (j - i * size - off - vs.length) = j by omega,show off + vs.length + (j - i * size - off - vs.length) = j - i * size by omega,hj]
     ·simp only [h7,h8,if_false]
      have h9 : i * size + size + (j - i * size - size) = j:=by omega
      rw [h9,if_neg (show ¬ j < i * size + off by omega),if_neg (show ¬ j - (i * size + off) < vs.length by omega),show i * size + off + vs.length + (j - (i * size + off) - vs.length) = j by omega]
end

section
variable {P : Program} {ops : Array Oper} {rest : List Oper} {o : Oper} {a : Act} {Q : Exit → Act → World → Prop} {w0 W : World}
theorem wpList_store_mine_part (hgd : o.guard = none) (ty : TypeId) (x y : Operand) (ho : o.op = .store ty x y) (E : TypeId) (size : Nat) (hx : Ext w0 W) (g n k i off : Nat) (rows : List (List Value)) (hown : Own w0 W E size (some ⟨g,0,none⟩) n k rows) (hi : i < n)
  (old vs row : List Value) (hold : rows[i]? = some old) (hrow : old.take off ++ vs ++ old.drop (off + vs.length) = row) (hoff : off + vs.length ≤ size) (hxe : a.eval x = .pointer (some ⟨g,i * size + off,none⟩)) (hye : a.eval y = .agg vs.toArray) (h1 : ∀ u ∈ vs,u.oneCell' = true) (hs : (P.info? ty).map (·.size) = some vs.length)
  (h : ∀ w',Ext w0 w' → Own w0 w' E size (some ⟨g,0,none⟩) n k (rows.set i row) → W.grownBy w' (some g) → wpList P ops Q rest (a.put o.dst undef) w') : wpList P ops Q (o :: rest) a W:=by
 obtain ⟨g',h2,h3,h4⟩:=hown.there hi
 have hg : g' = g:=by injection h2 with h2;injection h2 with h2;exact h2.symm
 subst hg
 refine wpList_store_mid hgd ty x y ho g' (i * size + off) vs.toArray hxe hye (fun j hj => by rw [Nat.add_assoc];exact h4 (off + j) (by rw [List.size_toArray] at hj;omega)) (by simpa using hs) (all_oneCell_toArray h1) ?_
 have:=setCells_same g' vs (i * size + off) W
 exact h _ (hx.setCells h3 _ _) (hown.setPart hi rfl hold hrow hoff h1) ⟨this.1,this.2.1,this.2.2.1,by simp [this.2.2.2],fun j _ hne => setCells_other g' vs (i * size + off) W j (fun e => hne (by rw [e]))⟩
end

@[go_sem] theorem nil_En (A : Option Addr) (n c n' c' : Nat) (w : World) : (binOp .eql 35 (.slice A n c) (.slice none n' c')).run Try.prog w = .ok (.bool A.isNone) w:=Lib.run_eql_slice_nil w _ _ A n c n' c' Try.underlying35
theorem kept_cell {W w' : World} {g b o : Nat} {v : Value} (hg : W.grownBy w' (some g)) (hne : b ≠ g) (hc : W.cell? ⟨b,o,none⟩ = some v) : w'.cell? ⟨b,o,none⟩ = some v:=by
 have hb : b < W.heap.size:=lt_of_some (p:=⟨b,o,none⟩) (by rw [hc];rfl)
 unfold World.cell? at *
 rw [hg.block b hb (by simpa using hne)]
 exact hc

def flatE (l : List Pal) (e : Entry) : Entry:=if 0 < e.v.pal then (if (hueV l e.v.pal e.p).2 then ⟨e.p,⟨0,(hueV l e.v.pal e.p).1⟩⟩ else ⟨e.p,⟨-1,0⟩⟩) else e
def flatK (l : List Pal) (es : List Entry) (k : Nat) : List Entry:=(es.take k).map (flatE l) ++ es.drop k
theorem flatK_len (l : List Pal) (es : List Entry) (k : Nat) : (flatK l es k).length = es.length:=by simp [flatK];omega
theorem flatK_at {l : List Pal} {es : List Entry} {k : Nat} {x : Entry} (h : es[k]? = some x) : (flatK l es k)[k]? = some x:=by
 obtain ⟨h1,rfl⟩:=List.getElem?_eq_some_iff.1 h
 unfold flatK
 have e : ((es.take k).map (flatE l)).length = k:=by simp;omega
 rw [List.getElem?_append_right (by omega),e,List.getElem?_drop,Nat.sub_self,Nat.add_zero,List.getElem?_eq_getElem h1]
theorem flatK_step {l : List Pal} {es : List Entry} {k : Nat} {x : Entry} (h : es[k]? = some x) : flatK l es (k + 1) = (flatK l es k).set k (flatE l x):=by
 obtain ⟨h1,rfl⟩:=List.getElem?_eq_some_iff.1 h
 unfold flatK
 have e : ((es.take k).map (flatE l)).length = k:=by simp;omega
 rw [List.take_succ_eq_append_getElem h1,List.map_append,List.set_append_right _ _ (by omega),e,Nat.sub_self,List.drop_eq_getElem_cons h1,List.set_cons_zero,List.append_assoc]
 rfl
theorem flatK_stay {l : List Pal} {es : List Entry} {k : Nat} {x : Entry} (h : es[k]? = some x) (hf : flatE l x = x) : flatK l es (k + 1) = flatK l es k:=by
 rw [flatK_step h,hf]
 have:=flatK_at (l:=l) h
 obtain ⟨h1,h2⟩:=List.getElem?_eq_some_iff.1 this
 rw [← h2,List.set_getElem_self]
theorem set_twice {α : Type} (l : List α) (i : Nat) (a b : α) : (l.set i a).set i b = l.set i b:=by simp

section
variable (A : Option Addr) (c : Nat) (l : List Pal) (B : Option Addr) (d : Nat) (es : List Entry) (w : World) (hp : Pals w A l) (hok : palsE l = 0) (hs : Sl w B 4 (es.map en)) (hes : entriesE es = 0)
include hp hok hs hes
def RetEnts (w : World) (l : List Entry) (e : Ending) (w' : World) : Prop:=∃ D q,e = .returned (.tuple #[.slice D l.length q,.int .i64 0]) ∧ Ext w w' ∧ Sl w' D 4 (l.map en)

end
end Go.Proofs.Ytgbecbnjokkfoaa

namespace Go.Proofs.Ytgbecbnjokkfoaa
open Go.RowKit

def okP (l : List Pal) : Prop:=(∀ p ∈ l,palE none p = 0) ∧ l.Pairwise fun a b => a.number < b.number
theorem okP_iff (l : List Pal) : scan palE none l = 0 ↔ okP l:=by
 constructor
 ·intro h
  refine ⟨fun m hm => ?_,?_⟩
  ·obtain ⟨i,hi,rfl⟩:=List.getElem_of_mem hm
   have:=pal_in h (List.getElem?_eq_getElem hi)
   unfold palE
   rw [if_neg (by omega),if_neg (by simp)]
   exact this.2.2
  ·rw [List.pairwise_iff_getElem]
   intro i j hi hj hij
   exact pal_lt h hij (List.getElem?_eq_getElem hi) (List.getElem?_eq_getElem hj)
 ·intro ⟨h1,h2⟩
  refine scan_zero palE l fun k x hx => ?_
  obtain ⟨hk,hxe⟩:=List.getElem?_eq_some_iff.1 hx
  have e1:=h1 x (List.mem_of_getElem? hx)
  cases k with
  | zero => exact e1
  | succ k =>
   rw [prv_succ,List.getElem?_eq_getElem (by omega : k < l.length)]
   rw [List.pairwise_iff_getElem] at h2
   have:=h2 k (k + 1) (by omega) hk (by omega)
   rw [hxe] at this
   unfold palE at e1 ⊢
   split at e1
   ·contradiction
   ·rename_i h3
    rw [if_neg h3,if_neg (by simp;omega)]
    simpa using e1
section
variable {l : List Pal} (hs : scan palE none l = 0)
include hs
theorem below_pos {n : Int} {a : Pal} (h : a ∈ l.take (posN l n)) : a.number < n:=by
 obtain ⟨i,hi,rfl⟩:=List.getElem_of_mem h
 have h1 : i < posN l n:=by have:=hi;rw [List.length_take] at this;omega
 have h2 : i < l.length:=by have:=hi;rw [List.length_take] at this;omega
 rw [List.getElem_take]
 exact (posN_iff hs n (List.getElem?_eq_getElem h2)).2 h1
theorem above_pos {n : Int} (hf : foundN l n = false) {a : Pal} (h : a ∈ l.drop (posN l n)) : n < a.number:=by
 obtain ⟨i,hi,rfl⟩:=List.getElem_of_mem h
 rw [List.getElem_drop]
 have h2 : posN l n + i < l.length:=by have:=hi;rw [List.length_drop] at this;omega
 have h1 : ¬ l[posN l n + i].number < n:=fun h3 => by have:=(posN_iff hs n (List.getElem?_eq_getElem h2)).1 h3;omega
 have h0 : posN l n < l.length:=by omega
 have h3 : l[posN l n].number ≠ n:=fun h4 => by
  unfold foundN at hf
  rw [List.getElem?_eq_getElem h0] at hf
  simp [h4] at hf
 have h5 : ¬ l[posN l n].number < n:=fun h3 => by have:=(posN_iff hs n (List.getElem?_eq_getElem h0)).1 h3;omega
 by_cases hi0 : i = 0
 ·subst hi0
  show n < l[posN l n].number
  omega
 ·have:=pal_lt hs (show posN l n < posN l n + i by omega) (List.getElem?_eq_getElem h0) (List.getElem?_eq_getElem h2)
  omega
theorem pos_at {n : Int} {i : Nat} {a : Pal} (ha : l[i]? = some a) (hn : a.number = n) : posN l n = i:=by
 obtain ⟨hi,hae⟩:=List.getElem?_eq_some_iff.1 ha
 have h1 : ¬ i < posN l n:=fun h => by have:=(posN_iff hs n ha).2 h;omega
 rcases Nat.lt_or_ge (posN l n) i with h | h
 ·exfalso
  have h2 : posN l n < l.length:=by omega
  have h3:=pal_lt hs h (List.getElem?_eq_getElem h2) ha
  have:=(posN_iff hs n (List.getElem?_eq_getElem h2)).1 (by omega)
  omega
 ·omega
theorem found_at {n : Int} {i : Nat} {a : Pal} (ha : l[i]? = some a) (hn : a.number = n) : foundN l n = true:=by
 unfold foundN
 rw [pos_at hs ha hn,ha]
 simp [hn]
theorem hueV_mem {n : Int} {a : Pal} (ha : a ∈ l) (hn : a.number = n) (p : Param) : hueV l n p = hueIn a.hues p:=by
 obtain ⟨i,hi,rfl⟩:=List.getElem_of_mem ha
 have h1:=List.getElem?_eq_getElem hi
 unfold hueV
 rw [if_pos (found_at hs h1 hn),pos_at hs h1 hn,h1]
end
theorem hueV_none {l : List Pal} {n : Int} (h : ∀ a ∈ l,a.number ≠ n) (p : Param) : hueV l n p = (0,false):=by
 unfold hueV
 cases hf : foundN l n
 ·rfl
 ·obtain ⟨x,hx,hn⟩:=foundN_get hf
  exact absurd hn (h x (List.mem_of_getElem? hx))

theorem placeP_len {l : List Pal} {x : Pal} (h : foundN l x.number = true ∨ l.length < 32) (hl : l.length ≤ 32) : (placeP l x).length ≤ 32:=by
 unfold placeP
 split
 ·simpa using hl
 ·rename_i hf
  rw [insAt_lenP]
  rcases h with h | h
  ·exact absurd h hf
  ·omega
theorem placeP_ok {l : List Pal} {x : Pal} (h : scan palE none l = 0) (hx : scan palE none [x] = 0) : scan palE none (placeP l x) = 0:=by
 obtain ⟨h1,h2⟩:=(okP_iff l).1 h
 have hx1:=((okP_iff [x]).1 hx).1 x (by simp)
 refine (okP_iff _).2 ⟨fun p hp => ?_,?_⟩
 ·rcases placeP_mem hp with hp | rfl
  ·exact h1 p hp
  ·exact hx1
 ·unfold placeP
  cases hf : foundN l x.number
  ·rw [if_neg (by simp)]
   unfold insAtP
   rw [List.pairwise_append,List.pairwise_cons]
   refine ⟨h2.sublist (List.take_sublist _ _),⟨fun b hb => above_pos h hf hb,h2.sublist (List.drop_sublist _ _)⟩,fun a ha b hb => ?_⟩
   have e1:=below_pos h ha
   rcases List.mem_cons.1 hb with rfl | hb
   ·exact e1
   ·have:=above_pos h hf hb;omega
  ·rw [if_pos rfl]
   obtain ⟨z,hz,hzn⟩:=foundN_get hf
   obtain ⟨hp,hze⟩:=List.getElem?_eq_some_iff.1 hz
   rw [List.pairwise_iff_getElem]
   intro i j hi hj hij
   rw [List.length_set] at hi hj
   rw [List.pairwise_iff_getElem] at h2
   have e:=h2 i j hi hj hij
   rw [List.getElem_set,List.getElem_set]
   split
   ·rename_i hq;subst hq
    rw [if_neg (by omega)]
    rw [hze] at e;omega
   ·split
    ·rename_i hq;subst hq
     rw [hze] at e;omega
    ·exact e
theorem placeP_old {l : List Pal} {x a : Pal} (ha : a ∈ l) (hn : a.number ≠ x.number) : a ∈ placeP l x:=by
 unfold placeP
 cases hf : foundN l x.number
 ·rw [if_neg (by simp)]
  unfold insAtP
  rw [← List.take_append_drop (posN l x.number) l,List.mem_append] at ha
  rw [List.mem_append,List.mem_cons]
  rcases ha with ha | ha
  ·exact .inl ha
  ·exact .inr (.inr ha)
 ·rw [if_pos rfl]
  obtain ⟨z,hz,hzn⟩:=foundN_get hf
  obtain ⟨hp,hze⟩:=List.getElem?_eq_some_iff.1 hz
  obtain ⟨i,hi,rfl⟩:=List.getElem_of_mem ha
  have hne : posN l x.number ≠ i:=fun e => hn (by rw [← hzn,← hze];simp only [e])
  have : (l.set (posN l x.number) x)[i]? = some l[i]:=by rw [List.getElem?_set_ne hne,List.getElem?_eq_getElem hi]
  exact List.mem_of_getElem? this
theorem placeP_new (l : List Pal) (x : Pal) : x ∈ placeP l x:=by
 unfold placeP
 cases hf : foundN l x.number
 ·rw [if_neg (by simp)];simp [insAtP]
 ·rw [if_pos rfl]
  obtain ⟨z,hz,_⟩:=foundN_get hf
  obtain ⟨hp,_⟩:=List.getElem?_eq_some_iff.1 hz
  exact List.mem_of_getElem? (i:=posN l x.number) (by rw [List.getElem?_set_self hp])
theorem flat_follow {l : List Pal} {x : Pal} (h : scan palE none l = 0) (hx : scan palE none [x] = 0) (e : Entry) : flatE (placeP l x) e = if e.v.pal = x.number then flatE [x] e else flatE l e:=by
 have hq:=placeP_ok h hx
 split
 ·rename_i hn
  unfold flatE
  rw [hn,hueV_mem hq (placeP_new l x) rfl,hueV_mem hx (a:=x) (by simp) rfl]
 ·rename_i hn
  have hh : hueV (placeP l x) e.v.pal e.p = hueV l e.v.pal e.p:=by
   by_cases hm : ∃ a ∈ l,a.number = e.v.pal
   ·obtain ⟨a,ha,hae⟩:=hm
    rw [hueV_mem h ha hae,hueV_mem hq (placeP_old ha (by rw [hae];exact hn)) hae]
   ·rw [hueV_none (fun a ha hae => hm ⟨a,ha,hae⟩),hueV_none fun a ha hae => ?_]
    rcases placeP_mem ha with ha | rfl
    ·exact hm ⟨a,ha,hae⟩
    ·exact hn hae.symm
  unfold flatE
  rw [hh]

theorem values_ok {l : List Move} (h : movesE l = 0) : entriesE (valuesL l) = 0:=by
 obtain ⟨h1,h2⟩:=movesE_scan h
 obtain ⟨h3,h4⟩:=(okM_iff l).1 h2
 unfold entriesE
 rw [if_neg (by rw [valuesL_len];omega)]
 refine scan_zero entryE _ fun k x hx => ?_
 unfold valuesL at hx
 rw [List.getElem?_map] at hx
 obtain ⟨m,hm,rfl⟩:=Option.map_eq_some_iff.1 hx
 have e1:=h3 m (List.mem_of_getElem? hm)
 have e2 : entryE1 ⟨m.p,m.v⟩ = 0:=by
  unfold moveE1 at e1
  unfold entryE1
  simp only []
  grind
 unfold entryE
 rw [if_neg (by rw [e2];simp)]
 cases k with
 | zero => rfl
 | succ k =>
  obtain ⟨hk,hxe⟩:=List.getElem?_eq_some_iff.1 hm
  unfold valuesL
  rw [prv_succ,List.getElem?_map,List.getElem?_eq_getElem (by omega : k < l.length)]
  rw [List.pairwise_iff_getElem] at h4
  have:=h4 k (k + 1) (by omega) hk (by omega)
  rw [hxe] at this
  simp [this]
end Go.Proofs.Ytgbecbnjokkfoaa
