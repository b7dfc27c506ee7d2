import Derived.Test.YtgbecbnjokkfoaaGpalc
import Derived.Test.YtgbecbnjokkfoaaTim5
set_option maxHeartbeats 3200000
set_option maxRecDepth 100000
namespace Go.Proofs.Ytgbecbnjokkfoaa
open Go.RowKit

def hueAt (l : List Hue) (p : Param) : Option Int:=if foundH l p then (l[posH l p]?).map (·.lev) else none
def hueIn (l : List Hue) (p : Param) : Int × Bool:=match hueAt l p with
 | some v => (v,true)
 | none => match hueAt l ⟨0,p.attr⟩ with
  | some v => (v,true)
  | none => (0,false)
def hueV (l : List Pal) (n : Int) (p : Param) : Int × Bool:=if foundN l n then (match l[posN l n]? with | some x => hueIn x.hues p | none => (0,false)) else (0,false)
theorem foundN_get {l : List Pal} {n : Int} (h : foundN l n = true) : ∃ x,l[posN l n]? = some x ∧ x.number = n:=by
 unfold foundN at h
 split at h
 ·rename_i x hx;exact ⟨x,hx,by simpa using h⟩
 ·cases h
theorem foundH_get {l : List Hue} {p : Param} (h : foundH l p = true) : ∃ x,l[posH l p]? = some x ∧ x.p = p:=by
 unfold foundH at h
 split at h
 ·rename_i x hx;exact ⟨x,hx,by simpa using h⟩
 ·cases h

theorem pal_hue (A : Option Addr) (c : Nat) (l : List Pal) (n : Int) (p : Param) (w : World) (hp : Pals w A l) (hok : palsE l = 0) (hpp : paramE p = 0) (hn : -2000000 ≤ n ∧ n ≤ 2000000) :
  Calls Try.prog 29 #[.slice A l.length c,.int .i64 n,.agg (prm p).toArray] w
   fun e w' => e = .returned (.tuple #[.int .i64 (hueV l n p).1,.bool (hueV l n p).2]) ∧ Ext w w':=by
 have HS:=Lib.hid hp.sl
 have HN:=Lib.hid hn
 have HOK:=Lib.hid (palsE_scan hok)
 have HP0:=Lib.hid (paramE_zero hpp)
 have HP1:=Lib.hid (show paramE0 ⟨0,p.attr⟩ = 0 by have:=paramE_ok hpp;unfold paramE0;simp only [];rw [if_neg (by omega)])
 simp only [prm]
 cases hf : foundN l n
 ·have HV:=Lib.hid (show hueV l n p = (0,false) by unfold hueV;rw [hf];rfl)
  clear hp hok hpp hn
  go_enter Try.func29,Try.ntmps29
  go_wp2_with (go_at_call 17;refine (pal_search A c l n _ (HS.out.mono (ex)) (by have:=HOK.out.1;omega) HOK.out.2 HN.out).mono ?_;rintro e w' ⟨rfl,hx⟩;obtain ⟨y,rfl⟩:=hx.get;clear hx)
  go_ret2
  rw [HV.out]
  exact ⟨rfl,ex⟩
 ·obtain ⟨x,hx,_⟩:=foundN_get hf
  have hxl : posN l n < l.length:=(List.getElem?_eq_some_iff.1 hx).1
  have HXU:=Lib.hid (hp.hu x (List.mem_of_getElem? hx))
  have HXE:=Lib.hid (huesE_scan (pal_in HOK.out.2 hx).2.2)
  obtain ⟨b,o,rfl,hc0,hc1⟩:=hp.sl.row2 (i:=posN l n) (by rw [List.getElem?_map,hx];rfl)
  have HVX:=Lib.hid (show hueV l n p = hueIn x.hues p by unfold hueV;rw [hf,hx];rfl)
  obtain ⟨i,hi⟩ : ∃ i,i = posN l n:=⟨_,rfl⟩
  rw [← hi] at hxl hc0 hc1
  have HI:=Lib.hid hi
  have hb0 : (0 : Int) ≤ (i : Int):=by omega
  have hb1 : (i : Int) < (l.length : Int):=by omega
  clear hp hok hpp hn hx
  cases hf1 : foundH x.hues p
  ·cases hf2 : foundH x.hues ⟨0,p.attr⟩
   ·have HV:=Lib.hid (show hueV l n p = (0,false) by rw [HVX.out];unfold hueIn hueAt;rw [hf1,hf2];rfl)
    clear hi
    go_enter Try.func29,Try.ntmps29
    go_wp2_with (go_at_call 17;refine (pal_search _ c l n _ (HS.out.mono (ex)) (by have:=HOK.out.1;omega) HOK.out.2 HN.out).mono ?_;rintro e w' ⟨rfl,hx⟩;rw [← HI.out];obtain ⟨y,rfl⟩:=hx.get;clear hx)
    refine wp_loop_rounds 3 ?_
    rw [rounds_succ]
    go_wp2
    (refine wp_region_grows (by kernel_rfl) (by kernel_rfl) ?_;(repeat (go_big_quiet_step ((go_at_call 54;exact Calls.grows (BinarySearch_hues x.at_ x.cap x.hues p _ (HXU.out.1.mono (ex)) (by have:=HXE.out.1;omega) HXE.out.2 HP0.out)))));refine wpQuiet_nil ?_;rintro _ ⟨y,rfl⟩)
    go_wp2
    rw [rounds_succ]
    go_wp2
    (refine wp_region_grows (by kernel_rfl) (by kernel_rfl) ?_;(repeat (go_big_quiet_step ((go_at_call 54;exact Calls.grows (BinarySearch_hues x.at_ x.cap x.hues ⟨0,p.attr⟩ _ (HXU.out.1.mono (ex)) (by have:=HXE.out.1;omega) HXE.out.2 HP1.out)))));refine wpQuiet_nil ?_;rintro _ ⟨y,rfl⟩)
    go_wp2
    rw [rounds_succ]
    go_wp2
    go_ret2
    rw [HV.out]
    exact ⟨rfl,ex⟩
   ·obtain ⟨g,hg,_⟩:=foundH_get hf2
    have HV:=Lib.hid (show hueV l n p = (g.lev,true) by rw [HVX.out];unfold hueIn hueAt;rw [hf1,hf2,hg];rfl)
    obtain ⟨b2,o2,hA,hd0,hd1,hd2⟩:=HXU.out.1.row3 (i:=posH x.hues ⟨0,p.attr⟩) (by rw [List.getElem?_map,hg];rfl)
    have HX3:=Lib.hid (show Sl w (some ⟨b2,o2,none⟩) 3 (x.hues.map hueR) by rw [← hA];exact HXU.out.1)
    have hk : posH x.hues ⟨0,p.attr⟩ < x.hues.length:=(List.getElem?_eq_some_iff.1 hg).1
    have hb2 : (0 : Int) ≤ (posH x.hues ⟨0,p.attr⟩ : Int):=by omega
    have hb3 : (posH x.hues ⟨0,p.attr⟩ : Int) < (x.hues.length : Int):=by omega
    clear hi hg
    go_enter Try.func29,Try.ntmps29
    go_wp2_with (go_at_call 17;refine (pal_search _ c l n _ (HS.out.mono (ex)) (by have:=HOK.out.1;omega) HOK.out.2 HN.out).mono ?_;rintro e w' ⟨rfl,hx⟩;rw [← HI.out];obtain ⟨y,rfl⟩:=hx.get;clear hx)
    refine wp_loop_rounds 3 ?_
    rw [rounds_succ]
    go_wp2
    (refine wp_region_grows (by kernel_rfl) (by kernel_rfl) ?_;(repeat (go_big_quiet_step ((go_at_call 54;exact Calls.grows (BinarySearch_hues _ x.cap x.hues p _ (HX3.out.mono (ex)) (by have:=HXE.out.1;omega) HXE.out.2 HP0.out)))));refine wpQuiet_nil ?_;rintro _ ⟨y,rfl⟩)
    go_wp2
    rw [rounds_succ]
    go_wp2
    (refine wp_region_grows (by kernel_rfl) (by kernel_rfl) ?_;(repeat (go_big_quiet_step ((go_at_call 54;exact Calls.grows (BinarySearch_hues _ x.cap x.hues ⟨0,p.attr⟩ _ (HX3.out.mono (ex)) (by have:=HXE.out.1;omega) HXE.out.2 HP1.out)))));refine wpQuiet_nil ?_;rintro _ ⟨y,rfl⟩)
    go_wp2
    go_ret2
    rw [HV.out]
    exact ⟨rfl,ex⟩
  ·obtain ⟨g,hg,_⟩:=foundH_get hf1
   have HV:=Lib.hid (show hueV l n p = (g.lev,true) by rw [HVX.out];unfold hueIn hueAt;rw [hf1,hg];rfl)
   obtain ⟨b2,o2,hA,hd0,hd1,hd2⟩:=HXU.out.1.row3 (i:=posH x.hues p) (by rw [List.getElem?_map,hg];rfl)
   have HX3:=Lib.hid (show Sl w (some ⟨b2,o2,none⟩) 3 (x.hues.map hueR) by rw [← hA];exact HXU.out.1)
   have hk : posH x.hues p < x.hues.length:=(List.getElem?_eq_some_iff.1 hg).1
   have hb2 : (0 : Int) ≤ (posH x.hues p : Int):=by omega
   have hb3 : (posH x.hues p : Int) < (x.hues.length : Int):=by omega
   clear hi hg
   go_enter Try.func29,Try.ntmps29
   go_wp2_with (go_at_call 17;refine (pal_search _ c l n _ (HS.out.mono (ex)) (by have:=HOK.out.1;omega) HOK.out.2 HN.out).mono ?_;rintro e w' ⟨rfl,hx⟩;rw [← HI.out];obtain ⟨y,rfl⟩:=hx.get;clear hx)
   refine wp_loop_rounds 3 ?_
   rw [rounds_succ]
   go_wp2
   (refine wp_region_grows (by kernel_rfl) (by kernel_rfl) ?_;(repeat (go_big_quiet_step ((go_at_call 54;exact Calls.grows (BinarySearch_hues _ x.cap x.hues p _ (HX3.out.mono (ex)) (by have:=HXE.out.1;omega) HXE.out.2 HP0.out)))));refine wpQuiet_nil ?_;rintro _ ⟨y,rfl⟩)
   go_wp2
   go_ret2
   rw [HV.out]
   exact ⟨rfl,ex⟩
end Go.Proofs.Ytgbecbnjokkfoaa

namespace Go.Proofs.Ytgbecbnjokkfoaa
open Go.RowKit

def levelV (l : List Pal) (v : Val) (p : Param) (home : Int) : Int × Int :=
 if palsE l ≠ 0 then (0,palsE l) else if valueE v ≠ 0 then (0,valueE v) else if paramE p ≠ 0 then (0,paramE p) else if levB home = false then (0,2)
 else if v.pal = 0 then (v.lev,0) else if (hueV l v.pal p).2 then ((hueV l v.pal p).1,0) else (home,0)
theorem valueE_in {v : Val} (h : valueE v = 0) : -1 ≤ v.pal ∧ v.pal ≤ 1048576:=by
 unfold valueE at h
 split at h
 ·omega
 ·simp at h

theorem pal_Level (A : Option Addr) (c : Nat) (l : List Pal) (v : Val) (p : Param) (home : Int) (w : World) (hp : Pals w A l) (hl : l.length ≤ maxLen) :
  Calls Try.prog 11 #[.slice A l.length c,.agg (vl v).toArray,.agg (prm p).toArray,.int .i64 home] w
   fun e w' => e = .returned (.tuple #[.int .i64 (levelV l v p home).1,.int .i64 (levelV l v p home).2]) ∧ Ext w w':=by
 have HP:=Lib.hid hp
 clear hp
 simp only [vl,prm]
 by_cases h1 : palsE l = 0
 ·have h1' : (palsE l != 0) = false:=by simpa using h1
  have H1:=Lib.hid h1
  clear h1
  by_cases h2 : valueE v = 0
  ·have h2' : (valueE v != 0) = false:=by simpa using h2
   have H2:=Lib.hid h2
   clear h2
   by_cases h3 : paramE p = 0
   ·have h3' : (paramE p != 0) = false:=by simpa using h3
    have H3:=Lib.hid h3
    clear h3
    have HV:=Lib.hid (show levelV l v p home = if levB home = false then (0,2) else if v.pal = 0 then (v.lev,0) else if (hueV l v.pal p).2 then ((hueV l v.pal p).1,0) else (home,0) by unfold levelV;rw [if_neg (by simpa using H1.out),if_neg (by simpa using H2.out),if_neg (by simpa using H3.out)])
    have HN:=Lib.hid (show -2000000 ≤ v.pal ∧ v.pal ≤ 2000000 by have:=valueE_in H2.out;omega)
    go_enter Try.func11,Try.ntmps11
    go_wp2
    go_region_held3 (fun w' => (∀ q,(((w.alloc (.cells #[.int .i64 v.pal,.int .i64 v.lev] 42)).alloc (.cells #[.int .i64 p.ch,.int .i64 p.attr] 40)).cell? q).isSome = true → w'.cell? q = ((w.alloc (.cells #[.int .i64 v.pal,.int .i64 v.lev] 42)).alloc (.cells #[.int .i64 p.ch,.int .i64 p.attr] 40)).cell? q) ∧ Ext ((w.alloc (.cells #[.int .i64 v.pal,.int .i64 v.lev] 42)).alloc (.cells #[.int .i64 p.ch,.int .i64 p.attr] 40)) w') ((refine kept ?_;go_split_ands;exact (by repeat (first | exact Ext.refl _ | assumption | apply Ext.xt | apply Ext.alloc | apply Ext.drew | apply Ext.drewN)))) (first
     | (go_at_call 16;refine (pal_Check A c l _ (HP.out.mono (ex)) hl).mono ?_;rintro e w' ⟨rfl,hx⟩;obtain ⟨ya,rfl⟩:=hx.get;clear hx)
     | (go_at_call 26;refine (pal_Value v _).mono ?_;rintro e w' ⟨rfl,hx⟩;obtain ⟨yb,rfl⟩:=hx.get;clear hx)
     | (go_at_call 27;refine (pal_param1 p _).mono ?_;rintro e w' ⟨rfl,hx⟩;obtain ⟨yc,rfl⟩:=hx.get;clear hx))
    go_wp2
    refine wp_loop_rounds 4 ?_
    rw [rounds_succ]
    go_wp2
    rw [rounds_succ]
    go_wp2
    rw [rounds_succ]
    go_wp2
    rw [rounds_succ]

    cases hlb : levB home
    ·have HW:=Lib.hid (show levelV l v p home = (0,2) by rw [HV.out,if_pos hlb])
     go_wp2_with (go_at_call 28;refine (pal_level home _).mono ?_;rintro e w' ⟨rfl,hx⟩;obtain ⟨y,rfl⟩:=hx.get;clear hx)
     go_ret2
     rw [HW.out]
     exact ⟨rfl,ex⟩
    ·by_cases hz : v.pal = 0
     ·have hz' : (v.pal == 0) = true:=by simpa using hz
      have HW:=Lib.hid (show levelV l v p home = (v.lev,0) by rw [HV.out,if_neg (by simp [hlb]),if_pos hz])
      clear hz
      go_wp2_with (go_at_call 28;refine (pal_level home _).mono ?_;rintro e w' ⟨rfl,hx⟩;obtain ⟨y,rfl⟩:=hx.get;clear hx)
      go_ret2
      rw [HW.out]
      exact ⟨rfl,ex⟩
     ·have hz' : (v.pal == 0) = false:=by simpa using hz
      cases hh : (hueV l v.pal p).2
      ·have HW:=Lib.hid (show levelV l v p home = (home,0) by rw [HV.out,if_neg (by simp [hlb]),if_neg hz,hh];rfl)
       clear hz
       go_wp2_with (first | (go_at_call 28;refine (pal_level home _).mono ?_;rintro e w' ⟨rfl,hx⟩;obtain ⟨y,rfl⟩:=hx.get;clear hx) | (go_at_call 29;refine (pal_hue A c l v.pal p _ (HP.out.mono (ex)) H1.out H3.out HN.out).mono ?_;rintro e w' ⟨rfl,hx⟩;obtain ⟨y,rfl⟩:=hx.get;clear hx))
       go_ret2
       rw [HW.out]
       exact ⟨rfl,ex⟩
      ·have HW:=Lib.hid (show levelV l v p home = ((hueV l v.pal p).1,0) by rw [HV.out,if_neg (by simp [hlb]),if_neg hz,hh];rfl)
       clear hz
       go_wp2_with (first | (go_at_call 28;refine (pal_level home _).mono ?_;rintro e w' ⟨rfl,hx⟩;obtain ⟨y,rfl⟩:=hx.get;clear hx) | (go_at_call 29;refine (pal_hue A c l v.pal p _ (HP.out.mono (ex)) H1.out H3.out HN.out).mono ?_;rintro e w' ⟨rfl,hx⟩;obtain ⟨y,rfl⟩:=hx.get;clear hx))
       go_ret2
       rw [HW.out]
       exact ⟨rfl,ex⟩
   ·have h' : (paramE p != 0) = true:=by simpa using h3
    have HV:=Lib.hid (show levelV l v p home = (0,paramE p) by unfold levelV;rw [if_neg (by simpa using H1.out),if_neg (by simpa using H2.out),if_pos h3])
    clear h3
    go_enter Try.func11,Try.ntmps11
    go_wp2
    go_region_held3 (fun w' => (∀ q,(((w.alloc (.cells #[.int .i64 v.pal,.int .i64 v.lev] 42)).alloc (.cells #[.int .i64 p.ch,.int .i64 p.attr] 40)).cell? q).isSome = true → w'.cell? q = ((w.alloc (.cells #[.int .i64 v.pal,.int .i64 v.lev] 42)).alloc (.cells #[.int .i64 p.ch,.int .i64 p.attr] 40)).cell? q) ∧ Ext ((w.alloc (.cells #[.int .i64 v.pal,.int .i64 v.lev] 42)).alloc (.cells #[.int .i64 p.ch,.int .i64 p.attr] 40)) w') ((refine kept ?_;go_split_ands;exact (by repeat (first | exact Ext.refl _ | assumption | apply Ext.xt | apply Ext.alloc | apply Ext.drew | apply Ext.drewN)))) (first
     | (go_at_call 16;refine (pal_Check A c l _ (HP.out.mono (ex)) hl).mono ?_;rintro e w' ⟨rfl,hx⟩;obtain ⟨ya,rfl⟩:=hx.get;clear hx)
     | (go_at_call 26;refine (pal_Value v _).mono ?_;rintro e w' ⟨rfl,hx⟩;obtain ⟨yb,rfl⟩:=hx.get;clear hx)
     | (go_at_call 27;refine (pal_param1 p _).mono ?_;rintro e w' ⟨rfl,hx⟩;obtain ⟨yc,rfl⟩:=hx.get;clear hx))
    go_wp2
    refine wp_loop_rounds 4 ?_
    rw [rounds_succ]
    go_wp2
    rw [rounds_succ]
    go_wp2
    rw [rounds_succ]
    go_wp2
    go_ret2
    rw [HV.out]
    exact ⟨rfl,ex⟩
  ·have h' : (valueE v != 0) = true:=by simpa using h2
   have HV:=Lib.hid (show levelV l v p home = (0,valueE v) by unfold levelV;rw [if_neg (by simpa using H1.out),if_pos h2])
   clear h2
   go_enter Try.func11,Try.ntmps11
   go_wp2
   go_region_held3 (fun w' => (∀ q,(((w.alloc (.cells #[.int .i64 v.pal,.int .i64 v.lev] 42)).alloc (.cells #[.int .i64 p.ch,.int .i64 p.attr] 40)).cell? q).isSome = true → w'.cell? q = ((w.alloc (.cells #[.int .i64 v.pal,.int .i64 v.lev] 42)).alloc (.cells #[.int .i64 p.ch,.int .i64 p.attr] 40)).cell? q) ∧ Ext ((w.alloc (.cells #[.int .i64 v.pal,.int .i64 v.lev] 42)).alloc (.cells #[.int .i64 p.ch,.int .i64 p.attr] 40)) w') ((refine kept ?_;go_split_ands;exact (by repeat (first | exact Ext.refl _ | assumption | apply Ext.xt | apply Ext.alloc | apply Ext.drew | apply Ext.drewN)))) (first
    | (go_at_call 16;refine (pal_Check A c l _ (HP.out.mono (ex)) hl).mono ?_;rintro e w' ⟨rfl,hx⟩;obtain ⟨ya,rfl⟩:=hx.get;clear hx)
    | (go_at_call 26;refine (pal_Value v _).mono ?_;rintro e w' ⟨rfl,hx⟩;obtain ⟨yb,rfl⟩:=hx.get;clear hx)
    | (go_at_call 27;refine (pal_param1 p _).mono ?_;rintro e w' ⟨rfl,hx⟩;obtain ⟨yc,rfl⟩:=hx.get;clear hx))
   go_wp2
   refine wp_loop_rounds 4 ?_
   rw [rounds_succ]
   go_wp2
   rw [rounds_succ]
   go_wp2
   go_ret2
   rw [HV.out]
   exact ⟨rfl,ex⟩
 ·have h' : (palsE l != 0) = true:=by simpa using h1
  have HV:=Lib.hid (show levelV l v p home = (0,palsE l) by unfold levelV;rw [if_pos h1])
  clear h1
  go_enter Try.func11,Try.ntmps11
  go_wp2
  go_region_held3 (fun w' => (∀ q,(((w.alloc (.cells #[.int .i64 v.pal,.int .i64 v.lev] 42)).alloc (.cells #[.int .i64 p.ch,.int .i64 p.attr] 40)).cell? q).isSome = true → w'.cell? q = ((w.alloc (.cells #[.int .i64 v.pal,.int .i64 v.lev] 42)).alloc (.cells #[.int .i64 p.ch,.int .i64 p.attr] 40)).cell? q) ∧ Ext ((w.alloc (.cells #[.int .i64 v.pal,.int .i64 v.lev] 42)).alloc (.cells #[.int .i64 p.ch,.int .i64 p.attr] 40)) w') ((refine kept ?_;go_split_ands;exact (by repeat (first | exact Ext.refl _ | assumption | apply Ext.xt | apply Ext.alloc | apply Ext.drew | apply Ext.drewN)))) (first
   | (go_at_call 16;refine (pal_Check A c l _ (HP.out.mono (ex)) hl).mono ?_;rintro e w' ⟨rfl,hx⟩;obtain ⟨ya,rfl⟩:=hx.get;clear hx)
   | (go_at_call 26;refine (pal_Value v _).mono ?_;rintro e w' ⟨rfl,hx⟩;obtain ⟨yb,rfl⟩:=hx.get;clear hx)
   | (go_at_call 27;refine (pal_param1 p _).mono ?_;rintro e w' ⟨rfl,hx⟩;obtain ⟨yc,rfl⟩:=hx.get;clear hx))
  go_wp2
  refine wp_loop_rounds 4 ?_
  rw [rounds_succ]
  go_wp2
  go_ret2
  rw [HV.out]
  exact ⟨rfl,ex⟩
end Go.Proofs.Ytgbecbnjokkfoaa
