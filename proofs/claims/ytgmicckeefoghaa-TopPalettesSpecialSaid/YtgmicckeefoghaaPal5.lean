/-
  The hue of a parameter in the palette of a number; the level of a value.
-/
import Derived.Test.YtgmicckeefoghaaPal4
namespace Go.Proofs.Ytgmicckeefoghaa
open Go.RowKit

def hueAt (l : List Hue) (p : Param) : Option Int := if foundH l p then (l[posH l p]?).map (·.lev) else none
def hueIn (l : List Hue) (p : Param) : Int × Bool := match hueAt l p with
  | some v => (v, true)
  | none => match hueAt l ⟨0, p.attr⟩ with
    | some v => (v, true)
    | none => (0, false)
def hueV (l : List Pal) (n : Int) (p : Param) : Int × Bool := if foundN l n then (match l[posN l n]? with | some x => hueIn x.hues p | none => (0, false)) else (0, false)
theorem foundN_get {l : List Pal} {n : Int} (h : foundN l n = true) : ∃ x, l[posN l n]? = some x ∧ x.number = n := by
  unfold foundN at h
  split at h
  · rename_i x hx; exact ⟨x, hx, by simpa using h⟩
  · cases h
theorem foundH_get {l : List Hue} {p : Param} (h : foundH l p = true) : ∃ x, l[posH l p]? = some x ∧ x.p = p := by
  unfold foundH at h
  split at h
  · rename_i x hx; exact ⟨x, hx, by simpa using h⟩
  · cases h

set_option maxHeartbeats 1600000 in
set_option maxRecDepth 100000 in
theorem pal_hue (A : Option Addr) (c : Nat) (l : List Pal) (n : Int) (p : Param) (w : World) (hp : Pals w A l) (hok : palsE l = 0) (hpp : paramE p = 0) (hn : -2000000 ≤ n ∧ n ≤ 2000000) :
    Calls Try.prog 121 #[.slice A l.length c, .int .i64 n, .agg (prm p).toArray] w
      fun e w' => e = .returned (.tuple #[.int .i64 (hueV l n p).1, .bool (hueV l n p).2]) ∧ Ext w w' := by
  have HS := Lib.hid hp.sl
  have HN := Lib.hid hn
  have HOK := Lib.hid (palsE_scan hok)
  have HP0 := Lib.hid (paramE_zero hpp)
  have HP1 := Lib.hid (show paramE0 ⟨0, p.attr⟩ = 0 by have := paramE_ok hpp; unfold paramE0; simp only []; rw [if_neg (by omega)])
  simp only [prm]
  cases hf : foundN l n
  · have HV := Lib.hid (show hueV l n p = (0, false) by unfold hueV; rw [hf]; rfl)
    clear hp hok hpp hn
    go_enter Try.func121, Try.ntmps121
    go_wp2_with (go_at_call 135; refine (pal_search A c l n _ (HS.out.mono (by repeat (first | exact Ext.refl _ | assumption | apply Ext.xt | apply Ext.alloc | apply Ext.drew | apply Ext.drewN))) (by have := HOK.out.1; omega) HOK.out.2 HN.out).mono ?_; rintro e w' ⟨rfl, hx⟩; obtain ⟨y, rfl⟩ := hx.get; clear hx)
    go_ret2
    rw [HV.out]
    exact ⟨rfl, by repeat (first | exact Ext.refl _ | assumption | apply Ext.xt | apply Ext.alloc | apply Ext.drew | apply Ext.drewN)⟩
  · obtain ⟨x, hx, _⟩ := foundN_get hf
    have hxl : posN l n < l.length := (List.getElem?_eq_some_iff.1 hx).1
    have HXU := Lib.hid (hp.hu x (List.mem_of_getElem? hx))
    have HXE := Lib.hid (huesE_scan (pal_in HOK.out.2 hx).2.2)
    obtain ⟨b, o, rfl, hc0, hc1⟩ := hp.sl.row2 (i := posN l n) (by rw [List.getElem?_map, hx]; rfl)
    have HVX := Lib.hid (show hueV l n p = hueIn x.hues p by unfold hueV; rw [hf, hx]; rfl)
    obtain ⟨i, hi⟩ : ∃ i, i = posN l n := ⟨_, rfl⟩
    rw [← hi] at hxl hc0 hc1
    have HI := Lib.hid hi
    have hb0 : (0 : Int) ≤ (i : Int) := by omega
    have hb1 : (i : Int) < (l.length : Int) := by omega
    clear hp hok hpp hn hx
    cases hf1 : foundH x.hues p
    · cases hf2 : foundH x.hues ⟨0, p.attr⟩
      · have HV := Lib.hid (show hueV l n p = (0, false) by rw [HVX.out]; unfold hueIn hueAt; rw [hf1, hf2]; rfl)
        clear hi
        go_enter Try.func121, Try.ntmps121
        go_wp2_with (go_at_call 135; refine (pal_search _ c l n _ (HS.out.mono (by repeat (first | exact Ext.refl _ | assumption | apply Ext.xt | apply Ext.alloc | apply Ext.drew | apply Ext.drewN))) (by have := HOK.out.1; omega) HOK.out.2 HN.out).mono ?_; rintro e w' ⟨rfl, hx⟩; rw [← HI.out]; obtain ⟨y, rfl⟩ := hx.get; clear hx)
        refine wp_loop_rounds 3 ?_
        rw [rounds_succ]
        go_wp2
        (refine wp_region_grows (by kernel_rfl) (by kernel_rfl) ?_; (repeat (go_big_quiet_step ((go_at_call 165; exact Calls.grows (BinarySearch_hues x.at_ x.cap x.hues p _ (HXU.out.1.mono (by repeat (first | exact Ext.refl _ | assumption | apply Ext.xt | apply Ext.alloc | apply Ext.drew | apply Ext.drewN))) (by have := HXE.out.1; omega) HXE.out.2 HP0.out))))); refine wpQuiet_nil ?_; rintro _ ⟨y, rfl⟩)
        go_wp2
        rw [rounds_succ]
        go_wp2
        (refine wp_region_grows (by kernel_rfl) (by kernel_rfl) ?_; (repeat (go_big_quiet_step ((go_at_call 165; exact Calls.grows (BinarySearch_hues x.at_ x.cap x.hues ⟨0, p.attr⟩ _ (HXU.out.1.mono (by repeat (first | exact Ext.refl _ | assumption | apply Ext.xt | apply Ext.alloc | apply Ext.drew | apply Ext.drewN))) (by have := HXE.out.1; omega) HXE.out.2 HP1.out))))); refine wpQuiet_nil ?_; rintro _ ⟨y, rfl⟩)
        go_wp2
        rw [rounds_succ]
        go_wp2
        go_ret2
        rw [HV.out]
        exact ⟨rfl, by repeat (first | exact Ext.refl _ | assumption | apply Ext.xt | apply Ext.alloc | apply Ext.drew | apply Ext.drewN)⟩
      · obtain ⟨g, hg, _⟩ := foundH_get hf2
        have HV := Lib.hid (show hueV l n p = (g.lev, true) by rw [HVX.out]; unfold hueIn hueAt; rw [hf1, hf2, hg]; rfl)
        obtain ⟨b2, o2, hA, hd0, hd1, hd2⟩ := HXU.out.1.row3 (i := posH x.hues ⟨0, p.attr⟩) (by rw [List.getElem?_map, hg]; rfl)
        have HX3 := Lib.hid (show Sl w (some ⟨b2, o2, none⟩) 3 (x.hues.map hueR) by rw [← hA]; exact HXU.out.1)
        have hk : posH x.hues ⟨0, p.attr⟩ < x.hues.length := (List.getElem?_eq_some_iff.1 hg).1
        have hb2 : (0 : Int) ≤ (posH x.hues ⟨0, p.attr⟩ : Int) := by omega
        have hb3 : (posH x.hues ⟨0, p.attr⟩ : Int) < (x.hues.length : Int) := by omega
        clear hi hg
        go_enter Try.func121, Try.ntmps121
        go_wp2_with (go_at_call 135; refine (pal_search _ c l n _ (HS.out.mono (by repeat (first | exact Ext.refl _ | assumption | apply Ext.xt | apply Ext.alloc | apply Ext.drew | apply Ext.drewN))) (by have := HOK.out.1; omega) HOK.out.2 HN.out).mono ?_; rintro e w' ⟨rfl, hx⟩; rw [← HI.out]; obtain ⟨y, rfl⟩ := hx.get; clear hx)
        refine wp_loop_rounds 3 ?_
        rw [rounds_succ]
        go_wp2
        (refine wp_region_grows (by kernel_rfl) (by kernel_rfl) ?_; (repeat (go_big_quiet_step ((go_at_call 165; exact Calls.grows (BinarySearch_hues _ x.cap x.hues p _ (HX3.out.mono (by repeat (first | exact Ext.refl _ | assumption | apply Ext.xt | apply Ext.alloc | apply Ext.drew | apply Ext.drewN))) (by have := HXE.out.1; omega) HXE.out.2 HP0.out))))); refine wpQuiet_nil ?_; rintro _ ⟨y, rfl⟩)
        go_wp2
        rw [rounds_succ]
        go_wp2
        (refine wp_region_grows (by kernel_rfl) (by kernel_rfl) ?_; (repeat (go_big_quiet_step ((go_at_call 165; exact Calls.grows (BinarySearch_hues _ x.cap x.hues ⟨0, p.attr⟩ _ (HX3.out.mono (by repeat (first | exact Ext.refl _ | assumption | apply Ext.xt | apply Ext.alloc | apply Ext.drew | apply Ext.drewN))) (by have := HXE.out.1; omega) HXE.out.2 HP1.out))))); refine wpQuiet_nil ?_; rintro _ ⟨y, rfl⟩)
        go_wp2
        go_ret2
        rw [HV.out]
        exact ⟨rfl, by repeat (first | exact Ext.refl _ | assumption | apply Ext.xt | apply Ext.alloc | apply Ext.drew | apply Ext.drewN)⟩
    · obtain ⟨g, hg, _⟩ := foundH_get hf1
      have HV := Lib.hid (show hueV l n p = (g.lev, true) by rw [HVX.out]; unfold hueIn hueAt; rw [hf1, hg]; rfl)
      obtain ⟨b2, o2, hA, hd0, hd1, hd2⟩ := HXU.out.1.row3 (i := posH x.hues p) (by rw [List.getElem?_map, hg]; rfl)
      have HX3 := Lib.hid (show Sl w (some ⟨b2, o2, none⟩) 3 (x.hues.map hueR) by rw [← hA]; exact HXU.out.1)
      have hk : posH x.hues p < x.hues.length := (List.getElem?_eq_some_iff.1 hg).1
      have hb2 : (0 : Int) ≤ (posH x.hues p : Int) := by omega
      have hb3 : (posH x.hues p : Int) < (x.hues.length : Int) := by omega
      clear hi hg
      go_enter Try.func121, Try.ntmps121
      go_wp2_with (go_at_call 135; refine (pal_search _ c l n _ (HS.out.mono (by repeat (first | exact Ext.refl _ | assumption | apply Ext.xt | apply Ext.alloc | apply Ext.drew | apply Ext.drewN))) (by have := HOK.out.1; omega) HOK.out.2 HN.out).mono ?_; rintro e w' ⟨rfl, hx⟩; rw [← HI.out]; obtain ⟨y, rfl⟩ := hx.get; clear hx)
      refine wp_loop_rounds 3 ?_
      rw [rounds_succ]
      go_wp2
      (refine wp_region_grows (by kernel_rfl) (by kernel_rfl) ?_; (repeat (go_big_quiet_step ((go_at_call 165; exact Calls.grows (BinarySearch_hues _ x.cap x.hues p _ (HX3.out.mono (by repeat (first | exact Ext.refl _ | assumption | apply Ext.xt | apply Ext.alloc | apply Ext.drew | apply Ext.drewN))) (by have := HXE.out.1; omega) HXE.out.2 HP0.out))))); refine wpQuiet_nil ?_; rintro _ ⟨y, rfl⟩)
      go_wp2
      go_ret2
      rw [HV.out]
      exact ⟨rfl, by repeat (first | exact Ext.refl _ | assumption | apply Ext.xt | apply Ext.alloc | apply Ext.drew | apply Ext.drewN)⟩
end Go.Proofs.Ytgmicckeefoghaa
