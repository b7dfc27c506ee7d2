/-
  The level of a value.
-/
import Derived.Test.YtgmicckeefoghaaPal5
import Derived.Test.YtgmicckeefoghaaTim5
namespace Go.Proofs.Ytgmicckeefoghaa
open Go.RowKit

def levelV (l : List Pal) (v : Val) (p : Param) (home : Int) : Int × Int :=
  if palsE l ≠ 0 then (0, palsE l) else if valueE v ≠ 0 then (0, valueE v) else if paramE p ≠ 0 then (0, paramE p) else if levB home = false then (0, 2)
  else if v.pal = 0 then (v.lev, 0) else if (hueV l v.pal p).2 then ((hueV l v.pal p).1, 0) else (home, 0)
theorem valueE_in {v : Val} (h : valueE v = 0) : -1 ≤ v.pal ∧ v.pal ≤ 1048576 := by
  unfold valueE at h
  split at h
  · omega
  · simp at h

set_option maxHeartbeats 3200000 in
set_option maxRecDepth 100000 in
theorem pal_Level (A : Option Addr) (c : Nat) (l : List Pal) (v : Val) (p : Param) (home : Int) (w : World) (hp : Pals w A l) (hl : l.length ≤ maxLen) :
    Calls Try.prog 57 #[.slice A l.length c, .agg (vl v).toArray, .agg (prm p).toArray, .int .i64 home] w
      fun e w' => e = .returned (.tuple #[.int .i64 (levelV l v p home).1, .int .i64 (levelV l v p home).2]) ∧ Ext w w' := by
  have HP := Lib.hid hp
  clear hp
  simp only [vl, prm]
  by_cases h1 : palsE l = 0
  · have h1' : (palsE l != 0) = false := by simpa using h1
    have H1 := Lib.hid h1
    clear h1
    by_cases h2 : valueE v = 0
    · have h2' : (valueE v != 0) = false := by simpa using h2
      have H2 := Lib.hid h2
      clear h2
      by_cases h3 : paramE p = 0
      · have h3' : (paramE p != 0) = false := by simpa using h3
        have H3 := Lib.hid h3
        clear h3
        have HV := Lib.hid (show levelV l v p home = if levB home = false then (0, 2) else if v.pal = 0 then (v.lev, 0) else if (hueV l v.pal p).2 then ((hueV l v.pal p).1, 0) else (home, 0) by unfold levelV; rw [if_neg (by simpa using H1.out), if_neg (by simpa using H2.out), if_neg (by simpa using H3.out)])
        have HN := Lib.hid (show -2000000 ≤ v.pal ∧ v.pal ≤ 2000000 by have := valueE_in H2.out; omega)
        go_enter Try.func57, Try.ntmps57
        go_wp2
        go_region_held3 (fun w' => (∀ q, (((w.alloc (.cells #[.int .i64 v.pal, .int .i64 v.lev] 88)).alloc (.cells #[.int .i64 p.ch, .int .i64 p.attr] 40)).cell? q).isSome = true → w'.cell? q = ((w.alloc (.cells #[.int .i64 v.pal, .int .i64 v.lev] 88)).alloc (.cells #[.int .i64 p.ch, .int .i64 p.attr] 40)).cell? q) ∧ Ext ((w.alloc (.cells #[.int .i64 v.pal, .int .i64 v.lev] 88)).alloc (.cells #[.int .i64 p.ch, .int .i64 p.attr] 40)) w') ((refine kept ?_; go_split_ands; exact (by repeat (first | exact Ext.refl _ | assumption | apply Ext.xt | apply Ext.alloc | apply Ext.drew | apply Ext.drewN)))) (first
          | (go_at_call 117; refine (pal_Check A c l _ (HP.out.mono (by repeat (first | exact Ext.refl _ | assumption | apply Ext.xt | apply Ext.alloc | apply Ext.drew | apply Ext.drewN))) hl).mono ?_; rintro e w' ⟨rfl, hx⟩; obtain ⟨ya, rfl⟩ := hx.get; clear hx)
          | (go_at_call 118; refine (pal_Value v _).mono ?_; rintro e w' ⟨rfl, hx⟩; obtain ⟨yb, rfl⟩ := hx.get; clear hx)
          | (go_at_call 119; refine (pal_param1 p _).mono ?_; rintro e w' ⟨rfl, hx⟩; obtain ⟨yc, rfl⟩ := hx.get; clear hx))
        go_wp2
        refine wp_loop_rounds 4 ?_
        rw [rounds_succ]
        go_wp2
        rw [rounds_succ]
        go_wp2
        rw [rounds_succ]
        go_wp2
        rw [rounds_succ]

        cases hlb : levB home
        · have HW := Lib.hid (show levelV l v p home = (0, 2) by rw [HV.out, if_pos hlb])
          go_wp2_with (go_at_call 120; refine (pal_level home _).mono ?_; rintro e w' ⟨rfl, hx⟩; obtain ⟨y, rfl⟩ := hx.get; clear hx)
          go_ret2
          rw [HW.out]
          exact ⟨rfl, by repeat (first | exact Ext.refl _ | assumption | apply Ext.xt | apply Ext.alloc | apply Ext.drew | apply Ext.drewN)⟩
        · by_cases hz : v.pal = 0
          · have hz' : (v.pal == 0) = true := by simpa using hz
            have HW := Lib.hid (show levelV l v p home = (v.lev, 0) by rw [HV.out, if_neg (by simp [hlb]), if_pos hz])
            clear hz
            go_wp2_with (go_at_call 120; refine (pal_level home _).mono ?_; rintro e w' ⟨rfl, hx⟩; obtain ⟨y, rfl⟩ := hx.get; clear hx)
            go_ret2
            rw [HW.out]
            exact ⟨rfl, by repeat (first | exact Ext.refl _ | assumption | apply Ext.xt | apply Ext.alloc | apply Ext.drew | apply Ext.drewN)⟩
          · have hz' : (v.pal == 0) = false := by simpa using hz
            cases hh : (hueV l v.pal p).2
            · have HW := Lib.hid (show levelV l v p home = (home, 0) by rw [HV.out, if_neg (by simp [hlb]), if_neg hz, hh]; rfl)
              clear hz
              go_wp2_with (first | (go_at_call 120; refine (pal_level home _).mono ?_; rintro e w' ⟨rfl, hx⟩; obtain ⟨y, rfl⟩ := hx.get; clear hx) | (go_at_call 121; refine (pal_hue A c l v.pal p _ (HP.out.mono (by repeat (first | exact Ext.refl _ | assumption | apply Ext.xt | apply Ext.alloc | apply Ext.drew | apply Ext.drewN))) H1.out H3.out HN.out).mono ?_; rintro e w' ⟨rfl, hx⟩; obtain ⟨y, rfl⟩ := hx.get; clear hx))
              go_ret2
              rw [HW.out]
              exact ⟨rfl, by repeat (first | exact Ext.refl _ | assumption | apply Ext.xt | apply Ext.alloc | apply Ext.drew | apply Ext.drewN)⟩
            · have HW := Lib.hid (show levelV l v p home = ((hueV l v.pal p).1, 0) by rw [HV.out, if_neg (by simp [hlb]), if_neg hz, hh]; rfl)
              clear hz
              go_wp2_with (first | (go_at_call 120; refine (pal_level home _).mono ?_; rintro e w' ⟨rfl, hx⟩; obtain ⟨y, rfl⟩ := hx.get; clear hx) | (go_at_call 121; refine (pal_hue A c l v.pal p _ (HP.out.mono (by repeat (first | exact Ext.refl _ | assumption | apply Ext.xt | apply Ext.alloc | apply Ext.drew | apply Ext.drewN))) H1.out H3.out HN.out).mono ?_; rintro e w' ⟨rfl, hx⟩; obtain ⟨y, rfl⟩ := hx.get; clear hx))
              go_ret2
              rw [HW.out]
              exact ⟨rfl, by repeat (first | exact Ext.refl _ | assumption | apply Ext.xt | apply Ext.alloc | apply Ext.drew | apply Ext.drewN)⟩
      · have h' : (paramE p != 0) = true := by simpa using h3
        have HV := Lib.hid (show levelV l v p home = (0, paramE p) by unfold levelV; rw [if_neg (by simpa using H1.out), if_neg (by simpa using H2.out), if_pos h3])
        clear h3
        go_enter Try.func57, Try.ntmps57
        go_wp2
        go_region_held3 (fun w' => (∀ q, (((w.alloc (.cells #[.int .i64 v.pal, .int .i64 v.lev] 88)).alloc (.cells #[.int .i64 p.ch, .int .i64 p.attr] 40)).cell? q).isSome = true → w'.cell? q = ((w.alloc (.cells #[.int .i64 v.pal, .int .i64 v.lev] 88)).alloc (.cells #[.int .i64 p.ch, .int .i64 p.attr] 40)).cell? q) ∧ Ext ((w.alloc (.cells #[.int .i64 v.pal, .int .i64 v.lev] 88)).alloc (.cells #[.int .i64 p.ch, .int .i64 p.attr] 40)) w') ((refine kept ?_; go_split_ands; exact (by repeat (first | exact Ext.refl _ | assumption | apply Ext.xt | apply Ext.alloc | apply Ext.drew | apply Ext.drewN)))) (first
          | (go_at_call 117; refine (pal_Check A c l _ (HP.out.mono (by repeat (first | exact Ext.refl _ | assumption | apply Ext.xt | apply Ext.alloc | apply Ext.drew | apply Ext.drewN))) hl).mono ?_; rintro e w' ⟨rfl, hx⟩; obtain ⟨ya, rfl⟩ := hx.get; clear hx)
          | (go_at_call 118; refine (pal_Value v _).mono ?_; rintro e w' ⟨rfl, hx⟩; obtain ⟨yb, rfl⟩ := hx.get; clear hx)
          | (go_at_call 119; refine (pal_param1 p _).mono ?_; rintro e w' ⟨rfl, hx⟩; obtain ⟨yc, rfl⟩ := hx.get; clear hx))
        go_wp2
        refine wp_loop_rounds 4 ?_
        rw [rounds_succ]
        go_wp2
        rw [rounds_succ]
        go_wp2
        rw [rounds_succ]
        go_wp2
        go_ret2
        rw [HV.out]
        exact ⟨rfl, by repeat (first | exact Ext.refl _ | assumption | apply Ext.xt | apply Ext.alloc | apply Ext.drew | apply Ext.drewN)⟩
    · have h' : (valueE v != 0) = true := by simpa using h2
      have HV := Lib.hid (show levelV l v p home = (0, valueE v) by unfold levelV; rw [if_neg (by simpa using H1.out), if_pos h2])
      clear h2
      go_enter Try.func57, Try.ntmps57
      go_wp2
      go_region_held3 (fun w' => (∀ q, (((w.alloc (.cells #[.int .i64 v.pal, .int .i64 v.lev] 88)).alloc (.cells #[.int .i64 p.ch, .int .i64 p.attr] 40)).cell? q).isSome = true → w'.cell? q = ((w.alloc (.cells #[.int .i64 v.pal, .int .i64 v.lev] 88)).alloc (.cells #[.int .i64 p.ch, .int .i64 p.attr] 40)).cell? q) ∧ Ext ((w.alloc (.cells #[.int .i64 v.pal, .int .i64 v.lev] 88)).alloc (.cells #[.int .i64 p.ch, .int .i64 p.attr] 40)) w') ((refine kept ?_; go_split_ands; exact (by repeat (first | exact Ext.refl _ | assumption | apply Ext.xt | apply Ext.alloc | apply Ext.drew | apply Ext.drewN)))) (first
        | (go_at_call 117; refine (pal_Check A c l _ (HP.out.mono (by repeat (first | exact Ext.refl _ | assumption | apply Ext.xt | apply Ext.alloc | apply Ext.drew | apply Ext.drewN))) hl).mono ?_; rintro e w' ⟨rfl, hx⟩; obtain ⟨ya, rfl⟩ := hx.get; clear hx)
        | (go_at_call 118; refine (pal_Value v _).mono ?_; rintro e w' ⟨rfl, hx⟩; obtain ⟨yb, rfl⟩ := hx.get; clear hx)
        | (go_at_call 119; refine (pal_param1 p _).mono ?_; rintro e w' ⟨rfl, hx⟩; obtain ⟨yc, rfl⟩ := hx.get; clear hx))
      go_wp2
      refine wp_loop_rounds 4 ?_
      rw [rounds_succ]
      go_wp2
      rw [rounds_succ]
      go_wp2
      go_ret2
      rw [HV.out]
      exact ⟨rfl, by repeat (first | exact Ext.refl _ | assumption | apply Ext.xt | apply Ext.alloc | apply Ext.drew | apply Ext.drewN)⟩
  · have h' : (palsE l != 0) = true := by simpa using h1
    have HV := Lib.hid (show levelV l v p home = (0, palsE l) by unfold levelV; rw [if_pos h1])
    clear h1
    go_enter Try.func57, Try.ntmps57
    go_wp2
    go_region_held3 (fun w' => (∀ q, (((w.alloc (.cells #[.int .i64 v.pal, .int .i64 v.lev] 88)).alloc (.cells #[.int .i64 p.ch, .int .i64 p.attr] 40)).cell? q).isSome = true → w'.cell? q = ((w.alloc (.cells #[.int .i64 v.pal, .int .i64 v.lev] 88)).alloc (.cells #[.int .i64 p.ch, .int .i64 p.attr] 40)).cell? q) ∧ Ext ((w.alloc (.cells #[.int .i64 v.pal, .int .i64 v.lev] 88)).alloc (.cells #[.int .i64 p.ch, .int .i64 p.attr] 40)) w') ((refine kept ?_; go_split_ands; exact (by repeat (first | exact Ext.refl _ | assumption | apply Ext.xt | apply Ext.alloc | apply Ext.drew | apply Ext.drewN)))) (first
      | (go_at_call 117; refine (pal_Check A c l _ (HP.out.mono (by repeat (first | exact Ext.refl _ | assumption | apply Ext.xt | apply Ext.alloc | apply Ext.drew | apply Ext.drewN))) hl).mono ?_; rintro e w' ⟨rfl, hx⟩; obtain ⟨ya, rfl⟩ := hx.get; clear hx)
      | (go_at_call 118; refine (pal_Value v _).mono ?_; rintro e w' ⟨rfl, hx⟩; obtain ⟨yb, rfl⟩ := hx.get; clear hx)
      | (go_at_call 119; refine (pal_param1 p _).mono ?_; rintro e w' ⟨rfl, hx⟩; obtain ⟨yc, rfl⟩ := hx.get; clear hx))
    go_wp2
    refine wp_loop_rounds 4 ?_
    rw [rounds_succ]
    go_wp2
    go_ret2
    rw [HV.out]
    exact ⟨rfl, by repeat (first | exact Ext.refl _ | assumption | apply Ext.xt | apply Ext.alloc | apply Ext.drew | apply Ext.drewN)⟩
end Go.Proofs.Ytgmicckeefoghaa
