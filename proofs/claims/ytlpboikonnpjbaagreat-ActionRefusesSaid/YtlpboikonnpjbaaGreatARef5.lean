/-
  The reference's check of an action: the kinds, the levels, the lists.
-/
import Derived.Test.YtlpboikonnpjbaaGreatGlev
namespace Go.Proofs.YtlpboikonnpjbaaGreat
open Go.RowKit

def tgB (k : Int) : Bool := decide ((0 ≤ k ∧ k ≤ 9) ∨ k = 14 ∨ k = 15 ∨ k = 16)
def lvB (k : Int) : Bool := decide (k = 6 ∨ k = 7 ∨ k = 9 ∨ k = 10 ∨ k = 11 ∨ k = 15)
def tmB (k : Int) : Bool := decide (k = 7 ∨ k = 8 ∨ k = 9 ∨ k = 10 ∨ k = 12)
set_option maxHeartbeats 400000 in
set_option maxRecDepth 100000 in
theorem r33_target (k : Int) (w : World) : Calls Tryz.prog 91 #[.int .i64 k] w fun e w' => e = .returned (.bool (tgB k)) ∧ w = w' := by
  go_enter Tryz.func91, Tryz.ntmps91
  go_wp2
  all_goals
    go_ret
    refine ⟨ret_b ?_, rfl⟩
    unfold tgB
    grind
set_option maxHeartbeats 400000 in
set_option maxRecDepth 100000 in
theorem r33_level (k : Int) (w : World) : Calls Tryz.prog 93 #[.int .i64 k] w fun e w' => e = .returned (.bool (lvB k)) ∧ w = w' := by
  go_enter Tryz.func93, Tryz.ntmps93
  go_wp2
  all_goals
    go_ret
    refine ⟨ret_b ?_, rfl⟩
    unfold lvB
    grind
set_option maxHeartbeats 400000 in
set_option maxRecDepth 100000 in
theorem r33_time (k : Int) (w : World) : Calls Tryz.prog 95 #[.int .i64 k] w fun e w' => e = .returned (.bool (tmB k)) ∧ w = w' := by
  go_enter Tryz.func95, Tryz.ntmps95
  go_wp2
  all_goals
    go_ret
    refine ⟨ret_b ?_, rfl⟩
    unfold tmB
    grind
set_option maxHeartbeats 400000 in
set_option maxRecDepth 100000 in
theorem r33_levels (k v : Int) (w : World) : Calls Tryz.prog 94 #[.int .i64 k, .int .i64 v] w fun e w' => e = .returned (.int .i64 (levelsE k v)) ∧ w = w' := by
  go_enter Tryz.func94, Tryz.ntmps94
  go_wp2
  all_goals
    go_ret
    refine ⟨ret_i ?_, rfl⟩
    grind [levelsE, inE]

set_option maxHeartbeats 1600000 in
set_option maxRecDepth 100000 in
theorem r33_Params (A : Option Addr) (cap : Nat) (l : List Param) (w : World) (hs : Sl w A 2 (l.map prm)) (hl : l.length ≤ maxLen) : Calls Tryz.prog 97 #[.slice A l.length cap] w fun e w' => e = .returned (.int .i64 (parsE l)) ∧ Ext w w' := by
  unfold maxLen at hl
  by_cases h1 : 4096 < l.length
  · have HV := Lib.hid (show parsE l = 5 by unfold parsE; rw [if_pos h1])
    clear hs
    go_enter Tryz.func97, Tryz.ntmps97
    go_wp2
    go_ret
    exact ⟨ret_i HV.out.symm, Ext.refl _⟩
  · have HM := Lib.hid (show parsE l = scan parE none l by unfold parsE; rw [if_neg h1])
    go_enter Tryz.func97, Tryz.ntmps97
    go_wp2
    go_loopw [3] (fun i wr => ∃ k : Nat, k ≤ l.length ∧ i = .int .i64 k ∧ Ext w wr ∧ Hid (parsE l = scan parE (prv l k) (l.drop k))) (fun i _ => l.length - (intOf i).toNat)
    case atStart => exact ⟨0, by omega, rfl, Ext.refl _, HM⟩
    case round =>
      obtain ⟨k, hk, rfl, hx, HE⟩ := hrel
      obtain ⟨y, rfl⟩ := hx.get
      clear hx HM
      by_cases hlt : k < l.length
      · obtain ⟨m, hm⟩ : ∃ m, l[k]? = some m := ⟨_, List.getElem?_eq_getElem hlt⟩
        obtain ⟨b, o, rfl, hc0, hc1⟩ := hs.row2 (i := k) (by rw [List.getElem?_map, hm]; rfl)
        have HS := Lib.hid (HE.out.trans (scan_at parE l k m hm))
        have hb0 : (0 : Int) ≤ (k : Int) := by omega
        have hb1 : (k : Int) < (l.length : Int) := by omega
        clear HE
        by_cases hp : paramE m = 0
        · have hz : (paramE m != 0) = false := by simpa using hp
          have HP0 := Lib.hid hp
          clear hp
          by_cases hk0 : 0 < k
          · obtain ⟨m', hm'⟩ : ∃ m', l[k - 1]? = some m' := ⟨_, List.getElem?_eq_getElem (by omega)⟩
            obtain ⟨b', o', hA, hp0, hp1⟩ := hs.row2 (i := k - 1) (by rw [List.getElem?_map, hm']; rfl)
            injection hA with hA
            injection hA with e1 e2
            subst e1 e2
            have HP := Lib.hid (show prv l k = some m' by unfold prv; rw [if_neg (by omega), hm'])
            clear hm hm' hs
            go_wp2_with (go_at_call 142; refine (r15_Param m _).mono ?_; rintro e w' ⟨rfl, hx⟩; obtain ⟨y, rfl⟩ := hx.get; clear hx)
            (refine wp_region_grows (by kernel_rfl) (by kernel_rfl) ?_; (repeat (go_big_quiet_step ((go_at_call 144; exact Calls.grows (r15_Before m' m _))))); refine wpQuiet_nil ?_; rintro _ ⟨y, rfl⟩)
            cases hB : before m' m
            · have HB := Lib.hid hB
              clear hB
              go_wp2
              go_ret
              go_light
              refine ⟨ret_i ?_, by repeat (first | exact Ext.refl _ | assumption | apply Ext.xt | apply Ext.alloc | apply Ext.drew | apply Ext.drewN)⟩
              have hS := HS.out
              have hB := HB.out
              have h1 := HP0.out
              rw [HP.out] at hS
              grind [parE]
            · have HB := Lib.hid hB
              clear hB
              go_wp2
              go_light
              have hS := HS.out
              have hB := HB.out
              have h1 := HP0.out
              refine ⟨⟨k + 1, by omega, by go_num, by repeat (first | exact Ext.refl _ | assumption | apply Ext.xt | apply Ext.alloc | apply Ext.drew | apply Ext.drewN), Lib.hid ?_⟩, by simp [intOf]; omega⟩
              rw [HP.out] at hS
              grind [parE]
          · have HP : Hid (prv l k = none) := Lib.hid (by unfold prv; rw [if_pos (by omega)])
            obtain rfl : k = 0 := by omega
            simp only [Nat.zero_mul, Nat.add_zero] at hc0 hc1
            clear hm hs hk0
            go_wp2_with (go_at_call 142; refine (r15_Param m _).mono ?_; rintro e w' ⟨rfl, hx⟩; obtain ⟨y, rfl⟩ := hx.get; clear hx)
            (refine wp_region_grows (by kernel_rfl) (by kernel_rfl) ?_; (repeat (go_big_quiet_step (fail))); refine wpQuiet_nil ?_; rintro _ ⟨y, rfl⟩)
            go_wp2
            go_light
            have hS := HS.out
            have h1 := HP0.out
            refine ⟨⟨1, by omega, by rfl, by repeat (first | exact Ext.refl _ | assumption | apply Ext.xt | apply Ext.alloc | apply Ext.drew | apply Ext.drewN), Lib.hid ?_⟩, by simp [intOf]; omega⟩
            rw [HP.out] at hS
            grind [parE]
        · have hz : (paramE m != 0) = true := by simpa using hp
          have HV := Lib.hid (show paramE m = parsE l by
            rw [HS.out]
            have h2 : parE (prv l k) m = paramE m := by unfold parE; rw [if_pos hp]
            rw [h2, if_pos hp])
          clear hp hm hs
          go_wp2_with (go_at_call 142; refine (r15_Param m _).mono ?_; rintro e w' ⟨rfl, hx⟩; obtain ⟨y, rfl⟩ := hx.get; clear hx)
          go_ret
          exact ⟨ret_i HV.out, by repeat (first | exact Ext.refl _ | assumption | apply Ext.xt | apply Ext.alloc | apply Ext.drew | apply Ext.drewN)⟩
      · have HS := Lib.hid (HE.out.trans (scan_end parE l k _ (by omega)))
        go_wp2
        go_ret
        exact ⟨ret_i HS.out.symm, by repeat (first | exact Ext.refl _ | assumption | apply Ext.xt | apply Ext.alloc | apply Ext.drew | apply Ext.drewN)⟩

set_option maxHeartbeats 1600000 in
set_option maxRecDepth 100000 in
theorem r33_Channels (A : Option Addr) (cap : Nat) (l : List Int) (w : World) (hs : Sl w A 1 (l.map intR)) (hl : l.length ≤ maxLen) : Calls Tryz.prog 98 #[.slice A l.length cap] w fun e w' => e = .returned (.int .i64 (chansE l)) ∧ Ext w w' := by
  unfold maxLen at hl
  by_cases h0 : l.length = 0
  · have hz : ((l.length : Int) == 0) = true := by simp [h0]
    have HV := Lib.hid (show chansE l = 12 by unfold chansE; rw [if_pos h0])
    clear h0 hs
    go_enter Tryz.func98, Tryz.ntmps98
    go_wp2
    go_ret
    exact ⟨ret_i HV.out.symm, Ext.refl _⟩
  · have hz : ((l.length : Int) == 0) = false := by simp; intro h; exact h0 (by simp [h])
    by_cases h1 : 256 < l.length
    · have HV := Lib.hid (show chansE l = 5 by unfold chansE; rw [if_neg h0, if_pos h1])
      clear h0 hs
      go_enter Tryz.func98, Tryz.ntmps98
      go_wp2
      go_ret
      exact ⟨ret_i HV.out.symm, Ext.refl _⟩
    · have HM := Lib.hid (show chansE l = chansS [] l by unfold chansE; rw [if_neg h0, if_neg h1])
      obtain ⟨b, o, rfl, -⟩ := hs.row1 (i := 0) (by rw [List.getElem?_map, List.getElem?_eq_getElem (by omega)]; rfl)
      clear h0
      go_enter Tryz.func98, Tryz.ntmps98
      go_wp2
      go_loopw [3, 4] (fun i _ wr => ∃ k : Nat, k ≤ l.length ∧ i = .int .i64 k ∧ Ext w wr ∧ Hid (chansE l = chansS (l.take k) (l.drop k))) (fun i _ _ => l.length - (intOf i).toNat)
      case atStart => exact ⟨0, by omega, rfl, Ext.refl _, by simpa using HM⟩
      case round =>
        obtain ⟨k, hk, rfl, hx, HE⟩ := hrel
        obtain ⟨y, rfl⟩ := hx.get
        clear hx HM
        by_cases hlt : k < l.length
        · obtain ⟨m, hm⟩ : ∃ m, l[k]? = some m := ⟨_, List.getElem?_eq_getElem hlt⟩
          obtain ⟨b', o', hA, hc0⟩ := hs.row1 (i := k) (by rw [List.getElem?_map, hm]; rfl)
          injection hA with hA
          injection hA with e1 e2
          subst e1 e2
          have HS := Lib.hid (HE.out.trans (chansS_at l k m hm))
          have HSl := Lib.hid hs
          have HM := Lib.hid hm
          have hb0 : (0 : Int) ≤ (k : Int) := by omega
          have hb1 : (k : Int) < (l.length : Int) := by omega
          clear HE hm hs
          rcases inE_two m 1 999 with hi | hi
          · have hi1 : 1 ≤ m := by unfold inE at hi; split at hi <;> omega
            have hi2 : m ≤ 999 := by unfold inE at hi; split at hi <;> omega
            have HI := Lib.hid hi
            clear hi
            go_wp2
            go_loopw [4] (fun i wr => ∃ j : Nat, j ≤ k ∧ i = .int .i64 j ∧ Ext w wr ∧ Hid (∀ x ∈ l.take j, x ≠ m)) (fun i _ => k - (intOf i).toNat)
            case atStart => exact ⟨0, by omega, rfl, by repeat (first | exact Ext.refl _ | assumption | apply Ext.xt | apply Ext.alloc | apply Ext.drew | apply Ext.drewN), Lib.hid (by simp)⟩
            case round =>
              obtain ⟨j, hj, rfl, hx, HN⟩ := hrel
              obtain ⟨y2, rfl⟩ := hx.get
              clear hx
              by_cases hjk : j < k
              · obtain ⟨x, hx⟩ : ∃ x, l[j]? = some x := ⟨_, List.getElem?_eq_getElem (by omega)⟩
                obtain ⟨b', o', hA, hd0⟩ := HSl.out.row1 (i := j) (by rw [List.getElem?_map, hx]; rfl)
                injection hA with hA
                injection hA with e1 e2
                subst e1 e2
                have HX := Lib.hid hx
                have hb2 : (0 : Int) ≤ (j : Int) := by omega
                have hb3 : (j : Int) < (l.length : Int) := by omega
                clear hx
                by_cases he : x = m
                · have hz2 : (x == m) = true := by simpa using he
                  have HV := Lib.hid (show chansE l = 7 by
                    rw [HS.out, if_neg (by simpa using HI.out), if_pos]
                    rw [← he]
                    exact List.mem_of_getElem? (i := j) (by rw [List.getElem?_take, if_pos hjk]; exact HX.out))
                  clear he
                  go_wp2
                  (refine wp_region_grows (by kernel_rfl) (by kernel_rfl) ?_; (repeat (go_big_quiet_step (fail))); refine wpQuiet_nil ?_; rintro _ ⟨y, rfl⟩)
                  go_wp2
                  go_ret
                  exact ⟨ret_i HV.out.symm, by repeat (first | exact Ext.refl _ | assumption | apply Ext.xt | apply Ext.alloc | apply Ext.drew | apply Ext.drewN)⟩
                · have hz2 : (x == m) = false := by simpa using he
                  have HK := Lib.hid (show ∀ x ∈ l.take (j + 1), x ≠ m by
                    intro z hzz
                    obtain ⟨g1, g2⟩ := List.getElem?_eq_some_iff.1 HX.out
                    rw [List.take_succ_eq_append_getElem g1, g2] at hzz
                    rcases List.mem_append.1 hzz with hzz | hzz
                    · exact HN.out z hzz
                    · simp at hzz; subst hzz; exact he)
                  clear he
                  go_wp2
                  (refine wp_region_grows (by kernel_rfl) (by kernel_rfl) ?_; (repeat (go_big_quiet_step (fail))); refine wpQuiet_nil ?_; rintro _ ⟨y, rfl⟩)
                  go_wp2
                  go_light
                  exact ⟨⟨j + 1, by omega, by go_num, by repeat (first | exact Ext.refl _ | assumption | apply Ext.xt | apply Ext.alloc | apply Ext.drew | apply Ext.drewN), HK⟩, by simp [intOf]; omega⟩
              · have HV := Lib.hid (show chansE l = chansS (l.take (k + 1)) (l.drop (k + 1)) by
                  obtain rfl : j = k := by omega
                  rw [HS.out, if_neg (by simpa using HI.out), if_neg (fun h => HN.out m h rfl)])
                go_wp2
                go_light
                exact ⟨⟨k + 1, by omega, by go_num, by repeat (first | exact Ext.refl _ | assumption | apply Ext.xt | apply Ext.alloc | apply Ext.drew | apply Ext.drewN), HV⟩, by simp [intOf]; omega⟩
          · have HV := Lib.hid (show chansE l = 2 by rw [HS.out, if_pos (by rw [hi]; decide)])
            rcases (by unfold inE at hi; split at hi <;> omega : m < 1 ∨ (1 ≤ m ∧ 999 < m)) with hi1 | ⟨hi1, hi2⟩
            · clear hi
              go_wp2
              go_ret
              exact ⟨ret_i HV.out.symm, by repeat (first | exact Ext.refl _ | assumption | apply Ext.xt | apply Ext.alloc | apply Ext.drew | apply Ext.drewN)⟩
            · clear hi
              go_wp2
              go_ret
              exact ⟨ret_i HV.out.symm, by repeat (first | exact Ext.refl _ | assumption | apply Ext.xt | apply Ext.alloc | apply Ext.drew | apply Ext.drewN)⟩
        · have HS := Lib.hid (show chansE l = 0 by rw [HE.out, List.drop_eq_nil_of_le (by omega)]; rfl)
          go_wp2
          go_ret
          exact ⟨ret_i HS.out.symm, by repeat (first | exact Ext.refl _ | assumption | apply Ext.xt | apply Ext.alloc | apply Ext.drew | apply Ext.drewN)⟩
end Go.Proofs.YtlpboikonnpjbaaGreat
