/-
  Logs of actions: until a time, between two times, copies; the edits among them.
-/
import Derived.Test.YtlpboikonnpjbaaGreatGlog
import Derived.Test.YtlpboikonnpjbaaGreatGins
namespace Go.Proofs.YtlpboikonnpjbaaGreat
open Go.RowKit

theorem info_A : infoOk Tryz.prog 45 44 544 = true := by kernel_rfl
theorem acnR_rows (l : List Acn) : ∀ r ∈ l.map acnR, r.length = 44 := by
  intro r hr
  obtain ⟨a, _, rfl⟩ := List.mem_map.1 hr
  rfl
theorem acnR_ones (l : List Acn) : ∀ r ∈ l.map acnR, ∀ u ∈ r, u.oneCell' = true := by
  intro r hr
  obtain ⟨a, _, rfl⟩ := List.mem_map.1 hr
  exact acnR_one a
theorem acnR_ones1 (a : Acn) : ∀ r ∈ [acnR a], ∀ u ∈ r, u.oneCell' = true := acnR_ones [a]
end Go.Proofs.YtlpboikonnpjbaaGreat

/-
  Logs of actions: until a time, between two times; the edits among them.
-/
namespace Go.Proofs.YtlpboikonnpjbaaGreat
open Go.RowKit

theorem info_int : infoOk Tryz.prog 3 1 8 = true := by kernel_rfl
theorem logE_ok {l : List Acn} (h : logE l = 0) : l.length ≤ 256 ∧ ∀ k a, l[k]? = some a → acnS (prv l k) a = 0 := by
  unfold logE at h
  split at h
  · omega
  · exact ⟨by omega, fun k a hk => scan_ok acnS l h k a hk⟩
theorem acnS_zero {q : Option Acn} {a : Acn} (h : acnS q a = 0) : acnE a = 0 := by
  unfold acnS at h
  split at h
  · omega
  · rename_i h2; simpa using h2
theorem acnE_at {a : Acn} (h : acnE a = 0) : 0 ≤ a.at_ ∧ a.at_ ≤ 10000000 := by
  unfold acnE at h
  split at h
  · omega
  · split at h
    · omega
    · rename_i h2
      unfold inE at h2
      split at h2 <;> omega
theorem logE_at {l : List Acn} (h : logE l = 0) {a : Acn} (ha : a ∈ l) : 0 ≤ a.at_ ∧ a.at_ ≤ 10000000 := by
  obtain ⟨k, hk⟩ := List.getElem?_of_mem ha
  exact acnE_at (acnS_zero ((logE_ok h).2 k a hk))
noncomputable def untilV (l : List Acn) (t : Int) : Int × Int := if logE l ≠ 0 then (0, logE l) else ((untilL l t : Int), 0)
set_option maxHeartbeats 800000 in
set_option maxRecDepth 100000 in
theorem act_Until (A : Option Addr) (c : Nat) (l : List Acn) (t : Int) (w : World) (hs : LogAt w A c l) :
    Calls Tryz.prog 56 #[.slice A l.length c, .int .i64 t] w fun e w' => e = .returned (.tuple #[.int .i64 (untilV l t).1, .int .i64 (untilV l t).2]) ∧ Ext w w' := by
  have HS := Lib.hid hs
  clear hs
  by_cases h : logE l = 0
  · have hz : (logE l != 0) = false := by simpa using h
    have HV := Lib.hid (show untilV l t = ((untilL l t : Int), 0) by unfold untilV; rw [if_neg (by simpa using h)])
    clear h
    go_enter Tryz.func56, Tryz.ntmps56
    go_wp2_with (first | (go_at_call 101; refine (act_Log A c l _ HS.out).mono ?_; rintro e w' ⟨rfl, hx⟩; obtain ⟨y, rfl⟩ := hx.get; clear hx) | (go_at_call 102; refine (act_until A c l t _ (HS.out.mono (by repeat (first | exact Ext.refl _ | assumption | apply Ext.xt | apply Ext.alloc | apply Ext.drew | apply Ext.drewN)))).mono ?_; rintro e w' ⟨rfl, hx⟩; obtain ⟨y, rfl⟩ := hx.get; clear hx))
    go_ret2
    rw [HV.out]
    exact ⟨rfl, by repeat (first | exact Ext.refl _ | assumption | apply Ext.xt | apply Ext.alloc | apply Ext.drew | apply Ext.drewN)⟩
  · have hz : (logE l != 0) = true := by simpa using h
    have HV := Lib.hid (show untilV l t = (0, logE l) by unfold untilV; rw [if_pos h])
    clear h
    go_enter Tryz.func56, Tryz.ntmps56
    go_wp2_with (go_at_call 101; refine (act_Log A c l _ HS.out).mono ?_; rintro e w' ⟨rfl, hx⟩; obtain ⟨y, rfl⟩ := hx.get; clear hx)
    go_ret2
    rw [HV.out]
    exact ⟨rfl, by repeat (first | exact Ext.refl _ | assumption | apply Ext.xt | apply Ext.alloc | apply Ext.drew | apply Ext.drewN)⟩

@[go_sem] theorem nil_A (A : Option Addr) (n c n' c' : Nat) (w : World) : (binOp .eql 90 (.slice A n c) (.slice none n' c')).run Tryz.prog w = .ok (.bool A.isNone) w := Lib.run_eql_slice_nil w _ _ A n c n' c' Tryz.underlying90
theorem Own.older {w0 w0' w : World} {E : TypeId} {size : Nat} {A : Option Addr} {n k : Nat} {rows : List (List Value)} (h : Own w0 w E size A n k rows) (hx : Ext w0' w0) : Own w0' w E size A n k rows := by
  refine ⟨h.len, h.row, h.one, h.le, h.cap, ?_⟩
  rcases h.at_ with h0 | ⟨g, cur, h1, h2, h3, h4⟩
  · exact .inl h0
  · exact .inr ⟨g, cur, h1, Nat.le_trans hx.size h2, h3, h4⟩
set_option maxHeartbeats 400000 in
set_option maxRecDepth 100000 in
theorem Clone_A (A : Option Addr) (k : Nat) (l : List Acn) (w : World) (hs : Sl w A 44 (l.map acnR)) (hl : l.length ≤ 1000000) : Calls Tryz.prog 103 #[.slice A l.length k] w (RetSl w 45 44 l.length (l.map acnR)) := by
  cases A with
  | none =>
    have hnil : l = [] := by simpa using hs.none_nil
    subst hnil
    go_enter Tryz.func103, Tryz.ntmps103
    go_wp2
    go_ret
    exact ⟨_, _, rfl, by repeat (first | exact Ext.refl _ | assumption | apply Ext.xt | apply Ext.alloc | apply Ext.drew | apply Ext.drewN), Own.nil _⟩
  | some a =>
    go_enter Tryz.func103, Tryz.ntmps103
    go_wp2_with (at_builtin; refine wpList_append_mine (w0 := w) rfl _ _ 90 90 rfl 45 45 44 544 Tryz.underlying90 Tryz.underlying90 info_A (by decide) (by repeat (first | exact Ext.refl _ | assumption | apply Ext.xt | apply Ext.alloc | apply Ext.drew | apply Ext.drewN)) _ 0 0 [] rfl (Own.nil _) (some a) l.length _ (l.map acnR) rfl (hs.mono (by repeat (first | exact Ext.refl _ | assumption | apply Ext.xt | apply Ext.alloc | apply Ext.drew | apply Ext.drewN))) (by simp) (acnR_ones l) (by unfold maxLen; omega) (by omega) l.length (by omega) (l.map acnR) rfl ?_; intro A' k' w1 hx1 hown hg hA; have HO := Lib.hid hown; obtain ⟨y, rfl⟩ := hx1.get; clear hown hx1 hg hA)
    go_ret
    exact ⟨_, _, rfl, by repeat (first | exact Ext.refl _ | assumption | apply Ext.xt | apply Ext.alloc | apply Ext.drew | apply Ext.drewN), HO.out⟩

theorem Clone_A' (A : Option Addr) (k n : Nat) (l : List Acn) (w : World) (hn : l.length = n) (hs : Sl w A 44 (l.map acnR)) (hl : n ≤ 1000000) : Calls Tryz.prog 103 #[.slice A n k] w (RetSl w 45 44 n (l.map acnR)) := by
  subst hn
  exact Clone_A A k l w hs hl
theorem act_until_as (A : Option Addr) (c : Nat) (l : List Acn) (t : Int) (i : Nat) (h : untilL l t = i) (w : World) (hs : LogAt w A c l) :
    Calls Tryz.prog 102 #[.slice A l.length c, .int .i64 t] w fun e w' => e = .returned (.int .i64 (i : Int)) ∧ Ext w w' := by
  subst h
  exact act_until A c l t w hs
/-- A log of the call's own, and an error's number. -/
def RetLog (w0 : World) (v : List Acn × Int) (e : Ending) (w' : World) : Prop := ∃ A k, e = .returned (.tuple #[.slice A v.1.length k, .int .i64 v.2]) ∧ Ext w0 w' ∧ Own w0 w' 45 44 A v.1.length k (v.1.map acnR) ∧ ∀ a ∈ v.1, AcnAt w' a
theorem RetLog.err {w0 w' : World} {v : List Acn × Int} {x : Int} (h : v = ([], x)) (hx : Ext w0 w') : RetLog w0 v (.returned (.tuple #[.slice none 0 0, .int .i64 x])) w' := by
  subst h
  exact ⟨none, 0, rfl, hx, Own.nil _, by simp⟩
noncomputable def betweenV (l : List Acn) (i k : Int) : List Acn × Int := if logE l ≠ 0 then ([], logE l) else if untilL l k < untilL l i then ([], 0) else ((l.take (untilL l k)).drop (untilL l i), 0)
theorem Sl.part {w : World} {b o size : Nat} {rows : List (List Value)} (h : Sl w (some ⟨b, o, none⟩) size rows) (i k : Nat) : Sl w (some ⟨b, o + i * size, none⟩) size ((rows.take k).drop i) := Sl.dropped (h.front k) i
set_option maxHeartbeats 1600000 in
set_option maxRecDepth 100000 in
theorem act_Between (A : Option Addr) (c : Nat) (l : List Acn) (t u : Int) (w : World) (hs : LogAt w A c l) :
    Calls Tryz.prog 57 #[.slice A l.length c, .int .i64 t, .int .i64 u] w (RetLog w (betweenV l t u)) := by
  have HS := Lib.hid hs
  have hcl := hs.le
  have hcm := hs.cap
  unfold maxLen at hcm
  clear hs
  by_cases h : logE l = 0
  · have hz : (logE l != 0) = false := by simpa using h
    have h256 := (logE_ok h).1
    have HE := Lib.hid h
    clear h
    have hi := untilL_le l t
    have hk := untilL_le l u
    by_cases hlt : untilL l u < untilL l t
    · have HV := Lib.hid (show betweenV l t u = ([], 0) by unfold betweenV; rw [if_neg (by simpa using HE.out), if_pos hlt])
      go_enter Tryz.func57, Tryz.ntmps57
      go_wp2_with (first | (go_at_call 101; refine (act_Log A c l _ HS.out).mono ?_; rintro e w' ⟨rfl, hx⟩; obtain ⟨y, rfl⟩ := hx.get; clear hx) | (go_at_call 102; refine (act_until A c l _ _ (HS.out.mono (by repeat (first | exact Ext.refl _ | assumption | apply Ext.xt | apply Ext.alloc | apply Ext.drew | apply Ext.drewN)))).mono ?_; rintro e w' ⟨rfl, hx⟩; obtain ⟨y, rfl⟩ := hx.get; clear hx))
      go_ret2
      exact RetLog.err HV.out (by repeat (first | exact Ext.refl _ | assumption | apply Ext.xt | apply Ext.alloc | apply Ext.drew | apply Ext.drewN))
    · have HV := Lib.hid (show betweenV l t u = ((l.take (untilL l u)).drop (untilL l t), 0) by unfold betweenV; rw [if_neg (by simpa using HE.out), if_neg hlt])
      have HM := Lib.hid (show ∀ a ∈ (l.take (untilL l u)).drop (untilL l t), a ∈ l from fun a ha => List.mem_of_mem_take (List.mem_of_mem_drop ha))
      have HL := Lib.hid (show ((l.take (untilL l u)).drop (untilL l t)).length = untilL l u - untilL l t by rw [List.length_drop, List.length_take, Nat.min_eq_left hk])
      obtain ⟨i, hi'⟩ : ∃ i, untilL l t = i := ⟨_, rfl⟩
      obtain ⟨k, hk'⟩ : ∃ k, untilL l u = k := ⟨_, rfl⟩
      have HI := Lib.hid hi'
      have HK := Lib.hid hk'
      rw [hi'] at hi hlt
      rw [hk'] at hk hlt
      clear hi' hk'
      by_cases h0 : l.length = 0
      · have hnil : l = [] := List.length_eq_zero_iff.1 h0
        subst hnil
        obtain rfl : i = 0 := by simpa using hi
        obtain rfl : k = 0 := by simpa using hk
        have HV2 := Lib.hid (show betweenV [] t u = ([], 0) by rw [HV.out]; simp)
        clear h0
        cases A with
        | none =>
          go_enter Tryz.func57, Tryz.ntmps57
          go_wp2_with (first | (go_at_call 101; refine (act_Log none c [] _ HS.out).mono ?_; rintro e w' ⟨rfl, hx⟩; obtain ⟨y, rfl⟩ := hx.get; clear hx) | (go_at_call 102; refine (act_until_as none c [] _ _ (by first | exact HI.out | exact HK.out) _ (HS.out.mono (by repeat (first | exact Ext.refl _ | assumption | apply Ext.xt | apply Ext.alloc | apply Ext.drew | apply Ext.drewN)))).mono ?_; rintro e w' ⟨rfl, hx⟩; obtain ⟨y, rfl⟩ := hx.get; clear hx) | (go_at_call 103; refine (Clone_A _ _ [] _ (Sl.nil _ _ _) (by simp)).mono ?_; rintro e w' ⟨D, n', rfl, hx, hown⟩; have HO := Lib.hid hown; obtain ⟨yc, rfl⟩ := hx.get; clear hx hown))
          go_ret2
          rw [HV2.out]
          exact ⟨D, n', rfl, by repeat (first | exact Ext.refl _ | assumption | apply Ext.xt | apply Ext.alloc | apply Ext.drew | apply Ext.drewN), HO.out.older (by repeat (first | exact Ext.refl _ | assumption | apply Ext.xt | apply Ext.alloc | apply Ext.drew | apply Ext.drewN)), by simp⟩
        | some ad =>
          go_enter Tryz.func57, Tryz.ntmps57
          go_wp2_with (first | (go_at_call 101; refine (act_Log (some ad) c [] _ HS.out).mono ?_; rintro e w' ⟨rfl, hx⟩; obtain ⟨y, rfl⟩ := hx.get; clear hx) | (go_at_call 102; refine (act_until_as (some ad) c [] _ _ (by first | exact HI.out | exact HK.out) _ (HS.out.mono (by repeat (first | exact Ext.refl _ | assumption | apply Ext.xt | apply Ext.alloc | apply Ext.drew | apply Ext.drewN)))).mono ?_; rintro e w' ⟨rfl, hx⟩; obtain ⟨y, rfl⟩ := hx.get; clear hx) | (go_at_call 103; refine (Clone_A _ _ [] _ (Sl.nil _ _ _) (by simp)).mono ?_; rintro e w' ⟨D, n', rfl, hx, hown⟩; have HO := Lib.hid hown; obtain ⟨yc, rfl⟩ := hx.get; clear hx hown))
          go_ret2
          rw [HV2.out]
          exact ⟨D, n', rfl, by repeat (first | exact Ext.refl _ | assumption | apply Ext.xt | apply Ext.alloc | apply Ext.drew | apply Ext.drewN), HO.out.older (by repeat (first | exact Ext.refl _ | assumption | apply Ext.xt | apply Ext.alloc | apply Ext.drew | apply Ext.drewN)), by simp⟩
      · obtain ⟨b, o, rfl, -⟩ := HS.out.sl.range (i := 0) (by rw [List.getElem?_map, List.getElem?_eq_getElem (by omega)]; rfl)
        have hb1 : (i : Int) ≤ (k : Int) := by omega
        have hb2 : (k : Int) ≤ (c : Int) := by omega
        have hb0 : (0 : Int) ≤ (i : Int) := by omega
        have HSP := Lib.hid (show Sl w (some ⟨b, o + i * 44, none⟩) 44 (((l.take k).drop i).map acnR) by rw [List.map_drop, List.map_take]; exact HS.out.sl.part i k)
        have HL2 := Lib.hid (show ((l.take k).drop i).length = k - i by rw [← HI.out, ← HK.out]; exact HL.out)
        have HV2 := Lib.hid (show betweenV l t u = ((l.take k).drop i, 0) by rw [← HI.out, ← HK.out]; exact HV.out)
        have HM2 := Lib.hid (show ∀ a ∈ (l.take k).drop i, a ∈ l by rw [← HI.out, ← HK.out]; exact HM.out)
        clear HL HV HM
        by_cases hic : i = c
        · have hz2 : ((i : Int) == (c : Int)) = true := by rw [hic]; simp
          have HE2 := Lib.hid (show (l.take k).drop i = [] by apply List.eq_nil_of_length_eq_zero; rw [HL2.out]; omega)
          obtain rfl : k = c := by omega
          subst hic
          go_enter Tryz.func57, Tryz.ntmps57
          go_wp2_with (first | (go_at_call 101; refine (act_Log _ _ l _ HS.out).mono ?_; rintro e w' ⟨rfl, hx⟩; obtain ⟨y, rfl⟩ := hx.get; clear hx) | (go_at_call 102; refine (act_until_as _ _ l _ _ (by first | exact HI.out | exact HK.out) _ (HS.out.mono (by repeat (first | exact Ext.refl _ | assumption | apply Ext.xt | apply Ext.alloc | apply Ext.drew | apply Ext.drewN)))).mono ?_; rintro e w' ⟨rfl, hx⟩; obtain ⟨y, rfl⟩ := hx.get; clear hx) | (go_at_call 103; refine (Clone_A _ _ [] _ (Sl.nil _ _ _) (by simp)).mono ?_; rintro e w' ⟨D, n', rfl, hx, hown⟩; have HO := Lib.hid hown; obtain ⟨yc, rfl⟩ := hx.get; clear hx hown))
          go_ret2
          rw [HV2.out, HE2.out]
          exact ⟨D, n', rfl, by repeat (first | exact Ext.refl _ | assumption | apply Ext.xt | apply Ext.alloc | apply Ext.drew | apply Ext.drewN), HO.out.older (by repeat (first | exact Ext.refl _ | assumption | apply Ext.xt | apply Ext.alloc | apply Ext.drew | apply Ext.drewN)), by simp⟩
        · have hic2 : ¬ c = i := fun e => hic e.symm
          have HC := Lib.hid hic
          clear hic h0
          go_enter Tryz.func57, Tryz.ntmps57
          go_wp2_with (first | (go_at_call 101; refine (act_Log _ _ l _ HS.out).mono ?_; rintro e w' ⟨rfl, hx⟩; obtain ⟨y, rfl⟩ := hx.get; clear hx) | (go_at_call 102; refine (act_until_as _ _ l _ _ (by first | exact HI.out | exact HK.out) _ (HS.out.mono (by repeat (first | exact Ext.refl _ | assumption | apply Ext.xt | apply Ext.alloc | apply Ext.drew | apply Ext.drewN)))).mono ?_; rintro e w' ⟨rfl, hx⟩; obtain ⟨y, rfl⟩ := hx.get; clear hx) | (go_at_call 103; refine (Clone_A' _ _ _ ((l.take k).drop i) _ HL2.out (HSP.out.mono (by repeat (first | exact Ext.refl _ | assumption | apply Ext.xt | apply Ext.alloc | apply Ext.drew | apply Ext.drewN))) (by have := HL2.out; omega)).mono ?_; rintro e w' ⟨D, n', rfl, hx, hown⟩; have HO := Lib.hid hown; obtain ⟨yc, rfl⟩ := hx.get; clear hx hown))
          go_ret2
          rw [HV2.out]
          exact ⟨D, n', by simp only [HL2.out]; rfl, by repeat (first | exact Ext.refl _ | assumption | apply Ext.xt | apply Ext.alloc | apply Ext.drew | apply Ext.drewN), by simp only [HL2.out]; exact HO.out.older (by repeat (first | exact Ext.refl _ | assumption | apply Ext.xt | apply Ext.alloc | apply Ext.drew | apply Ext.drewN)), fun a ha => (HS.out.el a (HM2.out a ha)).mono (by repeat (first | exact Ext.refl _ | assumption | apply Ext.xt | apply Ext.alloc | apply Ext.drew | apply Ext.drewN))⟩
  · have hz : (logE l != 0) = true := by simpa using h
    have HV := Lib.hid (show betweenV l t u = ([], logE l) by unfold betweenV; rw [if_pos h])
    clear h
    go_enter Tryz.func57, Tryz.ntmps57
    go_wp2_with (go_at_call 101; refine (act_Log A c l _ HS.out).mono ?_; rintro e w' ⟨rfl, hx⟩; obtain ⟨y, rfl⟩ := hx.get; clear hx)
    go_ret2
    exact RetLog.err HV.out (by repeat (first | exact Ext.refl _ | assumption | apply Ext.xt | apply Ext.alloc | apply Ext.drew | apply Ext.drewN))
end Go.Proofs.YtlpboikonnpjbaaGreat
