/-
  Chapter 33: the law ActionRefuses.
-/
import Derived.Test.YtlpboikonnpjbaaGreatGlaw
import Derived.Test.YtlpboikonnpjbaaGreatLoad
namespace Go.Proofs.YtlpboikonnpjbaaGreat
open Go.RowKit

@[go_sem] theorem rowQ_topA (w : World) (b : Nat) (a : Acn) (T : TypeId) (h : w.heap.size = b) : rowQ (w.alloc (.cells (acnR a).toArray T)) b 0 44 = some (acnR a) := rowQ_of (rangeAt_new w h (acnR a) T) rfl
theorem moved_row (a : Acn) : acnR { a with at_ := 0 } = (acnR a).set 0 (.int .i64 0) := rfl
theorem full_row (a : Acn) (A B : Option Addr) : acnR (fullA a A B) = (((((((acnR a).set 2 (.int .i64 (max a.target 1))).set 3 (.string ⟨#[49]⟩)).set 4 (.int .i64 (max a.level 1))).set 5 (.int .i64 (max a.time 1))).set 7 (.slice A 1 1)).set 8 (.slice B 1 1)) := rfl
set_option maxHeartbeats 1600000 in
set_option maxRecDepth 100000 in
theorem Refuses_bad (a : Acn) (w : World) (ha : AcnAt w a) (he : acnE a ≠ 0) : Calls Tryz.prog 3 #[.agg (acnR a).toArray] w fun e w' => e = .returned (.bool true) ∧ Ext w w' := by
  have HA := Lib.hid ha
  have HR := Lib.hid (rangeAt_new w rfl (acnR a) 45)
  have hz : (acnE a != 0) = true := by simpa using he
  clear ha he
  go_enter Tryz.func3, Tryz.ntmps3
  go_wp2_with (first
    | (refine wpList_load_row rfl 45 _ rfl w.heap.size 0 rfl (acnR a) _ (rangeAt_mono HR.out (by repeat (first | exact Ext.refl _ | assumption | apply Ext.xt | apply Ext.alloc | apply Ext.drew | apply Ext.drewN))) Tryz.underlying45 rfl (by kernel_rfl) ?_)
    | (go_at_call 13; refine (r33_Few a _).mono ?_; rintro e w' ⟨⟨fa, rfl⟩, hx⟩; obtain ⟨ya, rfl⟩ := hx.get; clear hx; cases fa)
    | (go_at_call 14; refine (r33_Check a _ (HA.out.mono (by repeat (first | exact Ext.refl _ | assumption | apply Ext.xt | apply Ext.alloc | apply Ext.drew | apply Ext.drewN)))).mono ?_; rintro e w' ⟨rfl, hx⟩; obtain ⟨y, rfl⟩ := hx.get; clear hx)
    | (go_at_call 15; refine (l33_awake _).mono ?_; rintro e w' ⟨rfl, hx⟩; obtain ⟨y, rfl⟩ := hx.get; clear hx))
  all_goals (go_ret; exact ⟨rfl, by repeat (first | exact Ext.refl _ | assumption | apply Ext.xt | apply Ext.alloc | apply Ext.drew | apply Ext.drewN)⟩)
set_option maxHeartbeats 3200000 in
set_option maxRecDepth 100000 in
theorem Refuses_good (a : Acn) (w : World) (ha : AcnAt w a) (he : acnE a = 0) : Calls Tryz.prog 3 #[.agg (acnR a).toArray] w fun e w' => e = .returned (.bool true) ∧ Ext w w' := by
  have HA := Lib.hid ha
  have HR := Lib.hid (rangeAt_new w rfl (acnR a) 45)
  have hz : (acnE a != 0) = false := by simpa using he
  have HE := Lib.hid he
  clear ha he
  go_enter Tryz.func3, Tryz.ntmps3
  go_upto_region 4 with (first
    | (refine wpList_load_row rfl 45 (.tmp 1) rfl w.heap.size 0 rfl (acnR a) _ (rangeAt_mono HR.out (by repeat (first | exact Ext.refl _ | assumption | apply Ext.xt | apply Ext.alloc | apply Ext.drew | apply Ext.drewN))) Tryz.underlying45 rfl (by kernel_rfl) ?_)
    | (refine wpList_store_top rfl 45 (.tmp 3) (.tmp 14) rfl rfl (by simp [go_sem]) (acnR a) rfl rfl (by kernel_rfl) (acnR_one a) ?_)
    | (go_at_call 13; refine (r33_Few a _).mono ?_; rintro e w' ⟨⟨fa, rfl⟩, hx⟩; obtain ⟨ya, rfl⟩ := hx.get; clear hx; cases fa)
    | (go_at_call 14; refine (r33_Check a _ (HA.out.mono (by repeat (first | exact Ext.refl _ | assumption | apply Ext.xt | apply Ext.alloc | apply Ext.drew | apply Ext.drewN)))).mono ?_; rintro e w' ⟨rfl, hx⟩; obtain ⟨yc, rfl⟩ := hx.get; clear hx)
    | (go_at_call 15; refine (l33_awake _).mono ?_; rintro e w' ⟨rfl, hx⟩; obtain ⟨y, rfl⟩ := hx.get; clear hx))
  all_goals first
    | (go_ret; exact ⟨rfl, by repeat (first | exact Ext.refl _ | assumption | apply Ext.xt | apply Ext.alloc | apply Ext.drew | apply Ext.drewN)⟩)
    | skip
  try simp only [Act.put]
  go_cut [] (fun wx => ((xt (xt (w.alloc (.cells (acnR a).toArray 45)) ya) yc).alloc (.cells (((((acnR a).set 2 (.int .i64 (max a.target 1))).set 3 (.string ⟨#[49]⟩)).set 4 (.int .i64 (max a.level 1))).set 5 (.int .i64 (max a.time 1))).toArray 45)).drew = wx)
  case first =>
    go_region_held3 (fun w' => (∀ q, ((xt (xt (w.alloc (.cells (acnR a).toArray 45)) ya) yc).cell? q).isSome = true → w'.cell? q = (xt (xt (w.alloc (.cells (acnR a).toArray 45)) ya) yc).cell? q) ∧ Ext (xt (xt (w.alloc (.cells (acnR a).toArray 45)) ya) yc) w') ((refine kept ?_; go_split_ands; exact (by repeat (first | exact Ext.refl _ | assumption | apply Ext.xt | apply Ext.alloc | apply Ext.drew | apply Ext.drewN)))) (fail)
    all_goals (go_wp2_with fail; go_meet; exact rfl)
  case rest =>
    subst hcut
    have hr1 := rowQ_of (n := 44) HR.out rfl
    go_upto_region 7 with fail
    rw [← full_row a (some ⟨w.heap.size + 1 + ya.n + yc.n + 1, 0, none⟩) (some ⟨w.heap.size + 1 + ya.n + yc.n + 1 + 1, 0, none⟩)]
    obtain ⟨F, hF⟩ : ∃ F, fullA a (some ⟨w.heap.size + 1 + ya.n + yc.n + 1, 0, none⟩) (some ⟨w.heap.size + 1 + ya.n + yc.n + 1 + 1, 0, none⟩) = F := ⟨_, rfl⟩
    have HFE := Lib.hid (show acnE F = 3 by rw [← hF]; exact acnE_full HE.out _ _)
    have h1 : Sl (((xt (xt (w.alloc (.cells (acnR a).toArray 45)) ya) yc).alloc (.cells (acnR F).toArray 45)).alloc (.cells #[.int .i64 1, .int .i64 0] 50)) (some ⟨w.heap.size + 1 + ya.n + yc.n + 1, 0, none⟩) 2 [[.int .i64 1, .int .i64 0]] := Sl.alloc' (by simp [go_sem]) rfl (by simp)
    have h2 : Sl ((((xt (xt (w.alloc (.cells (acnR a).toArray 45)) ya) yc).alloc (.cells (acnR F).toArray 45)).alloc (.cells #[.int .i64 1, .int .i64 0] 50)).alloc (.cells #[.int .i64 1] 3)) (some ⟨w.heap.size + 1 + ya.n + yc.n + 1 + 1, 0, none⟩) 1 [[.int .i64 1]] := Sl.alloc' (by simp [go_sem]) rfl (by simp)
    obtain ⟨W6, hW6⟩ : ∃ W, ((((xt (xt (w.alloc (.cells (acnR a).toArray 45)) ya) yc).alloc (.cells (acnR F).toArray 45)).alloc (.cells #[.int .i64 1, .int .i64 0] 50)).alloc (.cells #[.int .i64 1] 3)).drew = W := ⟨_, rfl⟩
    have HX := Lib.hid (show Ext w W6 by rw [← hW6]; exact by repeat (first | exact Ext.refl _ | assumption | apply Ext.xt | apply Ext.alloc | apply Ext.drew | apply Ext.drewN))
    have HFA := Lib.hid (show AcnAt W6 F by
      rw [← hW6]
      refine ⟨?_, ?_, ?_, ?_, ?_⟩
      · rw [← hF]; show (1 : Nat) ≤ _; unfold maxLen; omega
      · rw [← hF]; exact HA.out.entries.mono (by repeat (first | exact Ext.refl _ | assumption | apply Ext.xt | apply Ext.alloc | apply Ext.drew | apply Ext.drewN))
      · rw [← hF] at h1 ⊢; exact ⟨h1.mono (by repeat (first | exact Ext.refl _ | assumption | apply Ext.xt | apply Ext.alloc | apply Ext.drew | apply Ext.drewN)), Nat.le_refl _, by unfold maxLen; show (1 : Nat) ≤ _; omega⟩
      · rw [← hF] at h2 ⊢; exact ⟨h2.mono (by repeat (first | exact Ext.refl _ | assumption | apply Ext.xt | apply Ext.alloc | apply Ext.drew | apply Ext.drewN)), Nat.le_refl _, by unfold maxLen; show (1 : Nat) ≤ _; omega⟩
      · rw [← hF]; exact HA.out.edit.mono (by repeat (first | exact Ext.refl _ | assumption | apply Ext.xt | apply Ext.alloc | apply Ext.drew | apply Ext.drewN)))
    have hq1 : rowQ W6 (w.heap.size + 1 + ya.n + yc.n) 0 44 = some (acnR F) := by
      rw [← hW6]
      exact rowQ_ext (w := (xt (xt (w.alloc (.cells (acnR a).toArray 45)) ya) yc).alloc (.cells (acnR F).toArray 45)) (by repeat (first | exact Ext.refl _ | assumption | apply Ext.xt | apply Ext.alloc | apply Ext.drew | apply Ext.drewN)) (rowQ_topA _ _ F _ (by simp [go_sem]))
    have hq2 : rowQ W6 w.heap.size 0 44 = some (acnR a) := by
      rw [← hW6]
      exact rowQ_ext (w := w.alloc (.cells (acnR a).toArray 45)) (by repeat (first | exact Ext.refl _ | assumption | apply Ext.xt | apply Ext.alloc | apply Ext.drew | apply Ext.drewN)) hr1
    rw [hF, hW6]
    clear hF h1 h2 hW6 hr1
    go_upto_region 9 with (refine wpList_store_top rfl 45 (.tmp 4) (.tmp 33) rfl rfl (by simp [go_sem]) (acnR a) rfl rfl (by kernel_rfl) (acnR_one a) ?_)
    rw [← moved_row a]
    obtain ⟨M, hM⟩ : ∃ M, { a with at_ := 0 } = M := ⟨_, rfl⟩
    have HME := Lib.hid (show acnE M = 0 by rw [← hM]; exact acnE_moved HE.out)
    have HMA := Lib.hid (show AcnAt w M by rw [← hM]; exact ⟨HA.out.cue, HA.out.entries, HA.out.params, HA.out.chans, HA.out.edit⟩)
    rw [hM]
    clear hM
    have HX2 := Lib.hid (HX.out.alloc (.cells (acnR M).toArray 45))
    go_wp2_with (first
      | (go_at_call 16; ((with_reducible refine (act_Check F _ (HFA.out.mono (by repeat (first | exact Ext.refl _ | assumption | apply Ext.xt | apply Ext.alloc | apply Ext.drew | apply Ext.drewN)))).mono ?_); rintro e w' ⟨he, hx⟩; rw [HFE.out] at he; subst he; obtain ⟨yf, rfl⟩ := hx.get; clear hx))
      | (go_at_call 16; ((with_reducible refine (act_Check M _ (HMA.out.mono (HX2.out.trans (by repeat (first | exact Ext.refl _ | assumption | apply Ext.xt | apply Ext.alloc | apply Ext.drew | apply Ext.drewN))))).mono ?_); rintro e w' ⟨he, hx⟩; rw [HME.out] at he; subst he; obtain ⟨yg, rfl⟩ := hx.get; clear hx))
      | (go_at_call 15; refine (l33_awake _).mono ?_; rintro e w' ⟨rfl, hx⟩; obtain ⟨y, rfl⟩ := hx.get; clear hx))
    all_goals (go_ret; exact ⟨rfl, HX2.out.trans (by repeat (first | exact Ext.refl _ | assumption | apply Ext.xt | apply Ext.alloc | apply Ext.drew | apply Ext.drewN))⟩)
theorem l33_ActionRefuses (a : Acn) (w : World) (ha : AcnAt w a) : Calls Tryz.prog 3 #[.agg (acnR a).toArray] w fun e w' => e = .returned (.bool true) ∧ Ext w w' := by
  by_cases he : acnE a = 0
  · exact Refuses_good a w ha he
  · exact Refuses_bad a w ha he
end Go.Proofs.YtlpboikonnpjbaaGreat
