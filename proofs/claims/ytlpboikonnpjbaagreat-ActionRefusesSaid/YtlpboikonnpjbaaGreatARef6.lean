/-
  The reference's check of an action: numbers, lists, what must be zero, and all.
-/
import Derived.Test.YtlpboikonnpjbaaGreatGcmp
import Derived.Test.YtlpboikonnpjbaaGreatARef4
import Derived.Test.YtlpboikonnpjbaaGreatARef5
import Derived.Test.YtlpboikonnpjbaaGreatGlog
namespace Go.Proofs.YtlpboikonnpjbaaGreat
open Go.RowKit

def n1B (a : Acn) : Bool := tgB a.kind && (inE a.target 1 1048576 != 0)
def n3B (a : Acn) : Bool := tmB a.kind && (inE a.time 0 10000000 != 0)
noncomputable def numsR (a : Acn) : Int := if n1B a = true then 2 else if a.kind = 1 ∧ numE a.cue ≠ 0 then numE a.cue else if lvB a.kind = true ∧ levelsE a.kind a.level ≠ 0 then levelsE a.kind a.level else if n3B a = true then 2 else 0
theorem inE_ne (n a b : Int) : (inE n a b != 0) = decide (n < a ∨ b < n) := by unfold inE; split <;> simp [*]
set_option maxHeartbeats 3200000 in
set_option maxRecDepth 100000 in
theorem r33_numbers (a : Acn) (w : World) (ha : a.cue.size ≤ maxLen) : Calls Tryz.prog 52 #[.agg (acnR a).toArray] w fun e w' => e = .returned (.int .i64 (numsR a)) ∧ Ext w w' := by
  have HA := Lib.hid ha
  clear ha
  go_enter Tryz.func52, Tryz.ntmps52
  go_upto_region 1 with fail
  go_cut [17] (fun s wx => s = .bool (n1B a) ∧ w.alloc (.cells (acnR a).toArray 45) = wx)
  case first =>
    go_wp2_with (go_at_call 91; refine (r33_target _ _).mono ?_; rintro e w' ⟨rfl, rfl⟩)
    all_goals
      go_meet
      refine ⟨?_, rfl⟩
      go_light
      as_aux_lemma =>
        congr 1
        unfold n1B
        rw [inE_ne]
        grind
  case rest =>
    obtain ⟨rfl, rfl⟩ := hcut
    cases ht : n1B a
    · have HT := Lib.hid ht
      clear ht
      by_cases hk : a.kind = 1 ∧ numE a.cue ≠ 0
      · obtain ⟨k1, k2⟩ := hk
        have q1 : (a.kind == 1) = true := by simpa using k1
        have q2 : (numE a.cue != 0) = true := by simpa using k2
        have HV := Lib.hid (show numsR a = numE a.cue by unfold numsR; rw [HT.out, if_neg (by decide), if_pos ⟨k1, k2⟩])
        clear k1 k2
        go_wp2_with (go_at_call 92; refine (r05_Check a.cue _ HA.out).mono ?_; rintro e w' ⟨rfl, hx⟩; obtain ⟨y, rfl⟩ := hx.get; clear hx)
        go_ret
        exact ⟨ret_i HV.out.symm, by repeat (first | exact Ext.refl _ | assumption | apply Ext.xt | apply Ext.alloc | apply Ext.drew | apply Ext.drewN)⟩
      · have HK := Lib.hid hk
        by_cases hl : lvB a.kind = true ∧ levelsE a.kind a.level ≠ 0
        · obtain ⟨k1, k2⟩ := hl
          have q2 : (levelsE a.kind a.level != 0) = true := by simpa using k2
          have q1 : (a.kind == 1) = false := by unfold lvB at k1; simp at k1 ⊢; omega
          have HV := Lib.hid (show numsR a = levelsE a.kind a.level by unfold numsR; rw [HT.out, if_neg (by decide), if_neg HK.out, if_pos ⟨k1, k2⟩])
          clear k2 hk
          go_wp2_with (first | (go_at_call 93; refine (r33_level _ _).mono ?_; rintro e w' ⟨rfl, rfl⟩) | (go_at_call 94; refine (r33_levels _ _ _).mono ?_; rintro e w' ⟨rfl, rfl⟩))
          go_ret
          exact ⟨ret_i HV.out.symm, by repeat (first | exact Ext.refl _ | assumption | apply Ext.xt | apply Ext.alloc | apply Ext.drew | apply Ext.drewN)⟩
        · have HL := Lib.hid hl
          have hV : numsR a = if n3B a = true then 2 else 0 := by unfold numsR; rw [HT.out, if_neg (by decide), if_neg HK.out, if_neg HL.out]
          have HV := Lib.hid hV
          clear hV
          by_cases k1 : a.kind = 1
          · have q1 : (a.kind == 1) = true := by simpa using k1
            have q2 : (numE a.cue != 0) = false := by
              have := HK.out; simp only [k1, true_and, ne_eq, Decidable.not_not] at this; simpa using this
            have q3 : lvB a.kind = false := by rw [k1]; rfl
            clear k1 hk hl
            go_wp2_with (first | (go_at_call 92; refine (r05_Check a.cue _ HA.out).mono ?_; rintro e w' ⟨rfl, hx⟩; obtain ⟨y, rfl⟩ := hx.get; clear hx) | (go_at_call 93; refine (r33_level _ _).mono ?_; rintro e w' ⟨rfl, rfl⟩) | (go_at_call 94; refine (r33_levels _ _ _).mono ?_; rintro e w' ⟨rfl, rfl⟩) | (go_at_call 95; refine (r33_time _ _).mono ?_; rintro e w' ⟨rfl, rfl⟩))
            all_goals
              go_ret
              refine ⟨ret_i ?_, by repeat (first | exact Ext.refl _ | assumption | apply Ext.xt | apply Ext.alloc | apply Ext.drew | apply Ext.drewN)⟩
              rw [HV.out]
              go_light
              as_aux_lemma =>
                unfold n3B
                rw [inE_ne]
                grind
          · have q1 : (a.kind == 1) = false := by simpa using k1
            clear k1 hk
            cases hlv : lvB a.kind
            · clear hl
              go_wp2_with (first | (go_at_call 92; refine (r05_Check a.cue _ HA.out).mono ?_; rintro e w' ⟨rfl, hx⟩; obtain ⟨y, rfl⟩ := hx.get; clear hx) | (go_at_call 93; refine (r33_level _ _).mono ?_; rintro e w' ⟨rfl, rfl⟩) | (go_at_call 94; refine (r33_levels _ _ _).mono ?_; rintro e w' ⟨rfl, rfl⟩) | (go_at_call 95; refine (r33_time _ _).mono ?_; rintro e w' ⟨rfl, rfl⟩))
              all_goals
                go_ret
                refine ⟨ret_i ?_, by repeat (first | exact Ext.refl _ | assumption | apply Ext.xt | apply Ext.alloc | apply Ext.drew | apply Ext.drewN)⟩
                rw [HV.out]
                go_light
                as_aux_lemma =>
                  unfold n3B
                  rw [inE_ne]
                  grind
            · have q2 : (levelsE a.kind a.level != 0) = false := by
                have := HL.out; simp only [hlv, true_and, ne_eq, Decidable.not_not] at this; simpa using this
              clear hl
              go_wp2_with (first | (go_at_call 92; refine (r05_Check a.cue _ HA.out).mono ?_; rintro e w' ⟨rfl, hx⟩; obtain ⟨y, rfl⟩ := hx.get; clear hx) | (go_at_call 93; refine (r33_level _ _).mono ?_; rintro e w' ⟨rfl, rfl⟩) | (go_at_call 94; refine (r33_levels _ _ _).mono ?_; rintro e w' ⟨rfl, rfl⟩) | (go_at_call 95; refine (r33_time _ _).mono ?_; rintro e w' ⟨rfl, rfl⟩))
              all_goals
                go_ret
                refine ⟨ret_i ?_, by repeat (first | exact Ext.refl _ | assumption | apply Ext.xt | apply Ext.alloc | apply Ext.drew | apply Ext.drewN)⟩
                rw [HV.out]
                go_light
                as_aux_lemma =>
                  unfold n3B
                  rw [inE_ne]
                  grind
    · have HV := Lib.hid (show numsR a = 2 by unfold numsR; rw [ht, if_pos rfl])
      clear ht
      go_wp2
      go_ret
      exact ⟨ret_i HV.out.symm, by repeat (first | exact Ext.refl _ | assumption | apply Ext.xt | apply Ext.alloc | apply Ext.drew | apply Ext.drewN)⟩

noncomputable def listsR (a : Acn) : Int := if a.kind = 12 then setE a.entries.l else if a.kind = 13 then parsE a.params.l else if a.kind = 14 then chansE a.chans.l else if a.kind = 17 then editE a.edit else 0
set_option maxHeartbeats 3200000 in
set_option maxRecDepth 100000 in
theorem r33_lists (a : Acn) (w : World) (ha : AcnAt w a) : Calls Tryz.prog 53 #[.agg (acnR a).toArray] w fun e w' => e = .returned (.int .i64 (listsR a)) ∧ Ext w w' := by
  have HA := Lib.hid ha
  have HR := Lib.hid (rangeAt_new w rfl (acnR a) 45)
  clear ha
  go_enter Tryz.func53, Tryz.ntmps53
  go_wp2_with (first
    | (refine wpList_load_row rfl 43 _ rfl w.heap.size 9 rfl (editR a.edit) _ (rangeAt_end HR.out rfl) Tryz.underlying43 rfl (by kernel_rfl) ?_)
    | (go_at_call 96; refine (r15_Entries a.entries.at_ a.entries.cap a.entries.l _ (HA.out.entries.sl.mono (by repeat (first | exact Ext.refl _ | assumption | apply Ext.xt | apply Ext.alloc | apply Ext.drew | apply Ext.drewN))) HA.out.entries.len).mono ?_; rintro e w' ⟨rfl, hx⟩; obtain ⟨y, rfl⟩ := hx.get; clear hx)
    | (go_at_call 97; refine (r33_Params a.params.at_ a.params.cap a.params.l _ (HA.out.params.sl.mono (by repeat (first | exact Ext.refl _ | assumption | apply Ext.xt | apply Ext.alloc | apply Ext.drew | apply Ext.drewN))) HA.out.params.len).mono ?_; rintro e w' ⟨rfl, hx⟩; obtain ⟨y, rfl⟩ := hx.get; clear hx)
    | (go_at_call 98; refine (r33_Channels a.chans.at_ a.chans.cap a.chans.l _ (HA.out.chans.sl.mono (by repeat (first | exact Ext.refl _ | assumption | apply Ext.xt | apply Ext.alloc | apply Ext.drew | apply Ext.drewN))) HA.out.chans.len).mono ?_; rintro e w' ⟨rfl, hx⟩; obtain ⟨y, rfl⟩ := hx.get; clear hx)
    | (go_at_call 99; refine (r32_Check a.edit _ (HA.out.edit.mono (by repeat (first | exact Ext.refl _ | assumption | apply Ext.xt | apply Ext.alloc | apply Ext.drew | apply Ext.drewN)))).mono ?_; rintro e w' ⟨rfl, hx⟩; obtain ⟨y, rfl⟩ := hx.get; clear hx))
  all_goals
    go_ret
    refine ⟨ret_i ?_, by repeat (first | exact Ext.refl _ | assumption | apply Ext.xt | apply Ext.alloc | apply Ext.drew | apply Ext.drewN)⟩
    go_light
    unfold listsR setE
    grind
end Go.Proofs.YtlpboikonnpjbaaGreat
