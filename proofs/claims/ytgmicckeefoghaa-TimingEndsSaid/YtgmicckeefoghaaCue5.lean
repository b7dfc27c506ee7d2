import Derived.Test.YtgmicckeefoghaaCue4
namespace Go.Proofs.Ytgmicckeefoghaa
open Go.RowKit

section
variable (c : Cue) (A : Option Addr) (k : Nat) (B : Option Addr) (m : Nat) (w : World) (hc : CueAt w c A k B m)
include hc
theorem cue_Check1 : Calls Try.prog 108 #[.agg (cueV c A k B m).toArray] w fun e w' => e = .returned (.int .i64 (numE c.number)) ∧ Ext w w' := by
  have hn := hc.num
  clear hc
  simp only [cueV]
  go_enter Try.func108, Try.ntmps108
  go_wp2_with (go_at_call 109; refine (num_Check c.number _ hn).mono ?_; rintro e w' ⟨rfl, hx⟩; obtain ⟨y, rfl⟩ := hx.get; clear hx)
  go_ret
  exact ⟨rfl, by repeat (first | exact Ext.refl _ | assumption | apply Ext.xt | apply Ext.alloc | apply Ext.drew | apply Ext.drewN)⟩
theorem cue_Check2 : Calls Try.prog 110 #[.agg (cueV c A k B m).toArray] w fun e w' => e = .returned (.int .i64 (labelE c.label)) ∧ Ext w w' := by
  have hn := hc.lab
  clear hc
  simp only [cueV]
  go_enter Try.func110, Try.ntmps110
  go_wp2_with (go_at_call 111; refine (cue_label c.label _ hn).mono ?_; rintro e w' ⟨rfl, hx⟩; obtain ⟨y, rfl⟩ := hx.get; clear hx)
  go_ret
  exact ⟨rfl, by repeat (first | exact Ext.refl _ | assumption | apply Ext.xt | apply Ext.alloc | apply Ext.drew | apply Ext.drewN)⟩
theorem cue_Check3 : Calls Try.prog 112 #[.agg (cueV c A k B m).toArray] w fun e w' => e = .returned (.int .i64 (movesE c.moves)) ∧ Ext w w' := by
  have hl2 : c.moves.length ≤ maxLen := Nat.le_trans hc.hk hc.hk'
  have hk := hc.hk
  have hk' := hc.hk'
  have hmv := hc.mv
  clear hc
  simp only [cueV]
  go_enter Try.func112, Try.ntmps112
  go_wp2_with (go_at_call 63; refine (cue_Moves A k c.moves _ (hmv.mono (by repeat (first | exact Ext.refl _ | assumption | apply Ext.xt | apply Ext.alloc | apply Ext.drew | apply Ext.drewN))) hl2 hk hk').mono ?_; rintro e w' ⟨rfl, hx⟩; obtain ⟨y, rfl⟩ := hx.get; clear hx)
  go_ret
  exact ⟨rfl, by repeat (first | exact Ext.refl _ | assumption | apply Ext.xt | apply Ext.alloc | apply Ext.drew | apply Ext.drewN)⟩
set_option maxHeartbeats 2000000 in
theorem cue_Check : Calls Try.prog 54 #[.agg (cueV c A k B m).toArray] w fun e w' => e = .returned (.int .i64 (cueE c)) ∧ Ext w w' := by
  have HC := Lib.hid hc
  clear hc
  simp only [cueV]
  go_enter Try.func54, Try.ntmps54
  go_wp2
  refine wp_loop_rounds 6 ?_
  rw [rounds_succ]
  go_wp2_with (go_at_call 108; refine (cue_Check1 c A k B m _ (HC.out.mono (by repeat (first | exact Ext.refl _ | assumption | apply Ext.xt | apply Ext.alloc | apply Ext.drew | apply Ext.drewN)))).mono ?_; rintro e w' ⟨rfl, hx⟩; obtain ⟨y, rfl⟩ := hx.get; clear hx)
  all_goals try (go_ret; go_light; refine ⟨ret_i ?_, by repeat (first | exact Ext.refl _ | assumption | apply Ext.xt | apply Ext.alloc | apply Ext.drew | apply Ext.drewN)⟩; grind [cueE])
  rw [rounds_succ]
  go_wp2_with (go_at_call 110; refine (cue_Check2 c A k B m _ (HC.out.mono (by repeat (first | exact Ext.refl _ | assumption | apply Ext.xt | apply Ext.alloc | apply Ext.drew | apply Ext.drewN)))).mono ?_; rintro e w' ⟨rfl, hx⟩; obtain ⟨y, rfl⟩ := hx.get; clear hx)
  all_goals try (go_ret; go_light; refine ⟨ret_i ?_, by repeat (first | exact Ext.refl _ | assumption | apply Ext.xt | apply Ext.alloc | apply Ext.drew | apply Ext.drewN)⟩; grind [cueE])
  rw [rounds_succ]
  go_wp2_with (go_at_call 112; refine (cue_Check3 c A k B m _ (HC.out.mono (by repeat (first | exact Ext.refl _ | assumption | apply Ext.xt | apply Ext.alloc | apply Ext.drew | apply Ext.drewN)))).mono ?_; rintro e w' ⟨rfl, hx⟩; obtain ⟨y, rfl⟩ := hx.get; clear hx)
  all_goals try (go_ret; go_light; refine ⟨ret_i ?_, by repeat (first | exact Ext.refl _ | assumption | apply Ext.xt | apply Ext.alloc | apply Ext.drew | apply Ext.drewN)⟩; grind [cueE])
  rw [rounds_succ]
  go_wp2_with (go_at_call 113; refine (cue_parts c A k B m _ (HC.out.mono (by repeat (first | exact Ext.refl _ | assumption | apply Ext.xt | apply Ext.alloc | apply Ext.drew | apply Ext.drewN)))).mono ?_; rintro e w' ⟨rfl, hx⟩; obtain ⟨y, rfl⟩ := hx.get; clear hx)
  all_goals try (go_ret; go_light; refine ⟨ret_i ?_, by repeat (first | exact Ext.refl _ | assumption | apply Ext.xt | apply Ext.alloc | apply Ext.drew | apply Ext.drewN)⟩; grind [cueE])
  rw [rounds_succ]
  go_wp2_with (go_at_call 114; refine (cue_next c A k B m _ (HC.out.mono (by repeat (first | exact Ext.refl _ | assumption | apply Ext.xt | apply Ext.alloc | apply Ext.drew | apply Ext.drewN)))).mono ?_; rintro e w' ⟨rfl, hx⟩; obtain ⟨y, rfl⟩ := hx.get; clear hx)
  all_goals try (go_ret; go_light; refine ⟨ret_i ?_, by repeat (first | exact Ext.refl _ | assumption | apply Ext.xt | apply Ext.alloc | apply Ext.drew | apply Ext.drewN)⟩; grind [cueE])
  rw [rounds_succ]
  go_wp2
  go_ret
  go_light
  refine ⟨ret_i ?_, by repeat (first | exact Ext.refl _ | assumption | apply Ext.xt | apply Ext.alloc | apply Ext.drew | apply Ext.drewN)⟩
  grind [cueE]
end
end Go.Proofs.Ytgmicckeefoghaa
