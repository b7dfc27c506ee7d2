/-
  Chapter 16: the law CueChecks.
-/
import Derived.Test.YtgmicckeefoghaaAwk16
import Derived.Test.YtgmicckeefoghaaCSame
namespace Go.Proofs.Ytgmicckeefoghaa
open Go.RowKit

theorem decide_self {α : Type} [DecidableEq α] (a : α) : decide (a = a) = true := by simp

set_option maxHeartbeats 1600000 in
set_option maxRecDepth 100000 in
theorem l16_CueChecks (L : Option Addr) (n : Nat) (l : List Move) (c : Cue) (A : Option Addr) (k : Nat) (B : Option Addr) (m : Nat) (d : Cue) (A' : Option Addr) (k' : Nat) (B' : Option Addr) (m' : Nat) (w : World) (hs : Sl w L 5 (l.map mv)) (hn : l.length ≤ n) (hnm : n ≤ maxLen) (hc : CueAt w c A k B m) (hd : CueAt w d A' k' B' m') :
    Calls Try.prog 17 #[.slice L l.length n, .agg (cueV c A k B m).toArray, .agg (cueV d A' k' B' m').toArray] w fun e w' => e = .returned (.bool true) ∧ Ext w w' := by
  have HC := Lib.hid hc
  have HD := Lib.hid hd
  have HS := Lib.hid hs
  have hl : l.length ≤ maxLen := Nat.le_trans hn hnm
  have hself : decide (c = c) = true := decide_self c
  clear hc hd hs
  simp only [cueV]
  go_enter Try.func17, Try.ntmps17
  go_wp2_with (first
    | (go_at_call 41; refine (r16_FewMoves _ _ _ _).mono ?_; rintro e w' ⟨rfl, rfl⟩)
    | (go_at_call 27; refine (r16_Few _ _ _ _ _ _).mono ?_; rintro e w' ⟨rfl, hx⟩; obtain ⟨y, rfl⟩ := hx.get; clear hx)
    | (go_at_call 42; refine (l16_awake _).mono ?_; rintro e w' ⟨rfl, hx⟩; obtain ⟨y, rfl⟩ := hx.get; clear hx))
  all_goals try (go_ret; exact ⟨rfl, by repeat (first | exact Ext.refl _ | assumption | apply Ext.xt | apply Ext.alloc | apply Ext.drew | apply Ext.drewN)⟩)
  (refine wp_region_grows (by kernel_rfl) (by kernel_rfl) ?_; (repeat (go_big_quiet_step (first
    | (go_at_call 63; exact Calls.grows (cue_Moves L n l _ (HS.out.mono (by repeat (first | exact Ext.refl _ | assumption | apply Ext.xt | apply Ext.alloc | apply Ext.drew | apply Ext.drewN))) hl hn hnm))
    | (go_at_call 64; exact Calls.grows (r16_Moves L n l _ (HS.out.mono (by repeat (first | exact Ext.refl _ | assumption | apply Ext.xt | apply Ext.alloc | apply Ext.drew | apply Ext.drewN))) hl))
    | (go_at_call 54; exact Calls.grows (cue_Check c A k B m _ (HC.out.mono (by repeat (first | exact Ext.refl _ | assumption | apply Ext.xt | apply Ext.alloc | apply Ext.drew | apply Ext.drewN)))))
    | (go_at_call 53; exact Calls.grows (r16_Check c A k B m _ (HC.out.mono (by repeat (first | exact Ext.refl _ | assumption | apply Ext.xt | apply Ext.alloc | apply Ext.drew | apply Ext.drewN)))))
    | (go_at_call 40; exact Calls.grows (r16_Same c A k B m d A' k' B' m' _ (HC.out.mono (by repeat (first | exact Ext.refl _ | assumption | apply Ext.xt | apply Ext.alloc | apply Ext.drew | apply Ext.drewN))) (HD.out.mono (by repeat (first | exact Ext.refl _ | assumption | apply Ext.xt | apply Ext.alloc | apply Ext.drew | apply Ext.drewN)))))
    | (go_at_call 65; exact Calls.grows (cue_Same c A k B m _ _ _ _ _ _ (HC.out.mono (by repeat (first | exact Ext.refl _ | assumption | apply Ext.xt | apply Ext.alloc | apply Ext.drew | apply Ext.drewN))) (by first | exact HD.out.mono (by repeat (first | exact Ext.refl _ | assumption | apply Ext.xt | apply Ext.alloc | apply Ext.drew | apply Ext.drewN)) | exact HC.out.mono (by repeat (first | exact Ext.refl _ | assumption | apply Ext.xt | apply Ext.alloc | apply Ext.drew | apply Ext.drewN)))))
    | (go_at_call 42; exact Calls.grows (l16_awake _))))); refine wpQuiet_nil ?_; rintro _ ⟨y, rfl⟩)
  go_wp2
  go_ret
  exact ⟨rfl, by repeat (first | exact Ext.refl _ | assumption | apply Ext.xt | apply Ext.alloc | apply Ext.drew | apply Ext.drewN)⟩
end Go.Proofs.Ytgmicckeefoghaa
