/-
  Small cues, and the first laws of the chapter of times.
-/
import Derived.Test.YtgmicckeefoghaaTim10
namespace Go.Proofs.Ytgmicckeefoghaa
open Go.RowKit

def few (c : Cue) : Bool := decide (c.number.size ≤ 40) && decide (c.label.size ≤ 100) && decide (c.link.size ≤ 40) && decide (c.parts.length ≤ 10) && decide (c.moves.length ≤ 300)

set_option maxHeartbeats 400000 in
theorem r16_FewMoves (A : Option Addr) (c : Nat) (l : List Move) (w : World) : Calls Try.prog 41 #[.slice A l.length c] w fun e w' => e = .returned (.bool (decide (l.length ≤ 300))) ∧ w = w' := by
  go_enter Try.func41, Try.ntmps41
  go_wp2
  go_ret
  exact ⟨ret_b (by simp; try omega), rfl⟩
set_option maxHeartbeats 400000 in
theorem r16_Few (c : Cue) (A : Option Addr) (k : Nat) (B : Option Addr) (m : Nat) (w : World) : Calls Try.prog 27 #[.agg (cueV c A k B m).toArray] w fun e w' => e = .returned (.bool (few c)) ∧ Ext w w' := by
  simp only [cueV]
  go_enter Try.func27, Try.ntmps27
  go_wp2_with (go_at_call 41; refine (r16_FewMoves _ _ _ _).mono ?_; rintro e w' ⟨rfl, rfl⟩)
  all_goals
    go_ret
    go_light
    refine ⟨ret_b ?_, by repeat (first | exact Ext.refl _ | assumption | apply Ext.xt | apply Ext.alloc | apply Ext.drew | apply Ext.drewN)⟩
    first | grind [few] | (simp [few]; omega)

set_option maxHeartbeats 1600000 in
theorem l21_TimingParts (c : Cue) (A : Option Addr) (k : Nat) (B : Option Addr) (m : Nat) (p : Param) (r : Bool) (w : World) (hc : CueAt w c A k B m) : Calls Try.prog 4 #[.agg (cueV c A k B m).toArray, .agg (prm p).toArray, .bool r] w fun e w' => e = .returned (.bool true) ∧ Ext w w' := by
  have HC := Lib.hid hc
  clear hc
  simp only [cueV, prm]
  go_enter Try.func4, Try.ntmps4
  go_wp2_with (first | (go_at_call 27; refine (r16_Few c A k B m _).mono ?_; rintro e w' ⟨rfl, hx⟩; obtain ⟨y, rfl⟩ := hx.get; clear hx) | (go_at_call 28; refine (tim_Part c A k B m p _ (HC.out.mono (by repeat (first | exact Ext.refl _ | assumption | apply Ext.xt | apply Ext.alloc | apply Ext.drew | apply Ext.drewN)))).mono ?_; rintro e w' ⟨rfl, hx⟩; obtain ⟨y, rfl⟩ := hx.get; clear hx) | (go_at_call 29; refine (r21_Part c A k B m p _ (HC.out.mono (by repeat (first | exact Ext.refl _ | assumption | apply Ext.xt | apply Ext.alloc | apply Ext.drew | apply Ext.drewN)))).mono ?_; rintro e w' ⟨rfl, hx⟩; obtain ⟨y, rfl⟩ := hx.get; clear hx) | (go_at_call 30; refine (tim_Of c A k B m p r _ (HC.out.mono (by repeat (first | exact Ext.refl _ | assumption | apply Ext.xt | apply Ext.alloc | apply Ext.drew | apply Ext.drewN)))).mono ?_; rintro e w' ⟨rfl, hx⟩; obtain ⟨y, rfl⟩ := hx.get; clear hx) | (go_at_call 31; refine (r21_Of c A k B m _ (HC.out.mono (by repeat (first | exact Ext.refl _ | assumption | apply Ext.xt | apply Ext.alloc | apply Ext.drew | apply Ext.drewN))) p r).mono ?_; rintro e w' ⟨rfl, hx⟩; obtain ⟨y, rfl⟩ := hx.get; clear hx) | (go_at_call 26; refine (l21_awake _).mono ?_; rintro e w' ⟨rfl, hx⟩; obtain ⟨y, rfl⟩ := hx.get; clear hx))
  all_goals (go_ret; exact ⟨rfl, by repeat (first | exact Ext.refl _ | assumption | apply Ext.xt | apply Ext.alloc | apply Ext.drew | apply Ext.drewN)⟩)
set_option maxHeartbeats 1600000 in
theorem l21_TimingScales (c : Cue) (A : Option Addr) (k : Nat) (B : Option Addr) (m : Nat) (t : Timing) (p : Int) (w : World) (hc : CueAt w c A k B m) : Calls Try.prog 5 #[.agg (cueV c A k B m).toArray, .agg (tmg t).toArray, .int .i64 p] w fun e w' => e = .returned (.bool true) ∧ Ext w w' := by
  have HC := Lib.hid hc
  clear hc
  have hz : eqT ⟨(scaleV t p).1.up, (scaleV t p).1.down, (scaleV t p).1.pos, (scaleV t p).1.col, (scaleV t p).1.beam, (scaleV t p).1.del⟩ ⟨(scaleV t p).1.up, (scaleV t p).1.down, (scaleV t p).1.pos, (scaleV t p).1.col, (scaleV t p).1.beam, (scaleV t p).1.del⟩ = true := eqT_self _
  simp only [cueV, tmg]
  go_enter Try.func5, Try.ntmps5
  go_wp2_with (first | (go_at_call 27; refine (r16_Few c A k B m _).mono ?_; rintro e w' ⟨rfl, hx⟩; obtain ⟨y, rfl⟩ := hx.get; clear hx) | (go_at_call 32; refine (tim_Total c A k B m _ (HC.out.mono (by repeat (first | exact Ext.refl _ | assumption | apply Ext.xt | apply Ext.alloc | apply Ext.drew | apply Ext.drewN)))).mono ?_; rintro e w' ⟨rfl, hx⟩; obtain ⟨y, rfl⟩ := hx.get; clear hx) | (go_at_call 33; refine (r21_Total c A k B m _ (HC.out.mono (by repeat (first | exact Ext.refl _ | assumption | apply Ext.xt | apply Ext.alloc | apply Ext.drew | apply Ext.drewN)))).mono ?_; rintro e w' ⟨rfl, hx⟩; obtain ⟨y, rfl⟩ := hx.get; clear hx) | (go_at_call 34; refine (tim_Scale t p _).mono ?_; rintro e w' ⟨he, hx⟩; simp only [tmg] at he; subst he; obtain ⟨y, rfl⟩ := hx.get; clear hx) | (go_at_call 35; refine (r21_Scale t p _).mono ?_; rintro e w' ⟨he, hx⟩; simp only [tmg] at he; subst he; obtain ⟨y, rfl⟩ := hx.get; clear hx) | (go_at_call 26; refine (l21_awake _).mono ?_; rintro e w' ⟨rfl, hx⟩; obtain ⟨y, rfl⟩ := hx.get; clear hx))
  all_goals (go_ret; exact ⟨rfl, by repeat (first | exact Ext.refl _ | assumption | apply Ext.xt | apply Ext.alloc | apply Ext.drew | apply Ext.drewN)⟩)
end Go.Proofs.Ytgmicckeefoghaa
