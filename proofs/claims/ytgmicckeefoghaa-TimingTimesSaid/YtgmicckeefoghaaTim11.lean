/-
  luminairelaw21.TimingTimes returns true.
-/
import Derived.Test.YtgmicckeefoghaaTim10
namespace Go.Proofs.Ytgmicckeefoghaa
open Go.RowKit

set_option maxHeartbeats 1600000 in
theorem l21_TimingTimes (t : Timing) (a : Int) (r : Bool) (w : World) : Calls Try.prog 3 #[.agg (tmg t).toArray, .int .i64 a, .bool r] w fun e w' => e = .returned (.bool true) ∧ Ext w w' := by
  simp only [tmg]
  go_enter Try.func3, Try.ntmps3
  go_wp2_with (first | (go_at_call 20; refine (tim_Class a _).mono ?_; rintro e w' ⟨rfl, rfl⟩) | (go_at_call 21; refine (r21_Class a _).mono ?_; rintro e w' ⟨rfl, rfl⟩) | (go_at_call 22; refine (tim_Time t a r _).mono ?_; rintro e w' ⟨rfl, hx⟩; obtain ⟨y, rfl⟩ := hx.get; clear hx) | (go_at_call 23; refine (r21_Time t a r _).mono ?_; rintro e w' ⟨rfl, hx⟩; obtain ⟨y, rfl⟩ := hx.get; clear hx))
  (refine wp_region_grows (by kernel_rfl) (by kernel_rfl) ?_; (repeat (go_big_quiet_step (first | (go_at_call 24; exact Calls.grows (tim_Check t _)) | (go_at_call 25; exact Calls.grows (r21_Check t _)) | (go_at_call 26; exact Calls.grows (l21_awake _))))); refine wpQuiet_nil ?_; rintro _ ⟨y, rfl⟩)
  go_wp2
  go_ret
  exact ⟨rfl, by repeat (first | exact Ext.refl _ | assumption | apply Ext.xt | apply Ext.alloc | apply Ext.drew | apply Ext.drewN)⟩
end Go.Proofs.Ytgmicckeefoghaa
