/-
  A part at a percentage: the reference's.
-/
import Derived.Test.YtgmicckeefoghaaTim7
import Derived.Test.YtgmicckeefoghaaTail
namespace Go.Proofs.Ytgmicckeefoghaa
open Go.RowKit

/-- A time at a percentage. -/
def scl (v p : Int) : Int := min ((200 * v + p) / (2 * p)) 10000000
def scaleT (t : Timing) (p : Int) : Timing := ⟨scl t.up p, scl t.down p, scl t.pos p, scl t.col p, scl t.beam p, scl t.del p⟩
def scaleV (t : Timing) (p : Int) : Timing × Int := if timingE t ≠ 0 then (emptyT, timingE t) else if p < 1 ∨ 400 < p then (emptyT, 2) else (scaleT t p, 0)

set_option maxHeartbeats 400000 in
theorem r21_scaled (v p : Int) (w : World) (h1 : 0 ≤ v) (h2 : v ≤ 10000000) (h3 : 1 ≤ p) (h4 : p ≤ 400) : Calls Try.prog 85 #[.int .i64 v, .int .i64 p] w fun e w' => e = .returned (.int .i64 (scl v p)) ∧ w = w' := by
  have hp : (2 * p == 0) = false := by rw [beq_eq_false_iff_ne]; omega
  go_enter Try.func85, Try.ntmps85
  go_wp2
  go_ret
  unfold scl
  exact ⟨rfl, rfl⟩

set_option maxHeartbeats 1600000 in
set_option maxRecDepth 100000 in
theorem r21_Scale (t : Timing) (p : Int) (w : World) : Calls Try.prog 35 #[.agg (tmg t).toArray, .int .i64 p] w fun e w' => e = .returned (.tuple #[.agg (tmg (scaleV t p).1).toArray, .int .i64 (scaleV t p).2]) ∧ Ext w w' := by
  by_cases hT : timingE t = 0
  · have hT' : (timingE t != 0) = false := by simpa using hT
    by_cases hp1 : p < 1
    · have HV : Hid (scaleV t p = (emptyT, 2)) := Lib.hid (by unfold scaleV; rw [if_neg (by omega), if_pos (by omega)])
      rw [HV.out]
      clear hT
      simp only [tmg, emptyT]
      go_enter Try.func35, Try.ntmps35
      go_wp2_with (go_at_call 25; refine (r21_Check t _).mono ?_; rintro e w' ⟨rfl, hx⟩; obtain ⟨y, rfl⟩ := hx.get; clear hx)
      exact bodyPost_ret (v := .tuple #[.agg #[.int .i64 0, .int .i64 0, .int .i64 0, .int .i64 0, .int .i64 0, .int .i64 0], .int .i64 2]) (by simp [results, Try.results35, go_sem]) rfl ⟨rfl, by repeat (first | exact Ext.refl _ | assumption | apply Ext.xt | apply Ext.alloc | apply Ext.drew | apply Ext.drewN)⟩
    by_cases hp2 : 400 < p
    · have HV : Hid (scaleV t p = (emptyT, 2)) := Lib.hid (by unfold scaleV; rw [if_neg (by omega), if_pos (by omega)])
      rw [HV.out]
      clear hT
      simp only [tmg, emptyT]
      go_enter Try.func35, Try.ntmps35
      go_wp2_with (go_at_call 25; refine (r21_Check t _).mono ?_; rintro e w' ⟨rfl, hx⟩; obtain ⟨y, rfl⟩ := hx.get; clear hx)
      exact bodyPost_ret (v := .tuple #[.agg #[.int .i64 0, .int .i64 0, .int .i64 0, .int .i64 0, .int .i64 0, .int .i64 0], .int .i64 2]) (by simp [results, Try.results35, go_sem]) rfl ⟨rfl, by repeat (first | exact Ext.refl _ | assumption | apply Ext.xt | apply Ext.alloc | apply Ext.drew | apply Ext.drewN)⟩
    have HV : Hid (scaleV t p = (scaleT t p, 0)) := Lib.hid (by unfold scaleV; rw [if_neg (by omega), if_neg (by omega)])
    rw [HV.out]
    obtain ⟨⟨u1, u2⟩, ⟨d1, d2⟩, ⟨p1, p2⟩, ⟨c1, c2⟩, ⟨b1, b2⟩, ⟨e1, e2⟩⟩ := timing_in hT
    clear hT
    have hq1 : 1 ≤ p := by omega
    have hq2 : p ≤ 400 := by omega
    simp only [tmg, scaleT]
    go_enter Try.func35, Try.ntmps35
    go_wp2_with (go_at_call 25; refine (r21_Check t _).mono ?_; rintro e w' ⟨rfl, hx⟩; obtain ⟨y, rfl⟩ := hx.get; clear hx)
    (refine wp_region_tail 25 (by kernel_rfl) (by kernel_rfl) ?_; simp only [List.take_succ_cons, List.take_zero, List.drop_succ_cons, List.drop_zero]; (repeat (go_big_quiet_step ((go_at_call 85; exact Calls.grows_same (r21_scaled _ p _ (by assumption) (by assumption) hq1 hq2))))); refine wpQuiet_nil ?_; rintro _ ⟨y, rfl⟩)
    go_wp2
    exact bodyPost_ret (v := .tuple #[.agg #[.int .i64 (scl t.up p), .int .i64 (scl t.down p), .int .i64 (scl t.pos p), .int .i64 (scl t.col p), .int .i64 (scl t.beam p), .int .i64 (scl t.del p)], .int .i64 0]) (by simp [results, Try.results35, go_sem]) rfl ⟨rfl, by repeat (first | exact Ext.refl _ | assumption | apply Ext.xt | apply Ext.alloc | apply Ext.drew | apply Ext.drewN)⟩
  · have hT' : (timingE t != 0) = true := by simpa using hT
    have HV : Hid (scaleV t p = (emptyT, timingE t)) := Lib.hid (by unfold scaleV; rw [if_pos hT])
    rw [HV.out]
    clear hT
    simp only [tmg, emptyT]
    go_enter Try.func35, Try.ntmps35
    go_wp2_with (go_at_call 25; refine (r21_Check t _).mono ?_; rintro e w' ⟨rfl, hx⟩; obtain ⟨y, rfl⟩ := hx.get; clear hx)
    exact bodyPost_ret (v := .tuple #[.agg #[.int .i64 0, .int .i64 0, .int .i64 0, .int .i64 0, .int .i64 0, .int .i64 0], .int .i64 (timingE t)]) (by simp [results, Try.results35, go_sem]) rfl ⟨rfl, by repeat (first | exact Ext.refl _ | assumption | apply Ext.xt | apply Ext.alloc | apply Ext.drew | apply Ext.drewN)⟩
end Go.Proofs.Ytgmicckeefoghaa
