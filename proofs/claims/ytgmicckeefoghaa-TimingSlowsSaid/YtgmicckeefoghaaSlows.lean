/-
  A scale of 100 changes nothing, and a greater percentage makes no time longer.
-/
import Derived.Test.YtgmicckeefoghaaFew
import Derived.Test.YtgmicckeefoghaaSame
namespace Go.Proofs.Ytgmicckeefoghaa
open Go.RowKit

theorem scl_100 {v : Int} (h1 : 0 ≤ v) (h2 : v ≤ 10000000) : scl v 100 = v := by unfold scl; omega
theorem scl_anti {v p q : Int} (h1 : 0 ≤ v) (hp : 1 ≤ p) (hq : p ≤ q) : scl v q ≤ scl v p := by
  have key : (200 * v + q) / (2 * q) ≤ (200 * v + p) / (2 * p) := by
    rw [Int.le_ediv_iff_mul_le (by omega)]
    have e1 : (200 * v + q) / (2 * q) * (2 * q) ≤ 200 * v + q := Int.ediv_mul_le _ (by omega)
    generalize (200 * v + q) / (2 * q) = k at *
    by_cases hk : k ≤ 0
    · have : k * (2 * p) ≤ 0 := Int.mul_nonpos_of_nonpos_of_nonneg hk (by omega)
      omega
    · have e2 : (2 * k - 1) * p ≤ (2 * k - 1) * q := Int.mul_le_mul_of_nonneg_left hq (by omega)
      have e3 : k * (2 * q) = (2 * k - 1) * q + q := by rw [Int.sub_mul, Int.one_mul]; rw [show k * (2 * q) = 2 * k * q by rw [← Int.mul_assoc, Int.mul_comm k 2]]; omega
      have e4 : k * (2 * p) = (2 * k - 1) * p + p := by rw [Int.sub_mul, Int.one_mul]; rw [show k * (2 * p) = 2 * k * p by rw [← Int.mul_assoc, Int.mul_comm k 2]]; omega
      omega
  unfold scl
  omega
theorem scaleT_ok {t : Timing} (h : timingE t = 0) {p : Int} (h3 : 1 ≤ p) (h4 : p ≤ 400) : timingE (scaleT t p) = 0 := by
  rw [← stT_all]; exact stT_ok h h3 h4 _
theorem scaleT_100 {t : Timing} (h : timingE t = 0) : scaleT t 100 = t := by
  have := timing_in h
  unfold scaleT
  rw [scl_100 (by omega) (by omega), scl_100 (by omega) (by omega), scl_100 (by omega) (by omega), scl_100 (by omega) (by omega), scl_100 (by omega) (by omega), scl_100 (by omega) (by omega)]
theorem scaleV_ok {t : Timing} (h : timingE t = 0) {p : Int} (h3 : 1 ≤ p) (h4 : p ≤ 400) : scaleV t p = (scaleT t p, 0) := by
  unfold scaleV; rw [if_neg (by omega), if_neg (by omega)]

/-- What Scale answers, by its six numbers. -/
theorem tim_Scale_at (t : Timing) (p : Int) (w : World) (h : timingE t = 0) (h3 : 1 ≤ p) (h4 : p ≤ 400) : Calls Try.prog 34 #[.agg #[.int .i64 t.up, .int .i64 t.down, .int .i64 t.pos, .int .i64 t.col, .int .i64 t.beam, .int .i64 t.del], .int .i64 p] w fun e w' => e = .returned (.tuple #[.agg #[.int .i64 (scl t.up p), .int .i64 (scl t.down p), .int .i64 (scl t.pos p), .int .i64 (scl t.col p), .int .i64 (scl t.beam p), .int .i64 (scl t.del p)], .int .i64 0]) ∧ Ext w w' := by
  have := tim_Scale t p w
  rw [scaleV_ok h h3 h4] at this
  exact this
theorem tim_Scale_same (t : Timing) (w : World) (h : timingE t = 0) : Calls Try.prog 34 #[.agg #[.int .i64 t.up, .int .i64 t.down, .int .i64 t.pos, .int .i64 t.col, .int .i64 t.beam, .int .i64 t.del], .int .i64 100] w fun e w' => e = .returned (.tuple #[.agg #[.int .i64 t.up, .int .i64 t.down, .int .i64 t.pos, .int .i64 t.col, .int .i64 t.beam, .int .i64 t.del], .int .i64 0]) ∧ Ext w w' := by
  have := tim_Scale t 100 w
  rw [scaleV_ok h (by omega) (by omega), scaleT_100 h] at this
  exact this
theorem tim_Scale_bad (t : Timing) (p : Int) (w : World) (h : timingE t = 2) : Calls Try.prog 34 #[.agg #[.int .i64 t.up, .int .i64 t.down, .int .i64 t.pos, .int .i64 t.col, .int .i64 t.beam, .int .i64 t.del], .int .i64 p] w fun e w' => e = .returned (.tuple #[.agg #[.int .i64 0, .int .i64 0, .int .i64 0, .int .i64 0, .int .i64 0, .int .i64 0], .int .i64 2]) ∧ Ext w w' := by
  have := tim_Scale t p w
  rw [show scaleV t p = (emptyT, 2) by unfold scaleV; rw [if_pos (by omega), h]] at this
  exact this
theorem tim_Check6 (a b c d e f : Int) (w : World) : Calls Try.prog 24 #[.agg #[.int .i64 a, .int .i64 b, .int .i64 c, .int .i64 d, .int .i64 e, .int .i64 f]] w fun x w' => x = .returned (.int .i64 (timingE ⟨a, b, c, d, e, f⟩)) ∧ Ext w w' := tim_Check ⟨a, b, c, d, e, f⟩ w
theorem timingE_two {t : Timing} (h : timingE t ≠ 0) : timingE t = 2 := by unfold timingE at *; split at h <;> simp_all

set_option maxHeartbeats 1600000 in
set_option maxRecDepth 100000 in
theorem l21_TimingSlows (t : Timing) (a b : Int) (w : World) (ha : 0 ≤ a ∧ a ≤ 65535) (hb : 0 ≤ b ∧ b ≤ 65535) : Calls Try.prog 7 #[.agg (tmg t).toArray, .int .u16 a, .int .u16 b] w fun e w' => e = .returned (.bool true) ∧ Ext w w' := by
  obtain ⟨ha1, ha2⟩ := ha
  obtain ⟨hb1, hb2⟩ := hb
  simp only [tmg]
  by_cases hT : timingE t = 0
  · have HT := Lib.hid hT
    have hT' : (timingE t != 0) = false := by simpa using hT
    have hin := timing_in hT
    have hS : (timingE ⟨scl t.up (1 + min (a % 400) (b % 400)), scl t.down (1 + min (a % 400) (b % 400)), scl t.pos (1 + min (a % 400) (b % 400)), scl t.col (1 + min (a % 400) (b % 400)), scl t.beam (1 + min (a % 400) (b % 400)), scl t.del (1 + min (a % 400) (b % 400))⟩ != 0) = false := by have h := scaleT_ok hT (p := 1 + min (a % 400) (b % 400)) (by omega) (by omega); unfold scaleT at h; simpa using h
    have an : ∀ v, 0 ≤ v → scl v (1 + max (a % 400) (b % 400)) ≤ scl v (1 + min (a % 400) (b % 400)) := fun v hv => scl_anti hv (by omega) (by omega)
    have a1 := an t.up (by omega)
    have a2 := an t.down (by omega)
    have a3 := an t.pos (by omega)
    have a4 := an t.col (by omega)
    have a5 := an t.beam (by omega)
    have a6 := an t.del (by omega)
    have e1 := scl_100 hin.1.1 hin.1.2
    have e2 := scl_100 hin.2.1.1 hin.2.1.2
    have e3 := scl_100 hin.2.2.1.1 hin.2.2.1.2
    have e4 := scl_100 hin.2.2.2.1.1 hin.2.2.2.1.2
    have e5 := scl_100 hin.2.2.2.2.1.1 hin.2.2.2.2.1.2
    have e6 := scl_100 hin.2.2.2.2.2.1 hin.2.2.2.2.2.2
    have hsame := eqT_self ⟨t.up, t.down, t.pos, t.col, t.beam, t.del⟩
    clear an hT hin
    go_enter Try.func7, Try.ntmps7
    go_wp2_with (first
      | (go_at_call 24; refine (tim_Check6 _ _ _ _ _ _ _).mono ?_; rintro e w' ⟨rfl, hx⟩; obtain ⟨y, rfl⟩ := hx.get; clear hx)
      | (go_at_call 34; refine (tim_Scale_at t _ _ HT.out (by omega) (by omega)).mono ?_; rintro e w' ⟨rfl, hx⟩; obtain ⟨y, rfl⟩ := hx.get; clear hx)
      | (go_at_call 26; refine (l21_awake _).mono ?_; rintro e w' ⟨rfl, hx⟩; obtain ⟨y, rfl⟩ := hx.get; clear hx))
    go_ret
    exact ⟨rfl, by repeat (first | exact Ext.refl _ | assumption | apply Ext.xt | apply Ext.alloc | apply Ext.drew | apply Ext.drewN)⟩
  · have h2 := timingE_two hT
    have H2 := Lib.hid h2
    have hT' : (timingE t != 0) = true := by simpa using hT
    clear hT h2
    go_enter Try.func7, Try.ntmps7
    go_wp2_with (first
      | (go_at_call 24; refine (tim_Check t _).mono ?_; rintro e w' ⟨rfl, hx⟩; obtain ⟨y, rfl⟩ := hx.get; clear hx)
      | (go_at_call 34; refine (tim_Scale_bad t _ _ H2.out).mono ?_; rintro e w' ⟨rfl, hx⟩; obtain ⟨y, rfl⟩ := hx.get; clear hx)
      | (go_at_call 26; refine (l21_awake _).mono ?_; rintro e w' ⟨rfl, hx⟩; obtain ⟨y, rfl⟩ := hx.get; clear hx))
    go_ret
    exact ⟨rfl, by repeat (first | exact Ext.refl _ | assumption | apply Ext.xt | apply Ext.alloc | apply Ext.drew | apply Ext.drewN)⟩
end Go.Proofs.Ytgmicckeefoghaa
