import Derived.Test.YtgmicckeefoghaaFind
import Derived.RangeFuncNested
import Derived.RangeFuncBound
import Derived.RangeFuncCalls
import Derived.RangeFuncLeaves
import Derived.Shelf.Abstract
import Derived.Shelf.RegionOpen
import Derived.OwnWalkIn
import Derived.TacticsInMore
import Derived.LoopNIn
import Derived.LoopIn
import Derived.Laws.EntriesVeiled
namespace Go.Proofs.Ytgmicckeefoghaa
open Go.RowKit

/-- The class of an attribute. -/
def kind (a : Int) : Int := if a = 0 then 0 else if a = 1 ∨ a = 2 then 1 else if 3 ≤ a ∧ a ≤ 10 then 2 else 3
def attrE (a : Int) : Int := if a < 0 ∨ 15 ≤ a then 2 else 0
def classV (a : Int) : Int × Int := if attrE a ≠ 0 then (0, attrE a) else (kind a, 0)
theorem ret_ii {a b x y : Int} (h : (a, x) = (b, y)) : Ending.returned (.tuple #[.int .i64 a, .int .i64 x]) = .returned (.tuple #[.int .i64 b, .int .i64 y]) := by
  injection h with h1 h2; rw [h1, h2]
/-- The time of an attribute in a part. -/
def taken (t : Timing) (a : Int) (r : Bool) : Int := if kind a = 0 then (if r then t.up else t.down) else if kind a = 1 then t.pos else if kind a = 2 then t.col else t.beam
def timingE (t : Timing) : Int := if timingOk t then 0 else 2
def timeV (t : Timing) (a : Int) (r : Bool) : Int × Int := if timingE t ≠ 0 then (0, timingE t) else if attrE a ≠ 0 then (0, attrE a) else (taken t a r, 0)

set_option maxHeartbeats 400000 in
theorem tim_Class (a : Int) (w : World) : Calls Try.prog 20 #[.int .i64 a] w fun e w' => e = .returned (.tuple #[.int .i64 (classV a).1, .int .i64 (classV a).2]) ∧ w = w' := by
  go_enter Try.func20, Try.ntmps20
  go_wp2
  all_goals (go_ret2; go_light; refine ⟨ret_ii ?_, rfl⟩; grind [classV, attrE, kind])
set_option maxHeartbeats 400000 in
theorem r21_attribute (a : Int) (w : World) : Calls Try.prog 74 #[.int .i64 a] w fun e w' => e = .returned (.int .i64 (attrE a)) ∧ w = w' := by
  go_enter Try.func74, Try.ntmps74
  go_wp2
  all_goals (go_ret; go_light; refine ⟨ret_i ?_, rfl⟩; grind [attrE])
set_option maxHeartbeats 400000 in
theorem r21_Kind (a : Int) (w : World) : Calls Try.prog 75 #[.int .i64 a] w fun e w' => e = .returned (.int .i64 (kind a)) ∧ w = w' := by
  go_enter Try.func75, Try.ntmps75
  go_wp2
  all_goals (go_ret; go_light; refine ⟨ret_i ?_, rfl⟩; grind [kind])
set_option maxHeartbeats 400000 in
theorem r21_Class (a : Int) (w : World) : Calls Try.prog 21 #[.int .i64 a] w fun e w' => e = .returned (.tuple #[.int .i64 (classV a).1, .int .i64 (classV a).2]) ∧ w = w' := by
  go_enter Try.func21, Try.ntmps21
  go_wp2_with (first | (go_at_call 74; refine (r21_attribute _ _).mono ?_; rintro e w' ⟨rfl, rfl⟩) | (go_at_call 75; refine (r21_Kind _ _).mono ?_; rintro e w' ⟨rfl, rfl⟩))
  all_goals (go_ret2; go_light; refine ⟨ret_ii ?_, rfl⟩; grind [classV])
set_option maxHeartbeats 400000 in
theorem r21_Check (t : Timing) (w : World) : Calls Try.prog 25 #[.agg (tmg t).toArray] w fun e w' => e = .returned (.int .i64 (timingE t)) ∧ Ext w w' := by
  simp only [tmg]
  go_enter Try.func25, Try.ntmps25
  go_wp2_with (go_at_call 79; refine (r16_IsTime _ _).mono ?_; rintro e w' ⟨rfl, rfl⟩)
  all_goals (go_ret; go_light; refine ⟨ret_i ?_, by repeat (first | exact Ext.refl _ | assumption | apply Ext.xt | apply Ext.alloc | apply Ext.drew | apply Ext.drewN)⟩; grind [timingE, timingOk])
set_option maxHeartbeats 400000 in
theorem r21_Taken (t : Timing) (a : Int) (r : Bool) (w : World) : Calls Try.prog 77 #[.agg (tmg t).toArray, .int .i64 a, .bool r] w fun e w' => e = .returned (.int .i64 (taken t a r)) ∧ Ext w w' := by
  simp only [tmg]
  go_enter Try.func77, Try.ntmps77
  go_wp2_with (go_at_call 75; refine (r21_Kind _ _).mono ?_; rintro e w' ⟨rfl, rfl⟩)
  all_goals (go_ret; go_light; refine ⟨ret_i ?_, by repeat (first | exact Ext.refl _ | assumption | apply Ext.xt | apply Ext.alloc | apply Ext.drew | apply Ext.drewN)⟩; grind [taken])
set_option maxHeartbeats 400000 in
theorem r21_Time (t : Timing) (a : Int) (r : Bool) (w : World) : Calls Try.prog 23 #[.agg (tmg t).toArray, .int .i64 a, .bool r] w fun e w' => e = .returned (.tuple #[.int .i64 (timeV t a r).1, .int .i64 (timeV t a r).2]) ∧ Ext w w' := by
  simp only [tmg]
  go_enter Try.func23, Try.ntmps23
  go_wp2_with (first | (go_at_call 25; refine (r21_Check t _).mono ?_; rintro e w' ⟨rfl, hx⟩; obtain ⟨y, rfl⟩ := hx.get; clear hx) | (go_at_call 74; refine (r21_attribute _ _).mono ?_; rintro e w' ⟨rfl, rfl⟩) | (go_at_call 77; refine (r21_Taken t a r _).mono ?_; rintro e w' ⟨rfl, hx⟩; obtain ⟨y, rfl⟩ := hx.get; clear hx))
  all_goals (go_ret2; go_light; refine ⟨ret_ii ?_, by repeat (first | exact Ext.refl _ | assumption | apply Ext.xt | apply Ext.alloc | apply Ext.drew | apply Ext.drewN)⟩; grind [timeV])

/-! ### The selectors -/
theorem tim_selectors (w : World) : Calls Try.prog 84 #[] w fun e w' => e = .returned (.agg #[.func (Fn.func 139) #[] #[], .func (Fn.func 140) #[] #[], .func (Fn.func 141) #[] #[], .func (Fn.func 142) #[] #[], .func (Fn.func 143) #[] #[]]) ∧ Ext w w' := by
  go_enter Try.func84, Try.ntmps84
  go_wp2
  exact bodyPost_ret (v := .agg #[.func (Fn.func 139) #[] #[], .func (Fn.func 140) #[] #[], .func (Fn.func 141) #[] #[], .func (Fn.func 142) #[] #[], .func (Fn.func 143) #[] #[]]) (by simp [results, Try.results84, go_sem]) rfl ⟨rfl, by repeat (first | exact Ext.refl _ | assumption | apply Ext.xt | apply Ext.alloc | apply Ext.drew | apply Ext.drewN)⟩
theorem selectors1 (b : Nat) (w : World) : Calls Try.prog 139 #[.pointer (some ⟨b, 0, none⟩)] w fun e w' => e = .returned (.pointer (some ⟨b, 0, none⟩)) ∧ w = w' := by
  go_enter Try.func139, Try.ntmps139
  go_wp2
  go_ret
  exact ⟨rfl, rfl⟩
theorem selectors2 (b : Nat) (w : World) : Calls Try.prog 140 #[.pointer (some ⟨b, 0, none⟩)] w fun e w' => e = .returned (.pointer (some ⟨b, 2, none⟩)) ∧ w = w' := by
  go_enter Try.func140, Try.ntmps140
  go_wp2
  go_ret
  exact ⟨rfl, rfl⟩
theorem selectors3 (b : Nat) (w : World) : Calls Try.prog 141 #[.pointer (some ⟨b, 0, none⟩)] w fun e w' => e = .returned (.pointer (some ⟨b, 3, none⟩)) ∧ w = w' := by
  go_enter Try.func141, Try.ntmps141
  go_wp2
  go_ret
  exact ⟨rfl, rfl⟩
theorem selectors4 (b : Nat) (w : World) : Calls Try.prog 142 #[.pointer (some ⟨b, 0, none⟩)] w fun e w' => e = .returned (.pointer (some ⟨b, 4, none⟩)) ∧ w = w' := by
  go_enter Try.func142, Try.ntmps142
  go_wp2
  go_ret
  exact ⟨rfl, rfl⟩
theorem selectors5 (b : Nat) (w : World) : Calls Try.prog 143 #[.pointer (some ⟨b, 0, none⟩)] w fun e w' => e = .returned (.pointer (some ⟨b, 1, none⟩)) ∧ w = w' := by
  go_enter Try.func143, Try.ntmps143
  go_wp2
  go_ret
  exact ⟨rfl, rfl⟩

/-! ### taken -/
theorem run_sel (k : Nat) (hk : k < 5) (w : World) : (Instr.index 148 (.agg #[.func (Fn.func 139) #[] #[], .func (Fn.func 140) #[] #[], .func (Fn.func 141) #[] #[], .func (Fn.func 142) #[] #[], .func (Fn.func 143) #[] #[]]) (.int .i64 (k : Int))).run Try.prog w =
    .ok (.agg #[.func (Fn.func (match k with | 0 => 139 | 1 => 140 | 2 => 141 | 3 => 142 | _ => 143)) #[] #[]]) w := by
  rcases (by omega : k = 0 ∨ k = 1 ∨ k = 2 ∨ k = 3 ∨ k = 4) with rfl | rfl | rfl | rfl | rfl
  all_goals kernel_rfl
theorem run_time (v : Value) (hv : v.oneCell' = true) (w : World) : (Instr.field 147 (.agg #[v]) 0).run Try.prog w = .ok v w := by
  cases v <;> first | kernel_rfl | cases hv
set_option maxHeartbeats 800000 in
set_option maxRecDepth 100000 in
theorem tim_taken (t : Timing) (a : Int) (r : Bool) (w : World) (_ha : attrE a = 0) : Calls Try.prog 76 #[.agg (tmg t).toArray, .int .i64 (kind a), .bool r] w fun e w' => e = .returned (.int .i64 (taken t a r)) ∧ Ext w w' := by
  have s0 := fun w => run_sel 0 (by omega) w
  have s1 := fun w => run_sel 1 (by omega) w
  have s2 := fun w => run_sel 2 (by omega) w
  have s3 := fun w => run_sel 3 (by omega) w
  have s4 := fun w => run_sel 4 (by omega) w
  simp only [Int.cast_ofNat_Int] at s0 s1 s2 s3 s4
  have fld := fun k w => run_time (.func (Fn.func k) #[] #[]) rfl w
  simp only [tmg]
  have HK : kind a = 0 ∨ kind a = 1 ∨ kind a = 2 ∨ kind a = 3 := by unfold kind; grind
  have HT : Hid (taken t a r = if kind a = 0 then (if r then t.up else t.down) else if kind a = 1 then t.pos else if kind a = 2 then t.col else t.beam) := Lib.hid rfl

  generalize kind a = k at *
  rcases HK with rfl | rfl | rfl | rfl
  · cases r
    · go_enter Try.func76, Try.ntmps76
      go_wp2_with (first | (go_at_call 84; refine (tim_selectors _).mono ?_; rintro e w' ⟨rfl, hx⟩; obtain ⟨y, rfl⟩ := hx.get; clear hx) | (go_at_call 143; refine (selectors5 _ _).mono ?_; rintro e w' ⟨rfl, rfl⟩))
      go_ret
      rw [HT.out]
      exact ⟨rfl, by repeat (first | exact Ext.refl _ | assumption | apply Ext.xt | apply Ext.alloc | apply Ext.drew | apply Ext.drewN)⟩
    · go_enter Try.func76, Try.ntmps76
      go_wp2_with (first | (go_at_call 84; refine (tim_selectors _).mono ?_; rintro e w' ⟨rfl, hx⟩; obtain ⟨y, rfl⟩ := hx.get; clear hx) | (go_at_call 139; refine (selectors1 _ _).mono ?_; rintro e w' ⟨rfl, rfl⟩))
      go_ret
      rw [HT.out]
      exact ⟨rfl, by repeat (first | exact Ext.refl _ | assumption | apply Ext.xt | apply Ext.alloc | apply Ext.drew | apply Ext.drewN)⟩
  · go_enter Try.func76, Try.ntmps76
    go_wp2_with (first | (go_at_call 84; refine (tim_selectors _).mono ?_; rintro e w' ⟨rfl, hx⟩; obtain ⟨y, rfl⟩ := hx.get; clear hx) | (go_at_call 140; refine (selectors2 _ _).mono ?_; rintro e w' ⟨rfl, rfl⟩))
    go_ret
    rw [HT.out]
    exact ⟨rfl, by repeat (first | exact Ext.refl _ | assumption | apply Ext.xt | apply Ext.alloc | apply Ext.drew | apply Ext.drewN)⟩
  · go_enter Try.func76, Try.ntmps76
    go_wp2_with (first | (go_at_call 84; refine (tim_selectors _).mono ?_; rintro e w' ⟨rfl, hx⟩; obtain ⟨y, rfl⟩ := hx.get; clear hx) | (go_at_call 141; refine (selectors3 _ _).mono ?_; rintro e w' ⟨rfl, rfl⟩))
    go_ret
    rw [HT.out]
    exact ⟨rfl, by repeat (first | exact Ext.refl _ | assumption | apply Ext.xt | apply Ext.alloc | apply Ext.drew | apply Ext.drewN)⟩
  · go_enter Try.func76, Try.ntmps76
    go_wp2_with (first | (go_at_call 84; refine (tim_selectors _).mono ?_; rintro e w' ⟨rfl, hx⟩; obtain ⟨y, rfl⟩ := hx.get; clear hx) | (go_at_call 142; refine (selectors4 _ _).mono ?_; rintro e w' ⟨rfl, rfl⟩))
    go_ret
    rw [HT.out]
    exact ⟨rfl, by repeat (first | exact Ext.refl _ | assumption | apply Ext.xt | apply Ext.alloc | apply Ext.drew | apply Ext.drewN)⟩
end Go.Proofs.Ytgmicckeefoghaa
