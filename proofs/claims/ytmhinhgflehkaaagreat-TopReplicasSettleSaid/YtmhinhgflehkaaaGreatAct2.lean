/-
  Actions: which fields each kind uses.
-/
import Derived.Test.YtmhinhgflehkaaaGreatAct1
import Derived.Test.YtmhinhgflehkaaaGreatGown
import Derived.Test.YtmhinhgflehkaaaGreatGten
namespace Go.Proofs.YtmhinhgflehkaaaGreat
open Go.RowKit

theorem Sl.row1 {w : World} {A : Option Addr} {rows : List (List Value)} {i : Nat} {v0 : Value} (h : Sl w A 1 rows) (hr : rows[i]? = some [v0]) :
    ∃ b o, A = some ⟨b, o, none⟩ ∧ w.cell? ⟨b, o + i, none⟩ = some v0 := by
  obtain ⟨_, b, o, hA, hc⟩ := h.at_ i _ hr
  exact ⟨b, o, hA, by have := hc 0 _ rfl; simpa using this⟩
set_option maxHeartbeats 400000 in
theorem bits_0 (A : Option Addr) (w : World) (hs : Sl w A 1 [[.int .i64 0]]) : Calls Tryz.prog 177 #[.slice A 1 1] w fun e w' => e = .returned (.int .i64 1) ∧ Ext w w' := by
  obtain ⟨b0, o0, hA0, hc0⟩ := hs.row1 (i := 0) rfl
  subst hA0
  simp only [Nat.add_zero] at hc0
  clear hs
  go_enter Tryz.func177, Tryz.ntmps177
  go_wp2
  refine wp_loop_rounds 2 ?_
  rw [rounds_succ]
  go_wp2
  rw [rounds_succ]
  go_wp2
  go_ret
  exact ⟨rfl, ex⟩
set_option maxHeartbeats 400000 in
theorem bits_01 (A : Option Addr) (w : World) (hs : Sl w A 1 [[.int .i64 0], [.int .i64 1]]) : Calls Tryz.prog 177 #[.slice A 2 2] w fun e w' => e = .returned (.int .i64 3) ∧ Ext w w' := by
  obtain ⟨b0, o0, hA0, hc0⟩ := hs.row1 (i := 0) rfl
  obtain ⟨b1, o1, hA1, hc1⟩ := hs.row1 (i := 1) rfl
  subst hA0
  injection hA1 with hA1
  injection hA1 with hb1 ho1
  subst hb1 ho1
  simp only [Nat.add_zero] at hc0
  clear hs
  go_enter Tryz.func177, Tryz.ntmps177
  go_wp2
  refine wp_loop_rounds 3 ?_
  rw [rounds_succ]
  go_wp2
  rw [rounds_succ]
  go_wp2
  rw [rounds_succ]
  go_wp2
  go_ret
  exact ⟨rfl, ex⟩
set_option maxHeartbeats 400000 in
theorem bits_02 (A : Option Addr) (w : World) (hs : Sl w A 1 [[.int .i64 0], [.int .i64 2]]) : Calls Tryz.prog 177 #[.slice A 2 2] w fun e w' => e = .returned (.int .i64 5) ∧ Ext w w' := by
  obtain ⟨b0, o0, hA0, hc0⟩ := hs.row1 (i := 0) rfl
  obtain ⟨b1, o1, hA1, hc1⟩ := hs.row1 (i := 1) rfl
  subst hA0
  injection hA1 with hA1
  injection hA1 with hb1 ho1
  subst hb1 ho1
  simp only [Nat.add_zero] at hc0
  clear hs
  go_enter Tryz.func177, Tryz.ntmps177
  go_wp2
  refine wp_loop_rounds 3 ?_
  rw [rounds_succ]
  go_wp2
  rw [rounds_succ]
  go_wp2
  rw [rounds_succ]
  go_wp2
  go_ret
  exact ⟨rfl, ex⟩
set_option maxHeartbeats 400000 in
theorem bits_023 (A : Option Addr) (w : World) (hs : Sl w A 1 [[.int .i64 0], [.int .i64 2], [.int .i64 3]]) : Calls Tryz.prog 177 #[.slice A 3 3] w fun e w' => e = .returned (.int .i64 13) ∧ Ext w w' := by
  obtain ⟨b0, o0, hA0, hc0⟩ := hs.row1 (i := 0) rfl
  obtain ⟨b1, o1, hA1, hc1⟩ := hs.row1 (i := 1) rfl
  obtain ⟨b2, o2, hA2, hc2⟩ := hs.row1 (i := 2) rfl
  subst hA0
  injection hA1 with hA1
  injection hA1 with hb1 ho1
  subst hb1 ho1
  injection hA2 with hA2
  injection hA2 with hb2 ho2
  subst hb2 ho2
  simp only [Nat.add_zero] at hc0
  clear hs
  go_enter Tryz.func177, Tryz.ntmps177
  go_wp2
  refine wp_loop_rounds 4 ?_
  rw [rounds_succ]
  go_wp2
  rw [rounds_succ]
  go_wp2
  rw [rounds_succ]
  go_wp2
  rw [rounds_succ]
  go_wp2
  go_ret
  exact ⟨rfl, ex⟩
set_option maxHeartbeats 400000 in
theorem bits_03 (A : Option Addr) (w : World) (hs : Sl w A 1 [[.int .i64 0], [.int .i64 3]]) : Calls Tryz.prog 177 #[.slice A 2 2] w fun e w' => e = .returned (.int .i64 9) ∧ Ext w w' := by
  obtain ⟨b0, o0, hA0, hc0⟩ := hs.row1 (i := 0) rfl
  obtain ⟨b1, o1, hA1, hc1⟩ := hs.row1 (i := 1) rfl
  subst hA0
  injection hA1 with hA1
  injection hA1 with hb1 ho1
  subst hb1 ho1
  simp only [Nat.add_zero] at hc0
  clear hs
  go_enter Tryz.func177, Tryz.ntmps177
  go_wp2
  refine wp_loop_rounds 3 ?_
  rw [rounds_succ]
  go_wp2
  rw [rounds_succ]
  go_wp2
  rw [rounds_succ]
  go_wp2
  go_ret
  exact ⟨rfl, ex⟩
set_option maxHeartbeats 400000 in
theorem bits_23 (A : Option Addr) (w : World) (hs : Sl w A 1 [[.int .i64 2], [.int .i64 3]]) : Calls Tryz.prog 177 #[.slice A 2 2] w fun e w' => e = .returned (.int .i64 12) ∧ Ext w w' := by
  obtain ⟨b0, o0, hA0, hc0⟩ := hs.row1 (i := 0) rfl
  obtain ⟨b1, o1, hA1, hc1⟩ := hs.row1 (i := 1) rfl
  subst hA0
  injection hA1 with hA1
  injection hA1 with hb1 ho1
  subst hb1 ho1
  simp only [Nat.add_zero] at hc0
  clear hs
  go_enter Tryz.func177, Tryz.ntmps177
  go_wp2
  refine wp_loop_rounds 3 ?_
  rw [rounds_succ]
  go_wp2
  rw [rounds_succ]
  go_wp2
  rw [rounds_succ]
  go_wp2
  go_ret
  exact ⟨rfl, ex⟩
set_option maxHeartbeats 400000 in
theorem bits_2 (A : Option Addr) (w : World) (hs : Sl w A 1 [[.int .i64 2]]) : Calls Tryz.prog 177 #[.slice A 1 1] w fun e w' => e = .returned (.int .i64 4) ∧ Ext w w' := by
  obtain ⟨b0, o0, hA0, hc0⟩ := hs.row1 (i := 0) rfl
  subst hA0
  simp only [Nat.add_zero] at hc0
  clear hs
  go_enter Tryz.func177, Tryz.ntmps177
  go_wp2
  refine wp_loop_rounds 2 ?_
  rw [rounds_succ]
  go_wp2
  rw [rounds_succ]
  go_wp2
  go_ret
  exact ⟨rfl, ex⟩
set_option maxHeartbeats 400000 in
theorem bits_34 (A : Option Addr) (w : World) (hs : Sl w A 1 [[.int .i64 3], [.int .i64 4]]) : Calls Tryz.prog 177 #[.slice A 2 2] w fun e w' => e = .returned (.int .i64 24) ∧ Ext w w' := by
  obtain ⟨b0, o0, hA0, hc0⟩ := hs.row1 (i := 0) rfl
  obtain ⟨b1, o1, hA1, hc1⟩ := hs.row1 (i := 1) rfl
  subst hA0
  injection hA1 with hA1
  injection hA1 with hb1 ho1
  subst hb1 ho1
  simp only [Nat.add_zero] at hc0
  clear hs
  go_enter Tryz.func177, Tryz.ntmps177
  go_wp2
  refine wp_loop_rounds 3 ?_
  rw [rounds_succ]
  go_wp2
  rw [rounds_succ]
  go_wp2
  rw [rounds_succ]
  go_wp2
  go_ret
  exact ⟨rfl, ex⟩
set_option maxHeartbeats 400000 in
theorem bits_5 (A : Option Addr) (w : World) (hs : Sl w A 1 [[.int .i64 5]]) : Calls Tryz.prog 177 #[.slice A 1 1] w fun e w' => e = .returned (.int .i64 32) ∧ Ext w w' := by
  obtain ⟨b0, o0, hA0, hc0⟩ := hs.row1 (i := 0) rfl
  subst hA0
  simp only [Nat.add_zero] at hc0
  clear hs
  go_enter Tryz.func177, Tryz.ntmps177
  go_wp2
  refine wp_loop_rounds 2 ?_
  rw [rounds_succ]
  go_wp2
  rw [rounds_succ]
  go_wp2
  go_ret
  exact ⟨rfl, ex⟩
set_option maxHeartbeats 400000 in
theorem bits_06 (A : Option Addr) (w : World) (hs : Sl w A 1 [[.int .i64 0], [.int .i64 6]]) : Calls Tryz.prog 177 #[.slice A 2 2] w fun e w' => e = .returned (.int .i64 65) ∧ Ext w w' := by
  obtain ⟨b0, o0, hA0, hc0⟩ := hs.row1 (i := 0) rfl
  obtain ⟨b1, o1, hA1, hc1⟩ := hs.row1 (i := 1) rfl
  subst hA0
  injection hA1 with hA1
  injection hA1 with hb1 ho1
  subst hb1 ho1
  simp only [Nat.add_zero] at hc0
  clear hs
  go_enter Tryz.func177, Tryz.ntmps177
  go_wp2
  refine wp_loop_rounds 3 ?_
  rw [rounds_succ]
  go_wp2
  rw [rounds_succ]
  go_wp2
  rw [rounds_succ]
  go_wp2
  go_ret
  exact ⟨rfl, ex⟩
set_option maxHeartbeats 400000 in
theorem bits_7 (A : Option Addr) (w : World) (hs : Sl w A 1 [[.int .i64 7]]) : Calls Tryz.prog 177 #[.slice A 1 1] w fun e w' => e = .returned (.int .i64 128) ∧ Ext w w' := by
  obtain ⟨b0, o0, hA0, hc0⟩ := hs.row1 (i := 0) rfl
  subst hA0
  simp only [Nat.add_zero] at hc0
  clear hs
  go_enter Tryz.func177, Tryz.ntmps177
  go_wp2
  refine wp_loop_rounds 2 ?_
  rw [rounds_succ]
  go_wp2
  rw [rounds_succ]
  go_wp2
  go_ret
  exact ⟨rfl, ex⟩
def usesL : List Int := [1, 3, 1, 1, 1, 1, 5, 13, 9, 13, 12, 4, 24, 32, 65, 5, 1, 128, 0, 0]
set_option maxHeartbeats 1600000 in
set_option maxRecDepth 100000 in
theorem act_uses (w : World) : Calls Tryz.prog 140 #[] w fun e w' => e = .returned (.agg #[.int .i64 1, .int .i64 3, .int .i64 1, .int .i64 1, .int .i64 1, .int .i64 1, .int .i64 5, .int .i64 13, .int .i64 9, .int .i64 13, .int .i64 12, .int .i64 4, .int .i64 24, .int .i64 32, .int .i64 65, .int .i64 5, .int .i64 1, .int .i64 128, .int .i64 0, .int .i64 0]) ∧ Ext w w' := by
  go_enter Tryz.func140, Tryz.ntmps140
  go_wp2_with fail
  go_at_call 177
  refine (bits_0 _ _ (Sl.alloc' (by simp [go_sem]) rfl (by simp))).mono ?_
  rintro e w' ⟨rfl, hx⟩
  have hxx : Ext (w.alloc (.cells #[.int .i64 0, .int .i64 0, .int .i64 0, .int .i64 0, .int .i64 0, .int .i64 0, .int .i64 0, .int .i64 0, .int .i64 0, .int .i64 0, .int .i64 0, .int .i64 0, .int .i64 0, .int .i64 0, .int .i64 0, .int .i64 0, .int .i64 0, .int .i64 0, .int .i64 0, .int .i64 0] 225)) w' := Ext.trans (ex) hx
  obtain ⟨y, rfl⟩ := hxx.get
  clear hx hxx
  go_wp2_with fail
  go_at_call 177
  refine (bits_01 _ _ (Sl.alloc' (by simp [go_sem]) rfl (by simp))).mono ?_
  rintro e w' ⟨rfl, hx⟩
  have hxx : Ext (w.alloc (.cells #[.int .i64 0, .int .i64 0, .int .i64 0, .int .i64 0, .int .i64 0, .int .i64 0, .int .i64 0, .int .i64 0, .int .i64 0, .int .i64 0, .int .i64 0, .int .i64 0, .int .i64 0, .int .i64 0, .int .i64 0, .int .i64 0, .int .i64 0, .int .i64 0, .int .i64 0, .int .i64 0] 225)) w' := Ext.trans (ex) hx
  obtain ⟨y, rfl⟩ := hxx.get
  clear hx hxx
  go_wp2_with fail
  go_at_call 177
  refine (bits_0 _ _ (Sl.alloc' (by simp [go_sem]) rfl (by simp))).mono ?_
  rintro e w' ⟨rfl, hx⟩
  have hxx : Ext (w.alloc (.cells #[.int .i64 0, .int .i64 0, .int .i64 0, .int .i64 0, .int .i64 0, .int .i64 0, .int .i64 0, .int .i64 0, .int .i64 0, .int .i64 0, .int .i64 0, .int .i64 0, .int .i64 0, .int .i64 0, .int .i64 0, .int .i64 0, .int .i64 0, .int .i64 0, .int .i64 0, .int .i64 0] 225)) w' := Ext.trans (ex) hx
  obtain ⟨y, rfl⟩ := hxx.get
  clear hx hxx
  go_wp2_with fail
  go_at_call 177
  refine (bits_0 _ _ (Sl.alloc' (by simp [go_sem]) rfl (by simp))).mono ?_
  rintro e w' ⟨rfl, hx⟩
  have hxx : Ext (w.alloc (.cells #[.int .i64 0, .int .i64 0, .int .i64 0, .int .i64 0, .int .i64 0, .int .i64 0, .int .i64 0, .int .i64 0, .int .i64 0, .int .i64 0, .int .i64 0, .int .i64 0, .int .i64 0, .int .i64 0, .int .i64 0, .int .i64 0, .int .i64 0, .int .i64 0, .int .i64 0, .int .i64 0] 225)) w' := Ext.trans (ex) hx
  obtain ⟨y, rfl⟩ := hxx.get
  clear hx hxx
  go_wp2_with fail
  go_at_call 177
  refine (bits_0 _ _ (Sl.alloc' (by simp [go_sem]) rfl (by simp))).mono ?_
  rintro e w' ⟨rfl, hx⟩
  have hxx : Ext (w.alloc (.cells #[.int .i64 0, .int .i64 0, .int .i64 0, .int .i64 0, .int .i64 0, .int .i64 0, .int .i64 0, .int .i64 0, .int .i64 0, .int .i64 0, .int .i64 0, .int .i64 0, .int .i64 0, .int .i64 0, .int .i64 0, .int .i64 0, .int .i64 0, .int .i64 0, .int .i64 0, .int .i64 0] 225)) w' := Ext.trans (ex) hx
  obtain ⟨y, rfl⟩ := hxx.get
  clear hx hxx
  go_wp2_with fail
  go_at_call 177
  refine (bits_0 _ _ (Sl.alloc' (by simp [go_sem]) rfl (by simp))).mono ?_
  rintro e w' ⟨rfl, hx⟩
  have hxx : Ext (w.alloc (.cells #[.int .i64 0, .int .i64 0, .int .i64 0, .int .i64 0, .int .i64 0, .int .i64 0, .int .i64 0, .int .i64 0, .int .i64 0, .int .i64 0, .int .i64 0, .int .i64 0, .int .i64 0, .int .i64 0, .int .i64 0, .int .i64 0, .int .i64 0, .int .i64 0, .int .i64 0, .int .i64 0] 225)) w' := Ext.trans (ex) hx
  obtain ⟨y, rfl⟩ := hxx.get
  clear hx hxx
  go_wp2_with fail
  go_at_call 177
  refine (bits_02 _ _ (Sl.alloc' (by simp [go_sem]) rfl (by simp))).mono ?_
  rintro e w' ⟨rfl, hx⟩
  have hxx : Ext (w.alloc (.cells #[.int .i64 0, .int .i64 0, .int .i64 0, .int .i64 0, .int .i64 0, .int .i64 0, .int .i64 0, .int .i64 0, .int .i64 0, .int .i64 0, .int .i64 0, .int .i64 0, .int .i64 0, .int .i64 0, .int .i64 0, .int .i64 0, .int .i64 0, .int .i64 0, .int .i64 0, .int .i64 0] 225)) w' := Ext.trans (ex) hx
  obtain ⟨y, rfl⟩ := hxx.get
  clear hx hxx
  go_wp2_with fail
  go_at_call 177
  refine (bits_023 _ _ (Sl.alloc' (by simp [go_sem]) rfl (by simp))).mono ?_
  rintro e w' ⟨rfl, hx⟩
  have hxx : Ext (w.alloc (.cells #[.int .i64 0, .int .i64 0, .int .i64 0, .int .i64 0, .int .i64 0, .int .i64 0, .int .i64 0, .int .i64 0, .int .i64 0, .int .i64 0, .int .i64 0, .int .i64 0, .int .i64 0, .int .i64 0, .int .i64 0, .int .i64 0, .int .i64 0, .int .i64 0, .int .i64 0, .int .i64 0] 225)) w' := Ext.trans (ex) hx
  obtain ⟨y, rfl⟩ := hxx.get
  clear hx hxx
  go_wp2_with fail
  go_at_call 177
  refine (bits_03 _ _ (Sl.alloc' (by simp [go_sem]) rfl (by simp))).mono ?_
  rintro e w' ⟨rfl, hx⟩
  have hxx : Ext (w.alloc (.cells #[.int .i64 0, .int .i64 0, .int .i64 0, .int .i64 0, .int .i64 0, .int .i64 0, .int .i64 0, .int .i64 0, .int .i64 0, .int .i64 0, .int .i64 0, .int .i64 0, .int .i64 0, .int .i64 0, .int .i64 0, .int .i64 0, .int .i64 0, .int .i64 0, .int .i64 0, .int .i64 0] 225)) w' := Ext.trans (ex) hx
  obtain ⟨y, rfl⟩ := hxx.get
  clear hx hxx
  go_wp2_with fail
  go_at_call 177
  refine (bits_023 _ _ (Sl.alloc' (by simp [go_sem]) rfl (by simp))).mono ?_
  rintro e w' ⟨rfl, hx⟩
  have hxx : Ext (w.alloc (.cells #[.int .i64 0, .int .i64 0, .int .i64 0, .int .i64 0, .int .i64 0, .int .i64 0, .int .i64 0, .int .i64 0, .int .i64 0, .int .i64 0, .int .i64 0, .int .i64 0, .int .i64 0, .int .i64 0, .int .i64 0, .int .i64 0, .int .i64 0, .int .i64 0, .int .i64 0, .int .i64 0] 225)) w' := Ext.trans (ex) hx
  obtain ⟨y, rfl⟩ := hxx.get
  clear hx hxx
  go_wp2_with fail
  go_at_call 177
  refine (bits_23 _ _ (Sl.alloc' (by simp [go_sem]) rfl (by simp))).mono ?_
  rintro e w' ⟨rfl, hx⟩
  have hxx : Ext (w.alloc (.cells #[.int .i64 0, .int .i64 0, .int .i64 0, .int .i64 0, .int .i64 0, .int .i64 0, .int .i64 0, .int .i64 0, .int .i64 0, .int .i64 0, .int .i64 0, .int .i64 0, .int .i64 0, .int .i64 0, .int .i64 0, .int .i64 0, .int .i64 0, .int .i64 0, .int .i64 0, .int .i64 0] 225)) w' := Ext.trans (ex) hx
  obtain ⟨y, rfl⟩ := hxx.get
  clear hx hxx
  go_wp2_with fail
  go_at_call 177
  refine (bits_2 _ _ (Sl.alloc' (by simp [go_sem]) rfl (by simp))).mono ?_
  rintro e w' ⟨rfl, hx⟩
  have hxx : Ext (w.alloc (.cells #[.int .i64 0, .int .i64 0, .int .i64 0, .int .i64 0, .int .i64 0, .int .i64 0, .int .i64 0, .int .i64 0, .int .i64 0, .int .i64 0, .int .i64 0, .int .i64 0, .int .i64 0, .int .i64 0, .int .i64 0, .int .i64 0, .int .i64 0, .int .i64 0, .int .i64 0, .int .i64 0] 225)) w' := Ext.trans (ex) hx
  obtain ⟨y, rfl⟩ := hxx.get
  clear hx hxx
  go_wp2_with fail
  go_at_call 177
  refine (bits_34 _ _ (Sl.alloc' (by simp [go_sem]) rfl (by simp))).mono ?_
  rintro e w' ⟨rfl, hx⟩
  have hxx : Ext (w.alloc (.cells #[.int .i64 0, .int .i64 0, .int .i64 0, .int .i64 0, .int .i64 0, .int .i64 0, .int .i64 0, .int .i64 0, .int .i64 0, .int .i64 0, .int .i64 0, .int .i64 0, .int .i64 0, .int .i64 0, .int .i64 0, .int .i64 0, .int .i64 0, .int .i64 0, .int .i64 0, .int .i64 0] 225)) w' := Ext.trans (ex) hx
  obtain ⟨y, rfl⟩ := hxx.get
  clear hx hxx
  go_wp2_with fail
  go_at_call 177
  refine (bits_5 _ _ (Sl.alloc' (by simp [go_sem]) rfl (by simp))).mono ?_
  rintro e w' ⟨rfl, hx⟩
  have hxx : Ext (w.alloc (.cells #[.int .i64 0, .int .i64 0, .int .i64 0, .int .i64 0, .int .i64 0, .int .i64 0, .int .i64 0, .int .i64 0, .int .i64 0, .int .i64 0, .int .i64 0, .int .i64 0, .int .i64 0, .int .i64 0, .int .i64 0, .int .i64 0, .int .i64 0, .int .i64 0, .int .i64 0, .int .i64 0] 225)) w' := Ext.trans (ex) hx
  obtain ⟨y, rfl⟩ := hxx.get
  clear hx hxx
  go_wp2_with fail
  go_at_call 177
  refine (bits_06 _ _ (Sl.alloc' (by simp [go_sem]) rfl (by simp))).mono ?_
  rintro e w' ⟨rfl, hx⟩
  have hxx : Ext (w.alloc (.cells #[.int .i64 0, .int .i64 0, .int .i64 0, .int .i64 0, .int .i64 0, .int .i64 0, .int .i64 0, .int .i64 0, .int .i64 0, .int .i64 0, .int .i64 0, .int .i64 0, .int .i64 0, .int .i64 0, .int .i64 0, .int .i64 0, .int .i64 0, .int .i64 0, .int .i64 0, .int .i64 0] 225)) w' := Ext.trans (ex) hx
  obtain ⟨y, rfl⟩ := hxx.get
  clear hx hxx
  go_wp2_with fail
  go_at_call 177
  refine (bits_02 _ _ (Sl.alloc' (by simp [go_sem]) rfl (by simp))).mono ?_
  rintro e w' ⟨rfl, hx⟩
  have hxx : Ext (w.alloc (.cells #[.int .i64 0, .int .i64 0, .int .i64 0, .int .i64 0, .int .i64 0, .int .i64 0, .int .i64 0, .int .i64 0, .int .i64 0, .int .i64 0, .int .i64 0, .int .i64 0, .int .i64 0, .int .i64 0, .int .i64 0, .int .i64 0, .int .i64 0, .int .i64 0, .int .i64 0, .int .i64 0] 225)) w' := Ext.trans (ex) hx
  obtain ⟨y, rfl⟩ := hxx.get
  clear hx hxx
  go_wp2_with fail
  go_at_call 177
  refine (bits_0 _ _ (Sl.alloc' (by simp [go_sem]) rfl (by simp))).mono ?_
  rintro e w' ⟨rfl, hx⟩
  have hxx : Ext (w.alloc (.cells #[.int .i64 0, .int .i64 0, .int .i64 0, .int .i64 0, .int .i64 0, .int .i64 0, .int .i64 0, .int .i64 0, .int .i64 0, .int .i64 0, .int .i64 0, .int .i64 0, .int .i64 0, .int .i64 0, .int .i64 0, .int .i64 0, .int .i64 0, .int .i64 0, .int .i64 0, .int .i64 0] 225)) w' := Ext.trans (ex) hx
  obtain ⟨y, rfl⟩ := hxx.get
  clear hx hxx
  go_wp2_with fail
  go_at_call 177
  refine (bits_7 _ _ (Sl.alloc' (by simp [go_sem]) rfl (by simp))).mono ?_
  rintro e w' ⟨rfl, hx⟩
  have hxx : Ext (w.alloc (.cells #[.int .i64 0, .int .i64 0, .int .i64 0, .int .i64 0, .int .i64 0, .int .i64 0, .int .i64 0, .int .i64 0, .int .i64 0, .int .i64 0, .int .i64 0, .int .i64 0, .int .i64 0, .int .i64 0, .int .i64 0, .int .i64 0, .int .i64 0, .int .i64 0, .int .i64 0, .int .i64 0] 225)) w' := Ext.trans (ex) hx
  obtain ⟨y, rfl⟩ := hxx.get
  clear hx hxx
  go_wp2_with (first | (refine wpList_built rfl 225 _ rfl [(0, .int .i64 1), (1, .int .i64 3), (2, .int .i64 1), (3, .int .i64 1), (4, .int .i64 1), (5, .int .i64 1), (6, .int .i64 5), (7, .int .i64 13), (8, .int .i64 9), (9, .int .i64 13), (10, .int .i64 12), (11, .int .i64 4), (12, .int .i64 24), (13, .int .i64 32), (14, .int .i64 65), (15, .int .i64 5), (16, .int .i64 1), (17, .int .i64 128)] rfl #[.int .i64 1, .int .i64 3, .int .i64 1, .int .i64 1, .int .i64 1, .int .i64 1, .int .i64 5, .int .i64 13, .int .i64 9, .int .i64 13, .int .i64 12, .int .i64 4, .int .i64 24, .int .i64 32, .int .i64 65, .int .i64 5, .int .i64 1, .int .i64 128, .int .i64 0, .int .i64 0] (by kernel_rfl) ?_) | refine wpList_store_xt rfl 225 (.tmp 0) (.tmp 37) rfl rfl rfl [.int .i64 1, .int .i64 3, .int .i64 1, .int .i64 1, .int .i64 1, .int .i64 1, .int .i64 5, .int .i64 13, .int .i64 9, .int .i64 13, .int .i64 12, .int .i64 4, .int .i64 24, .int .i64 32, .int .i64 65, .int .i64 5, .int .i64 1, .int .i64 128, .int .i64 0, .int .i64 0] rfl rfl (by kernel_rfl) (by simp [Value.oneCell']) ?_)
  refine bodyPost_ret (v := .agg #[.int .i64 1, .int .i64 3, .int .i64 1, .int .i64 1, .int .i64 1, .int .i64 1, .int .i64 5, .int .i64 13, .int .i64 9, .int .i64 13, .int .i64 12, .int .i64 4, .int .i64 24, .int .i64 32, .int .i64 65, .int .i64 5, .int .i64 1, .int .i64 128, .int .i64 0, .int .i64 0]) ?_ rfl ⟨rfl, ex⟩
  simp [results, Tryz.results140, Act.put, asAddr]
  rw [run_loadVar_mid _ _ _ _ [.int .i64 1, .int .i64 3, .int .i64 1, .int .i64 1, .int .i64 1, .int .i64 1, .int .i64 5, .int .i64 13, .int .i64 9, .int .i64 13, .int .i64 12, .int .i64 4, .int .i64 24, .int .i64 32, .int .i64 65, .int .i64 5, .int .i64 1, .int .i64 128, .int .i64 0, .int .i64 0] _ (rangeAt_mono (rangeAt_new _ rfl _ 225) (ex)) Tryz.underlying225 rfl (by kernel_rfl)]
end Go.Proofs.YtmhinhgflehkaaaGreat
