import Derived.Test.YtgmicckeefoghaaTim1
namespace Go.Proofs.Ytgmicckeefoghaa
open Go.RowKit

/-- The cell of the captured variable is kept. -/
def KeepT (T : Nat) (A B : World) : Prop := ∀ v, A.cell? ⟨T, 0, none⟩ = some v → B.cell? ⟨T, 0, none⟩ = some v
theorem abides_ext {β : Type} {B : Nat} {J : β → World → Prop} (h : AbidesFrom B J) {s : β} {W W' : World} (hj : J s W) (hx : Ext W W') : J s W' :=
  h s W W' none hj ⟨hx.os, hx.tape, hx.output, hx.size, fun k hk _ => hx.block k hk⟩ (fun r e => by cases e)
def seq6 : List (Fin 6) := [0, 2, 3, 4, 1, 5]

set_option maxHeartbeats 2000000 in
set_option maxRecDepth 100000 in
/-- The iterator over the times of a part: the places of its six numbers, in the order of the classes. -/
theorem times_stops (n b T : Nat) (hn : 1 ≤ n) (w : World) (hT : w.cell? ⟨T, 0, none⟩ = some (.pointer (some ⟨b, 0, none⟩))) :
    SeqStopsK Fence.wide n Try.prog 138 #[.pointer (some ⟨T, 0, none⟩)] (fun x : Fin 6 => #[Value.pointer (some ⟨b, x.val, none⟩)]) (KeepT T) (fun xs => xs = seq6) (fun pre => pre <+: seq6) 6 w := fun l J Jx W hW hJ hJx hY h0 => by
  have s0 := fun w => run_sel 0 (by omega) w
  have s1 := fun w => run_sel 1 (by omega) w
  have s2 := fun w => run_sel 2 (by omega) w
  have s3 := fun w => run_sel 3 (by omega) w
  have s4 := fun w => run_sel 4 (by omega) w
  simp only [Int.cast_ofNat_Int] at s0 s1 s2 s3 s4
  have hT0 : W.cell? ⟨T, 0, none⟩ = some (.pointer (some ⟨b, 0, none⟩)) := (hW.cell (World.block_lt_of_cell? w _ hT)).trans hT
  clear hT hW
  refine callsIn_of_wp Try.func138 rfl trivial ?_ rfl
  simp only [Try.ntmps138, List.size_toArray, List.length_cons, List.length_nil, Nat.reduceAdd, Nat.reduceSub, Array.replicate_succ, Array.replicate_zero, List.push_toArray, List.append_toArray, List.nil_append, List.cons_append]
  gi_wp2_with (refine ⟨trivial, ?_⟩; gi_at_call 84; refine (callsIn_wide.2 (tim_selectors _)).mono ?_; rintro e w' ⟨rfl, hx⟩; obtain ⟨y, rfl⟩ := hx.get; clear hx)
  have fld := fun k w => run_time (.func (Fn.func k) #[] #[]) rfl w
  have hJ0 := abides_ext hJ h0 (show Ext W (xt W y) from by repeat (first | exact Ext.refl _ | assumption | apply Ext.xt | apply Ext.alloc | apply Ext.drew | apply Ext.drewN))
  refine wpIn_loop_rounds 6 ?_
  rw [roundsIn_succ]
  have hC1 : ((xt W y).alloc (.cells #[.func (Fn.func 139) #[] #[]] 147)).cell? ⟨T, 0, none⟩ = some (.pointer (some ⟨b, 0, none⟩)) := Ext.cell (show Ext W ((xt W y).alloc (.cells #[.func (Fn.func 139) #[] #[]] 147)) from by repeat (first | exact Ext.refl _ | assumption | apply Ext.xt | apply Ext.alloc | apply Ext.drew | apply Ext.drewN)) hT0
  obtain ⟨f1, t1, a1, b1, hy1, hR1⟩ := hY [] 0 ((xt W y).alloc (.cells #[.func (Fn.func 139) #[] #[]] 147)) (abides_ext hJ hJ0 (show Ext (xt W y) ((xt W y).alloc (.cells #[.func (Fn.func 139) #[] #[]] 147)) from by repeat (first | exact Ext.refl _ | assumption | apply Ext.xt | apply Ext.alloc | apply Ext.drew | apply Ext.drewN))) (by simp)
  replace hy1 : (Instr.yield l #[Value.pointer (some ⟨b, 0, none⟩)]).run Try.prog _ = _ := hy1
  gi_wp2_with (refine ⟨trivial, ?_⟩; gi_at_call 139; refine (callsIn_wide.2 (selectors1 _ _)).mono ?_; rintro e w' ⟨rfl, rfl⟩)
  refine hR1.mono ?_
  rintro e W1 (⟨rfl, hJ1, hk1⟩ | ⟨rfl, hx1⟩)
  rotate_left 1
  · gi_wp2
    refine bodyPost_ret (results_none rfl _ _ _) rfl ?_
    exact ⟨⟨_, rfl⟩, .inr ⟨[0], by decide, hx1⟩⟩
  have hT1 : W1.cell? ⟨T, 0, none⟩ = some (.pointer (some ⟨b, 0, none⟩)) := hk1 _ hC1
  clear hC1 hk1 hR1 hy1
  gi_wp2
  rw [roundsIn_succ]
  have hC2 : (W1.alloc (.cells #[.func (Fn.func 140) #[] #[]] 147)).cell? ⟨T, 0, none⟩ = some (.pointer (some ⟨b, 0, none⟩)) := Ext.cell (show Ext W1 (W1.alloc (.cells #[.func (Fn.func 140) #[] #[]] 147)) from by repeat (first | exact Ext.refl _ | assumption | apply Ext.xt | apply Ext.alloc | apply Ext.drew | apply Ext.drewN)) hT1
  obtain ⟨f2, t2, a2, b2, hy2, hR2⟩ := hY [0] 2 (W1.alloc (.cells #[.func (Fn.func 140) #[] #[]] 147)) (abides_ext hJ hJ1 (show Ext W1 (W1.alloc (.cells #[.func (Fn.func 140) #[] #[]] 147)) from by repeat (first | exact Ext.refl _ | assumption | apply Ext.xt | apply Ext.alloc | apply Ext.drew | apply Ext.drewN))) (by simp)
  replace hy2 : (Instr.yield l #[Value.pointer (some ⟨b, 2, none⟩)]).run Try.prog _ = _ := hy2
  gi_wp2_with (refine ⟨trivial, ?_⟩; gi_at_call 140; refine (callsIn_wide.2 (selectors2 _ _)).mono ?_; rintro e w' ⟨rfl, rfl⟩)
  refine hR2.mono ?_
  rintro e W2 (⟨rfl, hJ2, hk2⟩ | ⟨rfl, hx2⟩)
  rotate_left 1
  · gi_wp2
    refine bodyPost_ret (results_none rfl _ _ _) rfl ?_
    exact ⟨⟨_, rfl⟩, .inr ⟨[0, 2], by decide, hx2⟩⟩
  have hT2 : W2.cell? ⟨T, 0, none⟩ = some (.pointer (some ⟨b, 0, none⟩)) := hk2 _ hC2
  clear hC2 hk2 hR2 hy2
  gi_wp2
  rw [roundsIn_succ]
  have hC3 : (W2.alloc (.cells #[.func (Fn.func 141) #[] #[]] 147)).cell? ⟨T, 0, none⟩ = some (.pointer (some ⟨b, 0, none⟩)) := Ext.cell (show Ext W2 (W2.alloc (.cells #[.func (Fn.func 141) #[] #[]] 147)) from by repeat (first | exact Ext.refl _ | assumption | apply Ext.xt | apply Ext.alloc | apply Ext.drew | apply Ext.drewN)) hT2
  obtain ⟨f3, t3, a3, b3, hy3, hR3⟩ := hY [0, 2] 3 (W2.alloc (.cells #[.func (Fn.func 141) #[] #[]] 147)) (abides_ext hJ hJ2 (show Ext W2 (W2.alloc (.cells #[.func (Fn.func 141) #[] #[]] 147)) from by repeat (first | exact Ext.refl _ | assumption | apply Ext.xt | apply Ext.alloc | apply Ext.drew | apply Ext.drewN))) (by simp)
  replace hy3 : (Instr.yield l #[Value.pointer (some ⟨b, 3, none⟩)]).run Try.prog _ = _ := hy3
  gi_wp2_with (refine ⟨trivial, ?_⟩; gi_at_call 141; refine (callsIn_wide.2 (selectors3 _ _)).mono ?_; rintro e w' ⟨rfl, rfl⟩)
  refine hR3.mono ?_
  rintro e W3 (⟨rfl, hJ3, hk3⟩ | ⟨rfl, hx3⟩)
  rotate_left 1
  · gi_wp2
    refine bodyPost_ret (results_none rfl _ _ _) rfl ?_
    exact ⟨⟨_, rfl⟩, .inr ⟨[0, 2, 3], by decide, hx3⟩⟩
  have hT3 : W3.cell? ⟨T, 0, none⟩ = some (.pointer (some ⟨b, 0, none⟩)) := hk3 _ hC3
  clear hC3 hk3 hR3 hy3
  gi_wp2
  rw [roundsIn_succ]
  have hC4 : (W3.alloc (.cells #[.func (Fn.func 142) #[] #[]] 147)).cell? ⟨T, 0, none⟩ = some (.pointer (some ⟨b, 0, none⟩)) := Ext.cell (show Ext W3 (W3.alloc (.cells #[.func (Fn.func 142) #[] #[]] 147)) from by repeat (first | exact Ext.refl _ | assumption | apply Ext.xt | apply Ext.alloc | apply Ext.drew | apply Ext.drewN)) hT3
  obtain ⟨f4, t4, a4, b4, hy4, hR4⟩ := hY [0, 2, 3] 4 (W3.alloc (.cells #[.func (Fn.func 142) #[] #[]] 147)) (abides_ext hJ hJ3 (show Ext W3 (W3.alloc (.cells #[.func (Fn.func 142) #[] #[]] 147)) from by repeat (first | exact Ext.refl _ | assumption | apply Ext.xt | apply Ext.alloc | apply Ext.drew | apply Ext.drewN))) (by simp)
  replace hy4 : (Instr.yield l #[Value.pointer (some ⟨b, 4, none⟩)]).run Try.prog _ = _ := hy4
  gi_wp2_with (refine ⟨trivial, ?_⟩; gi_at_call 142; refine (callsIn_wide.2 (selectors4 _ _)).mono ?_; rintro e w' ⟨rfl, rfl⟩)
  refine hR4.mono ?_
  rintro e W4 (⟨rfl, hJ4, hk4⟩ | ⟨rfl, hx4⟩)
  rotate_left 1
  · gi_wp2
    refine bodyPost_ret (results_none rfl _ _ _) rfl ?_
    exact ⟨⟨_, rfl⟩, .inr ⟨[0, 2, 3, 4], by decide, hx4⟩⟩
  have hT4 : W4.cell? ⟨T, 0, none⟩ = some (.pointer (some ⟨b, 0, none⟩)) := hk4 _ hC4
  clear hC4 hk4 hR4 hy4
  gi_wp2
  rw [roundsIn_succ]
  have hC5 : (W4.alloc (.cells #[.func (Fn.func 143) #[] #[]] 147)).cell? ⟨T, 0, none⟩ = some (.pointer (some ⟨b, 0, none⟩)) := Ext.cell (show Ext W4 (W4.alloc (.cells #[.func (Fn.func 143) #[] #[]] 147)) from by repeat (first | exact Ext.refl _ | assumption | apply Ext.xt | apply Ext.alloc | apply Ext.drew | apply Ext.drewN)) hT4
  obtain ⟨f5, t5, a5, b5, hy5, hR5⟩ := hY [0, 2, 3, 4] 1 (W4.alloc (.cells #[.func (Fn.func 143) #[] #[]] 147)) (abides_ext hJ hJ4 (show Ext W4 (W4.alloc (.cells #[.func (Fn.func 143) #[] #[]] 147)) from by repeat (first | exact Ext.refl _ | assumption | apply Ext.xt | apply Ext.alloc | apply Ext.drew | apply Ext.drewN))) (by simp)
  replace hy5 : (Instr.yield l #[Value.pointer (some ⟨b, 1, none⟩)]).run Try.prog _ = _ := hy5
  gi_wp2_with (refine ⟨trivial, ?_⟩; gi_at_call 143; refine (callsIn_wide.2 (selectors5 _ _)).mono ?_; rintro e w' ⟨rfl, rfl⟩)
  refine hR5.mono ?_
  rintro e W5 (⟨rfl, hJ5, hk5⟩ | ⟨rfl, hx5⟩)
  rotate_left 1
  · gi_wp2
    refine bodyPost_ret (results_none rfl _ _ _) rfl ?_
    exact ⟨⟨_, rfl⟩, .inr ⟨[0, 2, 3, 4, 1], by decide, hx5⟩⟩
  have hT5 : W5.cell? ⟨T, 0, none⟩ = some (.pointer (some ⟨b, 0, none⟩)) := hk5 _ hC5
  clear hC5 hk5 hR5 hy5
  gi_wp2
  rw [roundsIn_succ]
  obtain ⟨f6, t6, a6, b6, hy6, hR6⟩ := hY [0, 2, 3, 4, 1] 5 W5 hJ5 (by simp)
  replace hy6 : (Instr.yield l #[Value.pointer (some ⟨b, 5, none⟩)]).run Try.prog _ = _ := hy6
  gi_wp2
  refine hR6.mono ?_
  rintro e W6 (⟨rfl, hJ6, hk6⟩ | ⟨rfl, hx6⟩)
  · gi_wp2
    go_end0
    exact ⟨⟨_, rfl⟩, .inl ⟨_, rfl, hJ6⟩⟩
  · gi_wp2
    go_end0
    exact ⟨⟨_, rfl⟩, .inr ⟨[0, 2, 3, 4, 1, 5], by decide, hx6⟩⟩
end Go.Proofs.Ytgmicckeefoghaa

namespace Go.Proofs.Ytgmicckeefoghaa
open Go.RowKit
attribute [local go_sem] Oper.semAt_some

theorem timing_nth (b : Nat) (t : Timing) (w : World) (h0 : w.cell? ⟨b, 0, none⟩ = some (.int .i64 t.up)) (h1 : w.cell? ⟨b, 1, none⟩ = some (.int .i64 t.down)) (h2 : w.cell? ⟨b, 2, none⟩ = some (.int .i64 t.pos)) (h3 : w.cell? ⟨b, 3, none⟩ = some (.int .i64 t.col)) (h4 : w.cell? ⟨b, 4, none⟩ = some (.int .i64 t.beam)) (h5 : w.cell? ⟨b, 5, none⟩ = some (.int .i64 t.del))
    (k : Nat) (hk : k < 6) : w.cell? ⟨b, k, none⟩ = some (.int .i64 (tnth t k)) := by
  rcases (by omega : k = 0 ∨ k = 1 ∨ k = 2 ∨ k = 3 ∨ k = 4 ∨ k = 5) with rfl | rfl | rfl | rfl | rfl | rfl
  all_goals assumption
/-- What is said of grown worlds stands behind a turn of the loop's own blocks. -/
theorem ownFrom_ext {β : Type} {B : Nat} (w0 : World) (hB : w0.heap.size ≤ B) (p : β → Prop) : OwnFrom B (fun s W => Ext w0 W ∧ p s) :=
  fun _ _ _ _ hs hg hr => ⟨hs.1.trans_own hg (fun k e => Nat.le_trans hB (hr k e).1), hs.2⟩
theorem seq6_all (t : Timing) (h : ∀ x ∈ seq6, isTime (tnth t x.val) = true) : timingOk t = true := by
  rw [timingOk_nth]
  intro k hk
  exact h ⟨k, hk⟩ (by
    have hall : ∀ x : Fin 6, x ∈ seq6 := by decide
    exact hall _)

theorem tim_times (b : Nat) (w : World) : Calls Try.prog 78 #[.pointer (some ⟨b, 0, none⟩)] w
    fun e w' => e = .returned (.func (Fn.func 138) #[] #[.pointer (some ⟨w.heap.size, 0, none⟩)]) ∧ w.alloc (.cells #[.pointer (some ⟨b, 0, none⟩)] 139) = w' := by
  go_enter Try.func78, Try.ntmps78
  go_wp2
  go_ret
  exact ⟨rfl, rfl⟩

set_option maxHeartbeats 2000000 in
set_option maxRecDepth 100000 in
theorem tim_Check (t : Timing) (w : World) : Calls Try.prog 24 #[.agg (tmg t).toArray] w fun e w' => e = .returned (.int .i64 (timingE t)) ∧ Ext w w' := by
  refine (callsIn_wide (n := 4)).1 ?_
  refine callsIn_of_wp_marks Try.func24 rfl trivial ?_ rfl
  simp only [tmg, Try.ntmps24, List.size_toArray, List.length_cons, List.length_nil, Nat.reduceAdd, Nat.reduceSub, Array.replicate_succ, Array.replicate_zero, List.push_toArray, List.append_toArray, List.nil_append, List.cons_append]
  gi_wp2_with (refine ⟨trivial, ?_⟩; gi_at_call 78; refine (callsIn_wide.2 (tim_times _ _)).mono ?_; rintro e w' ⟨rfl, rfl⟩)
  have HC0 := Lib.hid (timing_nth w.heap.size t (((w.alloc (.cells #[.int .i64 t.up, .int .i64 t.down, .int .i64 t.pos, .int .i64 t.col, .int .i64 t.beam, .int .i64 t.del] 23)).alloc (.cells #[.int .i64 0] 24)).alloc (.cells #[.pointer (some ⟨w.heap.size, 0, none⟩)] 139)) (by simp [go_sem, *]) (by simp [go_sem, *]) (by simp [go_sem, *]) (by simp [go_sem, *]) (by simp [go_sem, *]) (by simp [go_sem, *]))
  refine wpIn_rangeFunc_ownF (n := 4) rfl (by omega) (gf := 138) (lb := #[.pointer (some ⟨w.heap.size + 1 + 1, 0, none⟩)]) rfl trivial (enters_of Try.func138 (by kernel_rfl) rfl)
    (times_stops 3 w.heap.size (w.heap.size + 1 + 1) (by omega) _ (by simp [go_sem, *])) (fun h k v hv => k v (h v hv)) ?hKb (Below.refl _ _) (fun _ => rfl)
    (fun pre W => Ext (((w.alloc (.cells #[.int .i64 t.up, .int .i64 t.down, .int .i64 t.pos, .int .i64 t.col, .int .i64 t.beam, .int .i64 t.del] 23)).alloc (.cells #[.int .i64 0] 24)).alloc (.cells #[.pointer (some ⟨w.heap.size, 0, none⟩)] 139)) W ∧ (∀ x ∈ (pre : List (Fin 6)), isTime (tnth t x.val) = true))
    (fun c _ W => Ext (((w.alloc (.cells #[.int .i64 t.up, .int .i64 t.down, .int .i64 t.pos, .int .i64 t.col, .int .i64 t.beam, .int .i64 t.del] 23)).alloc (.cells #[.int .i64 2] 24)).alloc (.cells #[.pointer (some ⟨w.heap.size, 0, none⟩)] 139)) W ∧ (c = .ret ∧ timingOk t = false))
    (ownFrom_ext _ (by simp) _) (fun c => ownFrom_ext _ (by simp) _) ⟨by repeat (first | exact Ext.refl _ | assumption | apply Ext.xt | apply Ext.alloc | apply Ext.drew | apply Ext.drewN), by simp⟩
    (fun x => { tmps := #[.agg #[.int .i64 t.up, .int .i64 t.down, .int .i64 t.pos, .int .i64 t.col, .int .i64 t.beam, .int .i64 t.del], .pointer (some ⟨w.heap.size, 0, none⟩), .pointer (some ⟨w.heap.size + 1, 0, none⟩), .pointer (some ⟨w.heap.size, x.val, none⟩), .func (Fn.func 138) #[] #[.pointer (some ⟨w.heap.size + 1 + 1, 0, none⟩)], .pointer (some ⟨w.heap.size, x.val, none⟩), undef, undef, undef, undef, undef, undef, undef, undef, undef, undef], defers := [] }) ?assign ?body ?done ?stop
  case hKb =>
    intro W l o o' _ ho hoc _ v hv
    exact cell_kept hv (grownBy_putObj' W l o') (fun r e => by cases e; exact ⟨o, ho, hoc⟩)
  case assign =>
    intro l x W K hK
    gi_wp2
    exact hK
  case body =>
    rintro l pre x W ⟨hx, hall⟩ _
    have hc := hx.cell (HC0.out x.val x.isLt)
    have HB : Hid (isTime (tnth t x.val) = false → timingOk t = false) := Lib.hid fun h => by
      rw [Bool.eq_false_iff]; intro h2; rw [(timingOk_nth t).1 h2 x.val x.isLt] at h; cases h
    obtain ⟨y, rfl⟩ := hx.get
    have HX := Lib.hid hx
    clear hx
    gi_wp2
    · refine ⟨?_, (show Ext (((w.alloc (.cells #[.int .i64 t.up, .int .i64 t.down, .int .i64 t.pos, .int .i64 t.col, .int .i64 t.beam, .int .i64 t.del] 23)).alloc (.cells #[.int .i64 2] 24)).alloc (.cells #[.pointer (some ⟨w.heap.size, 0, none⟩)] 139)) _ from by repeat (first | exact Ext.refl _ | assumption | apply Ext.xt | apply Ext.alloc | apply Ext.drew | apply Ext.drewN)), rfl, HB.out (by unfold isTime; rw [decide_eq_false_iff_not]; omega)⟩
      rw [show xt (((w.alloc (.cells #[.int .i64 t.up, .int .i64 t.down, .int .i64 t.pos, .int .i64 t.col, .int .i64 t.beam, .int .i64 t.del] 23)).alloc (.cells #[.int .i64 2] 24)).alloc (.cells #[.pointer (some ⟨w.heap.size, 0, none⟩)] 139)) y = (xt (((w.alloc (.cells #[.int .i64 t.up, .int .i64 t.down, .int .i64 t.pos, .int .i64 t.col, .int .i64 t.beam, .int .i64 t.del] 23)).alloc (.cells #[.int .i64 0] 24)).alloc (.cells #[.pointer (some ⟨w.heap.size, 0, none⟩)] 139)) y).setCell ⟨w.heap.size + 1, 0, none⟩ (.int .i64 2) from (by simp [go_sem])]
      exact KeepsOthers.setCell _ _ _
    · refine ⟨KeepsOthers.refl _, fun v hv => hv, HX.out, fun z hz => ?_⟩
      rcases List.mem_append.1 hz with h | h
      · exact hall z h
      · obtain rfl : z = x := by simpa using h
        unfold isTime; rw [decide_eq_true_iff]; omega
    · refine ⟨?_, (show Ext (((w.alloc (.cells #[.int .i64 t.up, .int .i64 t.down, .int .i64 t.pos, .int .i64 t.col, .int .i64 t.beam, .int .i64 t.del] 23)).alloc (.cells #[.int .i64 2] 24)).alloc (.cells #[.pointer (some ⟨w.heap.size, 0, none⟩)] 139)) _ from by repeat (first | exact Ext.refl _ | assumption | apply Ext.xt | apply Ext.alloc | apply Ext.drew | apply Ext.drewN)), rfl, HB.out (by unfold isTime; rw [decide_eq_false_iff_not]; omega)⟩
      rw [show xt (((w.alloc (.cells #[.int .i64 t.up, .int .i64 t.down, .int .i64 t.pos, .int .i64 t.col, .int .i64 t.beam, .int .i64 t.del] 23)).alloc (.cells #[.int .i64 2] 24)).alloc (.cells #[.pointer (some ⟨w.heap.size, 0, none⟩)] 139)) y = (xt (((w.alloc (.cells #[.int .i64 t.up, .int .i64 t.down, .int .i64 t.pos, .int .i64 t.col, .int .i64 t.beam, .int .i64 t.del] 23)).alloc (.cells #[.int .i64 0] 24)).alloc (.cells #[.pointer (some ⟨w.heap.size, 0, none⟩)] 139)) y).setCell ⟨w.heap.size + 1, 0, none⟩ (.int .i64 2) from (by simp [go_sem])]
      exact KeepsOthers.setCell _ _ _
  case done =>
    rintro D xs W hD rfl ⟨hx, hall⟩ hK
    have hok := seq6_all t hall
    obtain ⟨y, rfl⟩ := hx.get
    clear hx
    have hres : ((xt (((w.alloc (.cells #[.int .i64 t.up, .int .i64 t.down, .int .i64 t.pos, .int .i64 t.col, .int .i64 t.beam, .int .i64 t.del] 23)).alloc (.cells #[.int .i64 0] 24)).alloc (.cells #[.pointer (some ⟨w.heap.size, 0, none⟩)] 139)) y).putObj D (.deferred none)).cell? ⟨w.heap.size + 1, 0, none⟩ = some (.int .i64 0) := cell_kept (by simp [go_sem, *]) (grownBy_putObj' _ D (.deferred none)) (fun r e => by cases e; exact ⟨_, hK, rfl⟩)
    gi_wp2
    refine ⟨by simp, .inl ⟨_, _, rfl, run_takeDeferred hK, ?_⟩⟩
    refine ⟨.int .i64 0, by simp [results, Try.results24, go_sem, hres], ?_, (show Ext w (xt (((w.alloc (.cells #[.int .i64 t.up, .int .i64 t.down, .int .i64 t.pos, .int .i64 t.col, .int .i64 t.beam, .int .i64 t.del] 23)).alloc (.cells #[.int .i64 0] 24)).alloc (.cells #[.pointer (some ⟨w.heap.size, 0, none⟩)] 139)) y) from by repeat (first | exact Ext.refl _ | assumption | apply Ext.xt | apply Ext.alloc | apply Ext.drew | apply Ext.drewN)).trans_own (grownBy_putObj' _ D _) (fun k e => by cases e; simp at hD; omega)⟩
    rw [show timingE t = 0 from (by unfold timingE; rw [hok, if_pos rfl])]
  case stop =>
    rintro D c pre W hD _ ⟨hx, rfl, hbad⟩ hK
    obtain ⟨y, rfl⟩ := hx.get
    clear hx
    have hres : ((xt (((w.alloc (.cells #[.int .i64 t.up, .int .i64 t.down, .int .i64 t.pos, .int .i64 t.col, .int .i64 t.beam, .int .i64 t.del] 23)).alloc (.cells #[.int .i64 2] 24)).alloc (.cells #[.pointer (some ⟨w.heap.size, 0, none⟩)] 139)) y).putObj D (.deferred none)).cell? ⟨w.heap.size + 1, 0, none⟩ = some (.int .i64 2) := cell_kept (by simp [go_sem, *]) (grownBy_putObj' _ D (.deferred none)) (fun r e => by cases e; exact ⟨_, hK, rfl⟩)
    gi_wp2
    refine ⟨by simp, .inl ⟨_, _, rfl, run_takeDeferred hK, ?_⟩⟩
    refine ⟨.int .i64 2, by simp [results, Try.results24, go_sem, hres], ?_, (show Ext w (xt (((w.alloc (.cells #[.int .i64 t.up, .int .i64 t.down, .int .i64 t.pos, .int .i64 t.col, .int .i64 t.beam, .int .i64 t.del] 23)).alloc (.cells #[.int .i64 2] 24)).alloc (.cells #[.pointer (some ⟨w.heap.size, 0, none⟩)] 139)) y) from by repeat (first | exact Ext.refl _ | assumption | apply Ext.xt | apply Ext.alloc | apply Ext.drew | apply Ext.drewN)).trans_own (grownBy_putObj' _ D _) (fun k e => by cases e; simp at hD; omega)⟩
    rw [show timingE t = 2 from (by unfold timingE; rw [hbad, if_neg (by simp)])]
end Go.Proofs.Ytgmicckeefoghaa
