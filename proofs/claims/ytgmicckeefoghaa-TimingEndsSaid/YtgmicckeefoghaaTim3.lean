import Derived.Test.YtgmicckeefoghaaTim2
namespace Go.Proofs.Ytgmicckeefoghaa
open Go.RowKit
attribute [local go_sem] Oper.semAt_some

theorem timing_nth (b : Nat) (t : Timing) (w : World) (h0 : w.cell? ⟨b, 0, none⟩ = some (.int .i64 t.up)) (h1 : w.cell? ⟨b, 1, none⟩ = some (.int .i64 t.down)) (h2 : w.cell? ⟨b, 2, none⟩ = some (.int .i64 t.pos)) (h3 : w.cell? ⟨b, 3, none⟩ = some (.int .i64 t.col)) (h4 : w.cell? ⟨b, 4, none⟩ = some (.int .i64 t.beam)) (h5 : w.cell? ⟨b, 5, none⟩ = some (.int .i64 t.del))
    (k : Nat) (hk : k < 6) : w.cell? ⟨b, k, none⟩ = some (.int .i64 (tnth t k)) := by
  rcases (by omega : k = 0 ∨ k = 1 ∨ k = 2 ∨ k = 3 ∨ k = 4 ∨ k = 5) with rfl | rfl | rfl | rfl | rfl | rfl
  all_goals assumption
/-- What is said of grown worlds stands behind a turn of the loop's own blocks. -/
theorem ownFrom_ext {β : Type} {B : Nat} (w0 : World) (hB : w0.heap.size ≤ B) (p : β → Prop) : OwnFrom B (fun s W => Ext w0 W ∧ p s) :=
  fun _ _ _ _ hs hg hr => ⟨hs.1.trans_own hg (fun k e => Nat.le_trans hB (hr k e).1), hs.2⟩
theorem seq6_all (t : Timing) (h : ∀ x ∈ seq6, isTime (tnth t x.val) = true) : timingOk t = true := by
  rw [timingOk_nth]
  intro k hk
  exact h ⟨k, hk⟩ (by
    have hall : ∀ x : Fin 6, x ∈ seq6 := by decide
    exact hall _)

theorem tim_times (b : Nat) (w : World) : Calls Try.prog 78 #[.pointer (some ⟨b, 0, none⟩)] w
    fun e w' => e = .returned (.func (Fn.func 138) #[] #[.pointer (some ⟨w.heap.size, 0, none⟩)]) ∧ w.alloc (.cells #[.pointer (some ⟨b, 0, none⟩)] 139) = w' := by
  go_enter Try.func78, Try.ntmps78
  go_wp2
  go_ret
  exact ⟨rfl, rfl⟩

set_option maxHeartbeats 2000000 in
set_option maxRecDepth 100000 in
theorem tim_Check (t : Timing) (w : World) : Calls Try.prog 24 #[.agg (tmg t).toArray] w fun e w' => e = .returned (.int .i64 (timingE t)) ∧ Ext w w' := by
  refine (callsIn_wide (n := 4)).1 ?_
  refine callsIn_of_wp_marks Try.func24 rfl trivial ?_ rfl
  simp only [tmg, Try.ntmps24, List.size_toArray, List.length_cons, List.length_nil, Nat.reduceAdd, Nat.reduceSub, Array.replicate_succ, Array.replicate_zero, List.push_toArray, List.append_toArray, List.nil_append, List.cons_append]
  gi_wp2_with (refine ⟨trivial, ?_⟩; gi_at_call 78; refine (callsIn_wide.2 (tim_times _ _)).mono ?_; rintro e w' ⟨rfl, rfl⟩)
  have HC0 := Lib.hid (timing_nth w.heap.size t (((w.alloc (.cells #[.int .i64 t.up, .int .i64 t.down, .int .i64 t.pos, .int .i64 t.col, .int .i64 t.beam, .int .i64 t.del] 23)).alloc (.cells #[.int .i64 0] 24)).alloc (.cells #[.pointer (some ⟨w.heap.size, 0, none⟩)] 139)) (by simp [go_sem, *]) (by simp [go_sem, *]) (by simp [go_sem, *]) (by simp [go_sem, *]) (by simp [go_sem, *]) (by simp [go_sem, *]))
  refine wpIn_rangeFunc_ownF (n := 4) rfl (by omega) (gf := 138) (lb := #[.pointer (some ⟨w.heap.size + 1 + 1, 0, none⟩)]) rfl trivial (enters_of Try.func138 (by kernel_rfl) rfl)
    (times_stops 3 w.heap.size (w.heap.size + 1 + 1) (by omega) _ (by simp [go_sem, *])) (fun h k v hv => k v (h v hv)) ?hKb (Below.refl _ _) (fun _ => rfl)
    (fun pre W => Ext (((w.alloc (.cells #[.int .i64 t.up, .int .i64 t.down, .int .i64 t.pos, .int .i64 t.col, .int .i64 t.beam, .int .i64 t.del] 23)).alloc (.cells #[.int .i64 0] 24)).alloc (.cells #[.pointer (some ⟨w.heap.size, 0, none⟩)] 139)) W ∧ (∀ x ∈ (pre : List (Fin 6)), isTime (tnth t x.val) = true))
    (fun c _ W => Ext (((w.alloc (.cells #[.int .i64 t.up, .int .i64 t.down, .int .i64 t.pos, .int .i64 t.col, .int .i64 t.beam, .int .i64 t.del] 23)).alloc (.cells #[.int .i64 2] 24)).alloc (.cells #[.pointer (some ⟨w.heap.size, 0, none⟩)] 139)) W ∧ (c = .ret ∧ timingOk t = false))
    (ownFrom_ext _ (by simp) _) (fun c => ownFrom_ext _ (by simp) _) ⟨by repeat (first | exact Ext.refl _ | assumption | apply Ext.xt | apply Ext.alloc | apply Ext.drew | apply Ext.drewN), by simp⟩
    (fun x => { tmps := #[.agg #[.int .i64 t.up, .int .i64 t.down, .int .i64 t.pos, .int .i64 t.col, .int .i64 t.beam, .int .i64 t.del], .pointer (some ⟨w.heap.size, 0, none⟩), .pointer (some ⟨w.heap.size + 1, 0, none⟩), .pointer (some ⟨w.heap.size, x.val, none⟩), .func (Fn.func 138) #[] #[.pointer (some ⟨w.heap.size + 1 + 1, 0, none⟩)], .pointer (some ⟨w.heap.size, x.val, none⟩), undef, undef, undef, undef, undef, undef, undef, undef, undef, undef], defers := [] }) ?assign ?body ?done ?stop
  case hKb =>
    intro W l o o' _ ho hoc _ v hv
    exact cell_kept hv (grownBy_putObj' W l o') (fun r e => by cases e; exact ⟨o, ho, hoc⟩)
  case assign =>
    intro l x W K hK
    gi_wp2
    exact hK
  case body =>
    rintro l pre x W ⟨hx, hall⟩ _
    have hc := hx.cell (HC0.out x.val x.isLt)
    have HB : Hid (isTime (tnth t x.val) = false → timingOk t = false) := Lib.hid fun h => by
      rw [Bool.eq_false_iff]; intro h2; rw [(timingOk_nth t).1 h2 x.val x.isLt] at h; cases h
    obtain ⟨y, rfl⟩ := hx.get
    have HX := Lib.hid hx
    clear hx
    gi_wp2
    · refine ⟨?_, (show Ext (((w.alloc (.cells #[.int .i64 t.up, .int .i64 t.down, .int .i64 t.pos, .int .i64 t.col, .int .i64 t.beam, .int .i64 t.del] 23)).alloc (.cells #[.int .i64 2] 24)).alloc (.cells #[.pointer (some ⟨w.heap.size, 0, none⟩)] 139)) _ from by repeat (first | exact Ext.refl _ | assumption | apply Ext.xt | apply Ext.alloc | apply Ext.drew | apply Ext.drewN)), rfl, HB.out (by unfold isTime; rw [decide_eq_false_iff_not]; omega)⟩
      rw [show xt (((w.alloc (.cells #[.int .i64 t.up, .int .i64 t.down, .int .i64 t.pos, .int .i64 t.col, .int .i64 t.beam, .int .i64 t.del] 23)).alloc (.cells #[.int .i64 2] 24)).alloc (.cells #[.pointer (some ⟨w.heap.size, 0, none⟩)] 139)) y = (xt (((w.alloc (.cells #[.int .i64 t.up, .int .i64 t.down, .int .i64 t.pos, .int .i64 t.col, .int .i64 t.beam, .int .i64 t.del] 23)).alloc (.cells #[.int .i64 0] 24)).alloc (.cells #[.pointer (some ⟨w.heap.size, 0, none⟩)] 139)) y).setCell ⟨w.heap.size + 1, 0, none⟩ (.int .i64 2) from (by simp [go_sem])]
      exact KeepsOthers.setCell _ _ _
    · refine ⟨KeepsOthers.refl _, fun v hv => hv, HX.out, fun z hz => ?_⟩
      rcases List.mem_append.1 hz with h | h
      · exact hall z h
      · obtain rfl : z = x := by simpa using h
        unfold isTime; rw [decide_eq_true_iff]; omega
    · refine ⟨?_, (show Ext (((w.alloc (.cells #[.int .i64 t.up, .int .i64 t.down, .int .i64 t.pos, .int .i64 t.col, .int .i64 t.beam, .int .i64 t.del] 23)).alloc (.cells #[.int .i64 2] 24)).alloc (.cells #[.pointer (some ⟨w.heap.size, 0, none⟩)] 139)) _ from by repeat (first | exact Ext.refl _ | assumption | apply Ext.xt | apply Ext.alloc | apply Ext.drew | apply Ext.drewN)), rfl, HB.out (by unfold isTime; rw [decide_eq_false_iff_not]; omega)⟩
      rw [show xt (((w.alloc (.cells #[.int .i64 t.up, .int .i64 t.down, .int .i64 t.pos, .int .i64 t.col, .int .i64 t.beam, .int .i64 t.del] 23)).alloc (.cells #[.int .i64 2] 24)).alloc (.cells #[.pointer (some ⟨w.heap.size, 0, none⟩)] 139)) y = (xt (((w.alloc (.cells #[.int .i64 t.up, .int .i64 t.down, .int .i64 t.pos, .int .i64 t.col, .int .i64 t.beam, .int .i64 t.del] 23)).alloc (.cells #[.int .i64 0] 24)).alloc (.cells #[.pointer (some ⟨w.heap.size, 0, none⟩)] 139)) y).setCell ⟨w.heap.size + 1, 0, none⟩ (.int .i64 2) from (by simp [go_sem])]
      exact KeepsOthers.setCell _ _ _
  case done =>
    rintro D xs W hD rfl ⟨hx, hall⟩ hK
    have hok := seq6_all t hall
    obtain ⟨y, rfl⟩ := hx.get
    clear hx
    have hres : ((xt (((w.alloc (.cells #[.int .i64 t.up, .int .i64 t.down, .int .i64 t.pos, .int .i64 t.col, .int .i64 t.beam, .int .i64 t.del] 23)).alloc (.cells #[.int .i64 0] 24)).alloc (.cells #[.pointer (some ⟨w.heap.size, 0, none⟩)] 139)) y).putObj D (.deferred none)).cell? ⟨w.heap.size + 1, 0, none⟩ = some (.int .i64 0) := cell_kept (by simp [go_sem, *]) (grownBy_putObj' _ D (.deferred none)) (fun r e => by cases e; exact ⟨_, hK, rfl⟩)
    gi_wp2
    refine ⟨by simp, .inl ⟨_, _, rfl, run_takeDeferred hK, ?_⟩⟩
    refine ⟨.int .i64 0, by simp [results, Try.results24, go_sem, hres], ?_, (show Ext w (xt (((w.alloc (.cells #[.int .i64 t.up, .int .i64 t.down, .int .i64 t.pos, .int .i64 t.col, .int .i64 t.beam, .int .i64 t.del] 23)).alloc (.cells #[.int .i64 0] 24)).alloc (.cells #[.pointer (some ⟨w.heap.size, 0, none⟩)] 139)) y) from by repeat (first | exact Ext.refl _ | assumption | apply Ext.xt | apply Ext.alloc | apply Ext.drew | apply Ext.drewN)).trans_own (grownBy_putObj' _ D _) (fun k e => by cases e; simp at hD; omega)⟩
    rw [show timingE t = 0 from (by unfold timingE; rw [hok, if_pos rfl])]
  case stop =>
    rintro D c pre W hD _ ⟨hx, rfl, hbad⟩ hK
    obtain ⟨y, rfl⟩ := hx.get
    clear hx
    have hres : ((xt (((w.alloc (.cells #[.int .i64 t.up, .int .i64 t.down, .int .i64 t.pos, .int .i64 t.col, .int .i64 t.beam, .int .i64 t.del] 23)).alloc (.cells #[.int .i64 2] 24)).alloc (.cells #[.pointer (some ⟨w.heap.size, 0, none⟩)] 139)) y).putObj D (.deferred none)).cell? ⟨w.heap.size + 1, 0, none⟩ = some (.int .i64 2) := cell_kept (by simp [go_sem, *]) (grownBy_putObj' _ D (.deferred none)) (fun r e => by cases e; exact ⟨_, hK, rfl⟩)
    gi_wp2
    refine ⟨by simp, .inl ⟨_, _, rfl, run_takeDeferred hK, ?_⟩⟩
    refine ⟨.int .i64 2, by simp [results, Try.results24, go_sem, hres], ?_, (show Ext w (xt (((w.alloc (.cells #[.int .i64 t.up, .int .i64 t.down, .int .i64 t.pos, .int .i64 t.col, .int .i64 t.beam, .int .i64 t.del] 23)).alloc (.cells #[.int .i64 2] 24)).alloc (.cells #[.pointer (some ⟨w.heap.size, 0, none⟩)] 139)) y) from by repeat (first | exact Ext.refl _ | assumption | apply Ext.xt | apply Ext.alloc | apply Ext.drew | apply Ext.drewN)).trans_own (grownBy_putObj' _ D _) (fun k e => by cases e; simp at hD; omega)⟩
    rw [show timingE t = 2 from (by unfold timingE; rw [hbad, if_neg (by simp)])]
end Go.Proofs.Ytgmicckeefoghaa
