/-
  A part at a percentage: the program's, by a range over the iterator of its times, each written anew.
-/
import Derived.Test.YtgmicckeefoghaaTim7
import Derived.Test.YtgmicckeefoghaaTail
namespace Go.Proofs.Ytgmicckeefoghaa
open Go.RowKit
attribute [local go_sem] Oper.semAt_some

/-- A part with another number at a place. -/
def putT (t : Timing) (k : Nat) (v : Int) : Timing :=
  match k with
  | 0 => { t with up := v }
  | 1 => { t with down := v }
  | 2 => { t with pos := v }
  | 3 => { t with col := v }
  | 4 => { t with beam := v }
  | _ => { t with del := v }
/-- A part of which some times are at the percentage. -/
def stT (t : Timing) (p : Int) (pre : List (Fin 6)) : Timing := pre.foldl (fun s x => putT s x.val (scl (tnth s x.val) p)) t
theorem stT_snoc (t : Timing) (p : Int) (pre : List (Fin 6)) (x : Fin 6) : stT t p (pre ++ [x]) = putT (stT t p pre) x.val (scl (tnth (stT t p pre) x.val) p) := by
  unfold stT; rw [List.foldl_append]; rfl
theorem stT_all (t : Timing) (p : Int) : stT t p seq6 = scaleT t p := rfl
theorem scl_in {v p : Int} (h1 : 0 ≤ v) (h2 : v ≤ 10000000) (h3 : 1 ≤ p) (h4 : p ≤ 400) : 0 ≤ scl v p ∧ scl v p ≤ 10000000 := by
  unfold scl
  have : 0 ≤ (200 * v + p) / (2 * p) := Int.ediv_nonneg (by omega) (by omega)
  omega
theorem scl_wraps {v p : Int} (h1 : 0 ≤ v) (h2 : v ≤ 10000000) (h3 : 1 ≤ p) (h4 : p ≤ 400) : IntKind.i64.wrap (200 * v) = 200 * v ∧ IntKind.i64.wrap (200 * v + p) = 200 * v + p ∧ IntKind.i64.wrap (2 * p) = 2 * p ∧ IntKind.i64.wrap ((200 * v + p).tdiv (2 * p)) = (200 * v + p) / (2 * p) ∧ ¬ p = 0 :=
  ⟨IntWalk.i64_in _ (by omega), IntWalk.i64_in _ (by omega), IntWalk.i64_in _ (by omega), IntWalk.i64_quo _ _ (by omega), by omega⟩
theorem tnth_in {t : Timing} (h : timingE t = 0) (k : Nat) (hk : k < 6) : 0 ≤ tnth t k ∧ tnth t k ≤ 10000000 := by
  have := timing_in h
  rcases (by omega : k = 0 ∨ k = 1 ∨ k = 2 ∨ k = 3 ∨ k = 4 ∨ k = 5) with rfl | rfl | rfl | rfl | rfl | rfl
  all_goals (simp only [tnth]; omega)
theorem putT_ok {t : Timing} (h : timingE t = 0) (k : Nat) (v : Int) (h1 : 0 ≤ v) (h2 : v ≤ 10000000) : timingE (putT t k v) = 0 := by
  have := timing_in h
  have h3 : timingOk (putT t k v) = true := by
    unfold putT timingOk isTime
    split
    all_goals (simp only [Bool.and_eq_true, decide_eq_true_eq]; omega)
  unfold timingE; rw [h3]; rfl
theorem stT_ok {t : Timing} (h : timingE t = 0) {p : Int} (h3 : 1 ≤ p) (h4 : p ≤ 400) (pre : List (Fin 6)) : timingE (stT t p pre) = 0 := by
  unfold stT
  induction pre generalizing t with
  | nil => exact h
  | cons x l ih =>
    have hx := tnth_in h x.val x.isLt
    have hs := scl_in hx.1 hx.2 h3 h4
    exact ih (putT_ok h _ _ hs.1 hs.2)
/-- The world in which a part of the times is written. -/
def wT (w : World) (y : Gr) (p : Int) (t : Timing) : World := ((xt (((w.alloc (.cells #[.int .i64 t.up, .int .i64 t.down, .int .i64 t.pos, .int .i64 t.col, .int .i64 t.beam, .int .i64 t.del] 23)).alloc (.cells #[.int .i64 p] 3)).alloc (.cells #[.int .i64 0, .int .i64 0, .int .i64 0, .int .i64 0, .int .i64 0, .int .i64 0] 23)) y).alloc (.cells #[.pointer (some ⟨w.heap.size, 0, none⟩)] 139))

theorem keeps_xt (w : World) (y : Gr) : KeepsOthers w (xt w y) := ⟨by simp [xt_size], fun k o hk _ => by
  show (w.heap ++ y.objs)[k]? = some o
  rw [Array.getElem?_append_left (Array.getElem?_eq_some_iff.1 hk).1]; exact hk⟩
theorem wT_put (w : World) (y : Gr) (p : Int) (s : Timing) (k : Nat) (hk : k < 6) (v : Int) (z : Gr) : xt (wT w y p (putT s k v)) z = (xt (wT w y p s) z).setCell ⟨w.heap.size, k, none⟩ (.int .i64 v) := by
  rcases (by omega : k = 0 ∨ k = 1 ∨ k = 2 ∨ k = 3 ∨ k = 4 ∨ k = 5) with rfl | rfl | rfl | rfl | rfl | rfl
  all_goals simp [wT, putT, go_sem]
theorem keeps_store (w : World) (y : Gr) (p : Int) (s : Timing) (k : Nat) (hk : k < 6) (v : Int) (z y2 : Gr) : KeepsOthers (xt (wT w y p s) z) (xt (xt (wT w y p (putT s k v)) z) y2) := by
  rw [wT_put w y p s k hk v z]
  exact (KeepsOthers.setCell _ _ _).trans (keeps_xt _ _)
theorem wT_cell (w : World) (y : Gr) (p : Int) (s : Timing) : (wT w y p s).cell? ⟨w.heap.size + 1 + 1 + 1 + y.n, 0, none⟩ = some (.pointer (some ⟨w.heap.size, 0, none⟩)) := by simp [wT, go_sem]
theorem keepT_store (w : World) (y : Gr) (p : Int) (s s' : Timing) (z y2 : Gr) : KeepT (w.heap.size + 1 + 1 + 1 + y.n) (xt (wT w y p s) z) (xt (xt (wT w y p s') z) y2) := by
  intro v hv
  rw [(show Ext (wT w y p s) (xt (wT w y p s) z) from by repeat (first | exact Ext.refl _ | assumption | apply Ext.xt | apply Ext.alloc | apply Ext.drew | apply Ext.drewN)).cell (wT_cell w y p s)] at hv
  rw [← hv]
  exact (show Ext (wT w y p s') (xt (xt (wT w y p s') z) y2) from by repeat (first | exact Ext.refl _ | assumption | apply Ext.xt | apply Ext.alloc | apply Ext.drew | apply Ext.drewN)).cell (wT_cell w y p s')
theorem body_end (w : World) (y : Gr) (p : Int) (s : Timing) (k : Nat) (hk : k < 6) (z y2 : Gr) : KeepsOthers (xt (wT w y p s) z) (xt (xt (wT w y p (putT s k (scl (tnth s k) p))) z) y2) ∧ KeepT (w.heap.size + 1 + 1 + 1 + y.n) (xt (wT w y p s) z) (xt (xt (wT w y p (putT s k (scl (tnth s k) p))) z) y2) ∧ Ext (wT w y p (putT s k (scl (tnth s k) p))) (xt (xt (wT w y p (putT s k (scl (tnth s k) p))) z) y2) :=
  ⟨keeps_store w y p s k hk _ z y2, keepT_store w y p s _ z y2, by repeat (first | exact Ext.refl _ | assumption | apply Ext.xt | apply Ext.alloc | apply Ext.drew | apply Ext.drewN)⟩
/-- The world behind the last store: the part stands in the result's cell too. -/
def wR (w : World) (y : Gr) (p : Int) (s : Timing) : World := ((xt (((w.alloc (.cells #[.int .i64 s.up, .int .i64 s.down, .int .i64 s.pos, .int .i64 s.col, .int .i64 s.beam, .int .i64 s.del] 23)).alloc (.cells #[.int .i64 p] 3)).alloc (.cells #[.int .i64 s.up, .int .i64 s.down, .int .i64 s.pos, .int .i64 s.col, .int .i64 s.beam, .int .i64 s.del] 23)) y).alloc (.cells #[.pointer (some ⟨w.heap.size, 0, none⟩)] 139))
theorem xt_high (w1 w2 : World) (z : Gr) (D : Nat) (h : w1.heap.size = w2.heap.size) (hD : w1.heap.size ≤ D) : (xt w1 z).heap[D]? = (xt w2 z).heap[D]? := by
  unfold xt
  simp only []
  rw [Array.getElem?_append_right hD, Array.getElem?_append_right (by omega), h]
theorem ownFrom_ext' {β : Type} {B : Nat} (w0 : β → World) (q : Prop) (hB : ∀ s, (w0 s).heap.size ≤ B) : OwnFrom B (fun s W => Ext (w0 s) W ∧ q) :=
  fun s _ _ _ hs hg hr => ⟨hs.1.trans_own hg (fun k e => Nat.le_trans (hB s) (hr k e).1), hs.2⟩

set_option maxHeartbeats 2000000 in
set_option maxRecDepth 100000 in
theorem tim_Scale (t : Timing) (p : Int) (w : World) : Calls Try.prog 34 #[.agg (tmg t).toArray, .int .i64 p] w fun e w' => e = .returned (.tuple #[.agg (tmg (scaleV t p).1).toArray, .int .i64 (scaleV t p).2]) ∧ Ext w w' := by
  by_cases hT : timingE t = 0
  · have hT' : (timingE t != 0) = false := by simpa using hT
    by_cases hp1 : p < 1
    · have HV : Hid (scaleV t p = (emptyT, 2)) := Lib.hid (by unfold scaleV; rw [if_neg (by omega), if_pos (by omega)])
      rw [HV.out]
      clear hT
      simp only [tmg, emptyT]
      go_enter Try.func34, Try.ntmps34
      go_wp2_with (go_at_call 24; refine (tim_Check t _).mono ?_; rintro e w' ⟨rfl, hx⟩; obtain ⟨y, rfl⟩ := hx.get; clear hx)
      exact bodyPost_ret (v := .tuple #[.agg #[.int .i64 0, .int .i64 0, .int .i64 0, .int .i64 0, .int .i64 0, .int .i64 0], .int .i64 2]) (by simp [results, Try.results34, go_sem]) rfl ⟨rfl, by repeat (first | exact Ext.refl _ | assumption | apply Ext.xt | apply Ext.alloc | apply Ext.drew | apply Ext.drewN)⟩
    by_cases hp2 : 400 < p
    · have HV : Hid (scaleV t p = (emptyT, 2)) := Lib.hid (by unfold scaleV; rw [if_neg (by omega), if_pos (by omega)])
      rw [HV.out]
      clear hT
      simp only [tmg, emptyT]
      go_enter Try.func34, Try.ntmps34
      go_wp2_with (go_at_call 24; refine (tim_Check t _).mono ?_; rintro e w' ⟨rfl, hx⟩; obtain ⟨y, rfl⟩ := hx.get; clear hx)
      exact bodyPost_ret (v := .tuple #[.agg #[.int .i64 0, .int .i64 0, .int .i64 0, .int .i64 0, .int .i64 0, .int .i64 0], .int .i64 2]) (by simp [results, Try.results34, go_sem]) rfl ⟨rfl, by repeat (first | exact Ext.refl _ | assumption | apply Ext.xt | apply Ext.alloc | apply Ext.drew | apply Ext.drewN)⟩
    have HV : Hid (scaleV t p = (scaleT t p, 0)) := Lib.hid (by unfold scaleV; rw [if_neg (by omega), if_neg (by omega)])
    have HT := Lib.hid hT
    clear hT
    have hq1 : 1 ≤ p := by omega
    have hq2 : p ≤ 400 := by omega
    refine (callsIn_wide (n := 4)).1 ?_
    refine callsIn_of_wp_marks Try.func34 rfl trivial ?_ rfl
    have hp0 : (2 * p == 0) = false := by rw [beq_eq_false_iff_ne]; omega
    simp only [tmg, Try.ntmps34, List.size_toArray, List.length_cons, List.length_nil, Nat.reduceAdd, Nat.reduceSub, Array.replicate_succ, Array.replicate_zero, List.push_toArray, List.append_toArray, List.nil_append, List.cons_append]
    gi_wp2_with (first | (refine ⟨trivial, ?_⟩; gi_at_call 24; refine (callsIn_wide.2 (tim_Check t _)).mono ?_; rintro e w' ⟨rfl, hx⟩; obtain ⟨y, rfl⟩ := hx.get; clear hx) | (refine ⟨trivial, ?_⟩; gi_at_call 78; refine (callsIn_wide.2 (tim_times _ _)).mono ?_; rintro e w' ⟨rfl, rfl⟩))
    refine wpIn_rangeFunc_ownF (n := 4) rfl (by omega) (gf := 138) (lb := #[.pointer (some ⟨w.heap.size + 1 + 1 + 1 + y.n, 0, none⟩)]) rfl trivial (enters_of Try.func138 (by kernel_rfl) rfl)
      (times_stops 3 w.heap.size (w.heap.size + 1 + 1 + 1 + y.n) (by omega) _ (by simp [go_sem, *])) (fun h k v hv => k v (h v hv)) ?hKb (Below.refl _ _) (fun _ => rfl)
      (fun pre W => Ext (wT w y p (stT t p pre)) W ∧ True)
      (fun _ _ _ => False)
      (ownFrom_ext' _ _ (fun pre => by simp [wT, go_sem])) (fun c => fun _ _ _ _ h => h.elim) ⟨by repeat (first | exact Ext.refl _ | assumption | apply Ext.xt | apply Ext.alloc | apply Ext.drew | apply Ext.drewN), trivial⟩
      (fun x => { tmps := #[.agg #[.int .i64 t.up, .int .i64 t.down, .int .i64 t.pos, .int .i64 t.col, .int .i64 t.beam, .int .i64 t.del], .int .i64 p, .pointer (some ⟨w.heap.size, 0, none⟩), .pointer (some ⟨w.heap.size + 1, 0, none⟩), .pointer (some ⟨w.heap.size + 1 + 1, 0, none⟩), .int .i64 0, .int .i64 (timingE t), .pointer (some ⟨w.heap.size, x.val, none⟩), .agg #[.int .i64 t.up, .int .i64 t.down, .int .i64 t.pos, .int .i64 t.col, .int .i64 t.beam, .int .i64 t.del], .int .i64 (timingE t), .int .i64 (timingE t), .bool false, undef, undef, .int .i64 p, .bool (decide (p < 1)), .bool (decide (p < 1)), .int .i64 p, .bool (decide (400 < p)), .bool (decide (p < 1) || decide (400 < p)), undef, .func (Fn.func 138) #[] #[.pointer (some ⟨w.heap.size + 1 + 1 + 1 + y.n, 0, none⟩)], .pointer (some ⟨w.heap.size, x.val, none⟩), undef, undef, undef, undef, undef, undef, undef, undef, undef, undef, undef, undef, undef], defers := [] }) ?assign ?body ?done ?stop
    case hKb =>
      intro W l o o' _ ho hoc _ v hv
      exact cell_kept hv (grownBy_putObj' W l o') (fun r e => by cases e; exact ⟨o, ho, hoc⟩)
    case assign =>
      intro l x W K hK
      gi_wp2
      exact hK
    case body =>
      rintro l pre x W ⟨hx, _⟩ _
      have HP := Lib.hid (stT_snoc t p pre x)
      have hin := tnth_in (stT_ok HT.out hq1 hq2 pre) x.val x.isLt
      generalize stT t p pre = s at *
      unfold wT at hx
      obtain ⟨z, rfl⟩ := hx.get
      clear hx
      obtain ⟨xi, hxi⟩ := x
      rcases (by omega : xi = 0 ∨ xi = 1 ∨ xi = 2 ∨ xi = 3 ∨ xi = 4 ∨ xi = 5) with rfl | rfl | rfl | rfl | rfl | rfl
      all_goals
        simp only [tnth] at hin
        obtain ⟨hin1, hin2⟩ := hin
        gi_wp2
        (refine wpIn_region_tail 12 (by kernel_rfl) (by kernel_rfl) (by kernel_rfl) ?_; simp only [List.take_succ_cons, List.take_zero, List.drop_succ_cons, List.drop_zero]; (repeat (go_big_quiet_step (fail))); refine wpQuiet_nil ?_; rintro _ ⟨y, rfl⟩)
        gi_wp2
      · exact ⟨(body_end w _ p s 0 hxi z _).1, (body_end w _ p s 0 hxi z _).2.1, by rw [HP.out]; exact (body_end w _ p s 0 hxi z _).2.2, trivial⟩
      · exact ⟨(body_end w _ p s 1 hxi z _).1, (body_end w _ p s 1 hxi z _).2.1, by rw [HP.out]; exact (body_end w _ p s 1 hxi z _).2.2, trivial⟩
      · exact ⟨(body_end w _ p s 2 hxi z _).1, (body_end w _ p s 2 hxi z _).2.1, by rw [HP.out]; exact (body_end w _ p s 2 hxi z _).2.2, trivial⟩
      · exact ⟨(body_end w _ p s 3 hxi z _).1, (body_end w _ p s 3 hxi z _).2.1, by rw [HP.out]; exact (body_end w _ p s 3 hxi z _).2.2, trivial⟩
      · exact ⟨(body_end w _ p s 4 hxi z _).1, (body_end w _ p s 4 hxi z _).2.1, by rw [HP.out]; exact (body_end w _ p s 4 hxi z _).2.2, trivial⟩
      · exact ⟨(body_end w _ p s 5 hxi z _).1, (body_end w _ p s 5 hxi z _).2.1, by rw [HP.out]; exact (body_end w _ p s 5 hxi z _).2.2, trivial⟩
    case done =>
      rintro D xs W hD rfl ⟨hx, _⟩ hK
      rw [stT_all] at hx
      generalize hs : scaleT t p = s at *
      clear hs
      unfold wT at hx
      obtain ⟨z, rfl⟩ := hx.get
      clear hx
      have hK' := (xt_high (wT w y p s) (wR w y p s) z D (by simp [wT, wR, go_sem]) (by simpa [wT, go_sem] using hD)).symm.trans hK
      have hres := fun (k : Nat) v (hv : (xt (wR w y p s) z).cell? ⟨w.heap.size + 1 + 1, k, none⟩ = some v) => (cell_kept hv (grownBy_putObj' _ D (.deferred none)) (fun r e => by cases e; exact ⟨_, hK', rfl⟩) : ((xt (wR w y p s) z).putObj D (.deferred none)).cell? ⟨w.heap.size + 1 + 1, k, none⟩ = some v)
      have hr0 := hres 0 (.int .i64 s.up) (by simp [wR, go_sem])
      have hr1 := hres 1 (.int .i64 s.down) (by simp [wR, go_sem])
      have hr2 := hres 2 (.int .i64 s.pos) (by simp [wR, go_sem])
      have hr3 := hres 3 (.int .i64 s.col) (by simp [wR, go_sem])
      have hr4 := hres 4 (.int .i64 s.beam) (by simp [wR, go_sem])
      have hr5 := hres 5 (.int .i64 s.del) (by simp [wR, go_sem])
      clear hres
      gi_wp2
      refine ⟨by simp, .inl ⟨_, _, rfl, run_takeDeferred hK', ?_⟩⟩
      unfold wR at hr0 hr1 hr2 hr3 hr4 hr5
      refine ⟨.tuple #[.agg #[.int .i64 s.up, .int .i64 s.down, .int .i64 s.pos, .int .i64 s.col, .int .i64 s.beam, .int .i64 s.del], .int .i64 0], by simp [results, Try.results34, go_sem, hr0, hr1, hr2, hr3, hr4, hr5], ?_, (show Ext w (xt (wR w y p s) z) from (by unfold wR; exact (by repeat (first | exact Ext.refl _ | assumption | apply Ext.xt | apply Ext.alloc | apply Ext.drew | apply Ext.drewN)))).trans_own (grownBy_putObj' _ D _) (fun k e => by cases e; simp [go_sem] at hD; omega)⟩
      rw [HV.out]
    case stop =>
      rintro D c pre W hD _ h hK
      exact h.elim
  · have hT' : (timingE t != 0) = true := by simpa using hT
    have HV : Hid (scaleV t p = (emptyT, timingE t)) := Lib.hid (by unfold scaleV; rw [if_pos hT])
    rw [HV.out]
    clear hT
    simp only [tmg, emptyT]
    go_enter Try.func34, Try.ntmps34
    go_wp2_with (go_at_call 24; refine (tim_Check t _).mono ?_; rintro e w' ⟨rfl, hx⟩; obtain ⟨y, rfl⟩ := hx.get; clear hx)
    exact bodyPost_ret (v := .tuple #[.agg #[.int .i64 0, .int .i64 0, .int .i64 0, .int .i64 0, .int .i64 0, .int .i64 0], .int .i64 (timingE t)]) (by simp [results, Try.results34, go_sem]) rfl ⟨rfl, by repeat (first | exact Ext.refl _ | assumption | apply Ext.xt | apply Ext.alloc | apply Ext.drew | apply Ext.drewN)⟩
end Go.Proofs.Ytgmicckeefoghaa
