/-
  The total of a cue: the reference's and the program's.
-/
import Derived.Test.YtgmicckeefoghaaTim5
import Derived.Test.YtgmicckeefoghaaTail
namespace Go.Proofs.Ytgmicckeefoghaa
open Go.RowKit

@[go_sem high] theorem max_2 {P : Program} (ts : Array TypeId) (t : TypeId) (k k' : IntKind) (x y : Int) (w : World) : (Builtin.max_ ts t #[.int k x, .int k' y]).run P w = .ok (.int k (max x y)) w := by
  rw [run_max_int2]; congr 2; grind
@[go_sem high] theorem min_2 {P : Program} (ts : Array TypeId) (t : TypeId) (k k' : IntKind) (x y : Int) (w : World) : (Builtin.min_ ts t #[.int k x, .int k' y]).run P w = .ok (.int k (min x y)) w := by
  rw [run_min_int2]; congr 2; grind
@[go_sem high] theorem max_5 {P : Program} (ts : Array TypeId) (t : TypeId) (k : IntKind) (a b c d e : Int) (w : World) : (Builtin.max_ ts t #[.int k a, .int k b, .int k c, .int k d, .int k e]).run P w = .ok (.int k (max (max (max (max a b) c) d) e)) w := by
  simp [Builtin.max_, Builtin.max2]
  grind
theorem val_i {k : IntKind} {a b : Int} (h : a = b) : Value.int k a = Value.int k b := by rw [h]
/-- The greatest time of a part. -/
def most (t : Timing) : Int := max (max (max (max t.up t.down) t.pos) t.col) t.beam
/-- The greatest time of parts with their delays. -/
def total (l : List Timing) : Int := l.foldl (fun m t => max m (t.del + most t)) 0
def totalV (c : Cue) : Int × Int := if cueE c ≠ 0 then (0, cueE c) else (total c.parts, 0)

theorem total_step {l : List Timing} {k : Nat} {t : Timing} (h : l[k]? = some t) : total (l.take (k + 1)) = max (total (l.take k)) (t.del + most t) := by
  unfold total
  rw [List.take_add_one, h, List.foldl_append]
  rfl
theorem timing_in {t : Timing} (h : timingE t = 0) : (0 ≤ t.up ∧ t.up ≤ 10000000) ∧ (0 ≤ t.down ∧ t.down ≤ 10000000) ∧ (0 ≤ t.pos ∧ t.pos ≤ 10000000) ∧ (0 ≤ t.col ∧ t.col ≤ 10000000) ∧ (0 ≤ t.beam ∧ t.beam ≤ 10000000) ∧ (0 ≤ t.del ∧ t.del ≤ 10000000) := by
  have h1 : timingOk t = true := by
    unfold timingE at h
    split at h
    · assumption
    · omega
  simp only [timingOk, isTime, Bool.and_eq_true, decide_eq_true_eq] at h1
  omega
theorem total_in (l : List Timing) (h : ∀ t ∈ l, timingE t = 0) : 0 ≤ total l ∧ total l ≤ 20000000 := by
  unfold total
  suffices H : ∀ (l : List Timing) (a : Int), (∀ t ∈ l, timingE t = 0) → 0 ≤ a → a ≤ 20000000 → 0 ≤ l.foldl (fun m t => max m (t.del + most t)) a ∧ l.foldl (fun m t => max m (t.del + most t)) a ≤ 20000000 from H l 0 h (by omega) (by omega)
  intro l
  induction l with
  | nil => intro a _ h1 h2; exact ⟨h1, h2⟩
  | cons t l ih =>
    intro a hl h1 h2
    have ht := timing_in (hl t (by simp))
    unfold most at ih
    simp only [List.foldl_cons, most]
    exact ih _ (fun x hx => hl x (by simp [hx])) (by omega) (by omega)

section
variable (c : Cue) (A : Option Addr) (k : Nat) (B : Option Addr) (m : Nat) (w : World) (hc : CueAt w c A k B m)
include hc
set_option maxHeartbeats 800000 in
theorem r21_Of (p : Param) (r : Bool) : Calls Try.prog 31 #[.agg (cueV c A k B m).toArray, .agg (prm p).toArray, .bool r] w fun e w' => e = .returned (.tuple #[.int .i64 (ofV c p r).1, .int .i64 (ofV c p r).2.1, .int .i64 (ofV c p r).2.2]) ∧ Ext w w' := by
  have HC := Lib.hid hc
  clear hc
  simp only [cueV, prm]
  by_cases hE : givenE c p = 0
  · have HE := Lib.hid (givenE_ok hE).1
    have HV : Hid (ofV c p r = ((partOf c p).del, taken (partOf c p) p.attr r, 0)) := Lib.hid (by unfold ofV; rw [if_neg (by omega)])
    have hE' : (givenE c p != 0) = false := by simpa using hE
    clear hE
    go_enter Try.func31, Try.ntmps31
    go_wp2_with (first | (go_at_call 81; refine (r21_given c A k B m p _ (HC.out.mono (by repeat (first | exact Ext.refl _ | assumption | apply Ext.xt | apply Ext.alloc | apply Ext.drew | apply Ext.drewN)))).mono ?_; rintro e w' ⟨rfl, hx⟩; obtain ⟨y, rfl⟩ := hx.get; clear hx) | (go_at_call 83; refine (r21_Timed c A k B m p r _ (HC.out.mono (by repeat (first | exact Ext.refl _ | assumption | apply Ext.xt | apply Ext.alloc | apply Ext.drew | apply Ext.drewN))) HE.out).mono ?_; rintro e w' ⟨rfl, hx⟩; obtain ⟨y, rfl⟩ := hx.get; clear hx))
    go_ret3
    go_light
    refine ⟨ret_iii ?_, by repeat (first | exact Ext.refl _ | assumption | apply Ext.xt | apply Ext.alloc | apply Ext.drew | apply Ext.drewN)⟩
    rw [HV.out]
  · have HV : Hid (ofV c p r = (0, 0, givenE c p)) := Lib.hid (by unfold ofV; rw [if_pos hE])
    have hE' : (givenE c p != 0) = true := by simpa using hE
    clear hE
    go_enter Try.func31, Try.ntmps31
    go_wp2_with (first | (go_at_call 81; refine (r21_given c A k B m p _ (HC.out.mono (by repeat (first | exact Ext.refl _ | assumption | apply Ext.xt | apply Ext.alloc | apply Ext.drew | apply Ext.drewN)))).mono ?_; rintro e w' ⟨rfl, hx⟩; obtain ⟨y, rfl⟩ := hx.get; clear hx))
    go_ret3
    go_light
    refine ⟨ret_iii ?_, by repeat (first | exact Ext.refl _ | assumption | apply Ext.xt | apply Ext.alloc | apply Ext.drew | apply Ext.drewN)⟩
    rw [HV.out]

set_option maxHeartbeats 1600000 in
theorem r21_Total : Calls Try.prog 33 #[.agg (cueV c A k B m).toArray] w fun e w' => e = .returned (.tuple #[.int .i64 (totalV c).1, .int .i64 (totalV c).2]) ∧ Ext w w' := by
  have HC := Lib.hid hc
  have hs := hc.pt
  have hl : c.parts.length ≤ maxLen := Nat.le_trans hc.hm hc.hm'
  unfold maxLen at hl
  clear hc
  by_cases hE : cueE c = 0
  · have HP : Hid (∀ t ∈ c.parts, timingE t = 0) := Lib.hid (timesE_ok (partsE_ok hE))
    have HV : Hid (totalV c = (total c.parts, 0)) := Lib.hid (by unfold totalV; rw [if_neg (by omega)])
    have hE' : (cueE c != 0) = false := by simpa using hE
    clear hE
    simp only [cueV]
    go_enter Try.func33, Try.ntmps33
    go_wp2_with (go_at_call 53; refine (r16_Check c A k B m _ (HC.out.mono (by repeat (first | exact Ext.refl _ | assumption | apply Ext.xt | apply Ext.alloc | apply Ext.drew | apply Ext.drewN)))).mono ?_; rintro e w' ⟨rfl, hx⟩; obtain ⟨y, rfl⟩ := hx.get; clear hx)
    go_loopw [5, 6] (fun v i wr => ∃ j : Nat, j ≤ c.parts.length ∧ i = .int .i64 j ∧ v = .int .i64 (total (c.parts.take j)) ∧ Ext (w.alloc (.cells (cueV c A k B m).toArray 38)) wr) (fun _ i _ => c.parts.length - (intOf i).toNat)
    case atStart => exact ⟨0, by omega, rfl, rfl, by repeat (first | exact Ext.refl _ | assumption | apply Ext.xt | apply Ext.alloc | apply Ext.drew | apply Ext.drewN)⟩
    case round =>
      obtain ⟨j, hj, rfl, rfl, hx⟩ := hrel
      obtain ⟨y, rfl⟩ := hx.get
      clear hx
      simp only [cueV]
      by_cases hlt : j < c.parts.length
      · obtain ⟨t, ht⟩ : ∃ t, c.parts[j]? = some t := ⟨_, List.getElem?_eq_getElem hlt⟩
        have HS := Lib.hid (total_step ht)
        obtain ⟨ht1, ht2, ht3, ht4, ht5, ht6⟩ := timing_in (HP.out t (List.mem_of_getElem? ht))
        have htt := total_in (c.parts.take j) (fun x hx => HP.out x (List.mem_of_mem_take hx))
        obtain ⟨b, o, rfl, hc0, hc1, hc2, hc3, hc4, hc5⟩ := hs.row6 (i := j) (by rw [List.getElem?_map, ht]; rfl)
        clear ht hs
        go_wp2
        refine ⟨⟨j + 1, by omega, by go_num, val_i (by rw [HS.out]; unfold most; omega), by repeat (first | exact Ext.refl _ | assumption | apply Ext.xt | apply Ext.alloc | apply Ext.drew | apply Ext.drewN)⟩, by simp [intOf]; omega⟩
      · have HT : Hid (c.parts.take j = c.parts) := Lib.hid (List.take_of_length_le (by omega))
        go_wp2
        go_ret2
        go_light
        refine ⟨ret_ii ?_, by repeat (first | exact Ext.refl _ | assumption | apply Ext.xt | apply Ext.alloc | apply Ext.drew | apply Ext.drewN)⟩
        rw [HV.out, HT.out]
  · have HV : Hid (totalV c = (0, cueE c)) := Lib.hid (by unfold totalV; rw [if_pos hE])
    have hE' : (cueE c != 0) = true := by simpa using hE
    clear hE
    simp only [cueV]
    go_enter Try.func33, Try.ntmps33
    go_wp2_with (go_at_call 53; refine (r16_Check c A k B m _ (HC.out.mono (by repeat (first | exact Ext.refl _ | assumption | apply Ext.xt | apply Ext.alloc | apply Ext.drew | apply Ext.drewN)))).mono ?_; rintro e w' ⟨rfl, hx⟩; obtain ⟨y, rfl⟩ := hx.get; clear hx)
    go_ret2
    go_light
    refine ⟨ret_ii ?_, by repeat (first | exact Ext.refl _ | assumption | apply Ext.xt | apply Ext.alloc | apply Ext.drew | apply Ext.drewN)⟩
    rw [HV.out]

set_option maxHeartbeats 3200000 in
set_option maxRecDepth 100000 in
theorem tim_Total : Calls Try.prog 32 #[.agg (cueV c A k B m).toArray] w fun e w' => e = .returned (.tuple #[.int .i64 (totalV c).1, .int .i64 (totalV c).2]) ∧ Ext w w' := by
  have s0 := fun w => run_sel 0 (by omega) w
  have s1 := fun w => run_sel 1 (by omega) w
  have s2 := fun w => run_sel 2 (by omega) w
  have s3 := fun w => run_sel 3 (by omega) w
  have s4 := fun w => run_sel 4 (by omega) w
  simp only [Int.cast_ofNat_Int] at s0 s1 s2 s3 s4
  have HC := Lib.hid hc
  have hs := hc.pt
  have hl : c.parts.length ≤ maxLen := Nat.le_trans hc.hm hc.hm'
  unfold maxLen at hl
  clear hc
  by_cases hE : cueE c = 0
  · have HP : Hid (∀ t ∈ c.parts, timingE t = 0) := Lib.hid (timesE_ok (partsE_ok hE))
    have HV : Hid (totalV c = (total c.parts, 0)) := Lib.hid (by unfold totalV; rw [if_neg (by omega)])
    have hE' : (cueE c != 0) = false := by simpa using hE
    clear hE
    simp only [cueV]
    go_enter Try.func32, Try.ntmps32
    go_wp2_with (go_at_call 54; refine (cue_Check c A k B m _ (HC.out.mono (by repeat (first | exact Ext.refl _ | assumption | apply Ext.xt | apply Ext.alloc | apply Ext.drew | apply Ext.drewN)))).mono ?_; rintro e w' ⟨rfl, hx⟩; obtain ⟨y, rfl⟩ := hx.get; clear hx)
    go_loopw [5, 18] (fun v i wr => ∃ j : Nat, j ≤ c.parts.length ∧ i = .int .i64 j ∧ v = .int .i64 (total (c.parts.take j)) ∧ Ext (w.alloc (.cells (cueV c A k B m).toArray 38)) wr) (fun _ i _ => c.parts.length - (intOf i).toNat)
    case atStart => exact ⟨0, by omega, rfl, rfl, by repeat (first | exact Ext.refl _ | assumption | apply Ext.xt | apply Ext.alloc | apply Ext.drew | apply Ext.drewN)⟩
    case round =>
      obtain ⟨j, hj, rfl, rfl, hx⟩ := hrel
      obtain ⟨y, rfl⟩ := hx.get
      clear hx
      simp only [cueV]
      by_cases hlt : j < c.parts.length
      · obtain ⟨t, ht⟩ : ∃ t, c.parts[j]? = some t := ⟨_, List.getElem?_eq_getElem hlt⟩
        have HS := Lib.hid (total_step ht)
        obtain ⟨ht1, ht2, ht3, ht4, ht5, ht6⟩ := timing_in (HP.out t (List.mem_of_getElem? ht))
        have htt := total_in (c.parts.take j) (fun x hx => HP.out x (List.mem_of_mem_take hx))
        obtain ⟨b, o, rfl, hc0, hc1, hc2, hc3, hc4, hc5⟩ := hs.row6 (i := j) (by rw [List.getElem?_map, ht]; rfl)
        clear ht hs
        generalize hz : total (c.parts.take j) = z at *
        have HZ := Lib.hid hz
        clear hz
        go_wp2_with (go_at_call 84; refine (tim_selectors _).mono ?_; rintro e w' ⟨rfl, hx⟩; obtain ⟨y, rfl⟩ := hx.get; clear hx)
        refine wp_loop_rounds 6 ?_
        rw [rounds_succ]
        go_wp2
        (refine wp_region_grows (by kernel_rfl) (by kernel_rfl) ?_; (repeat (go_big_quiet_step ((go_at_call 139; exact Calls.grows_same (selectors1 _ _))))); refine wpQuiet_nil ?_; rintro _ ⟨y, rfl⟩)
        go_wp2
        rw [rounds_succ]
        go_wp2
        (refine wp_region_grows (by kernel_rfl) (by kernel_rfl) ?_; (repeat (go_big_quiet_step ((go_at_call 140; exact Calls.grows_same (selectors2 _ _))))); refine wpQuiet_nil ?_; rintro _ ⟨y, rfl⟩)
        go_wp2
        rw [rounds_succ]
        go_wp2
        (refine wp_region_grows (by kernel_rfl) (by kernel_rfl) ?_; (repeat (go_big_quiet_step ((go_at_call 141; exact Calls.grows_same (selectors3 _ _))))); refine wpQuiet_nil ?_; rintro _ ⟨y, rfl⟩)
        go_wp2
        rw [rounds_succ]
        go_wp2
        (refine wp_region_grows (by kernel_rfl) (by kernel_rfl) ?_; (repeat (go_big_quiet_step ((go_at_call 142; exact Calls.grows_same (selectors4 _ _))))); refine wpQuiet_nil ?_; rintro _ ⟨y, rfl⟩)
        go_wp2
        rw [rounds_succ]
        go_wp2
        (refine wp_region_grows (by kernel_rfl) (by kernel_rfl) ?_; (repeat (go_big_quiet_step ((go_at_call 143; exact Calls.grows_same (selectors5 _ _))))); refine wpQuiet_nil ?_; rintro _ ⟨y, rfl⟩)
        go_wp2
        rw [rounds_succ]
        go_wp2
        refine ⟨⟨j + 1, by omega, by go_num, val_i (by rw [HS.out]; unfold most; omega), by repeat (first | exact Ext.refl _ | assumption | apply Ext.xt | apply Ext.alloc | apply Ext.drew | apply Ext.drewN)⟩, by simp [intOf]; omega⟩
      · have HT : Hid (c.parts.take j = c.parts) := Lib.hid (List.take_of_length_le (by omega))
        go_wp2
        go_ret2
        go_light
        refine ⟨ret_ii ?_, by repeat (first | exact Ext.refl _ | assumption | apply Ext.xt | apply Ext.alloc | apply Ext.drew | apply Ext.drewN)⟩
        rw [HV.out, HT.out]
  · have HV : Hid (totalV c = (0, cueE c)) := Lib.hid (by unfold totalV; rw [if_pos hE])
    have hE' : (cueE c != 0) = true := by simpa using hE
    clear hE
    simp only [cueV]
    go_enter Try.func32, Try.ntmps32
    go_wp2_with (go_at_call 54; refine (cue_Check c A k B m _ (HC.out.mono (by repeat (first | exact Ext.refl _ | assumption | apply Ext.xt | apply Ext.alloc | apply Ext.drew | apply Ext.drewN)))).mono ?_; rintro e w' ⟨rfl, hx⟩; obtain ⟨y, rfl⟩ := hx.get; clear hx)
    go_ret2
    go_light
    refine ⟨ret_ii ?_, by repeat (first | exact Ext.refl _ | assumption | apply Ext.xt | apply Ext.alloc | apply Ext.drew | apply Ext.drewN)⟩
    rw [HV.out]
end
end Go.Proofs.Ytgmicckeefoghaa

/-
  A part at a percentage: the reference's.
-/
namespace Go.Proofs.Ytgmicckeefoghaa
open Go.RowKit

/-- A time at a percentage. -/
def scl (v p : Int) : Int := min ((200 * v + p) / (2 * p)) 10000000
def scaleT (t : Timing) (p : Int) : Timing := ⟨scl t.up p, scl t.down p, scl t.pos p, scl t.col p, scl t.beam p, scl t.del p⟩
def scaleV (t : Timing) (p : Int) : Timing × Int := if timingE t ≠ 0 then (emptyT, timingE t) else if p < 1 ∨ 400 < p then (emptyT, 2) else (scaleT t p, 0)

set_option maxHeartbeats 400000 in
theorem r21_scaled (v p : Int) (w : World) (h1 : 0 ≤ v) (h2 : v ≤ 10000000) (h3 : 1 ≤ p) (h4 : p ≤ 400) : Calls Try.prog 85 #[.int .i64 v, .int .i64 p] w fun e w' => e = .returned (.int .i64 (scl v p)) ∧ w = w' := by
  have hp : (2 * p == 0) = false := by rw [beq_eq_false_iff_ne]; omega
  go_enter Try.func85, Try.ntmps85
  go_wp2
  go_ret
  unfold scl
  exact ⟨rfl, rfl⟩

set_option maxHeartbeats 1600000 in
set_option maxRecDepth 100000 in
theorem r21_Scale (t : Timing) (p : Int) (w : World) : Calls Try.prog 35 #[.agg (tmg t).toArray, .int .i64 p] w fun e w' => e = .returned (.tuple #[.agg (tmg (scaleV t p).1).toArray, .int .i64 (scaleV t p).2]) ∧ Ext w w' := by
  by_cases hT : timingE t = 0
  · have hT' : (timingE t != 0) = false := by simpa using hT
    by_cases hp1 : p < 1
    · have HV : Hid (scaleV t p = (emptyT, 2)) := Lib.hid (by unfold scaleV; rw [if_neg (by omega), if_pos (by omega)])
      rw [HV.out]
      clear hT
      simp only [tmg, emptyT]
      go_enter Try.func35, Try.ntmps35
      go_wp2_with (go_at_call 25; refine (r21_Check t _).mono ?_; rintro e w' ⟨rfl, hx⟩; obtain ⟨y, rfl⟩ := hx.get; clear hx)
      exact bodyPost_ret (v := .tuple #[.agg #[.int .i64 0, .int .i64 0, .int .i64 0, .int .i64 0, .int .i64 0, .int .i64 0], .int .i64 2]) (by simp [results, Try.results35, go_sem]) rfl ⟨rfl, by repeat (first | exact Ext.refl _ | assumption | apply Ext.xt | apply Ext.alloc | apply Ext.drew | apply Ext.drewN)⟩
    by_cases hp2 : 400 < p
    · have HV : Hid (scaleV t p = (emptyT, 2)) := Lib.hid (by unfold scaleV; rw [if_neg (by omega), if_pos (by omega)])
      rw [HV.out]
      clear hT
      simp only [tmg, emptyT]
      go_enter Try.func35, Try.ntmps35
      go_wp2_with (go_at_call 25; refine (r21_Check t _).mono ?_; rintro e w' ⟨rfl, hx⟩; obtain ⟨y, rfl⟩ := hx.get; clear hx)
      exact bodyPost_ret (v := .tuple #[.agg #[.int .i64 0, .int .i64 0, .int .i64 0, .int .i64 0, .int .i64 0, .int .i64 0], .int .i64 2]) (by simp [results, Try.results35, go_sem]) rfl ⟨rfl, by repeat (first | exact Ext.refl _ | assumption | apply Ext.xt | apply Ext.alloc | apply Ext.drew | apply Ext.drewN)⟩
    have HV : Hid (scaleV t p = (scaleT t p, 0)) := Lib.hid (by unfold scaleV; rw [if_neg (by omega), if_neg (by omega)])
    rw [HV.out]
    obtain ⟨⟨u1, u2⟩, ⟨d1, d2⟩, ⟨p1, p2⟩, ⟨c1, c2⟩, ⟨b1, b2⟩, ⟨e1, e2⟩⟩ := timing_in hT
    clear hT
    have hq1 : 1 ≤ p := by omega
    have hq2 : p ≤ 400 := by omega
    simp only [tmg, scaleT]
    go_enter Try.func35, Try.ntmps35
    go_wp2_with (go_at_call 25; refine (r21_Check t _).mono ?_; rintro e w' ⟨rfl, hx⟩; obtain ⟨y, rfl⟩ := hx.get; clear hx)
    (refine wp_region_tail 25 (by kernel_rfl) (by kernel_rfl) ?_; simp only [List.take_succ_cons, List.take_zero, List.drop_succ_cons, List.drop_zero]; (repeat (go_big_quiet_step ((go_at_call 85; exact Calls.grows_same (r21_scaled _ p _ (by assumption) (by assumption) hq1 hq2))))); refine wpQuiet_nil ?_; rintro _ ⟨y, rfl⟩)
    go_wp2
    exact bodyPost_ret (v := .tuple #[.agg #[.int .i64 (scl t.up p), .int .i64 (scl t.down p), .int .i64 (scl t.pos p), .int .i64 (scl t.col p), .int .i64 (scl t.beam p), .int .i64 (scl t.del p)], .int .i64 0]) (by simp [results, Try.results35, go_sem]) rfl ⟨rfl, by repeat (first | exact Ext.refl _ | assumption | apply Ext.xt | apply Ext.alloc | apply Ext.drew | apply Ext.drewN)⟩
  · have hT' : (timingE t != 0) = true := by simpa using hT
    have HV : Hid (scaleV t p = (emptyT, timingE t)) := Lib.hid (by unfold scaleV; rw [if_pos hT])
    rw [HV.out]
    clear hT
    simp only [tmg, emptyT]
    go_enter Try.func35, Try.ntmps35
    go_wp2_with (go_at_call 25; refine (r21_Check t _).mono ?_; rintro e w' ⟨rfl, hx⟩; obtain ⟨y, rfl⟩ := hx.get; clear hx)
    exact bodyPost_ret (v := .tuple #[.agg #[.int .i64 0, .int .i64 0, .int .i64 0, .int .i64 0, .int .i64 0, .int .i64 0], .int .i64 (timingE t)]) (by simp [results, Try.results35, go_sem]) rfl ⟨rfl, by repeat (first | exact Ext.refl _ | assumption | apply Ext.xt | apply Ext.alloc | apply Ext.drew | apply Ext.drewN)⟩
end Go.Proofs.Ytgmicckeefoghaa
