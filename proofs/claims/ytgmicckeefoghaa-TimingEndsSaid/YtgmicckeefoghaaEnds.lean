/-
  No parameter of a cue takes longer than its total, and some time of a part has it.
-/
import Derived.Test.YtgmicckeefoghaaChanges
namespace Go.Proofs.Ytgmicckeefoghaa
open Go.RowKit

theorem taken_le (t : Timing) (a : Int) (r : Bool) : taken t a r ≤ most t := by
  unfold taken most
  split
  · split <;> omega
  · split
    · omega
    · split <;> omega
theorem most_is (t : Timing) : ∃ (a : Nat) (r : Bool), a < 15 ∧ taken t a r = most t := by
  have h : most t = t.up ∨ most t = t.down ∨ most t = t.pos ∨ most t = t.col ∨ most t = t.beam := by unfold most; omega
  rcases h with h | h | h | h | h
  · exact ⟨0, true, by omega, by rw [h]; rfl⟩
  · exact ⟨0, false, by omega, by rw [h]; rfl⟩
  · exact ⟨1, true, by omega, by rw [h]; rfl⟩
  · exact ⟨3, true, by omega, by rw [h]; rfl⟩
  · exact ⟨11, true, by omega, by rw [h]; rfl⟩
theorem total_ge_aux : ∀ (l : List Timing) (a : Int), a ≤ l.foldl (fun m t => max m (t.del + most t)) a ∧ ∀ t ∈ l, t.del + most t ≤ l.foldl (fun m t => max m (t.del + most t)) a
  | [], a => ⟨Int.le_refl _, by simp⟩
  | x :: l, a => by
    obtain ⟨h1, h2⟩ := total_ge_aux l (max a (x.del + most x))
    simp only [List.foldl_cons]
    refine ⟨by omega, fun t ht => ?_⟩
    rcases List.mem_cons.1 ht with rfl | ht
    · omega
    · exact h2 t ht
theorem total_ge (l : List Timing) (t : Timing) (h : t ∈ l) : t.del + most t ≤ total l := (total_ge_aux l 0).2 t h
theorem total_is_aux : ∀ (l : List Timing) (a : Int), l.foldl (fun m t => max m (t.del + most t)) a = a ∨ ∃ t ∈ l, l.foldl (fun m t => max m (t.del + most t)) a = t.del + most t
  | [], _ => .inl rfl
  | x :: l, a => by
    simp only [List.foldl_cons]
    rcases total_is_aux l (max a (x.del + most x)) with h | ⟨t, ht, h⟩
    · by_cases hx : a ≤ x.del + most x
      · exact .inr ⟨x, by simp, by rw [h]; omega⟩
      · exact .inl (by rw [h]; omega)
    · exact .inr ⟨t, by simp [ht], h⟩
theorem total_is {l : List Timing} (h0 : l ≠ []) (hp : ∀ t ∈ l, timingE t = 0) : ∃ t ∈ l, total l = t.del + most t := by
  rcases total_is_aux l 0 with h | h
  · obtain ⟨t, ht⟩ := List.exists_mem_of_ne_nil l h0
    refine ⟨t, ht, ?_⟩
    have h1 := total_ge l t ht
    have h2 := timing_in (hp t ht)
    unfold total at *
    rw [h] at h1 ⊢
    unfold most at *
    omega
  · exact h
theorem taken_in {t : Timing} (h : timingE t = 0) (a : Int) (r : Bool) : 0 ≤ taken t a r ∧ taken t a r ≤ 10000000 := by
  have := timing_in h
  unfold taken
  split
  · split <;> omega
  · split
    · omega
    · split <;> omega
/-- Some time of a part, for one of the first attributes, is the total. -/
def hitA (t : Timing) (T : Int) (n : Nat) : Bool := (List.range n).any fun a => decide (t.del + taken t a false = T) || decide (t.del + taken t a true = T)
def hitP (l : List Timing) (T : Int) : Bool := l.any fun t => hitA t T 15
theorem hitA_succ (t : Timing) (T : Int) (n : Nat) : hitA t T (n + 1) = (hitA t T n || (decide (t.del + taken t n false = T) || decide (t.del + taken t n true = T))) := by
  unfold hitA; rw [List.range_succ, List.any_append]; simp
theorem hitP_step {l : List Timing} {j : Nat} {t : Timing} (h : l[j]? = some t) (T : Int) : hitP (l.take (j + 1)) T = (hitP (l.take j) T || hitA t T 15) := by
  obtain ⟨hk, hx⟩ := List.getElem?_eq_some_iff.1 h
  unfold hitP
  rw [List.take_succ_eq_append_getElem hk, List.any_append, hx]; simp
theorem hit_all {l : List Timing} (h0 : l ≠ []) (hp : ∀ t ∈ l, timingE t = 0) : hitP l (total l) = true := by
  obtain ⟨t, ht, he⟩ := total_is h0 hp
  obtain ⟨a, r, ha, hr⟩ := most_is t
  unfold hitP hitA
  rw [List.any_eq_true]
  refine ⟨t, ht, ?_⟩
  rw [List.any_eq_true]
  refine ⟨a, List.mem_range.2 ha, ?_⟩
  rw [he, ← hr]
  cases r <;> simp

set_option maxHeartbeats 3200000 in
set_option maxRecDepth 100000 in
theorem l21_TimingEnds (c : Cue) (A : Option Addr) (k : Nat) (B : Option Addr) (m : Nat) (p : Param) (w : World) (hc : CueAt w c A k B m) : Calls Try.prog 6 #[.agg (cueV c A k B m).toArray, .agg (prm p).toArray] w fun e w' => e = .returned (.bool true) ∧ Ext w w' := by
  have HC := Lib.hid hc
  have hpt := hc.pt
  clear hc
  simp only [cueV, prm]
  by_cases hG : goodB c = true ∧ paramE p = 0
  · obtain ⟨hg, hp⟩ := hG
    have hE : cueE c = 0 := goodB_ok hg
    have HP := Lib.hid (timesE_ok (partsE_ok hE))
    have hl := parts_len hE
    have hr := part_range hE p
    obtain ⟨j0, t0, hj0, ht0, hpo, hti⟩ := part_at hE p
    have hb0 := total_ge c.parts t0 (List.mem_of_getElem? ht0)
    have HH := Lib.hid (hit_all (by intro e; rw [e] at hl; simp at hl) HP.out)
    have hT := total_in c.parts HP.out
    have v1 : (totalV c).1 = total c.parts := by unfold totalV; simp [hE]
    have v2 : (totalV c).2 = 0 := by unfold totalV; simp [hE]
    have o1 : (ofV c p false).1 = t0.del := by rw [ofV_ok hE hp, hpo]
    have o2 : (ofV c p false).2.1 = taken t0 p.attr false := by rw [ofV_ok hE hp, hpo]
    have o3 : (ofV c p false).2.2 = 0 := by rw [ofV_ok hE hp]
    have q1 : (ofV c p true).1 = t0.del := by rw [ofV_ok hE hp, hpo]
    have q2 : (ofV c p true).2.1 = taken t0 p.attr true := by rw [ofV_ok hE hp, hpo]
    have q3 : (ofV c p true).2.2 = 0 := by rw [ofV_ok hE hp]
    have hi := timing_in hti
    obtain ⟨-, -, -, -, -, hd1, hd2⟩ := hi
    have b1 := taken_in hti p.attr false
    have b2 := taken_in hti p.attr true
    have b3 := taken_le t0 p.attr false
    have b4 := taken_le t0 p.attr true
    have b5 : t0.del + taken t0 p.attr false ≤ total c.parts := by omega
    have b6 : t0.del + taken t0 p.attr true ≤ total c.parts := by omega
    obtain ⟨b11, b12⟩ := b1
    obtain ⟨b21, b22⟩ := b2
    obtain ⟨hT1, hT2⟩ := hT
    have hp' : (paramE p != 0) = false := by simpa using hp
    have hl1 := hl.2
    clear hE hp hr hj0 ht0 hpo hti b3 b4 hb0 hl
    go_enter Try.func6, Try.ntmps6
    go_wp2_with (first
      | (go_at_call 36; refine (l21_good c A k B m _ (HC.out.mono (by repeat (first | exact Ext.refl _ | assumption | apply Ext.xt | apply Ext.alloc | apply Ext.drew | apply Ext.drewN)))).mono ?_; rintro e w' ⟨rfl, hx⟩; obtain ⟨y, rfl⟩ := hx.get; clear hx)
      | (go_at_call 37; refine (r15_Param p _).mono ?_; rintro e w' ⟨rfl, hx⟩; obtain ⟨y, rfl⟩ := hx.get; clear hx)
      | (go_at_call 32; refine (tim_Total c A k B m _ (HC.out.mono (by repeat (first | exact Ext.refl _ | assumption | apply Ext.xt | apply Ext.alloc | apply Ext.drew | apply Ext.drewN)))).mono ?_; rintro e w' ⟨rfl, hx⟩; obtain ⟨y, rfl⟩ := hx.get; clear hx))
    refine wp_loop_rounds 3 ?_
    rw [rounds_succ]
    go_wp2_with (go_at_call 30; refine (tim_Of c A k B m p _ _ (HC.out.mono (by repeat (first | exact Ext.refl _ | assumption | apply Ext.xt | apply Ext.alloc | apply Ext.drew | apply Ext.drewN)))).mono ?_; rintro e w' ⟨rfl, hx⟩; obtain ⟨y, rfl⟩ := hx.get; clear hx)
    rw [rounds_succ]
    go_wp2_with (go_at_call 30; refine (tim_Of c A k B m p _ _ (HC.out.mono (by repeat (first | exact Ext.refl _ | assumption | apply Ext.xt | apply Ext.alloc | apply Ext.drew | apply Ext.drewN)))).mono ?_; rintro e w' ⟨rfl, hx⟩; obtain ⟨y, rfl⟩ := hx.get; clear hx)
    rw [rounds_succ]
    go_wp2
    go_loopw [12, 71] (fun r i wr => ∃ j : Nat, j ≤ c.parts.length ∧ i = .int .i64 j ∧ r = .bool (hitP (c.parts.take j) (total c.parts)) ∧ Ext ((w.alloc (.cells #[.string c.number, .string c.label, .slice A c.moves.length k, .slice B c.parts.length m, .bool c.block, .bool c.mark, .int .i64 c.follow, .string c.link, .int .i64 c.loops] 38)).alloc (.cells #[.int .i64 p.ch, .int .i64 p.attr] 40)) wr) (fun _ i _ => c.parts.length - (intOf i).toNat)
    case atStart => exact ⟨0, by omega, rfl, rfl, by repeat (first | exact Ext.refl _ | assumption | apply Ext.xt | apply Ext.alloc | apply Ext.drew | apply Ext.drewN)⟩
    case round =>
      obtain ⟨j, hj, rfl, rfl, hx⟩ := hrel
      obtain ⟨y, rfl⟩ := hx.get
      clear hx
      by_cases hlt : j < c.parts.length
      · obtain ⟨t, ht⟩ : ∃ t, c.parts[j]? = some t := ⟨_, List.getElem?_eq_getElem hlt⟩
        have HS := Lib.hid (hitP_step ht (total c.parts))
        have hto := HP.out t (List.mem_of_getElem? ht)
        have HTO := Lib.hid hto
        have hge := total_ge c.parts t (List.mem_of_getElem? ht)
        have hi := timing_in hto
        obtain ⟨-, -, -, -, -, he1, he2⟩ := hi
        obtain ⟨b, o, rfl, hc0, hc1, hc2, hc3, hc4, hc5⟩ := hpt.row6 (i := j) (by rw [List.getElem?_map, ht]; rfl)
        have hb0 : (0 : Int) ≤ (j : Int) := by omega
        have hb1 : (j : Int) < (c.parts.length : Int) := by omega
        clear ht hpt hto
        generalize hitP (c.parts.take j) (total c.parts) = bp at HS
        go_wp2
        go_loopw [12, 75] (fun r i wr => ∃ q : Nat, q ≤ 15 ∧ i = .int .i64 q ∧ r = .bool (bp || hitA t (total c.parts) q) ∧ Ext ((xt ((w.alloc (.cells #[.string c.number, .string c.label, .slice A c.moves.length k, .slice (some ⟨b, o, none⟩) c.parts.length m, .bool c.block, .bool c.mark, .int .i64 c.follow, .string c.link, .int .i64 c.loops] 38)).alloc (.cells #[.int .i64 p.ch, .int .i64 p.attr] 40)) y).alloc (.cells #[.int .i64 t.up, .int .i64 t.down, .int .i64 t.pos, .int .i64 t.col, .int .i64 t.beam, .int .i64 t.del] 23)) wr) (fun _ i _ => 15 - (intOf i).toNat)
        case atStart => exact ⟨0, by omega, rfl, by simp [hitA], by repeat (first | exact Ext.refl _ | assumption | apply Ext.xt | apply Ext.alloc | apply Ext.drew | apply Ext.drewN)⟩
        case round =>
          obtain ⟨q, hq, rfl, rfl, hx⟩ := hrel
          obtain ⟨y2, rfl⟩ := hx.get
          clear hx
          by_cases hq15 : q < 15
          · have HA := Lib.hid (hitA_succ t (total c.parts) q)
            have hat : attrE (q : Int) = 0 := by unfold attrE; rw [if_neg (by omega)]
            have u1 : (timeV t q false).1 = taken t q false := by rw [timeV_ok HTO.out hat]
            have u2 : (timeV t q false).2 = 0 := by rw [timeV_ok HTO.out hat]
            have u3 : (timeV t q true).1 = taken t q true := by rw [timeV_ok HTO.out hat]
            have u4 : (timeV t q true).2 = 0 := by rw [timeV_ok HTO.out hat]
            obtain ⟨f1, f2⟩ := taken_in HTO.out q false
            obtain ⟨f3, f4⟩ := taken_in HTO.out q true
            have f5 := taken_le t q false
            have f6 := taken_le t q true
            have f7 : t.del + taken t q false ≤ total c.parts := by omega
            have f8 : t.del + taken t q true ≤ total c.parts := by omega
            clear hat f5 f6
            generalize hitA t (total c.parts) q = ba at HA
            cases hbb : (bp || ba)
            · have HB := Lib.hid hbb
              clear hbb
              by_cases e1 : t.del + taken t q false = total c.parts
              · have E1 := Lib.hid e1
                have e1' : (t.del + taken t q false == total c.parts) = true := by simpa using e1
                clear e1
                go_wp2
                refine wp_loop_rounds 3 ?_
                rw [rounds_succ]
                go_wp2_with (go_at_call 22; refine (tim_Time t q _ _).mono ?_; rintro e w' ⟨rfl, hx⟩; obtain ⟨y, rfl⟩ := hx.get; clear hx)
                rw [rounds_succ]
                go_wp2_with (go_at_call 22; refine (tim_Time t q _ _).mono ?_; rintro e w' ⟨rfl, hx⟩; obtain ⟨y, rfl⟩ := hx.get; clear hx)
                rw [rounds_succ]
                go_wp2
                go_light
                exact ⟨⟨q + 1, by omega, by go_num, by rw [HA.out, decide_eq_true E1.out]; simp, by repeat (first | exact Ext.refl _ | assumption | apply Ext.xt | apply Ext.alloc | apply Ext.drew | apply Ext.drewN)⟩, by simp [intOf]; omega⟩
              · have E1 := Lib.hid e1
                have e1' : (t.del + taken t q false == total c.parts) = false := by simpa using e1
                clear e1
                go_wp2
                refine wp_loop_rounds 3 ?_
                rw [rounds_succ]
                go_wp2_with (go_at_call 22; refine (tim_Time t q _ _).mono ?_; rintro e w' ⟨rfl, hx⟩; obtain ⟨y, rfl⟩ := hx.get; clear hx)
                rw [rounds_succ]
                go_wp2_with (go_at_call 22; refine (tim_Time t q _ _).mono ?_; rintro e w' ⟨rfl, hx⟩; obtain ⟨y, rfl⟩ := hx.get; clear hx)
                rw [rounds_succ]
                go_wp2
                go_light
                refine ⟨⟨q + 1, by omega, by go_num, ?_, by repeat (first | exact Ext.refl _ | assumption | apply Ext.xt | apply Ext.alloc | apply Ext.drew | apply Ext.drewN)⟩, by simp [intOf]; omega⟩
                rw [HA.out, decide_eq_false E1.out, Bool.false_or, ← Bool.or_assoc, HB.out]
                congr 1
            · have HB := Lib.hid hbb
              clear hbb
              go_wp2
              refine wp_loop_rounds 3 ?_
              rw [rounds_succ]
              go_wp2_with (go_at_call 22; refine (tim_Time t q _ _).mono ?_; rintro e w' ⟨rfl, hx⟩; obtain ⟨y, rfl⟩ := hx.get; clear hx)
              rw [rounds_succ]
              go_wp2_with (go_at_call 22; refine (tim_Time t q _ _).mono ?_; rintro e w' ⟨rfl, hx⟩; obtain ⟨y, rfl⟩ := hx.get; clear hx)
              rw [rounds_succ]
              go_wp2
              go_light
              exact ⟨⟨q + 1, by omega, by go_num, by rw [HA.out, ← Bool.or_assoc, HB.out]; simp, by repeat (first | exact Ext.refl _ | assumption | apply Ext.xt | apply Ext.alloc | apply Ext.drew | apply Ext.drewN)⟩, by simp [intOf]; omega⟩
          · obtain rfl : q = 15 := by omega
            have HS' := HS
            go_wp2
            go_light
            exact ⟨⟨j + 1, by omega, by go_num, by rw [HS'.out], by repeat (first | exact Ext.refl _ | assumption | apply Ext.xt | apply Ext.alloc | apply Ext.drew | apply Ext.drewN)⟩, by simp [intOf]; omega⟩
      · have hfull : hitP (c.parts.take j) (total c.parts) = true := by rw [List.take_of_length_le (by omega)]; exact HH.out
        go_wp2_with (go_at_call 26; refine (l21_awake _).mono ?_; rintro e w' ⟨rfl, hx⟩; obtain ⟨y, rfl⟩ := hx.get; clear hx)
        go_ret
        exact ⟨rfl, by repeat (first | exact Ext.refl _ | assumption | apply Ext.xt | apply Ext.alloc | apply Ext.drew | apply Ext.drewN)⟩
  · have HG := Lib.hid hG
    clear hG
    go_enter Try.func6, Try.ntmps6
    go_wp2_with (first
      | (go_at_call 36; refine (l21_good c A k B m _ (HC.out.mono (by repeat (first | exact Ext.refl _ | assumption | apply Ext.xt | apply Ext.alloc | apply Ext.drew | apply Ext.drewN)))).mono ?_; rintro e w' ⟨rfl, hx⟩; obtain ⟨y, rfl⟩ := hx.get; clear hx)
      | (go_at_call 37; refine (r15_Param p _).mono ?_; rintro e w' ⟨rfl, hx⟩; obtain ⟨y, rfl⟩ := hx.get; clear hx)
      | (go_at_call 26; refine (l21_awake _).mono ?_; rintro e w' ⟨rfl, hx⟩; obtain ⟨y, rfl⟩ := hx.get; clear hx))
    all_goals first
      | (go_ret; exact ⟨rfl, by repeat (first | exact Ext.refl _ | assumption | apply Ext.xt | apply Ext.alloc | apply Ext.drew | apply Ext.drewN)⟩)
      | exact absurd ⟨by assumption, by simpa using ‹(paramE p != 0) = false›⟩ HG.out
end Go.Proofs.Ytgmicckeefoghaa
