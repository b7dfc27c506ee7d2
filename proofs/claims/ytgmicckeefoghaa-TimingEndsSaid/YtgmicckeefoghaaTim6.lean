/-
  The delay and the time of a parameter in a cue.
-/
import Derived.Test.YtgmicckeefoghaaTim5
namespace Go.Proofs.Ytgmicckeefoghaa
open Go.RowKit

theorem ret_iii {a b x y u v : Int} (h : (a, x, u) = (b, y, v)) : Ending.returned (.tuple #[.int .i64 a, .int .i64 x, .int .i64 u]) = .returned (.tuple #[.int .i64 b, .int .i64 y, .int .i64 v]) := by
  injection h with h1 h2; injection h2 with h2 h3; rw [h1, h2, h3]
theorem timesE_ok {l : List Timing} (h : timesE l = 0) (t : Timing) (ht : t ∈ l) : timingE t = 0 := by
  unfold timesE at h
  unfold timingE
  grind
theorem partsE_ok {c : Cue} (h : cueE c = 0) : timesE c.parts = 0 := by
  have := (cueE_ok h).2.2.2.1
  unfold partsE at this
  grind
/-- Where the times of a parameter lie. -/
theorem part_at {c : Cue} (h : cueE c = 0) (p : Param) : ∃ (j : Nat) (t : Timing), inV c.moves p = (j : Int) + 1 ∧ c.parts[j]? = some t ∧ partOf c p = t ∧ timingE t = 0 := by
  obtain ⟨h1, h2, _, _⟩ := part_range h p
  obtain ⟨j, hj⟩ : ∃ j : Nat, inV c.moves p = (j : Int) + 1 := ⟨(inV c.moves p - 1).toNat, by omega⟩
  have hlt : j < c.parts.length := by omega
  refine ⟨j, c.parts[j], hj, List.getElem?_eq_getElem hlt, ?_, timesE_ok (partsE_ok h) _ (List.getElem_mem hlt)⟩
  unfold partOf
  rw [hj, show ((j : Int) + 1).toNat - 1 = j by omega, List.getElem?_eq_getElem hlt]
  rfl
theorem givenE_ok {c : Cue} {p : Param} (h : givenE c p = 0) : cueE c = 0 ∧ paramE p = 0 := by unfold givenE at h; grind
theorem paramE_attr {p : Param} (h : paramE p = 0) : attrE p.attr = 0 := by unfold paramE at h; unfold attrE; grind

theorem kept {W w' : World} (h : Ext W w') : (∀ q, (W.cell? q).isSome = true → w'.cell? q = W.cell? q) ∧ Ext W w' := ⟨fun q hq => by
  obtain ⟨v, hv⟩ := Option.isSome_iff_exists.1 hq
  rw [hv, h.cell hv], h⟩

section
variable (c : Cue) (A : Option Addr) (k : Nat) (B : Option Addr) (m : Nat) (p : Param) (r : Bool) (w : World) (hc : CueAt w c A k B m)
include hc
set_option maxHeartbeats 800000 in
theorem tim_Of : Calls Try.prog 30 #[.agg (cueV c A k B m).toArray, .agg (prm p).toArray, .bool r] w fun e w' => e = .returned (.tuple #[.int .i64 (ofV c p r).1, .int .i64 (ofV c p r).2.1, .int .i64 (ofV c p r).2.2]) ∧ Ext w w' := by
  have HC := Lib.hid hc
  by_cases hE : givenE c p = 0
  · obtain ⟨hE1, hE2⟩ := givenE_ok hE
    obtain ⟨j, t, hj, ht, hpt, hte⟩ := part_at hE1 p
    have h1 : (partV c p).1 = (j : Int) + 1 := by unfold partV; simp [hE, hj]
    have h2 : (partV c p).2 = 0 := by unfold partV; simp [hE]
    have h3 : (timeV t p.attr r).1 = taken t p.attr r := by unfold timeV; simp [hte, paramE_attr hE2]
    have h4 : (timeV t p.attr r).2 = 0 := by unfold timeV; simp [hte, paramE_attr hE2]
    have HV : Hid (ofV c p r = (t.del, taken t p.attr r, 0)) := Lib.hid (by unfold ofV; rw [if_neg (by omega), hpt])
    obtain ⟨b', o, rfl, hc0, hc1, hc2, hc3, hc4, hc5⟩ := hc.pt.row6 (i := j) (by rw [List.getElem?_map, ht]; rfl)
    have hlt : j < c.parts.length := (List.getElem?_eq_some_iff.1 ht).1
    have hb0 : (0 : Int) ≤ (j : Int) := by omega
    have hb1 : (j : Int) < (c.parts.length : Int) := by omega
    have hb2 : (j : Int) < 100 := by have := (part_range hE1 p).2.2.1; omega
    clear hc hE hE1 hE2 hj ht hpt hte
    simp only [cueV, prm]
    go_enter Try.func30, Try.ntmps30
    go_wp2_with (first | (go_at_call 28; refine (tim_Part c A k _ m p _ (HC.out.mono (by repeat (first | exact Ext.refl _ | assumption | apply Ext.xt | apply Ext.alloc | apply Ext.drew | apply Ext.drewN)))).mono ?_; rintro e w' ⟨rfl, hx⟩; obtain ⟨y, rfl⟩ := hx.get; clear hx) | (go_at_call 22; refine (tim_Time t p.attr r _).mono ?_; rintro e w' ⟨rfl, hx⟩; obtain ⟨y, rfl⟩ := hx.get; clear hx))
    go_ret3
    go_light
    refine ⟨ret_iii ?_, by repeat (first | exact Ext.refl _ | assumption | apply Ext.xt | apply Ext.alloc | apply Ext.drew | apply Ext.drewN)⟩
    rw [HV.out]
  · have h2 : (partV c p).2 = givenE c p := by unfold partV; simp [hE]
    have hE' : (givenE c p != 0) = true := by simpa using hE
    have HV : Hid (ofV c p r = (0, 0, givenE c p)) := Lib.hid (by unfold ofV; rw [if_pos hE])
    clear hc hE
    simp only [cueV, prm]
    go_enter Try.func30, Try.ntmps30
    go_wp2_with (first | (go_at_call 28; refine (tim_Part c A k B m p _ (HC.out.mono (by repeat (first | exact Ext.refl _ | assumption | apply Ext.xt | apply Ext.alloc | apply Ext.drew | apply Ext.drewN)))).mono ?_; rintro e w' ⟨rfl, hx⟩; obtain ⟨y, rfl⟩ := hx.get; clear hx))
    go_ret3
    go_light
    refine ⟨ret_iii ?_, by repeat (first | exact Ext.refl _ | assumption | apply Ext.xt | apply Ext.alloc | apply Ext.drew | apply Ext.drewN)⟩
    rw [HV.out]
set_option maxHeartbeats 1600000 in
theorem r21_Timed (hE1 : cueE c = 0) : Calls Try.prog 83 #[.agg (cueV c A k B m).toArray, .agg (prm p).toArray, .bool r] w fun e w' => e = .returned (.tuple #[.int .i64 (partOf c p).del, .int .i64 (taken (partOf c p) p.attr r)]) ∧ Ext w w' := by
  have HC := Lib.hid hc
  obtain ⟨j, t, hj, ht, hpt, hte⟩ := part_at hE1 p
  have HV := Lib.hid hpt
  obtain ⟨b', o, rfl, hc0, hc1, hc2, hc3, hc4, hc5⟩ := hc.pt.row6 (i := j) (by rw [List.getElem?_map, ht]; rfl)
  have hlt : j < c.parts.length := (List.getElem?_eq_some_iff.1 ht).1
  have hb0 : (0 : Int) ≤ (j : Int) := by omega
  have hb1 : (j : Int) < (c.parts.length : Int) := by omega
  have hb2 : (j : Int) < 100 := by have := (part_range hE1 p).2.2.1; omega
  have hw2 : RowKit.wrap64 (j : Int) = j := by unfold RowKit.wrap64; omega
  have hw1 : IntKind.i64.wrap (j : Int) = j := by rw [IntKind.wrap_i64]; omega
  clear hc hE1 ht hpt hte
  simp only [cueV, prm]
  go_enter Try.func83, Try.ntmps83
  go_wp2
  go_region_held3 (fun w' => (∀ q, (((w.alloc (.cells #[.string c.number, .string c.label, .slice A c.moves.length k, .slice (some ⟨b', o, none⟩) c.parts.length m, .bool c.block, .bool c.mark, .int .i64 c.follow, .string c.link, .int .i64 c.loops] 38)).alloc (.cells #[.int .i64 p.ch, .int .i64 p.attr] 40)).cell? q).isSome = true → w'.cell? q = ((w.alloc (.cells #[.string c.number, .string c.label, .slice A c.moves.length k, .slice (some ⟨b', o, none⟩) c.parts.length m, .bool c.block, .bool c.mark, .int .i64 c.follow, .string c.link, .int .i64 c.loops] 38)).alloc (.cells #[.int .i64 p.ch, .int .i64 p.attr] 40)).cell? q) ∧ Ext ((w.alloc (.cells #[.string c.number, .string c.label, .slice A c.moves.length k, .slice (some ⟨b', o, none⟩) c.parts.length m, .bool c.block, .bool c.mark, .int .i64 c.follow, .string c.link, .int .i64 c.loops] 38)).alloc (.cells #[.int .i64 p.ch, .int .i64 p.attr] 40)) w') ((refine kept ?_; go_split_ands; exact (by repeat (first | exact Ext.refl _ | assumption | apply Ext.xt | apply Ext.alloc | apply Ext.drew | apply Ext.drewN)))) (first | (go_at_call 82; refine (r21_In c A k _ m p _ (HC.out.mono (by repeat (first | exact Ext.refl _ | assumption | apply Ext.xt | apply Ext.alloc | apply Ext.drew | apply Ext.drewN)))).mono ?_; rintro e w' ⟨rfl, hx⟩; obtain ⟨y, rfl⟩ := hx.get; clear hx))
  all_goals
    go_wp2
    (refine wp_region_grows (by kernel_rfl) (by kernel_rfl) ?_; (repeat (go_big_quiet_step ((go_at_call 77; exact Calls.grows (r21_Taken t p.attr r _))))); refine wpQuiet_nil ?_; rintro _ ⟨y, rfl⟩)
    go_wp2
    go_ret2
    go_light
    refine ⟨ret_ii ?_, by repeat (first | exact Ext.refl _ | assumption | apply Ext.xt | apply Ext.alloc | apply Ext.drew | apply Ext.drewN)⟩
    rw [HV.out]
end
end Go.Proofs.Ytgmicckeefoghaa
