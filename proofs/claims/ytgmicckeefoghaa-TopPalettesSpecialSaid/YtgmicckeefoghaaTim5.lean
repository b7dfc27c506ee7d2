/-
  The part of a parameter in a cue, and its delay and time: the reference's and the program's.
-/
import Derived.Test.YtgmicckeefoghaaTim4
namespace Go.Proofs.Ytgmicckeefoghaa
open Go.RowKit

theorem place_in (l : List Move) (p : Param) : (placeV l p = -1 ∧ inV l p = 1) ∨ ∃ (i : Nat) (m : Move), placeV l p = (i : Int) ∧ l[i]? = some m ∧ inV l p = m.part := by
  unfold placeV inV
  cases h : l.findIdx? (fun m => decide (m.p = p)) with
  | none =>
    left
    rw [List.findIdx?_eq_none_iff] at h
    rw [List.find?_eq_none.2 (fun m hm => by simpa using h m hm)]
    exact ⟨rfl, rfl⟩
  | some i =>
    right
    obtain ⟨hlt, hp, hj⟩ := List.findIdx?_eq_some_iff_getElem.1 h
    refine ⟨i, l[i], rfl, List.getElem?_eq_getElem hlt, ?_⟩
    rw [show l.find? (fun m => decide (m.p = p)) = some l[i] from List.find?_eq_some_iff_getElem.2 ⟨hp, i, hlt, rfl, fun j hj' => by simpa using hj j hj'⟩]

section
variable (c : Cue) (A : Option Addr) (k : Nat) (B : Option Addr) (m : Nat) (p : Param) (w : World) (hc : CueAt w c A k B m)
include hc
set_option maxHeartbeats 800000 in
theorem r21_In : Calls Try.prog 82 #[.agg (cueV c A k B m).toArray, .agg (prm p).toArray] w fun e w' => e = .returned (.int .i64 (inV c.moves p)) ∧ Ext w w' := by
  have hmv := hc.mv
  have HL := Lib.hid (Nat.le_trans hc.hk hc.hk')
  clear hc
  simp only [cueV, prm]
  rcases place_in c.moves p with ⟨h1, h2⟩ | ⟨i, x, h1, hx, h2⟩
  · go_enter Try.func82, Try.ntmps82
    go_wp2_with (go_at_call 129; refine (r16_Place A k c.moves p _ (hmv.mono (by repeat (first | exact Ext.refl _ | assumption | apply Ext.xt | apply Ext.alloc | apply Ext.drew | apply Ext.drewN))) HL.out).mono ?_; rintro e w' ⟨rfl, hx⟩; obtain ⟨y, rfl⟩ := hx.get; clear hx)
    go_ret
    rw [h2]
    exact ⟨rfl, by repeat (first | exact Ext.refl _ | assumption | apply Ext.xt | apply Ext.alloc | apply Ext.drew | apply Ext.drewN)⟩
  · have HV := Lib.hid hmv
    obtain ⟨b', o, rfl, hc0, hc1, hc2, hc3, hc4⟩ := hmv.row5 (i := i) (by rw [List.getElem?_map, hx]; rfl)
    have hlt : i < c.moves.length := (List.getElem?_eq_some_iff.1 hx).1
    have hb0 : (0 : Int) ≤ (i : Int) := by omega
    have hb1 : (i : Int) < (c.moves.length : Int) := by omega
    clear hmv hx
    go_enter Try.func82, Try.ntmps82
    go_wp2_with (go_at_call 129; refine (r16_Place _ k c.moves p _ (HV.out.mono (by repeat (first | exact Ext.refl _ | assumption | apply Ext.xt | apply Ext.alloc | apply Ext.drew | apply Ext.drewN))) HL.out).mono ?_; rintro e w' ⟨rfl, hx⟩; obtain ⟨y, rfl⟩ := hx.get; clear hx)
    go_ret
    rw [h2]
    exact ⟨rfl, by repeat (first | exact Ext.refl _ | assumption | apply Ext.xt | apply Ext.alloc | apply Ext.drew | apply Ext.drewN)⟩
set_option maxHeartbeats 800000 in
theorem r21_given : Calls Try.prog 81 #[.agg (cueV c A k B m).toArray, .agg (prm p).toArray] w fun e w' => e = .returned (.int .i64 (givenE c p)) ∧ Ext w w' := by
  have HC := Lib.hid hc
  clear hc
  simp only [cueV, prm]
  by_cases hE : cueE c = 0
  · have HG : Hid (givenE c p = paramE p) := Lib.hid (by unfold givenE; rw [if_neg (by omega)])
    have hE' : (cueE c != 0) = false := by simpa using hE
    clear hE
    go_enter Try.func81, Try.ntmps81
    go_wp2_with (first | (go_at_call 53; refine (r16_Check c A k B m _ (HC.out.mono (by repeat (first | exact Ext.refl _ | assumption | apply Ext.xt | apply Ext.alloc | apply Ext.drew | apply Ext.drewN)))).mono ?_; rintro e w' ⟨rfl, hx⟩; obtain ⟨y, rfl⟩ := hx.get; clear hx) | (go_at_call 37; refine (r15_Param p _).mono ?_; rintro e w' ⟨rfl, hx⟩; obtain ⟨y, rfl⟩ := hx.get; clear hx))
    go_ret
    rw [HG.out]
    exact ⟨rfl, by repeat (first | exact Ext.refl _ | assumption | apply Ext.xt | apply Ext.alloc | apply Ext.drew | apply Ext.drewN)⟩
  · have HG : Hid (givenE c p = cueE c) := Lib.hid (by unfold givenE; rw [if_pos hE])
    have hE' : (cueE c != 0) = true := by simpa using hE
    clear hE
    go_enter Try.func81, Try.ntmps81
    go_wp2_with (first | (go_at_call 53; refine (r16_Check c A k B m _ (HC.out.mono (by repeat (first | exact Ext.refl _ | assumption | apply Ext.xt | apply Ext.alloc | apply Ext.drew | apply Ext.drewN)))).mono ?_; rintro e w' ⟨rfl, hx⟩; obtain ⟨y, rfl⟩ := hx.get; clear hx) | (go_at_call 37; refine (r15_Param p _).mono ?_; rintro e w' ⟨rfl, hx⟩; obtain ⟨y, rfl⟩ := hx.get; clear hx))
    go_ret
    rw [HG.out]
    exact ⟨rfl, by repeat (first | exact Ext.refl _ | assumption | apply Ext.xt | apply Ext.alloc | apply Ext.drew | apply Ext.drewN)⟩
set_option maxHeartbeats 800000 in
theorem r21_Part : Calls Try.prog 29 #[.agg (cueV c A k B m).toArray, .agg (prm p).toArray] w fun e w' => e = .returned (.tuple #[.int .i64 (partV c p).1, .int .i64 (partV c p).2]) ∧ Ext w w' := by
  have HC := Lib.hid hc
  clear hc
  simp only [cueV, prm]
  by_cases hE : givenE c p = 0
  · have HG : Hid (partV c p = (inV c.moves p, 0)) := Lib.hid (by unfold partV; rw [if_neg (by omega)])
    have hE' : (givenE c p != 0) = false := by simpa using hE
    clear hE
    go_enter Try.func29, Try.ntmps29
    go_wp2_with (first | (go_at_call 81; refine (r21_given c A k B m p _ (HC.out.mono (by repeat (first | exact Ext.refl _ | assumption | apply Ext.xt | apply Ext.alloc | apply Ext.drew | apply Ext.drewN)))).mono ?_; rintro e w' ⟨rfl, hx⟩; obtain ⟨y, rfl⟩ := hx.get; clear hx) | (go_at_call 82; refine (r21_In c A k B m p _ (HC.out.mono (by repeat (first | exact Ext.refl _ | assumption | apply Ext.xt | apply Ext.alloc | apply Ext.drew | apply Ext.drewN)))).mono ?_; rintro e w' ⟨rfl, hx⟩; obtain ⟨y, rfl⟩ := hx.get; clear hx))
    go_ret2
    go_light
    refine ⟨ret_ii ?_, by repeat (first | exact Ext.refl _ | assumption | apply Ext.xt | apply Ext.alloc | apply Ext.drew | apply Ext.drewN)⟩
    rw [HG.out]
  · have HG : Hid (partV c p = (0, givenE c p)) := Lib.hid (by unfold partV; rw [if_pos hE])
    have hE' : (givenE c p != 0) = true := by simpa using hE
    clear hE
    go_enter Try.func29, Try.ntmps29
    go_wp2_with (first | (go_at_call 81; refine (r21_given c A k B m p _ (HC.out.mono (by repeat (first | exact Ext.refl _ | assumption | apply Ext.xt | apply Ext.alloc | apply Ext.drew | apply Ext.drewN)))).mono ?_; rintro e w' ⟨rfl, hx⟩; obtain ⟨y, rfl⟩ := hx.get; clear hx) | (go_at_call 82; refine (r21_In c A k B m p _ (HC.out.mono (by repeat (first | exact Ext.refl _ | assumption | apply Ext.xt | apply Ext.alloc | apply Ext.drew | apply Ext.drewN)))).mono ?_; rintro e w' ⟨rfl, hx⟩; obtain ⟨y, rfl⟩ := hx.get; clear hx))
    go_ret2
    go_light
    refine ⟨ret_ii ?_, by repeat (first | exact Ext.refl _ | assumption | apply Ext.xt | apply Ext.alloc | apply Ext.drew | apply Ext.drewN)⟩
    rw [HG.out]
set_option maxHeartbeats 800000 in
theorem tim_Part : Calls Try.prog 28 #[.agg (cueV c A k B m).toArray, .agg (prm p).toArray] w fun e w' => e = .returned (.tuple #[.int .i64 (partV c p).1, .int .i64 (partV c p).2]) ∧ Ext w w' := by
  have HC := Lib.hid hc
  by_cases hE : givenE c p = 0
  · have hE1 : cueE c = 0 := by unfold givenE at hE; grind
    have hE2 : paramE p = 0 := by unfold givenE at hE; grind
    have hs := (movesE_scan (cueE_ok hE1).2.2.1).2
    have HG : Hid (partV c p = (inV c.moves p, 0)) := Lib.hid (by unfold partV; rw [if_neg (by omega)])
    cases hf : foundP c.moves p with
    | false =>
      have HI : Hid (inV c.moves p = 1) := Lib.hid (by unfold inV; rw [(found_iff hs p).2 hf])
      have h1 : (findV c p).1 = 0 := by unfold findV; simp [hE1, hE2, hf]
      have h2 : (findV c p).2.1 = false := by unfold findV; simp [hE1, hE2, hf]
      have h3 : (findV c p).2.2 = 0 := by unfold findV; simp [hE1, hE2, hf]
      clear hc hE hE1 hE2 hs hf
      simp only [cueV, prm]
      go_enter Try.func28, Try.ntmps28
      go_wp2_with (first | (go_at_call 62; refine (cue_Find c A k B m p _ (HC.out.mono (by repeat (first | exact Ext.refl _ | assumption | apply Ext.xt | apply Ext.alloc | apply Ext.drew | apply Ext.drewN)))).mono ?_; rintro e w' ⟨rfl, hx⟩; obtain ⟨y, rfl⟩ := hx.get; clear hx))
      go_ret2
      go_light
      refine ⟨ret_ii ?_, by repeat (first | exact Ext.refl _ | assumption | apply Ext.xt | apply Ext.alloc | apply Ext.drew | apply Ext.drewN)⟩
      rw [HG.out, HI.out]
    | true =>
      obtain ⟨x, hx, hxp, hfi⟩ := (found_iff hs p).1 hf
      have HI : Hid (inV c.moves p = x.part) := Lib.hid (by unfold inV; rw [hfi])
      have h1 : (findV c p).1 = posP c.moves p := by unfold findV; simp [hE1, hE2, hf]
      have h2 : (findV c p).2.1 = true := by unfold findV; simp [hE1, hE2, hf]
      have h3 : (findV c p).2.2 = 0 := by unfold findV; simp [hE1, hE2, hf]
      obtain ⟨b', o, rfl, hc0, hc1, hc2, hc3, hc4⟩ := hc.mv.row5 (i := posP c.moves p) (by rw [List.getElem?_map, hx]; rfl)
      have hlt : posP c.moves p < c.moves.length := (List.getElem?_eq_some_iff.1 hx).1
      have hb0 : (0 : Int) ≤ (posP c.moves p : Int) := by omega
      have hb1 : (posP c.moves p : Int) < (c.moves.length : Int) := by omega
      clear hc hE hE1 hE2 hs hf hx hxp hfi
      simp only [cueV, prm]
      go_enter Try.func28, Try.ntmps28
      go_wp2_with (first | (go_at_call 62; refine (cue_Find c _ k B m p _ (HC.out.mono (by repeat (first | exact Ext.refl _ | assumption | apply Ext.xt | apply Ext.alloc | apply Ext.drew | apply Ext.drewN)))).mono ?_; rintro e w' ⟨rfl, hx⟩; obtain ⟨y, rfl⟩ := hx.get; clear hx))
      go_ret2
      go_light
      refine ⟨ret_ii ?_, by repeat (first | exact Ext.refl _ | assumption | apply Ext.xt | apply Ext.alloc | apply Ext.drew | apply Ext.drewN)⟩
      rw [HG.out, HI.out]
  · have HG : Hid (partV c p = (0, givenE c p)) := Lib.hid (by unfold partV; rw [if_pos hE])
    have h1 : (findV c p).2.2 = givenE c p := by
      unfold findV givenE
      unfold givenE at hE
      by_cases h : cueE c = 0
      · have h2 : paramE p ≠ 0 := by simpa [h] using hE
        simp [h, h2]
      · simp [h]
    have hE' : (givenE c p != 0) = true := by simpa using hE
    clear hc hE
    simp only [cueV, prm]
    go_enter Try.func28, Try.ntmps28
    go_wp2_with (first | (go_at_call 62; refine (cue_Find c A k B m p _ (HC.out.mono (by repeat (first | exact Ext.refl _ | assumption | apply Ext.xt | apply Ext.alloc | apply Ext.drew | apply Ext.drewN)))).mono ?_; rintro e w' ⟨rfl, hx⟩; obtain ⟨y, rfl⟩ := hx.get; clear hx))
    go_ret2
    go_light
    refine ⟨ret_ii ?_, by repeat (first | exact Ext.refl _ | assumption | apply Ext.xt | apply Ext.alloc | apply Ext.drew | apply Ext.drewN)⟩
    rw [HG.out]
end

set_option maxHeartbeats 800000 in
theorem tim_Time (t : Timing) (a : Int) (r : Bool) (w : World) : Calls Try.prog 22 #[.agg (tmg t).toArray, .int .i64 a, .bool r] w fun e w' => e = .returned (.tuple #[.int .i64 (timeV t a r).1, .int .i64 (timeV t a r).2]) ∧ Ext w w' := by
  simp only [tmg]
  by_cases hT : timingE t = 0
  · have hT' : (timingE t != 0) = false := by simpa using hT
    by_cases hA : attrE a = 0
    · have h1 : (classV a).1 = kind a := by unfold classV; simp [hA]
      have h2 : (classV a).2 = 0 := by unfold classV; simp [hA]
      have HV : Hid (timeV t a r = (taken t a r, 0)) := Lib.hid (by unfold timeV; simp [hT, hA])
      have HA := Lib.hid hA
      clear hT hA
      go_enter Try.func22, Try.ntmps22
      go_wp2_with (first | (go_at_call 24; refine (tim_Check t _).mono ?_; rintro e w' ⟨rfl, hx⟩; obtain ⟨y, rfl⟩ := hx.get; clear hx) | (go_at_call 20; refine (tim_Class a _).mono ?_; rintro e w' ⟨rfl, rfl⟩) | (go_at_call 76; refine (tim_taken t a r _ HA.out).mono ?_; rintro e w' ⟨rfl, hx⟩; obtain ⟨y, rfl⟩ := hx.get; clear hx))
      go_ret2
      go_light
      refine ⟨ret_ii ?_, by repeat (first | exact Ext.refl _ | assumption | apply Ext.xt | apply Ext.alloc | apply Ext.drew | apply Ext.drewN)⟩
      rw [HV.out]
    · have h2 : (classV a).2 = attrE a := by unfold classV; simp [hA]
      have hA' : (attrE a != 0) = true := by simpa using hA
      have HV : Hid (timeV t a r = (0, attrE a)) := Lib.hid (by unfold timeV; simp [hT, hA])
      clear hT hA
      go_enter Try.func22, Try.ntmps22
      go_wp2_with (first | (go_at_call 24; refine (tim_Check t _).mono ?_; rintro e w' ⟨rfl, hx⟩; obtain ⟨y, rfl⟩ := hx.get; clear hx) | (go_at_call 20; refine (tim_Class a _).mono ?_; rintro e w' ⟨rfl, rfl⟩))
      go_ret2
      go_light
      refine ⟨ret_ii ?_, by repeat (first | exact Ext.refl _ | assumption | apply Ext.xt | apply Ext.alloc | apply Ext.drew | apply Ext.drewN)⟩
      rw [HV.out]
  · have hT' : (timingE t != 0) = true := by simpa using hT
    have HV : Hid (timeV t a r = (0, timingE t)) := Lib.hid (by unfold timeV; simp [hT])
    clear hT
    go_enter Try.func22, Try.ntmps22
    go_wp2_with (first | (go_at_call 24; refine (tim_Check t _).mono ?_; rintro e w' ⟨rfl, hx⟩; obtain ⟨y, rfl⟩ := hx.get; clear hx) | (go_at_call 20; refine (tim_Class a _).mono ?_; rintro e w' ⟨rfl, rfl⟩))
    go_ret2
    go_light
    refine ⟨ret_ii ?_, by repeat (first | exact Ext.refl _ | assumption | apply Ext.xt | apply Ext.alloc | apply Ext.drew | apply Ext.drewN)⟩
    rw [HV.out]
end Go.Proofs.Ytgmicckeefoghaa

/-
  The delay and the time of a parameter in a cue.
-/
namespace Go.Proofs.Ytgmicckeefoghaa
open Go.RowKit

theorem ret_iii {a b x y u v : Int} (h : (a, x, u) = (b, y, v)) : Ending.returned (.tuple #[.int .i64 a, .int .i64 x, .int .i64 u]) = .returned (.tuple #[.int .i64 b, .int .i64 y, .int .i64 v]) := by
  injection h with h1 h2; injection h2 with h2 h3; rw [h1, h2, h3]
theorem timesE_ok {l : List Timing} (h : timesE l = 0) (t : Timing) (ht : t ∈ l) : timingE t = 0 := by
  unfold timesE at h
  unfold timingE
  grind
theorem partsE_ok {c : Cue} (h : cueE c = 0) : timesE c.parts = 0 := by
  have := (cueE_ok h).2.2.2.1
  unfold partsE at this
  grind
/-- Where the times of a parameter lie. -/
theorem part_at {c : Cue} (h : cueE c = 0) (p : Param) : ∃ (j : Nat) (t : Timing), inV c.moves p = (j : Int) + 1 ∧ c.parts[j]? = some t ∧ partOf c p = t ∧ timingE t = 0 := by
  obtain ⟨h1, h2, _, _⟩ := part_range h p
  obtain ⟨j, hj⟩ : ∃ j : Nat, inV c.moves p = (j : Int) + 1 := ⟨(inV c.moves p - 1).toNat, by omega⟩
  have hlt : j < c.parts.length := by omega
  refine ⟨j, c.parts[j], hj, List.getElem?_eq_getElem hlt, ?_, timesE_ok (partsE_ok h) _ (List.getElem_mem hlt)⟩
  unfold partOf
  rw [hj, show ((j : Int) + 1).toNat - 1 = j by omega, List.getElem?_eq_getElem hlt]
  rfl
theorem givenE_ok {c : Cue} {p : Param} (h : givenE c p = 0) : cueE c = 0 ∧ paramE p = 0 := by unfold givenE at h; grind
theorem paramE_attr {p : Param} (h : paramE p = 0) : attrE p.attr = 0 := by unfold paramE at h; unfold attrE; grind

theorem kept {W w' : World} (h : Ext W w') : (∀ q, (W.cell? q).isSome = true → w'.cell? q = W.cell? q) ∧ Ext W w' := ⟨fun q hq => by
  obtain ⟨v, hv⟩ := Option.isSome_iff_exists.1 hq
  rw [hv, h.cell hv], h⟩

section
variable (c : Cue) (A : Option Addr) (k : Nat) (B : Option Addr) (m : Nat) (p : Param) (r : Bool) (w : World) (hc : CueAt w c A k B m)
include hc
set_option maxHeartbeats 800000 in
theorem tim_Of : Calls Try.prog 30 #[.agg (cueV c A k B m).toArray, .agg (prm p).toArray, .bool r] w fun e w' => e = .returned (.tuple #[.int .i64 (ofV c p r).1, .int .i64 (ofV c p r).2.1, .int .i64 (ofV c p r).2.2]) ∧ Ext w w' := by
  have HC := Lib.hid hc
  by_cases hE : givenE c p = 0
  · obtain ⟨hE1, hE2⟩ := givenE_ok hE
    obtain ⟨j, t, hj, ht, hpt, hte⟩ := part_at hE1 p
    have h1 : (partV c p).1 = (j : Int) + 1 := by unfold partV; simp [hE, hj]
    have h2 : (partV c p).2 = 0 := by unfold partV; simp [hE]
    have h3 : (timeV t p.attr r).1 = taken t p.attr r := by unfold timeV; simp [hte, paramE_attr hE2]
    have h4 : (timeV t p.attr r).2 = 0 := by unfold timeV; simp [hte, paramE_attr hE2]
    have HV : Hid (ofV c p r = (t.del, taken t p.attr r, 0)) := Lib.hid (by unfold ofV; rw [if_neg (by omega), hpt])
    obtain ⟨b', o, rfl, hc0, hc1, hc2, hc3, hc4, hc5⟩ := hc.pt.row6 (i := j) (by rw [List.getElem?_map, ht]; rfl)
    have hlt : j < c.parts.length := (List.getElem?_eq_some_iff.1 ht).1
    have hb0 : (0 : Int) ≤ (j : Int) := by omega
    have hb1 : (j : Int) < (c.parts.length : Int) := by omega
    have hb2 : (j : Int) < 100 := by have := (part_range hE1 p).2.2.1; omega
    clear hc hE hE1 hE2 hj ht hpt hte
    simp only [cueV, prm]
    go_enter Try.func30, Try.ntmps30
    go_wp2_with (first | (go_at_call 28; refine (tim_Part c A k _ m p _ (HC.out.mono (by repeat (first | exact Ext.refl _ | assumption | apply Ext.xt | apply Ext.alloc | apply Ext.drew | apply Ext.drewN)))).mono ?_; rintro e w' ⟨rfl, hx⟩; obtain ⟨y, rfl⟩ := hx.get; clear hx) | (go_at_call 22; refine (tim_Time t p.attr r _).mono ?_; rintro e w' ⟨rfl, hx⟩; obtain ⟨y, rfl⟩ := hx.get; clear hx))
    go_ret3
    go_light
    refine ⟨ret_iii ?_, by repeat (first | exact Ext.refl _ | assumption | apply Ext.xt | apply Ext.alloc | apply Ext.drew | apply Ext.drewN)⟩
    rw [HV.out]
  · have h2 : (partV c p).2 = givenE c p := by unfold partV; simp [hE]
    have hE' : (givenE c p != 0) = true := by simpa using hE
    have HV : Hid (ofV c p r = (0, 0, givenE c p)) := Lib.hid (by unfold ofV; rw [if_pos hE])
    clear hc hE
    simp only [cueV, prm]
    go_enter Try.func30, Try.ntmps30
    go_wp2_with (first | (go_at_call 28; refine (tim_Part c A k B m p _ (HC.out.mono (by repeat (first | exact Ext.refl _ | assumption | apply Ext.xt | apply Ext.alloc | apply Ext.drew | apply Ext.drewN)))).mono ?_; rintro e w' ⟨rfl, hx⟩; obtain ⟨y, rfl⟩ := hx.get; clear hx))
    go_ret3
    go_light
    refine ⟨ret_iii ?_, by repeat (first | exact Ext.refl _ | assumption | apply Ext.xt | apply Ext.alloc | apply Ext.drew | apply Ext.drewN)⟩
    rw [HV.out]
set_option maxHeartbeats 1600000 in
theorem r21_Timed (hE1 : cueE c = 0) : Calls Try.prog 83 #[.agg (cueV c A k B m).toArray, .agg (prm p).toArray, .bool r] w fun e w' => e = .returned (.tuple #[.int .i64 (partOf c p).del, .int .i64 (taken (partOf c p) p.attr r)]) ∧ Ext w w' := by
  have HC := Lib.hid hc
  obtain ⟨j, t, hj, ht, hpt, hte⟩ := part_at hE1 p
  have HV := Lib.hid hpt
  obtain ⟨b', o, rfl, hc0, hc1, hc2, hc3, hc4, hc5⟩ := hc.pt.row6 (i := j) (by rw [List.getElem?_map, ht]; rfl)
  have hlt : j < c.parts.length := (List.getElem?_eq_some_iff.1 ht).1
  have hb0 : (0 : Int) ≤ (j : Int) := by omega
  have hb1 : (j : Int) < (c.parts.length : Int) := by omega
  have hb2 : (j : Int) < 100 := by have := (part_range hE1 p).2.2.1; omega
  have hw2 : RowKit.wrap64 (j : Int) = j := by unfold RowKit.wrap64; omega
  have hw1 : IntKind.i64.wrap (j : Int) = j := by rw [IntKind.wrap_i64]; omega
  clear hc hE1 ht hpt hte
  simp only [cueV, prm]
  go_enter Try.func83, Try.ntmps83
  go_wp2
  go_region_held3 (fun w' => (∀ q, (((w.alloc (.cells #[.string c.number, .string c.label, .slice A c.moves.length k, .slice (some ⟨b', o, none⟩) c.parts.length m, .bool c.block, .bool c.mark, .int .i64 c.follow, .string c.link, .int .i64 c.loops] 38)).alloc (.cells #[.int .i64 p.ch, .int .i64 p.attr] 40)).cell? q).isSome = true → w'.cell? q = ((w.alloc (.cells #[.string c.number, .string c.label, .slice A c.moves.length k, .slice (some ⟨b', o, none⟩) c.parts.length m, .bool c.block, .bool c.mark, .int .i64 c.follow, .string c.link, .int .i64 c.loops] 38)).alloc (.cells #[.int .i64 p.ch, .int .i64 p.attr] 40)).cell? q) ∧ Ext ((w.alloc (.cells #[.string c.number, .string c.label, .slice A c.moves.length k, .slice (some ⟨b', o, none⟩) c.parts.length m, .bool c.block, .bool c.mark, .int .i64 c.follow, .string c.link, .int .i64 c.loops] 38)).alloc (.cells #[.int .i64 p.ch, .int .i64 p.attr] 40)) w') ((refine kept ?_; go_split_ands; exact (by repeat (first | exact Ext.refl _ | assumption | apply Ext.xt | apply Ext.alloc | apply Ext.drew | apply Ext.drewN)))) (first | (go_at_call 82; refine (r21_In c A k _ m p _ (HC.out.mono (by repeat (first | exact Ext.refl _ | assumption | apply Ext.xt | apply Ext.alloc | apply Ext.drew | apply Ext.drewN)))).mono ?_; rintro e w' ⟨rfl, hx⟩; obtain ⟨y, rfl⟩ := hx.get; clear hx))
  all_goals
    go_wp2
    (refine wp_region_grows (by kernel_rfl) (by kernel_rfl) ?_; (repeat (go_big_quiet_step ((go_at_call 77; exact Calls.grows (r21_Taken t p.attr r _))))); refine wpQuiet_nil ?_; rintro _ ⟨y, rfl⟩)
    go_wp2
    go_ret2
    go_light
    refine ⟨ret_ii ?_, by repeat (first | exact Ext.refl _ | assumption | apply Ext.xt | apply Ext.alloc | apply Ext.drew | apply Ext.drewN)⟩
    rw [HV.out]
end
end Go.Proofs.Ytgmicckeefoghaa
