/-
 Chapter 55: events as they lie in memory, and their errors.
-/
import Derived.Test.YtmhinhgflehkaaaGreatGtak
import Derived.Test.YtmhinhgflehkaaaGreatGrpa
import Derived.Test.YtmhinhgflehkaaaGreatGstay
import Derived.Test.YtmhinhgflehkaaaGreatGtkp
set_option maxHeartbeats 6400000
set_option maxRecDepth 100000
namespace Go.Proofs.YtmhinhgflehkaaaGreat
open Go.RowKit

def evtR (x : Evt) : List Value := .int .i64 x.tick :: .int .i64 x.kind :: .int .i64 x.station :: (acnR x.act ++ [.int .i64 x.delay])
theorem evtR_len (x : Evt) : (evtR x).length = 48 := rfl
theorem evtR_size (x : Evt) : (evtR x).toArray.size = 48 := rfl
@[go_sem] theorem evtR_0 (x : Evt) : (evtR x)[0]? = some (.int .i64 x.tick) := rfl
@[go_sem] theorem evtR_g0 (x : Evt) (h : 0 < (evtR x).length) : (evtR x)[0] = .int .i64 x.tick := rfl
@[go_sem] theorem evtR_1 (x : Evt) : (evtR x)[1]? = some (.int .i64 x.kind) := rfl
@[go_sem] theorem evtR_g1 (x : Evt) (h : 1 < (evtR x).length) : (evtR x)[1] = .int .i64 x.kind := rfl
@[go_sem] theorem evtR_2 (x : Evt) : (evtR x)[2]? = some (.int .i64 x.station) := rfl
@[go_sem] theorem evtR_g2 (x : Evt) (h : 2 < (evtR x).length) : (evtR x)[2] = .int .i64 x.station := rfl
@[go_sem] theorem evtR_47 (x : Evt) : (evtR x)[47]? = some (.int .i64 x.delay) := rfl
@[go_sem] theorem evtR_g47 (x : Evt) (h : 47 < (evtR x).length) : (evtR x)[47] = .int .i64 x.delay := rfl
theorem evtR_one (x : Evt) : ∀ u ∈ evtR x, u.oneCell' = true := fun u hu => by
 unfold evtR at hu
 simp only [List.mem_cons, List.mem_append, List.not_mem_nil, or_false] at hu
 rcases hu with rfl | rfl | rfl | hu | rfl
 ·rfl
 ·rfl
 ·rfl
 ·exact acnR_one x.act u hu
 ·rfl
theorem evtR_ones (l : List Evt) : ∀ r ∈ l.map evtR, ∀ u ∈ r, u.oneCell' = true := by
 intro r hr
 obtain ⟨a, _, rfl⟩ := List.mem_map.1 hr
 exact evtR_one a
theorem evtR_rows (l : List Evt) : ∀ r ∈ l.map evtR, r.length = 48 := by
 intro r hr
 obtain ⟨a, _, rfl⟩ := List.mem_map.1 hr
 rfl
structure EvtsAt (w : World) (A : Option Addr) (c : Nat) (l : List Evt) : Prop where
 sl : Sl w A 48 (l.map evtR)
 le : l.length ≤ c
 cap : c ≤ maxLen
 el : ∀ x ∈ l, AcnAt w x.act
theorem EvtsAt.mono {w w' : World} {A : Option Addr} {c : Nat} {l : List Evt} (h : EvtsAt w A c l) (hx : Ext w w') : EvtsAt w' A c l := ⟨h.sl.mono hx, h.le, h.cap, fun r hr => (h.el r hr).mono hx⟩
theorem EvtsAt.len {w : World} {A : Option Addr} {c : Nat} {l : List Evt} (h : EvtsAt w A c l) : l.length ≤ 9223372036854775807 := by
 have h1 := h.le; have h2 := h.cap
 unfold maxLen at h2; omega
theorem evt_act {w : World} {b o : Nat} {x : Evt} (h : w.rangeAt b o (evtR x)) : w.rangeAt b (o + 3) (acnR x.act) := fun j v hv => by
 have hj := (List.getElem?_eq_some_iff.1 hv).1
 have := h (j + 3) v (by show (acnR x.act ++ [_])[j]? = some v; rw [List.getElem?_append_left hj]; exact hv)
 rwa [← Nat.add_assoc, Nat.add_right_comm] at this
structure EvtAt (w : World) (b o : Nat) (x : Evt) : Prop where
 row : rowQ w b o 48 = some (evtR x)
 act : rowQ w b (o + 3) 44 = some (acnR x.act)
 tick : w.cell? ⟨b, o, none⟩ = some (.int .i64 x.tick)
 kind : w.cell? ⟨b, o + 1, none⟩ = some (.int .i64 x.kind)
 station : w.cell? ⟨b, o + 2, none⟩ = some (.int .i64 x.station)
 delay : w.cell? ⟨b, o + 47, none⟩ = some (.int .i64 x.delay)
theorem EvtAt.of {w : World} {b o : Nat} {x : Evt} (h : w.rangeAt b o (evtR x)) : EvtAt w b o x := ⟨rowQ_of h rfl, rowQ_of (evt_act h) rfl, h 0 _ rfl, h 1 _ rfl, h 2 _ rfl, h 47 _ rfl⟩
theorem EvtsAt.get {w : World} {A : Option Addr} {c : Nat} {l : List Evt} (h : EvtsAt w A c l) {k : Nat} {x : Evt} (hk : l[k]? = some x) : ∃ b o, A = some ⟨b, o, none⟩ ∧ EvtAt w b (o + k * 48) x ∧ AcnAt w x.act := by
 obtain ⟨b, o, hA, hr⟩ := h.sl.range (i := k) (row := evtR x) (by rw [List.getElem?_map, hk]; rfl)
 exact ⟨b, o, hA, EvtAt.of hr, h.el x (List.mem_of_getElem? hk)⟩

/-! ### Loads of whole events -/
def loadE (v : Value) : Sem Value := Instr.loadAt 89 v
def loadE' (v : Value) : Sem Value := Instr.loadAt 89 v
@[go_sem ↓ high] theorem loadE_at (v : Value) : Instr.loadAt 89 v = loadE v := rfl
@[go_sem] theorem loadE_run (w : World) (b o : Nat) : (loadE (.pointer (some ⟨b, o, none⟩))).run Tryz.prog w = match rowQ w b o 48 with | some cs => .ok (.agg cs.toArray) w | none => (loadE' (.pointer (some ⟨b, o, none⟩))).run Tryz.prog w := by
 split
 ·rename_i cs h
  obtain ⟨h1, h2⟩ := rowQ_get h
  exact run_loadAt_mid w b o _ cs _ h1 Tryz.underlying89 rfl (by rw [h2]; kernel_rfl)
 ·rfl
@[go_sem] theorem rowQ_newE (w : World) (b : Nat) (x : Evt) (T : TypeId) (h : w.heap.size = b) : rowQ (w.alloc (.cells (evtR x).toArray T)) b 0 48 = some (evtR x) := rowQ_of (rangeAt_new w h (evtR x) T) rfl
@[go_sem] theorem rowQ_newEA (w : World) (b : Nat) (x : Evt) (T : TypeId) (h : w.heap.size = b) : rowQ (w.alloc (.cells (evtR x).toArray T)) b 3 44 = some (acnR x.act) := rowQ_of (evt_act (rangeAt_new w h (evtR x) T)) rfl
theorem acnN_at (w : World) : AcnAt w acnN := ⟨Nat.zero_le _, LstAt.nil, LstAt.nil, LstAt.nil, noEdit_at w⟩
theorem tak_event_k (x : Evt) (w : World) (ha : AcnAt w x.act) (h : withinB x.kind 0 5 = false) : Calls Tryz.prog 76 #[.agg (evtR x).toArray] w fun e w' => e = .returned (.int .i64 (evtE x)) ∧ Ext w w' := by
 have HV := Lib.hid (show evtE x = 1 by unfold evtE; have := withinB_no h; rw [if_pos (by omega)])
 have HA := Lib.hid ha
 have WK := Lib.hid h
 clear ha h
 rw [HV.out]
 clear HV
 go_enter Tryz.func76, Tryz.ntmps76
 go_wp2_with (first
  | (go_at_call 60; refine (tak_within _ _ _ _).mono ?_; rintro e w' ⟨he, rfl⟩; simp only [WK.out] at he; subst he)
  | (go_at_call 111; refine (act_Check x.act _ (HA.out.mono (ex))).mono ?_; rintro e w' ⟨rfl, hx⟩; obtain ⟨y, rfl⟩ := hx.get; clear hx))
 go_ret
 exact ⟨rfl, ex⟩
theorem tak_event_As (x : Evt) (w : World) (ha : AcnAt w x.act) (hk : x.kind = 0) (h_s : withinB x.station 1 2 = false) : Calls Tryz.prog 76 #[.agg (evtR x).toArray] w fun e w' => e = .returned (.int .i64 (evtE x)) ∧ Ext w w' := by
 have HV := Lib.hid (show evtE x = 2 by unfold evtE; have := withinB_no h_s; rw [if_neg (by omega), if_pos (by omega)])
 have HA := Lib.hid ha
 have WK := Lib.hid (show withinB x.kind 0 5 = true from decide_eq_true (by omega))
 have hk1 : decide (x.kind ≤ 2) = true := decide_eq_true (by omega)
 have hk2 : (x.kind == 0) = true := by simp; omega
 have hk3 : (x.kind == 5) = false := by simp; omega
 have WS := Lib.hid (show withinB x.station 1 2 = false from h_s)
 clear ha hk h_s
 rw [HV.out]
 clear HV
 go_enter Tryz.func76, Tryz.ntmps76
 go_wp2_with (first
  | (go_at_call 60; refine (tak_within _ _ _ _).mono ?_; rintro e w' ⟨he, rfl⟩; simp only [WK.out] at he; subst he)
  | (go_at_call 111; refine (act_Check x.act _ (HA.out.mono (ex))).mono ?_; rintro e w' ⟨rfl, hx⟩; obtain ⟨y, rfl⟩ := hx.get; clear hx))
 (refine wp_region_grows (by kernel_rfl) (by kernel_rfl) ?_; (repeat (go_big_quiet_step (fail))); refine wpQuiet_nil ?_; rintro _ ⟨y, rfl⟩)
 go_wp2_with (first
  | (go_at_call 60; refine (tak_within _ _ _ _).mono ?_; rintro e w' ⟨he, rfl⟩; simp only [WS.out] at he; subst he)
  | (go_at_call 111; refine (act_Check x.act _ (HA.out.mono (ex))).mono ?_; rintro e w' ⟨rfl, hx⟩; obtain ⟨y, rfl⟩ := hx.get; clear hx))
 go_ret
 exact ⟨rfl, ex⟩
theorem tak_event_Aa (x : Evt) (w : World) (ha : AcnAt w x.act) (hk : x.kind = 0) (h_s : withinB x.station 1 2 = true) (h_a : acnE x.act ≠ 0) : Calls Tryz.prog 76 #[.agg (evtR x).toArray] w fun e w' => e = .returned (.int .i64 (evtE x)) ∧ Ext w w' := by
 have HV := Lib.hid (show evtE x = acnE x.act by unfold evtE; have := withinB_yes h_s; rw [if_neg (by omega), if_neg (by omega), if_pos ⟨by omega, h_a⟩])
 have HA := Lib.hid ha
 have WK := Lib.hid (show withinB x.kind 0 5 = true from decide_eq_true (by omega))
 have hk1 : decide (x.kind ≤ 2) = true := decide_eq_true (by omega)
 have hk2 : (x.kind == 0) = true := by simp; omega
 have hk3 : (x.kind == 5) = false := by simp; omega
 have WS := Lib.hid (show withinB x.station 1 2 = true from h_s)
 have z_a : (acnE x.act != 0) = true := by simpa using h_a
 clear ha hk h_s h_a
 rw [HV.out]
 clear HV
 go_enter Tryz.func76, Tryz.ntmps76
 go_wp2_with (first
  | (go_at_call 60; refine (tak_within _ _ _ _).mono ?_; rintro e w' ⟨he, rfl⟩; simp only [WK.out] at he; subst he)
  | (go_at_call 111; refine (act_Check x.act _ (HA.out.mono (ex))).mono ?_; rintro e w' ⟨rfl, hx⟩; obtain ⟨y, rfl⟩ := hx.get; clear hx))
 (refine wp_region_grows (by kernel_rfl) (by kernel_rfl) ?_; (repeat (go_big_quiet_step (fail))); refine wpQuiet_nil ?_; rintro _ ⟨y, rfl⟩)
 go_wp2_with (first
  | (go_at_call 60; refine (tak_within _ _ _ _).mono ?_; rintro e w' ⟨he, rfl⟩; simp only [WS.out] at he; subst he)
  | (go_at_call 111; refine (act_Check x.act _ (HA.out.mono (ex))).mono ?_; rintro e w' ⟨rfl, hx⟩; obtain ⟨y, rfl⟩ := hx.get; clear hx))
 go_ret
 exact ⟨rfl, ex⟩
theorem tak_event_Ay (x : Evt) (w : World) (ha : AcnAt w x.act) (hk : x.kind = 0) (h_s : withinB x.station 1 2 = true) (h_a : acnE x.act = 0) (h_y : x.delay ≠ 0) : Calls Tryz.prog 76 #[.agg (evtR x).toArray] w fun e w' => e = .returned (.int .i64 (evtE x)) ∧ Ext w w' := by
 have HV := Lib.hid (show evtE x = 3 by unfold evtE; have := withinB_yes h_s; rw [if_neg (by omega), if_neg (by omega), if_neg (fun hc => hc.2 h_a), if_pos (.inr (.inl ⟨by omega, h_y⟩))])
 have HA := Lib.hid ha
 have WK := Lib.hid (show withinB x.kind 0 5 = true from decide_eq_true (by omega))
 have hk1 : decide (x.kind ≤ 2) = true := decide_eq_true (by omega)
 have hk2 : (x.kind == 0) = true := by simp; omega
 have hk3 : (x.kind == 5) = false := by simp; omega
 have WS := Lib.hid (show withinB x.station 1 2 = true from h_s)
 have z_a : (acnE x.act != 0) = false := by simpa using h_a
 have z_h_y : (x.delay != 0) = true := by simpa using h_y
 clear ha hk h_s h_a h_y
 rw [HV.out]
 clear HV
 go_enter Tryz.func76, Tryz.ntmps76
 go_wp2_with (first
  | (go_at_call 60; refine (tak_within _ _ _ _).mono ?_; rintro e w' ⟨he, rfl⟩; simp only [WK.out] at he; subst he)
  | (go_at_call 111; refine (act_Check x.act _ (HA.out.mono (ex))).mono ?_; rintro e w' ⟨rfl, hx⟩; obtain ⟨y, rfl⟩ := hx.get; clear hx))
 (refine wp_region_grows (by kernel_rfl) (by kernel_rfl) ?_; (repeat (go_big_quiet_step (fail))); refine wpQuiet_nil ?_; rintro _ ⟨y, rfl⟩)
 go_wp2_with (first
  | (go_at_call 60; refine (tak_within _ _ _ _).mono ?_; rintro e w' ⟨he, rfl⟩; simp only [WS.out] at he; subst he)
  | (go_at_call 111; refine (act_Check x.act _ (HA.out.mono (ex))).mono ?_; rintro e w' ⟨rfl, hx⟩; obtain ⟨y, rfl⟩ := hx.get; clear hx))
 go_ret
 exact ⟨rfl, ex⟩
theorem tak_event_Ao (x : Evt) (w : World) (ha : AcnAt w x.act) (hk : x.kind = 0) (h_s : withinB x.station 1 2 = true) (h_a : acnE x.act = 0) (h_y : x.delay = 0) : Calls Tryz.prog 76 #[.agg (evtR x).toArray] w fun e w' => e = .returned (.int .i64 (evtE x)) ∧ Ext w w' := by
 have HV := Lib.hid (show evtE x = 0 by unfold evtE; have := withinB_yes h_s; rw [if_neg (by omega), if_neg (by omega), if_neg (fun hc => hc.2 h_a), if_neg (by rintro (⟨a, b⟩ | ⟨a, b⟩ | ⟨a, b⟩) <;> omega)])
 have HA := Lib.hid ha
 have WK := Lib.hid (show withinB x.kind 0 5 = true from decide_eq_true (by omega))
 have hk1 : decide (x.kind ≤ 2) = true := decide_eq_true (by omega)
 have hk2 : (x.kind == 0) = true := by simp; omega
 have hk3 : (x.kind == 5) = false := by simp; omega
 have WS := Lib.hid (show withinB x.station 1 2 = true from h_s)
 have z_a : (acnE x.act != 0) = false := by simpa using h_a
 have z_h_y : (x.delay != 0) = false := by simpa using h_y
 clear ha hk h_s h_a h_y
 rw [HV.out]
 clear HV
 go_enter Tryz.func76, Tryz.ntmps76
 go_wp2_with (first
  | (go_at_call 60; refine (tak_within _ _ _ _).mono ?_; rintro e w' ⟨he, rfl⟩; simp only [WK.out] at he; subst he)
  | (go_at_call 111; refine (act_Check x.act _ (HA.out.mono (ex))).mono ?_; rintro e w' ⟨rfl, hx⟩; obtain ⟨y, rfl⟩ := hx.get; clear hx))
 (refine wp_region_grows (by kernel_rfl) (by kernel_rfl) ?_; (repeat (go_big_quiet_step (fail))); refine wpQuiet_nil ?_; rintro _ ⟨y, rfl⟩)
 go_wp2_with (first
  | (go_at_call 60; refine (tak_within _ _ _ _).mono ?_; rintro e w' ⟨he, rfl⟩; simp only [WS.out] at he; subst he)
  | (go_at_call 111; refine (act_Check x.act _ (HA.out.mono (ex))).mono ?_; rintro e w' ⟨rfl, hx⟩; obtain ⟨y, rfl⟩ := hx.get; clear hx))
 go_ret
 exact ⟨rfl, ex⟩
theorem tak_event_Bs (x : Evt) (w : World) (ha : AcnAt w x.act) (hk : x.kind = 1 ∨ x.kind = 2) (h_s : withinB x.station 1 2 = false) : Calls Tryz.prog 76 #[.agg (evtR x).toArray] w fun e w' => e = .returned (.int .i64 (evtE x)) ∧ Ext w w' := by
 have HV := Lib.hid (show evtE x = 2 by unfold evtE; have := withinB_no h_s; rw [if_neg (by omega), if_pos (by omega)])
 have HA := Lib.hid ha
 have WK := Lib.hid (show withinB x.kind 0 5 = true from decide_eq_true (by omega))
 have hk1 : decide (x.kind ≤ 2) = true := decide_eq_true (by omega)
 have hk2 : (x.kind == 0) = false := by simp; omega
 have hk3 : (x.kind == 5) = false := by simp; omega
 have WS := Lib.hid (show withinB x.station 1 2 = false from h_s)
 clear ha hk h_s
 rw [HV.out]
 clear HV
 go_enter Tryz.func76, Tryz.ntmps76
 go_wp2_with (first
  | (go_at_call 60; refine (tak_within _ _ _ _).mono ?_; rintro e w' ⟨he, rfl⟩; simp only [WK.out] at he; subst he)
  | (go_at_call 111; refine (act_Check x.act _ (HA.out.mono (ex))).mono ?_; rintro e w' ⟨rfl, hx⟩; obtain ⟨y, rfl⟩ := hx.get; clear hx))
 (refine wp_region_grows (by kernel_rfl) (by kernel_rfl) ?_; (repeat (go_big_quiet_step (fail))); refine wpQuiet_nil ?_; rintro _ ⟨y, rfl⟩)
 go_wp2_with (first
  | (go_at_call 60; refine (tak_within _ _ _ _).mono ?_; rintro e w' ⟨he, rfl⟩; simp only [WS.out] at he; subst he)
  | (go_at_call 111; refine (act_Check x.act _ (HA.out.mono (ex))).mono ?_; rintro e w' ⟨rfl, hx⟩; obtain ⟨y, rfl⟩ := hx.get; clear hx))
 go_ret
 exact ⟨rfl, ex⟩
theorem tak_event_By (x : Evt) (w : World) (ha : AcnAt w x.act) (hk : x.kind = 1 ∨ x.kind = 2) (h_s : withinB x.station 1 2 = true) (h_y : x.delay ≠ 0) : Calls Tryz.prog 76 #[.agg (evtR x).toArray] w fun e w' => e = .returned (.int .i64 (evtE x)) ∧ Ext w w' := by
 have HV := Lib.hid (show evtE x = 3 by unfold evtE; have := withinB_yes h_s; rw [if_neg (by omega), if_neg (by omega), if_neg (fun hc => by have := hc.1; omega), if_pos (.inr (.inl ⟨by omega, h_y⟩))])
 have HA := Lib.hid ha
 have WK := Lib.hid (show withinB x.kind 0 5 = true from decide_eq_true (by omega))
 have hk1 : decide (x.kind ≤ 2) = true := decide_eq_true (by omega)
 have hk2 : (x.kind == 0) = false := by simp; omega
 have hk3 : (x.kind == 5) = false := by simp; omega
 have WS := Lib.hid (show withinB x.station 1 2 = true from h_s)
 have z_h_y : (x.delay != 0) = true := by simpa using h_y
 clear ha hk h_s h_y
 rw [HV.out]
 clear HV
 go_enter Tryz.func76, Tryz.ntmps76
 go_wp2_with (first
  | (go_at_call 60; refine (tak_within _ _ _ _).mono ?_; rintro e w' ⟨he, rfl⟩; simp only [WK.out] at he; subst he)
  | (go_at_call 111; refine (act_Check x.act _ (HA.out.mono (ex))).mono ?_; rintro e w' ⟨rfl, hx⟩; obtain ⟨y, rfl⟩ := hx.get; clear hx))
 (refine wp_region_grows (by kernel_rfl) (by kernel_rfl) ?_; (repeat (go_big_quiet_step (fail))); refine wpQuiet_nil ?_; rintro _ ⟨y, rfl⟩)
 go_wp2_with (first
  | (go_at_call 60; refine (tak_within _ _ _ _).mono ?_; rintro e w' ⟨he, rfl⟩; simp only [WS.out] at he; subst he)
  | (go_at_call 111; refine (act_Check x.act _ (HA.out.mono (ex))).mono ?_; rintro e w' ⟨rfl, hx⟩; obtain ⟨y, rfl⟩ := hx.get; clear hx))
 go_ret
 exact ⟨rfl, ex⟩
theorem tak_event_Bm (x : Evt) (w : World) (ha : AcnAt w x.act) (hk : x.kind = 1 ∨ x.kind = 2) (h_s : withinB x.station 1 2 = true) (h_y : x.delay = 0) (h_m : sameA x.act acnN = false) : Calls Tryz.prog 76 #[.agg (evtR x).toArray] w fun e w' => e = .returned (.int .i64 (evtE x)) ∧ Ext w w' := by
 have HV := Lib.hid (show evtE x = 3 by unfold evtE; have := withinB_yes h_s; rw [if_neg (by omega), if_neg (by omega), if_neg (fun hc => by have := hc.1; omega), if_pos (.inr (.inr ⟨by omega, h_m⟩))])
 have HA := Lib.hid ha
 have WK := Lib.hid (show withinB x.kind 0 5 = true from decide_eq_true (by omega))
 have hk1 : decide (x.kind ≤ 2) = true := decide_eq_true (by omega)
 have hk2 : (x.kind == 0) = false := by simp; omega
 have hk3 : (x.kind == 5) = false := by simp; omega
 have WS := Lib.hid (show withinB x.station 1 2 = true from h_s)
 have z_h_y : (x.delay != 0) = false := by simpa using h_y
 have HM : sameA x.act acnN = false := h_m
 clear ha hk h_s h_y h_m
 rw [HV.out]
 clear HV
 go_enter Tryz.func76, Tryz.ntmps76
 go_wp2_with (first
  | (go_at_call 60; refine (tak_within _ _ _ _).mono ?_; rintro e w' ⟨he, rfl⟩; simp only [WK.out] at he; subst he)
  | (go_at_call 111; refine (act_Check x.act _ (HA.out.mono (ex))).mono ?_; rintro e w' ⟨rfl, hx⟩; obtain ⟨y, rfl⟩ := hx.get; clear hx)
  | (refine wpList_built rfl 87 _ rfl [] rfl (acnR acnN).toArray (by kernel_rfl) ?_)
  | (go_at_call 112; refine (act_Same x.act acnN _ (HA.out.mono (ex)) (acnN_at _)).mono ?_; rintro e w' ⟨rfl, hx⟩; obtain ⟨y, rfl⟩ := hx.get; clear hx))
 (refine wp_region_grows (by kernel_rfl) (by kernel_rfl) ?_; (repeat (go_big_quiet_step (fail))); refine wpQuiet_nil ?_; rintro _ ⟨y, rfl⟩)
 go_wp2_with (first
  | (go_at_call 60; refine (tak_within _ _ _ _).mono ?_; rintro e w' ⟨he, rfl⟩; simp only [WS.out] at he; subst he)
  | (go_at_call 111; refine (act_Check x.act _ (HA.out.mono (ex))).mono ?_; rintro e w' ⟨rfl, hx⟩; obtain ⟨y, rfl⟩ := hx.get; clear hx)
  | (refine wpList_built rfl 87 _ rfl [] rfl (acnR acnN).toArray (by kernel_rfl) ?_)
  | (go_at_call 112; refine (act_Same x.act acnN _ (HA.out.mono (ex)) (acnN_at _)).mono ?_; rintro e w' ⟨rfl, hx⟩; obtain ⟨y, rfl⟩ := hx.get; clear hx))
 go_ret
 exact ⟨rfl, ex⟩
theorem tak_event_Bo (x : Evt) (w : World) (ha : AcnAt w x.act) (hk : x.kind = 1 ∨ x.kind = 2) (h_s : withinB x.station 1 2 = true) (h_y : x.delay = 0) (h_m : sameA x.act acnN = true) : Calls Tryz.prog 76 #[.agg (evtR x).toArray] w fun e w' => e = .returned (.int .i64 (evtE x)) ∧ Ext w w' := by
 have HV := Lib.hid (show evtE x = 0 by unfold evtE; have := withinB_yes h_s; rw [if_neg (by omega), if_neg (by omega), if_neg (fun hc => by have := hc.1; omega), if_neg (by rintro (⟨a, b⟩ | ⟨a, b⟩ | ⟨a, b⟩) <;> first | omega | (rw [h_m] at b; cases b))])
 have HA := Lib.hid ha
 have WK := Lib.hid (show withinB x.kind 0 5 = true from decide_eq_true (by omega))
 have hk1 : decide (x.kind ≤ 2) = true := decide_eq_true (by omega)
 have hk2 : (x.kind == 0) = false := by simp; omega
 have hk3 : (x.kind == 5) = false := by simp; omega
 have WS := Lib.hid (show withinB x.station 1 2 = true from h_s)
 have z_h_y : (x.delay != 0) = false := by simpa using h_y
 have HM : sameA x.act acnN = true := h_m
 clear ha hk h_s h_y h_m
 rw [HV.out]
 clear HV
 go_enter Tryz.func76, Tryz.ntmps76
 go_wp2_with (first
  | (go_at_call 60; refine (tak_within _ _ _ _).mono ?_; rintro e w' ⟨he, rfl⟩; simp only [WK.out] at he; subst he)
  | (go_at_call 111; refine (act_Check x.act _ (HA.out.mono (ex))).mono ?_; rintro e w' ⟨rfl, hx⟩; obtain ⟨y, rfl⟩ := hx.get; clear hx)
  | (refine wpList_built rfl 87 _ rfl [] rfl (acnR acnN).toArray (by kernel_rfl) ?_)
  | (go_at_call 112; refine (act_Same x.act acnN _ (HA.out.mono (ex)) (acnN_at _)).mono ?_; rintro e w' ⟨rfl, hx⟩; obtain ⟨y, rfl⟩ := hx.get; clear hx))
 (refine wp_region_grows (by kernel_rfl) (by kernel_rfl) ?_; (repeat (go_big_quiet_step (fail))); refine wpQuiet_nil ?_; rintro _ ⟨y, rfl⟩)
 go_wp2_with (first
  | (go_at_call 60; refine (tak_within _ _ _ _).mono ?_; rintro e w' ⟨he, rfl⟩; simp only [WS.out] at he; subst he)
  | (go_at_call 111; refine (act_Check x.act _ (HA.out.mono (ex))).mono ?_; rintro e w' ⟨rfl, hx⟩; obtain ⟨y, rfl⟩ := hx.get; clear hx)
  | (refine wpList_built rfl 87 _ rfl [] rfl (acnR acnN).toArray (by kernel_rfl) ?_)
  | (go_at_call 112; refine (act_Same x.act acnN _ (HA.out.mono (ex)) (acnN_at _)).mono ?_; rintro e w' ⟨rfl, hx⟩; obtain ⟨y, rfl⟩ := hx.get; clear hx))
 go_ret
 exact ⟨rfl, ex⟩
theorem tak_event_Cz (x : Evt) (w : World) (ha : AcnAt w x.act) (hk : x.kind = 3 ∨ x.kind = 4) (h_z : x.station ≠ 0) : Calls Tryz.prog 76 #[.agg (evtR x).toArray] w fun e w' => e = .returned (.int .i64 (evtE x)) ∧ Ext w w' := by
 have HV := Lib.hid (show evtE x = 3 by unfold evtE; rw [if_neg (by omega), if_neg (by omega), if_neg (fun hc => by have := hc.1; omega), if_pos (.inl ⟨by omega, h_z⟩)])
 have HA := Lib.hid ha
 have WK := Lib.hid (show withinB x.kind 0 5 = true from decide_eq_true (by omega))
 have hk1 : decide (x.kind ≤ 2) = false := decide_eq_false (by omega)
 have hk2 : (x.kind == 0) = false := by simp; omega
 have hk3 : (x.kind == 5) = false := by simp; omega
 have z_h_z : (x.station != 0) = true := by simpa using h_z
 clear ha hk h_z
 rw [HV.out]
 clear HV
 go_enter Tryz.func76, Tryz.ntmps76
 go_wp2_with (first
  | (go_at_call 60; refine (tak_within _ _ _ _).mono ?_; rintro e w' ⟨he, rfl⟩; simp only [WK.out] at he; subst he)
  | (go_at_call 111; refine (act_Check x.act _ (HA.out.mono (ex))).mono ?_; rintro e w' ⟨rfl, hx⟩; obtain ⟨y, rfl⟩ := hx.get; clear hx))
 (refine wp_region_grows (by kernel_rfl) (by kernel_rfl) ?_; (repeat (go_big_quiet_step (fail))); refine wpQuiet_nil ?_; rintro _ ⟨y, rfl⟩)
 go_wp2_with (first
  | (go_at_call 60; refine (tak_within _ _ _ _).mono ?_; rintro e w' ⟨he, rfl⟩; simp only [WK.out] at he; subst he)
  | (go_at_call 111; refine (act_Check x.act _ (HA.out.mono (ex))).mono ?_; rintro e w' ⟨rfl, hx⟩; obtain ⟨y, rfl⟩ := hx.get; clear hx))
 go_ret
 exact ⟨rfl, ex⟩
theorem tak_event_Cy (x : Evt) (w : World) (ha : AcnAt w x.act) (hk : x.kind = 3 ∨ x.kind = 4) (h_z : x.station = 0) (h_y : x.delay ≠ 0) : Calls Tryz.prog 76 #[.agg (evtR x).toArray] w fun e w' => e = .returned (.int .i64 (evtE x)) ∧ Ext w w' := by
 have HV := Lib.hid (show evtE x = 3 by unfold evtE; rw [if_neg (by omega), if_neg (by omega), if_neg (fun hc => by have := hc.1; omega), if_pos (.inr (.inl ⟨by omega, h_y⟩))])
 have HA := Lib.hid ha
 have WK := Lib.hid (show withinB x.kind 0 5 = true from decide_eq_true (by omega))
 have hk1 : decide (x.kind ≤ 2) = false := decide_eq_false (by omega)
 have hk2 : (x.kind == 0) = false := by simp; omega
 have hk3 : (x.kind == 5) = false := by simp; omega
 have z_h_z : (x.station != 0) = false := by simpa using h_z
 have z_h_y : (x.delay != 0) = true := by simpa using h_y
 clear ha hk h_z h_y
 rw [HV.out]
 clear HV
 go_enter Tryz.func76, Tryz.ntmps76
 go_wp2_with (first
  | (go_at_call 60; refine (tak_within _ _ _ _).mono ?_; rintro e w' ⟨he, rfl⟩; simp only [WK.out] at he; subst he)
  | (go_at_call 111; refine (act_Check x.act _ (HA.out.mono (ex))).mono ?_; rintro e w' ⟨rfl, hx⟩; obtain ⟨y, rfl⟩ := hx.get; clear hx))
 (refine wp_region_grows (by kernel_rfl) (by kernel_rfl) ?_; (repeat (go_big_quiet_step (fail))); refine wpQuiet_nil ?_; rintro _ ⟨y, rfl⟩)
 go_wp2_with (first
  | (go_at_call 60; refine (tak_within _ _ _ _).mono ?_; rintro e w' ⟨he, rfl⟩; simp only [WK.out] at he; subst he)
  | (go_at_call 111; refine (act_Check x.act _ (HA.out.mono (ex))).mono ?_; rintro e w' ⟨rfl, hx⟩; obtain ⟨y, rfl⟩ := hx.get; clear hx))
 go_ret
 exact ⟨rfl, ex⟩
theorem tak_event_Cm (x : Evt) (w : World) (ha : AcnAt w x.act) (hk : x.kind = 3 ∨ x.kind = 4) (h_z : x.station = 0) (h_y : x.delay = 0) (h_m : sameA x.act acnN = false) : Calls Tryz.prog 76 #[.agg (evtR x).toArray] w fun e w' => e = .returned (.int .i64 (evtE x)) ∧ Ext w w' := by
 have HV := Lib.hid (show evtE x = 3 by unfold evtE; rw [if_neg (by omega), if_neg (by omega), if_neg (fun hc => by have := hc.1; omega), if_pos (.inr (.inr ⟨by omega, h_m⟩))])
 have HA := Lib.hid ha
 have WK := Lib.hid (show withinB x.kind 0 5 = true from decide_eq_true (by omega))
 have hk1 : decide (x.kind ≤ 2) = false := decide_eq_false (by omega)
 have hk2 : (x.kind == 0) = false := by simp; omega
 have hk3 : (x.kind == 5) = false := by simp; omega
 have z_h_z : (x.station != 0) = false := by simpa using h_z
 have z_h_y : (x.delay != 0) = false := by simpa using h_y
 have HM : sameA x.act acnN = false := h_m
 clear ha hk h_z h_y h_m
 rw [HV.out]
 clear HV
 go_enter Tryz.func76, Tryz.ntmps76
 go_wp2_with (first
  | (go_at_call 60; refine (tak_within _ _ _ _).mono ?_; rintro e w' ⟨he, rfl⟩; simp only [WK.out] at he; subst he)
  | (go_at_call 111; refine (act_Check x.act _ (HA.out.mono (ex))).mono ?_; rintro e w' ⟨rfl, hx⟩; obtain ⟨y, rfl⟩ := hx.get; clear hx)
  | (refine wpList_built rfl 87 _ rfl [] rfl (acnR acnN).toArray (by kernel_rfl) ?_)
  | (go_at_call 112; refine (act_Same x.act acnN _ (HA.out.mono (ex)) (acnN_at _)).mono ?_; rintro e w' ⟨rfl, hx⟩; obtain ⟨y, rfl⟩ := hx.get; clear hx))
 (refine wp_region_grows (by kernel_rfl) (by kernel_rfl) ?_; (repeat (go_big_quiet_step (fail))); refine wpQuiet_nil ?_; rintro _ ⟨y, rfl⟩)
 go_wp2_with (first
  | (go_at_call 60; refine (tak_within _ _ _ _).mono ?_; rintro e w' ⟨he, rfl⟩; simp only [WK.out] at he; subst he)
  | (go_at_call 111; refine (act_Check x.act _ (HA.out.mono (ex))).mono ?_; rintro e w' ⟨rfl, hx⟩; obtain ⟨y, rfl⟩ := hx.get; clear hx)
  | (refine wpList_built rfl 87 _ rfl [] rfl (acnR acnN).toArray (by kernel_rfl) ?_)
  | (go_at_call 112; refine (act_Same x.act acnN _ (HA.out.mono (ex)) (acnN_at _)).mono ?_; rintro e w' ⟨rfl, hx⟩; obtain ⟨y, rfl⟩ := hx.get; clear hx))
 go_ret
 exact ⟨rfl, ex⟩
theorem tak_event_Co (x : Evt) (w : World) (ha : AcnAt w x.act) (hk : x.kind = 3 ∨ x.kind = 4) (h_z : x.station = 0) (h_y : x.delay = 0) (h_m : sameA x.act acnN = true) : Calls Tryz.prog 76 #[.agg (evtR x).toArray] w fun e w' => e = .returned (.int .i64 (evtE x)) ∧ Ext w w' := by
 have HV := Lib.hid (show evtE x = 0 by unfold evtE; rw [if_neg (by omega), if_neg (by omega), if_neg (fun hc => by have := hc.1; omega), if_neg (by rintro (⟨a, b⟩ | ⟨a, b⟩ | ⟨a, b⟩) <;> first | omega | (rw [h_m] at b; cases b))])
 have HA := Lib.hid ha
 have WK := Lib.hid (show withinB x.kind 0 5 = true from decide_eq_true (by omega))
 have hk1 : decide (x.kind ≤ 2) = false := decide_eq_false (by omega)
 have hk2 : (x.kind == 0) = false := by simp; omega
 have hk3 : (x.kind == 5) = false := by simp; omega
 have z_h_z : (x.station != 0) = false := by simpa using h_z
 have z_h_y : (x.delay != 0) = false := by simpa using h_y
 have HM : sameA x.act acnN = true := h_m
 clear ha hk h_z h_y h_m
 rw [HV.out]
 clear HV
 go_enter Tryz.func76, Tryz.ntmps76
 go_wp2_with (first
  | (go_at_call 60; refine (tak_within _ _ _ _).mono ?_; rintro e w' ⟨he, rfl⟩; simp only [WK.out] at he; subst he)
  | (go_at_call 111; refine (act_Check x.act _ (HA.out.mono (ex))).mono ?_; rintro e w' ⟨rfl, hx⟩; obtain ⟨y, rfl⟩ := hx.get; clear hx)
  | (refine wpList_built rfl 87 _ rfl [] rfl (acnR acnN).toArray (by kernel_rfl) ?_)
  | (go_at_call 112; refine (act_Same x.act acnN _ (HA.out.mono (ex)) (acnN_at _)).mono ?_; rintro e w' ⟨rfl, hx⟩; obtain ⟨y, rfl⟩ := hx.get; clear hx))
 (refine wp_region_grows (by kernel_rfl) (by kernel_rfl) ?_; (repeat (go_big_quiet_step (fail))); refine wpQuiet_nil ?_; rintro _ ⟨y, rfl⟩)
 go_wp2_with (first
  | (go_at_call 60; refine (tak_within _ _ _ _).mono ?_; rintro e w' ⟨he, rfl⟩; simp only [WK.out] at he; subst he)
  | (go_at_call 111; refine (act_Check x.act _ (HA.out.mono (ex))).mono ?_; rintro e w' ⟨rfl, hx⟩; obtain ⟨y, rfl⟩ := hx.get; clear hx)
  | (refine wpList_built rfl 87 _ rfl [] rfl (acnR acnN).toArray (by kernel_rfl) ?_)
  | (go_at_call 112; refine (act_Same x.act acnN _ (HA.out.mono (ex)) (acnN_at _)).mono ?_; rintro e w' ⟨rfl, hx⟩; obtain ⟨y, rfl⟩ := hx.get; clear hx))
 go_ret
 exact ⟨rfl, ex⟩
theorem tak_event_Ed (x : Evt) (w : World) (ha : AcnAt w x.act) (hk : x.kind = 5) (h_d : withinB x.delay 1 8 = false) : Calls Tryz.prog 76 #[.agg (evtR x).toArray] w fun e w' => e = .returned (.int .i64 (evtE x)) ∧ Ext w w' := by
 have HV := Lib.hid (show evtE x = 2 by unfold evtE; have := withinB_no h_d; rw [if_neg (by omega), if_pos (by omega)])
 have HA := Lib.hid ha
 have WK := Lib.hid (show withinB x.kind 0 5 = true from decide_eq_true (by omega))
 have hk1 : decide (x.kind ≤ 2) = false := decide_eq_false (by omega)
 have hk2 : (x.kind == 0) = false := by simp; omega
 have hk3 : (x.kind == 5) = true := by simp; omega
 have WD := Lib.hid (show withinB x.delay 1 8 = false from h_d)
 clear ha hk h_d
 rw [HV.out]
 clear HV
 go_enter Tryz.func76, Tryz.ntmps76
 go_wp2_with (first
  | (go_at_call 60; refine (tak_within _ _ _ _).mono ?_; rintro e w' ⟨he, rfl⟩; simp only [WK.out] at he; subst he)
  | (go_at_call 111; refine (act_Check x.act _ (HA.out.mono (ex))).mono ?_; rintro e w' ⟨rfl, hx⟩; obtain ⟨y, rfl⟩ := hx.get; clear hx))
 (refine wp_region_grows (by kernel_rfl) (by kernel_rfl) ?_; (repeat (go_big_quiet_step (fail))); refine wpQuiet_nil ?_; rintro _ ⟨y, rfl⟩)
 go_wp2_with (first
  | (go_at_call 60; refine (tak_within _ _ _ _).mono ?_; rintro e w' ⟨he, rfl⟩; simp only [WD.out] at he; subst he)
  | (go_at_call 111; refine (act_Check x.act _ (HA.out.mono (ex))).mono ?_; rintro e w' ⟨rfl, hx⟩; obtain ⟨y, rfl⟩ := hx.get; clear hx))
 go_ret
 exact ⟨rfl, ex⟩
theorem tak_event_Ez (x : Evt) (w : World) (ha : AcnAt w x.act) (hk : x.kind = 5) (h_d : withinB x.delay 1 8 = true) (h_z : x.station ≠ 0) : Calls Tryz.prog 76 #[.agg (evtR x).toArray] w fun e w' => e = .returned (.int .i64 (evtE x)) ∧ Ext w w' := by
 have HV := Lib.hid (show evtE x = 3 by unfold evtE; have := withinB_yes h_d; rw [if_neg (by omega), if_neg (by omega), if_neg (fun hc => by have := hc.1; omega), if_pos (.inl ⟨by omega, h_z⟩)])
 have HA := Lib.hid ha
 have WK := Lib.hid (show withinB x.kind 0 5 = true from decide_eq_true (by omega))
 have hk1 : decide (x.kind ≤ 2) = false := decide_eq_false (by omega)
 have hk2 : (x.kind == 0) = false := by simp; omega
 have hk3 : (x.kind == 5) = true := by simp; omega
 have WD := Lib.hid (show withinB x.delay 1 8 = true from h_d)
 have z_h_z : (x.station != 0) = true := by simpa using h_z
 clear ha hk h_d h_z
 rw [HV.out]
 clear HV
 go_enter Tryz.func76, Tryz.ntmps76
 go_wp2_with (first
  | (go_at_call 60; refine (tak_within _ _ _ _).mono ?_; rintro e w' ⟨he, rfl⟩; simp only [WK.out] at he; subst he)
  | (go_at_call 111; refine (act_Check x.act _ (HA.out.mono (ex))).mono ?_; rintro e w' ⟨rfl, hx⟩; obtain ⟨y, rfl⟩ := hx.get; clear hx))
 (refine wp_region_grows (by kernel_rfl) (by kernel_rfl) ?_; (repeat (go_big_quiet_step (fail))); refine wpQuiet_nil ?_; rintro _ ⟨y, rfl⟩)
 go_wp2_with (first
  | (go_at_call 60; refine (tak_within _ _ _ _).mono ?_; rintro e w' ⟨he, rfl⟩; simp only [WD.out] at he; subst he)
  | (go_at_call 111; refine (act_Check x.act _ (HA.out.mono (ex))).mono ?_; rintro e w' ⟨rfl, hx⟩; obtain ⟨y, rfl⟩ := hx.get; clear hx))
 go_ret
 exact ⟨rfl, ex⟩
theorem tak_event_Em (x : Evt) (w : World) (ha : AcnAt w x.act) (hk : x.kind = 5) (h_d : withinB x.delay 1 8 = true) (h_z : x.station = 0) (h_m : sameA x.act acnN = false) : Calls Tryz.prog 76 #[.agg (evtR x).toArray] w fun e w' => e = .returned (.int .i64 (evtE x)) ∧ Ext w w' := by
 have HV := Lib.hid (show evtE x = 3 by unfold evtE; have := withinB_yes h_d; rw [if_neg (by omega), if_neg (by omega), if_neg (fun hc => by have := hc.1; omega), if_pos (.inr (.inr ⟨by omega, h_m⟩))])
 have HA := Lib.hid ha
 have WK := Lib.hid (show withinB x.kind 0 5 = true from decide_eq_true (by omega))
 have hk1 : decide (x.kind ≤ 2) = false := decide_eq_false (by omega)
 have hk2 : (x.kind == 0) = false := by simp; omega
 have hk3 : (x.kind == 5) = true := by simp; omega
 have WD := Lib.hid (show withinB x.delay 1 8 = true from h_d)
 have z_h_z : (x.station != 0) = false := by simpa using h_z
 have HM : sameA x.act acnN = false := h_m
 clear ha hk h_d h_z h_m
 rw [HV.out]
 clear HV
 go_enter Tryz.func76, Tryz.ntmps76
 go_wp2_with (first
  | (go_at_call 60; refine (tak_within _ _ _ _).mono ?_; rintro e w' ⟨he, rfl⟩; simp only [WK.out] at he; subst he)
  | (go_at_call 111; refine (act_Check x.act _ (HA.out.mono (ex))).mono ?_; rintro e w' ⟨rfl, hx⟩; obtain ⟨y, rfl⟩ := hx.get; clear hx)
  | (refine wpList_built rfl 87 _ rfl [] rfl (acnR acnN).toArray (by kernel_rfl) ?_)
  | (go_at_call 112; refine (act_Same x.act acnN _ (HA.out.mono (ex)) (acnN_at _)).mono ?_; rintro e w' ⟨rfl, hx⟩; obtain ⟨y, rfl⟩ := hx.get; clear hx))
 (refine wp_region_grows (by kernel_rfl) (by kernel_rfl) ?_; (repeat (go_big_quiet_step (fail))); refine wpQuiet_nil ?_; rintro _ ⟨y, rfl⟩)
 go_wp2_with (first
  | (go_at_call 60; refine (tak_within _ _ _ _).mono ?_; rintro e w' ⟨he, rfl⟩; simp only [WD.out] at he; subst he)
  | (go_at_call 111; refine (act_Check x.act _ (HA.out.mono (ex))).mono ?_; rintro e w' ⟨rfl, hx⟩; obtain ⟨y, rfl⟩ := hx.get; clear hx)
  | (refine wpList_built rfl 87 _ rfl [] rfl (acnR acnN).toArray (by kernel_rfl) ?_)
  | (go_at_call 112; refine (act_Same x.act acnN _ (HA.out.mono (ex)) (acnN_at _)).mono ?_; rintro e w' ⟨rfl, hx⟩; obtain ⟨y, rfl⟩ := hx.get; clear hx))
 go_ret
 exact ⟨rfl, ex⟩
theorem tak_event_Eo (x : Evt) (w : World) (ha : AcnAt w x.act) (hk : x.kind = 5) (h_d : withinB x.delay 1 8 = true) (h_z : x.station = 0) (h_m : sameA x.act acnN = true) : Calls Tryz.prog 76 #[.agg (evtR x).toArray] w fun e w' => e = .returned (.int .i64 (evtE x)) ∧ Ext w w' := by
 have HV := Lib.hid (show evtE x = 0 by unfold evtE; have := withinB_yes h_d; rw [if_neg (by omega), if_neg (by omega), if_neg (fun hc => by have := hc.1; omega), if_neg (by rintro (⟨a, b⟩ | ⟨a, b⟩ | ⟨a, b⟩) <;> first | omega | (rw [h_m] at b; cases b))])
 have HA := Lib.hid ha
 have WK := Lib.hid (show withinB x.kind 0 5 = true from decide_eq_true (by omega))
 have hk1 : decide (x.kind ≤ 2) = false := decide_eq_false (by omega)
 have hk2 : (x.kind == 0) = false := by simp; omega
 have hk3 : (x.kind == 5) = true := by simp; omega
 have WD := Lib.hid (show withinB x.delay 1 8 = true from h_d)
 have z_h_z : (x.station != 0) = false := by simpa using h_z
 have HM : sameA x.act acnN = true := h_m
 clear ha hk h_d h_z h_m
 rw [HV.out]
 clear HV
 go_enter Tryz.func76, Tryz.ntmps76
 go_wp2_with (first
  | (go_at_call 60; refine (tak_within _ _ _ _).mono ?_; rintro e w' ⟨he, rfl⟩; simp only [WK.out] at he; subst he)
  | (go_at_call 111; refine (act_Check x.act _ (HA.out.mono (ex))).mono ?_; rintro e w' ⟨rfl, hx⟩; obtain ⟨y, rfl⟩ := hx.get; clear hx)
  | (refine wpList_built rfl 87 _ rfl [] rfl (acnR acnN).toArray (by kernel_rfl) ?_)
  | (go_at_call 112; refine (act_Same x.act acnN _ (HA.out.mono (ex)) (acnN_at _)).mono ?_; rintro e w' ⟨rfl, hx⟩; obtain ⟨y, rfl⟩ := hx.get; clear hx))
 (refine wp_region_grows (by kernel_rfl) (by kernel_rfl) ?_; (repeat (go_big_quiet_step (fail))); refine wpQuiet_nil ?_; rintro _ ⟨y, rfl⟩)
 go_wp2_with (first
  | (go_at_call 60; refine (tak_within _ _ _ _).mono ?_; rintro e w' ⟨he, rfl⟩; simp only [WD.out] at he; subst he)
  | (go_at_call 111; refine (act_Check x.act _ (HA.out.mono (ex))).mono ?_; rintro e w' ⟨rfl, hx⟩; obtain ⟨y, rfl⟩ := hx.get; clear hx)
  | (refine wpList_built rfl 87 _ rfl [] rfl (acnR acnN).toArray (by kernel_rfl) ?_)
  | (go_at_call 112; refine (act_Same x.act acnN _ (HA.out.mono (ex)) (acnN_at _)).mono ?_; rintro e w' ⟨rfl, hx⟩; obtain ⟨y, rfl⟩ := hx.get; clear hx))
 go_ret
 exact ⟨rfl, ex⟩
theorem tak_event (x : Evt) (w : World) (ha : AcnAt w x.act) : Calls Tryz.prog 76 #[.agg (evtR x).toArray] w fun e w' => e = .returned (.int .i64 (evtE x)) ∧ Ext w w' := by
 cases h : withinB x.kind 0 5 with
 | false => exact tak_event_k x w ha h
 | true =>
  have hw := withinB_yes h
  have hc : x.kind = 0 ∨ (x.kind = 1 ∨ x.kind = 2) ∨ (x.kind = 3 ∨ x.kind = 4) ∨ x.kind = 5 := by omega
  rcases hc with hk | hk | hk | hk
  ·cases h_s : withinB x.station 1 2 with
   | false => exact tak_event_As x w ha hk h_s
   | true =>
    by_cases h_a : acnE x.act = 0
    ·by_cases h_y : x.delay = 0
     ·exact tak_event_Ao x w ha hk h_s h_a h_y
     ·exact tak_event_Ay x w ha hk h_s h_a h_y
    ·exact tak_event_Aa x w ha hk h_s h_a
  ·cases h_s : withinB x.station 1 2 with
   | false => exact tak_event_Bs x w ha hk h_s
   | true =>
    by_cases h_y : x.delay = 0
    ·cases h_m : sameA x.act acnN with
     | false => exact tak_event_Bm x w ha hk h_s h_y h_m
     | true => exact tak_event_Bo x w ha hk h_s h_y h_m
    ·exact tak_event_By x w ha hk h_s h_y
  ·by_cases h_z : x.station = 0
   ·by_cases h_y : x.delay = 0
    ·cases h_m : sameA x.act acnN with
     | false => exact tak_event_Cm x w ha hk h_z h_y h_m
     | true => exact tak_event_Co x w ha hk h_z h_y h_m
    ·exact tak_event_Cy x w ha hk h_z h_y
   ·exact tak_event_Cz x w ha hk h_z
  ·cases h_d : withinB x.delay 1 8 with
   | false => exact tak_event_Ed x w ha hk h_d
   | true =>
    by_cases h_z : x.station = 0
    ·cases h_m : sameA x.act acnN with
     | false => exact tak_event_Em x w ha hk h_d h_z h_m
     | true => exact tak_event_Eo x w ha hk h_d h_z h_m
    ·exact tak_event_Ez x w ha hk h_d h_z
end Go.Proofs.YtmhinhgflehkaaaGreat

/-
 Chapter 55: the errors of lists of events.
-/
namespace Go.Proofs.YtmhinhgflehkaaaGreat
open Go.RowKit

theorem evtS_tick {q : Option Evt} {x : Evt} (h : withinB x.tick 0 1048576 = false) : evtS q x = 2 := by
 have := withinB_no h
 unfold evtS; rw [if_pos (by omega)]
theorem evtS_less {q : Option Evt} {x p : Evt} (h : withinB x.tick 0 1048576 = true) (hq : q = some p) (hl : x.tick < p.tick) : evtS q x = 9 := by
 have := withinB_yes h
 unfold evtS; rw [if_neg (by omega), hq]; simp only; rw [if_pos hl]
theorem evtS_more {q : Option Evt} {x p : Evt} (h : withinB x.tick 0 1048576 = true) (hq : q = some p) (hl : ¬ x.tick < p.tick) : evtS q x = evtE x := by
 have := withinB_yes h
 unfold evtS; rw [if_neg (by omega), hq]; simp only; rw [if_neg hl]
theorem evtS_first {x : Evt} (h : withinB x.tick 0 1048576 = true) : evtS none x = evtE x := by
 have := withinB_yes h
 unfold evtS; rw [if_neg (by omega)]
section
variable {A : Option Addr} {c : Nat} {l : List Evt} {b : Nat}
theorem tak_right1 (k : Nat) (x : Evt) (w : World) (hs : EvtsAt w A c l) (hk : l[k]? = some x) (hb : w.cell? ⟨b, 0, none⟩ = some (.slice A l.length c)) : Calls Tryz.prog 75 #[.int .i64 k, .agg (evtR x).toArray, .pointer (some ⟨b, 0, none⟩)] w fun e w' => e = .returned (.int .i64 (evtS (prv l k) x)) ∧ Ext w w' := by
 have hl := hs.len
 have hlt : k < l.length := (List.getElem?_eq_some_iff.1 hk).1
 have HA := Lib.hid (hs.el x (List.mem_of_getElem? hk))
 cases h1 : withinB x.tick 0 1048576 with
 | false =>
  have HV := Lib.hid (evtS_tick (q := prv l k) h1)
  have H1 := Lib.hid h1
  clear h1 hs hk hb hlt
  go_enter Tryz.func75, Tryz.ntmps75
  go_wp2_with (go_at_call 60; refine (tak_within _ _ _ _).mono ?_; rintro e w' ⟨he, rfl⟩; simp only [H1.out] at he; subst he)
  go_ret
  exact ⟨ret_i HV.out.symm, ex⟩
 | true =>
  cases k with
  | zero =>
   have HV := Lib.hid (show evtS (prv l 0) x = evtE x from evtS_first h1)
   have H1 := Lib.hid h1
   clear h1 hs hk hb hlt
   go_enter Tryz.func75, Tryz.ntmps75
   go_wp2_with (go_at_call 60; refine (tak_within _ _ _ _).mono ?_; rintro e w' ⟨he, rfl⟩; simp only [H1.out] at he; subst he)
   (refine wp_region_grows (by kernel_rfl) (by kernel_rfl) ?_; (repeat (go_big_quiet_step (fail))); refine wpQuiet_nil ?_; rintro _ ⟨y, rfl⟩)
   go_wp2_with (go_at_call 76; refine (tak_event x _ (HA.out.mono (ex))).mono ?_; rintro e w' ⟨rfl, hx⟩; obtain ⟨y, rfl⟩ := hx.get; clear hx)
   go_ret
   exact ⟨ret_i HV.out.symm, ex⟩
  | succ k =>
   obtain ⟨p, hp⟩ : ∃ p, l[k]? = some p := ⟨_, List.getElem?_eq_getElem (by omega)⟩
   have hq : prv l (k + 1) = some p := by rw [prv_succ, hp]
   obtain ⟨b', o', hA, hat, -⟩ := hs.get hp
   subst hA
   have ht := hat.tick
   have hw1 : IntKind.i64.wrap (((k + 1 : Nat) : Int) - 1) = (k : Int) := by rw [show ((k + 1 : Nat) : Int) - 1 = (k : Int) by omega]; exact IntWalk.i64_in _ (by omega)
   have hd0 : decide ((0 : Int) < ((k + 1 : Nat) : Int)) = true := decide_eq_true (by omega)
   have hb0 : (0 : Int) ≤ (k : Int) := by omega
   have hb1 : (k : Int) < (l.length : Int) := by omega
   obtain ⟨j, hj⟩ : ∃ j : Int, ((k + 1 : Nat) : Int) = j := ⟨_, rfl⟩
   rw [hj] at hw1 hd0
   by_cases hlss : x.tick < p.tick
   ·have HV := Lib.hid (evtS_less h1 hq hlss)
    have H1 := Lib.hid h1
    have hd : decide (x.tick < p.tick) = true := decide_eq_true hlss
    rw [HV.out, hj]
    clear h1 hs hk hlt hp hq hat hlss HV
    go_enter Tryz.func75, Tryz.ntmps75
    go_wp2_with (go_at_call 60; refine (tak_within _ _ _ _).mono ?_; rintro e w' ⟨he, rfl⟩; simp only [H1.out] at he; subst he)
    (refine wp_region_grows (by kernel_rfl) (by kernel_rfl) ?_; (repeat (go_big_quiet_step (fail))); refine wpQuiet_nil ?_; rintro _ ⟨y, rfl⟩)
    go_wp2
    go_ret
    exact ⟨rfl, ex⟩
   ·have HV := Lib.hid (evtS_more h1 hq hlss)
    have H1 := Lib.hid h1
    have hd : decide (x.tick < p.tick) = false := decide_eq_false hlss
    rw [HV.out, hj]
    clear h1 hs hk hlt hp hq hat hlss HV
    go_enter Tryz.func75, Tryz.ntmps75
    go_wp2_with (go_at_call 60; refine (tak_within _ _ _ _).mono ?_; rintro e w' ⟨he, rfl⟩; simp only [H1.out] at he; subst he)
    (refine wp_region_grows (by kernel_rfl) (by kernel_rfl) ?_; (repeat (go_big_quiet_step (fail))); refine wpQuiet_nil ?_; rintro _ ⟨y, rfl⟩)
    go_wp2_with (go_at_call 76; refine (tak_event x _ (HA.out.mono (ex))).mono ?_; rintro e w' ⟨rfl, hx⟩; obtain ⟨y, rfl⟩ := hx.get; clear hx)
    go_ret
    exact ⟨rfl, ex⟩
theorem tak_eachE (w : World) (hs : EvtsAt w A c l) (hb : w.cell? ⟨b, 0, none⟩ = some (.slice A l.length c)) :
  Calls Tryz.prog 74 #[.slice A l.length c, .func (Fn.func 75) #[] #[.pointer (some ⟨b, 0, none⟩)]] w fun e w' => e = .returned (.int .i64 (scan evtS none l)) ∧ Ext w w' := by
 have hl := hs.len
 have HS := Lib.hid hs
 have HB := Lib.hid hb
 have HM := Lib.hid (show scan evtS none l = scan evtS (prv l 0) (l.drop 0) from rfl)
 clear hs hb
 go_enter Tryz.func74, Tryz.ntmps74
 go_wp2
 go_loopw [10] (fun i wr => ∃ k : Nat, k ≤ l.length ∧ i = .int .i64 k ∧ Ext w wr ∧ Hid (scan evtS none l = scan evtS (prv l k) (l.drop k))) (fun i _ => l.length - (intOf i).toNat)
 case atStart => exact ⟨0, by omega, rfl, Ext.refl _, HM⟩
 case round =>
  obtain ⟨k, hk, rfl, hx, HE⟩ := hrel
  obtain ⟨y0, rfl⟩ := hx.get
  clear hx HM
  by_cases hlt : k < l.length
  ·obtain ⟨x, hx⟩ : ∃ x, l[k]? = some x := ⟨_, List.getElem?_eq_getElem hlt⟩
   have HX := Lib.hid hx
   have HE2 := Lib.hid (HE.out.trans (scan_at evtS l k x hx))
   obtain ⟨b', o', hA, hat, -⟩ := HS.out.get hx
   subst hA
   have hr := hat.row
   have hb0 : (0 : Int) ≤ (k : Int) := by omega
   have hb2 : (k : Int) < (l.length : Int) := by omega
   clear hx HE hat
   by_cases he : evtS (prv l k) x = 0
   ·have hz : (evtS (prv l k) x != 0) = false := by simpa using he
    have HF := Lib.hid (show scan evtS none l = scan evtS (prv l (k + 1)) (l.drop (k + 1)) by rw [HE2.out, if_neg (by simpa using he)])
    clear he
    go_wp2_with (first
     | (refine wpList_store_top rfl 89 (.tmp 6) (.tmp 14) rfl rfl (by simp [go_sem]) (evtR x) rfl rfl (by kernel_rfl) (evtR_one _) ?_)
     | (go_at_call 75; refine (tak_right1 k x _ (HS.out.mono (ex)) HX.out (Ext.cell (ex) HB.out)).mono ?_; rintro e w' ⟨rfl, hx⟩; obtain ⟨y, rfl⟩ := hx.get; clear hx))
    go_light
    exact ⟨⟨k + 1, by omega, by go_num, ex, HF⟩, by simp [intOf]; omega⟩
   ·have hz : (evtS (prv l k) x != 0) = true := by simpa using he
    have HV := Lib.hid (show evtS (prv l k) x = scan evtS none l by rw [HE2.out, if_pos he])
    clear he
    go_wp2_with (first
     | (refine wpList_store_top rfl 89 (.tmp 6) (.tmp 14) rfl rfl (by simp [go_sem]) (evtR x) rfl rfl (by kernel_rfl) (evtR_one _) ?_)
     | (go_at_call 75; refine (tak_right1 k x _ (HS.out.mono (ex)) HX.out (Ext.cell (ex) HB.out)).mono ?_; rintro e w' ⟨rfl, hx⟩; obtain ⟨y, rfl⟩ := hx.get; clear hx))
    go_ret
    exact ⟨ret_i HV.out, ex⟩
  ·have HV := Lib.hid (HE.out.trans (scan_end evtS l k _ (by omega)))
   go_wp2
   go_ret
   exact ⟨ret_i HV.out.symm, ex⟩
theorem tak_Right (w : World) (hs : EvtsAt w A c l) : Calls Tryz.prog 24 #[.slice A l.length c] w fun e w' => e = .returned (.int .i64 (evtsE l)) ∧ Ext w w' := by
 have hl := hs.len
 have HS := Lib.hid hs
 clear hs
 by_cases h : 256 < l.length
 ·have hd : decide ((256 : Int) < (l.length : Int)) = true := decide_eq_true (by omega)
  have HV := Lib.hid (show evtsE l = 5 by unfold evtsE; rw [if_pos h])
  clear h
  go_enter Tryz.func24, Tryz.ntmps24
  go_wp2
  go_ret
  exact ⟨ret_i HV.out.symm, ex⟩
 ·have hd : decide ((256 : Int) < (l.length : Int)) = false := decide_eq_false (by omega)
  have HV := Lib.hid (show evtsE l = scan evtS none l by unfold evtsE; rw [if_neg h])
  clear h
  go_enter Tryz.func24, Tryz.ntmps24
  go_wp2_with (go_at_call 74; refine (tak_eachE _ (HS.out.mono (ex)) (by simp [go_sem])).mono ?_; rintro e w' ⟨rfl, hx⟩; obtain ⟨y, rfl⟩ := hx.get; clear hx)
  go_ret
  exact ⟨ret_i HV.out.symm, ex⟩
end
end Go.Proofs.YtmhinhgflehkaaaGreat

/-
 Chapter 55: a world that a function turns, as it lies in memory.
-/
namespace Go.Proofs.YtmhinhgflehkaaaGreat
open Go.RowKit

/-! ### What may change -/
theorem Turn.grown {g : Nat} {W W' : World} (h : Turn g W W') : W.grownBy W' (some g) := ⟨h.os, h.tape, h.output, Nat.le_of_eq h.size.symm, fun j _ hne => h.else_ j (fun e => hne (by rw [e]))⟩
theorem Ext.grown {W W' : World} (h : Ext W W') (r : Option Nat) : W.grownBy W' r := ⟨h.os, h.tape, h.output, h.size, fun j hj _ => h.block j hj⟩
theorem grown_trans {r : Option Nat} {W W' X : World} (h : W.grownBy W' r) (k : W'.grownBy X r) : W.grownBy X r :=
 ⟨k.os.trans h.os, k.tape.trans h.tape, k.output.trans h.output, Nat.le_trans h.size k.size, fun j hj hne => (k.block j (Nat.lt_of_lt_of_le hj h.size) hne).trans (h.block j hj hne)⟩
abbrev StayW (W W' : World) : Prop := Stay 145 30 W W'
structure Bent (g : Nat) (M : Option Addr) (W W' : World) : Prop where
 os : W'.os = W.os
 tape : W'.tape = W.tape
 output : W'.output = W.output
 size : W.heap.size ≤ W'.heap.size
 keep : ∀ k, k < W.heap.size → k ≠ g → (∀ p, M = some p → p.block ≠ k) → W'.heap[k]? = W.heap[k]?
 stay : StayW W W'
def MailTo (M : Option Addr) (W : World) (M' : Option Addr) : Prop := M' = M ∨ ∃ c, M' = some ⟨c, 0, none⟩ ∧ W.heap.size ≤ c
theorem MailTo.trans {M M' M'' : Option Addr} {W W' : World} (h : MailTo M W M') (hs : W.heap.size ≤ W'.heap.size) (k : MailTo M' W' M'') : MailTo M W M'' := by
 rcases k with rfl | ⟨c, e, hc⟩
 ·exact h
 ·exact .inr ⟨c, e, Nat.le_trans hs hc⟩
theorem Bent.trans {g : Nat} {M M' : Option Addr} {W W' X : World} (h : Bent g M W W') (hm : MailTo M W M') (k : Bent g M' W' X) : Bent g M W X :=
 ⟨k.os.trans h.os, k.tape.trans h.tape, k.output.trans h.output, Nat.le_trans h.size k.size, fun j hj h1 h2 => by
  rw [k.keep j (Nat.lt_of_lt_of_le hj h.size) h1 fun p hp => ?_]
  ·exact h.keep j hj h1 h2
  ·rcases hm with rfl | ⟨c, e, hc⟩
   ·exact h2 p hp
   ·rw [e] at hp
    injection hp with hp
    subst hp
    exact Nat.ne_of_gt (Nat.lt_of_lt_of_le hj hc), h.stay.trans k.stay⟩
theorem Ext.bent {W W' : World} (h : Ext W W') (g : Nat) (M : Option Addr) : Bent g M W W' := ⟨h.os, h.tape, h.output, h.size, fun j hj _ _ => h.block j hj, h.stay⟩
theorem wld_mute (w : Wld) (A : Option Addr) (a : Nat) (B : Option Addr) (b : Nat) (M : Option Addr) (m : Nat) : ∀ u ∈ ((Lw w A a B b M m) : List Value), noStr u = true := fun u hu => by
 simp only [List.mem_cons, List.not_mem_nil, or_false] at hu
 rcases hu with rfl | rfl | rfl | rfl | rfl | rfl | rfl | rfl | rfl | rfl | rfl | rfl | rfl | rfl | rfl | rfl | rfl | rfl | rfl | rfl | rfl <;> rfl
theorem wld_one (w : Wld) (A : Option Addr) (a : Nat) (B : Option Addr) (b : Nat) (M : Option Addr) (m : Nat) : ∀ u ∈ ((Lw w A a B b M m) : List Value), u.oneCell' = true := fun u hu => by
 simp only [List.mem_cons, List.not_mem_nil, or_false] at hu
 rcases hu with rfl | rfl | rfl | rfl | rfl | rfl | rfl | rfl | rfl | rfl | rfl | rfl | rfl | rfl | rfl | rfl | rfl | rfl | rfl | rfl | rfl <;> rfl
theorem ltrR_one (xs : List (Ltr × Option Addr × Nat)) : ∀ r ∈ xs.map ltrR, ∀ u ∈ r, u.oneCell' = true := fun r hr u hu => by
 obtain ⟨x, -, rfl⟩ := List.mem_map.1 hr
 simp only [ltrR, List.mem_cons, List.not_mem_nil, or_false] at hu
 rcases hu with rfl | rfl | rfl | rfl | rfl | rfl | rfl | rfl <;> rfl
theorem ltrR_mute (xs : List (Ltr × Option Addr × Nat)) : ∀ r ∈ xs.map ltrR, ∀ u ∈ r, noStr u = true := fun r hr u hu => by
 obtain ⟨x, -, rfl⟩ := List.mem_map.1 hr
 simp only [ltrR, List.mem_cons, List.not_mem_nil, or_false] at hu
 rcases hu with rfl | rfl | rfl | rfl | rfl | rfl | rfl | rfl <;> rfl

/-! ### A world in a box -/
structure WldC (w0 W : World) (g : Nat) (w : Wld) (A : Option Addr) (a : Nat) (B : Option Addr) (b : Nat) (M : Option Addr) (m : Nat) : Prop where
 ext : Ext w0 W
 ge : w0.heap.size ≤ g
 box : BoxAt W g (Lw w A a B b M m) 30
 qa : LogW w0 W A w.a.node.log.length a w.a.node.log
 qb : LogW w0 W B w.b.node.log.length b w.b.node.log
structure MailM (w0 W : World) (M : Option Addr) (m : Nat) (l : List Ltr) (xs : List (Ltr × Option Addr × Nat)) : Prop where
 own : OwnM w0 W 145 8 M l.length m (xs.map ltrR)
 room : M = none ∨ m ≠ 0
 is : xs.map (·.1) = l
 el : ∀ x ∈ xs, LogW w0 W x.2.1 x.1.msg.recs.length x.2.2 x.1.msg.recs
section
variable {w0 W V : World} {g : Nat} {w : Wld} {A B M : Option Addr} {a b m : Nat} {l : List Ltr} {xs : List (Ltr × Option Addr × Nat)}
theorem WldC.mono (h : WldC w0 W g w A a B b M m) (hx : Ext W V) : WldC w0 V g w A a B b M m := ⟨h.ext.trans hx, h.ge, h.box.mono hx, h.qa.mono hx, h.qb.mono hx⟩
theorem MailM.mono (h : MailM w0 W M m l xs) (hx : Ext W V) : MailM w0 V M m l xs := ⟨h.own.mono hx, h.room, h.is, fun x hm => (h.el x hm).mono hx⟩
theorem WldC.bent (h : WldC w0 W g w A a B b M m) (ht : W.grownBy V (some g)) (N : Option Addr) : Bent g N W V :=
 ⟨ht.os, ht.tape, ht.output, ht.size, fun k hk hne _ => ht.block k hk (fun e => hne (by injection e)), grown_stay ht h.box (.inr rfl) (noStr_at (wld_mute _ _ _ _ _ _ _))⟩
theorem MailM.ne {cs : List Value} (h : MailM w0 W M m l xs) (hb : BoxAt W g cs 30) : ∀ p, M = some p → p.block ≠ g := fun p hp e => by
 rcases h.own.own.at_ with h0 | ⟨k, cur, h1, h2, h3, h4⟩
 ·rcases h.room with hr | hr
  ·rw [hr] at hp; cases hp
  ·exact hr h0
 ·rw [h1] at hp
  injection hp with hp
  subst hp
  have e : k = g := e
  subst e
  unfold BoxAt at hb
  rw [h3] at hb
  injection hb with hb
  injection hb with e1 e2
  cases e2
theorem LogW.stayW {X : World} {N c : Nat} {r : List Rec} (h : LogW w0 W A N c r) (hs : StayW W X) : LogW w0 X A N c r := hs.logw h
theorem MailM.turn (h : MailM w0 W M m w.mail xs) (hw : WldC w0 W g w A a B b M m) (ht : W.grownBy V (some g)) : MailM w0 V M m w.mail xs :=
 ⟨h.own.kept ht (fun p hp e => h.ne hw.box p hp (by injection e)), h.room, h.is, fun x hx => (h.el x hx).stayW (hw.bent ht none).stay⟩
def StepC (w0 W : World) (g : Nat) (v : Wld) (M : Option Addr) (m : Nat) (e : Ending) (W' : World) : Prop := e = .returned (.tuple #[]) ∧ W.grownBy W' (some g) ∧ ∃ A a B b, WldC w0 W' g v A a B b M m
def StepM (w0 W : World) (g : Nat) (M : Option Addr) (v : Wld) (e : Ending) (W' : World) : Prop := e = .returned (.tuple #[]) ∧ Bent g M W W' ∧ ∃ A a B b M' m' xs', WldC w0 W' g v A a B b M' m' ∧ MailM w0 W' M' m' v.mail xs' ∧ MailTo M W M'
theorem WldC.grownM (h : WldC w0 W g w A a B b M m) (hm : MailM w0 W M m w.mail xs) (hg : W.grownBy V (M.map (·.block))) : BoxAt V g (Lw w A a B b M m) 30 := by
 unfold BoxAt
 rw [hg.block g h.box.lt ?_]
 ·exact h.box
 ·intro e
  cases M with
  | none => cases e
  | some p =>
   simp only [Option.map_some, Option.some.injEq] at e
   exact hm.ne h.box p rfl e.symm
theorem WldC.posted {V' : World} (h : WldC w0 W g w A a B b M m) (hm : MailM w0 W M m w.mail xs) (hs : StayW W V) (hg : W.grownBy V (M.map (·.block))) (hx : Ext w0 V) {M' : Option Addr} {m' : Nat} {y : Ltr} {D : Option Addr} {K : Nat}
  (ho : OwnM w0 V 145 8 M' (w.mail.length + 1) m' (xs.map ltrR ++ [ltrR (y, D, K)])) (hk : m' ≠ 0) (hA : M' = M ∨ M' = some ⟨W.heap.size, 0, none⟩) (hl : LogW w0 W D y.msg.recs.length K y.msg.recs)
  (ht : Turn g V V') {v : Wld} (hv : v = ⟨w.now, w.limit, w.delay, w.cut, w.a, w.b, w.mail ++ [y]⟩) (hb : BoxAt V' g (Lw v A a B b M' m') 30) :
  Bent g M W V' ∧ WldC w0 V' g v A a B b M' m' ∧ MailM w0 V' M' m' v.mail (xs ++ [(y, D, K)]) ∧ MailTo M W M' := by
 have hbV := h.grownM hm hg
 have hst : StayW W V' := hs.trans (ht.stay hbV (.inr rfl) (noStr_at (wld_mute _ _ _ _ _ _ _)))
 have e1 : xs.map ltrR ++ [ltrR (y, D, K)] = (xs ++ [(y, D, K)]).map ltrR := by rw [List.map_append]; rfl
 rw [e1] at ho
 have hb0 : MailM w0 V M' m' (w.mail ++ [y]) (xs ++ [(y, D, K)]) := ⟨by rw [List.length_append]; exact ho, .inr hk, by rw [List.map_append]; exact congrArg (· ++ [y]) hm.is, fun z hz => by
  rcases List.mem_append.1 hz with hz | hz
  ·exact (hm.el z hz).stayW hs
  ·simp only [List.mem_singleton] at hz; subst hz; exact hl.stayW hs⟩
 subst hv
 refine ⟨⟨ht.os.trans hg.os, ht.tape.trans hg.tape, ht.output.trans hg.output, Nat.le_trans hg.size (Nat.le_of_eq ht.size.symm), fun k hk hne hM => ?_, hst⟩, ⟨ht.ext hx h.ge, h.ge, hb, (h.qa.stayW hs).turn ht, (h.qb.stayW hs).turn ht⟩, ⟨hb0.own.turn ht (hb0.ne hbV), hb0.room, hb0.is, fun z hz => (hb0.el z hz).turn ht⟩, ?_⟩
 ·rw [ht.else_ k hne]
  refine hg.block k hk fun e => ?_
  cases M with
  | none => cases e
  | some p =>
   simp only [Option.map_some, Option.some.injEq] at e
   exact hM p rfl e.symm
 ·rcases hA with e | e
  ·exact .inl e
  ·exact .inr ⟨_, e, Nat.le_refl _⟩
theorem StepM.of {v : Wld} {W1 W' : World} {e : Ending} (hb : Bent g M W W1) (h : StepM w0 W1 g M v e W') : StepM w0 W g M v e W' := by
 obtain ⟨he, h1, A, a, B, b, M', m', xs', h2, h3, h4⟩ := h
 exact ⟨he, hb.trans (.inl rfl) h1, A, a, B, b, M', m', xs', h2, h3, h4.imp id fun ⟨c, e, hc⟩ => ⟨c, e, Nat.le_trans hb.size hc⟩⟩
theorem StepM.ofC {v : Wld} {W' : World} (h : WldC w0 W g w A a B b M m) (hm : MailM w0 W M m w.mail xs) (hg : W.grownBy W' (some g)) (hv : v.mail = w.mail) {A' : Option Addr} {a' : Nat} {B' : Option Addr} {b' : Nat} (h' : WldC w0 W' g v A' a' B' b' M m) : StepM w0 W g M v (.returned (.tuple #[])) W' :=
 ⟨rfl, h.bent hg M, A', a', B', b', M, m, xs, h', by rw [hv]; exact hm.turn h hg, .inl rfl⟩
end
theorem info_Ltr : infoOk Tryz.prog 145 8 80 = true := by kernel_rfl
theorem zero_Ltr : zeroMute Tryz.prog 145 = true := by kernel_rfl
end Go.Proofs.YtmhinhgflehkaaaGreat

/-
 Chapter 55: a station leads.
-/
namespace Go.Proofs.YtmhinhgflehkaaaGreat
open Go.RowKit

section
variable {w0 W : World} {g : Nat} {w : Wld} {A B M : Option Addr} {a b m : Nat} {xs : List (Ltr × Option Addr × Nat)}
@[go_sem] theorem index_I0 (w : World) (u v : Int) : (Instr.index 32 (.agg #[.int .i64 u, .int .i64 v]) (.int .i64 0)).run Tryz.prog w = .ok (.int .i64 u) w := by kernel_rfl
@[go_sem] theorem index_I1 (w : World) (u v : Int) : (Instr.index 32 (.agg #[.int .i64 u, .int .i64 v]) (.int .i64 1)).run Tryz.prog w = .ok (.int .i64 v) w := by kernel_rfl
theorem tak_lead_a (h : WldC w0 W g w A a B b M m) (hs : StaOk 1 w.a) : Calls Tryz.prog 163 #[.pointer (some ⟨g, 0, none⟩), .pointer (some ⟨g, 4, none⟩)] W (StepC w0 W g ⟨w.now, w.limit, w.delay, w.cut, leadS w.limit w.a, w.b, w.mail⟩ M m) := by
 have HC := Lib.hid h
 have hla := (h.qa.recs h.ext (Ext.refl W)).len
 have hlb := (h.qb.recs h.ext (Ext.refl W)).len
 have hq0 := hs.q0
 have hq1 := hs.q1
 have ht0 := hs.node.t0
 have ht1 := hs.node.t1
 obtain ⟨q, hq⟩ : ∃ q, min (w.a.quiet + 1) 1048576 = q := ⟨_, rfl⟩
 have hw1 : IntKind.i64.wrap (w.a.quiet + 1) = w.a.quiet + 1 := IntWalk.i64_in _ (by omega)
 have hw2 : IntKind.i64.wrap (w.a.node.term + 1) = w.a.node.term + 1 := IntWalk.i64_in _ (by omega)
 have hw3 : IntKind.i64.wrap (w.a.node.term + 2) = w.a.node.term + 2 := IntWalk.i64_in _ (by omega)
 have HQ := Lib.hid hq
 have c0:=h.box.c 0 rfl;have c1:=h.box.c 1 rfl;have c2:=h.box.c 2 rfl;have c3:=h.box.c 3 rfl;have c4:=h.box.c 4 rfl;have c5:=h.box.c 5 rfl;have c6:=h.box.c 6 rfl;have c7:=h.box.c 7 rfl;have c8:=h.box.c 8 rfl;have c9:=h.box.c 9 rfl;have c10:=h.box.c 10 rfl;have c11:=h.box.c 11 rfl;have c12:=h.box.c 12 rfl;have c13:=h.box.c 13 rfl;have c14:=h.box.c 14 rfl;have c15:=h.box.c 15 rfl;have c16:=h.box.c 16 rfl;have c17:=h.box.c 17 rfl;have c18:=h.box.c 18 rfl;have c19:=h.box.c 19 rfl;have c20:=h.box.c 20 rfl
 clear h hs
 by_cases hl : q ≤ w.limit
 ·have hd : decide (q ≤ w.limit) = true := decide_eq_true hl
  have HV := Lib.hid (show leadS w.limit w.a = ⟨w.a.node, w.a.up, q⟩ by unfold leadS; simp only; rw [HQ.out, if_pos hl])
  clear hl
  go_enter Tryz.func163, Tryz.ntmps163
  go_wp2_with (refine wpList_store_cell rfl 3 (.tmp 16) (.tmp 14) rfl (HC.out.box.mono (ex)) 11 rfl (.int .i64 q) rfl (show 11 < 21 by decide) (show 21 < 44 by decide) (by kernel_rfl) rfl (Lv w w.a.node A a w.a.up q w.b.node B b w.b.up w.b.quiet M m) rfl ?_; intro W1 ht1 hb1; clear c0 c1 c2 c3 c4 c5 c6 c7 c8 c9 c10 c11 c12 c13 c14 c15 c16 c17 c18 c19 c20; have e0:=hb1.c 0 rfl; have e1:=hb1.c 1 rfl; have e2:=hb1.c 2 rfl; have e3:=hb1.c 3 rfl; have e4:=hb1.c 4 rfl; have e5:=hb1.c 5 rfl; have e6:=hb1.c 6 rfl; have e7:=hb1.c 7 rfl; have e8:=hb1.c 8 rfl; have e9:=hb1.c 9 rfl; have e10:=hb1.c 10 rfl; have e11:=hb1.c 11 rfl; have e12:=hb1.c 12 rfl; have e13:=hb1.c 13 rfl; have e14:=hb1.c 14 rfl; have e15:=hb1.c 15 rfl; have e16:=hb1.c 16 rfl; have e17:=hb1.c 17 rfl; have e18:=hb1.c 18 rfl; have e19:=hb1.c 19 rfl; have e20:=hb1.c 20 rfl)
  (try simp only [Act.put])
  (refine wp_region_grows (by kernel_rfl) (by kernel_rfl) ?_; (repeat (go_big_quiet_step (fail))); refine wpQuiet_nil ?_; rintro _ ⟨y, rfl⟩)
  go_wp2
  (first | go_end0 | (refine bodyPost_ret (results_none rfl _ _ _) rfl ?_))
  rw [HV.out]
  exact ⟨rfl, grown_trans (Ext.grown (by exact ex) _) (grown_trans ht1.grown (Ext.grown (by exact ex) _)), _, _, _, _, ⟨(ht1.ext (HC.out.ext.trans (by exact ex)) HC.out.ge).trans (by exact ex), HC.out.ge, hb1.mono (ex), ((HC.out.qa.mono (by exact ex)).turn ht1).mono (by exact ex), ((HC.out.qb.mono (by exact ex)).turn ht1).mono (by exact ex)⟩⟩
 ·have hd : decide (q ≤ w.limit) = false := decide_eq_false hl
  obtain ⟨x1, r1, hv1⟩ : ∃ x r, leadV w.a.node (w.a.node.term + 1) = (x, r) := ⟨_, _, rfl⟩
  obtain ⟨x2, r2, hv2⟩ : ∃ x r, leadV w.a.node (w.a.node.term + 2) = (x, r) := ⟨_, _, rfl⟩
  have HL1 := Lib.hid (fun (V X : World) (hx : Ext W X) (ht : Turn g X V) (Y : World) (hy : Ext V Y) => (rep_Lead w.a.node A a (w.a.node.term + 1) Y ((((HC.out.qa.mono hx).turn ht).recs (ht.ext (HC.out.ext.trans hx) HC.out.ge) hy))).mono fun _ _ p => RetNod.parts p hv1 (w0 := w0) (by have := leadV_log (R := fun r => AcnAt w0 r.act) w.a.node (w.a.node.term + 1) HC.out.qa.el; rwa [hv1] at this))
  have HL2 := Lib.hid (fun (V X : World) (hx : Ext W X) (ht : Turn g X V) (Y : World) (hy : Ext V Y) => (rep_Lead w.a.node A a (w.a.node.term + 2) Y ((((HC.out.qa.mono hx).turn ht).recs (ht.ext (HC.out.ext.trans hx) HC.out.ge) hy))).mono fun _ _ p => RetNod.parts p hv2 (w0 := w0) (by have := leadV_log (R := fun r => AcnAt w0 r.act) w.a.node (w.a.node.term + 2) HC.out.qa.el; rwa [hv2] at this))
  have HV := Lib.hid (show leadS w.limit w.a = (if r1 = 0 then ⟨x1, w.a.up, 0⟩ else if r2 = 0 then ⟨x2, w.a.up, 0⟩ else ⟨w.a.node, w.a.up, q⟩ : Sta) by unfold leadS; simp only; rw [HQ.out, if_neg hl, hv1, hv2])
  clear hl hv1 hv2
  go_enter Tryz.func163, Tryz.ntmps163
  go_wp2_with (refine wpList_store_cell rfl 3 (.tmp 16) (.tmp 14) rfl (HC.out.box.mono (ex)) 11 rfl (.int .i64 q) rfl (show 11 < 21 by decide) (show 21 < 44 by decide) (by kernel_rfl) rfl (Lv w w.a.node A a w.a.up q w.b.node B b w.b.up w.b.quiet M m) rfl ?_; intro W1 ht1 hb1; clear c0 c1 c2 c3 c4 c5 c6 c7 c8 c9 c10 c11 c12 c13 c14 c15 c16 c17 c18 c19 c20; have e0:=hb1.c 0 rfl; have e1:=hb1.c 1 rfl; have e2:=hb1.c 2 rfl; have e3:=hb1.c 3 rfl; have e4:=hb1.c 4 rfl; have e5:=hb1.c 5 rfl; have e6:=hb1.c 6 rfl; have e7:=hb1.c 7 rfl; have e8:=hb1.c 8 rfl; have e9:=hb1.c 9 rfl; have e10:=hb1.c 10 rfl; have e11:=hb1.c 11 rfl; have e12:=hb1.c 12 rfl; have e13:=hb1.c 13 rfl; have e14:=hb1.c 14 rfl; have e15:=hb1.c 15 rfl; have e16:=hb1.c 16 rfl; have e17:=hb1.c 17 rfl; have e18:=hb1.c 18 rfl; have e19:=hb1.c 19 rfl; have e20:=hb1.c 20 rfl)
  (try simp only [Act.put])
  (refine wp_region_grows (by kernel_rfl) (by kernel_rfl) ?_; (repeat (go_big_quiet_step (fail))); refine wpQuiet_nil ?_; rintro _ ⟨y, rfl⟩)
  go_wp2
  (refine wp_region_grows (by kernel_rfl) (by kernel_rfl) ?_; (repeat (go_big_quiet_step (fail))); refine wpQuiet_nil ?_; rintro _ ⟨y, rfl⟩)
  go_wp2
  refine wp_name (fun W2 hW2 => ?_)
  have x12 : Ext W1 W2 := by rw [hW2]; exact (ex)
  have hb2 := hb1.mono x12
  clear hW2 e0 e1 e2 e3 e4 e5 e6 e7 e8 e9 e10 e11 e12 e13 e14 e15 e16 e17 e18 e19 e20
  go_loopw [39] (fun i wr => Ext W2 wr ∧ (i = .int .i64 0 ∨ (i = .int .i64 1 ∧ r1 ≠ 0) ∨ (i = .int .i64 2 ∧ r1 ≠ 0 ∧ r2 ≠ 0))) (fun i _ => 2 - (intOf i).toNat)
  case atStart => exact ⟨Ext.refl _, .inl rfl⟩
  case round =>
   obtain ⟨hx, hrel⟩ := hrel
   obtain ⟨y0, rfl⟩ := hx.get
   clear hx
   have e0:=hb2.c 0 rfl;have e1:=hb2.c 1 rfl;have e2:=hb2.c 2 rfl;have e3:=hb2.c 3 rfl;have e4:=hb2.c 4 rfl;have e5:=hb2.c 5 rfl;have e6:=hb2.c 6 rfl;have e7:=hb2.c 7 rfl;have e8:=hb2.c 8 rfl;have e9:=hb2.c 9 rfl;have e10:=hb2.c 10 rfl;have e11:=hb2.c 11 rfl;have e12:=hb2.c 12 rfl;have e13:=hb2.c 13 rfl;have e14:=hb2.c 14 rfl;have e15:=hb2.c 15 rfl;have e16:=hb2.c 16 rfl;have e17:=hb2.c 17 rfl;have e18:=hb2.c 18 rfl;have e19:=hb2.c 19 rfl;have e20:=hb2.c 20 rfl
   rcases hrel with rfl | ⟨rfl, hr1⟩ | ⟨rfl, hr1, hr2⟩
   ·by_cases hr : r1 = 0
    ·subst hr
     go_wp2_with (first
     | (go_at_call 52; refine (HL1.out _ _ (ex) ht1 _ (ex)).mono ?_; rintro e w' ⟨D, K, rfl, hx, hl⟩; have HLa := Lib.hid hl; obtain ⟨ye, rfl⟩ := hx.get; clear hx hl)
     | (refine wpList_store_part rfl 24 (.tmp 57) (.tmp 55) rfl (hb2.mono (ex)) 4 rfl (Ln x1 D K) rfl (show 10 ≤ 21 by decide) (show 21 < 44 by decide) (by kernel_rfl) (nodl_one x1 D K) (Lv w x1 D K w.a.up q w.b.node B b w.b.up w.b.quiet M m) rfl ?_; intro W3 ht3 hb3)
     | (refine wpList_store_cell rfl 3 (.tmp 59) (.const (.int .i64 0)) rfl hb3 11 rfl (.int .i64 0) rfl (show 11 < 21 by decide) (show 21 < 44 by decide) (by kernel_rfl) rfl (Lv w x1 D K w.a.up 0 w.b.node B b w.b.up w.b.quiet M m) rfl ?_; intro W4 ht4 hb4))
     (first | go_end0 | (refine bodyPost_ret (results_none rfl _ _ _) rfl ?_))
     rw [HV.out, if_pos trivial]
     exact ⟨rfl, grown_trans (Ext.grown (by exact ex) _) (grown_trans ht1.grown (grown_trans (Ext.grown (x12.trans (by exact ex)) _) (grown_trans ht3.grown ht4.grown))), _, _, _, _, ⟨ht4.ext (ht3.ext ((ht1.ext (HC.out.ext.trans (by exact ex)) HC.out.ge).trans (x12.trans (by exact ex))) HC.out.ge) HC.out.ge, HC.out.ge, hb4, ((HLa.out.mono (by exact ex)).turn ht3).turn ht4, ((((HC.out.qb.mono (by exact ex)).turn ht1).mono (x12.trans (by exact ex))).turn ht3).turn ht4⟩⟩
    ·have hz : (r1 == 0) = false := by simpa using hr
     go_wp2_with (go_at_call 52; refine (HL1.out _ _ (ex) ht1 _ (ex)).mono ?_; rintro e w' ⟨D, K, rfl, hx, hl⟩; have HLa := Lib.hid hl; obtain ⟨ye, rfl⟩ := hx.get; clear hx hl)
     go_light
     exact ⟨⟨ex, .inr (.inl ⟨rfl, hr⟩)⟩, by simp [intOf]⟩
   ·by_cases hr : r2 = 0
    ·subst hr
     go_wp2_with (first
     | (go_at_call 52; refine (HL2.out _ _ (ex) ht1 _ (ex)).mono ?_; rintro e w' ⟨D, K, rfl, hx, hl⟩; have HLa := Lib.hid hl; obtain ⟨ye, rfl⟩ := hx.get; clear hx hl)
     | (refine wpList_store_part rfl 24 (.tmp 57) (.tmp 55) rfl (hb2.mono (ex)) 4 rfl (Ln x2 D K) rfl (show 10 ≤ 21 by decide) (show 21 < 44 by decide) (by kernel_rfl) (nodl_one x2 D K) (Lv w x2 D K w.a.up q w.b.node B b w.b.up w.b.quiet M m) rfl ?_; intro W3 ht3 hb3)
     | (refine wpList_store_cell rfl 3 (.tmp 59) (.const (.int .i64 0)) rfl hb3 11 rfl (.int .i64 0) rfl (show 11 < 21 by decide) (show 21 < 44 by decide) (by kernel_rfl) rfl (Lv w x2 D K w.a.up 0 w.b.node B b w.b.up w.b.quiet M m) rfl ?_; intro W4 ht4 hb4))
     (first | go_end0 | (refine bodyPost_ret (results_none rfl _ _ _) rfl ?_))
     rw [HV.out, if_neg hr1, if_pos trivial]
     exact ⟨rfl, grown_trans (Ext.grown (by exact ex) _) (grown_trans ht1.grown (grown_trans (Ext.grown (x12.trans (by exact ex)) _) (grown_trans ht3.grown ht4.grown))), _, _, _, _, ⟨ht4.ext (ht3.ext ((ht1.ext (HC.out.ext.trans (by exact ex)) HC.out.ge).trans (x12.trans (by exact ex))) HC.out.ge) HC.out.ge, HC.out.ge, hb4, ((HLa.out.mono (by exact ex)).turn ht3).turn ht4, ((((HC.out.qb.mono (by exact ex)).turn ht1).mono (x12.trans (by exact ex))).turn ht3).turn ht4⟩⟩
    ·have hz : (r2 == 0) = false := by simpa using hr
     go_wp2_with (go_at_call 52; refine (HL2.out _ _ (ex) ht1 _ (ex)).mono ?_; rintro e w' ⟨D, K, rfl, hx, hl⟩; have HLa := Lib.hid hl; obtain ⟨ye, rfl⟩ := hx.get; clear hx hl)
     go_light
     exact ⟨⟨ex, .inr (.inr ⟨rfl, hr1, hr⟩)⟩, by simp [intOf]⟩
   ·go_wp2
    (first | go_end0 | (refine bodyPost_ret (results_none rfl _ _ _) rfl ?_))
    rw [HV.out, if_neg hr1, if_neg hr2]
    exact ⟨rfl, grown_trans (Ext.grown (by exact ex) _) (grown_trans ht1.grown (Ext.grown (x12.trans (by exact ex)) _)), _, _, _, _, ⟨((ht1.ext (HC.out.ext.trans (by exact ex)) HC.out.ge).trans x12).trans (by exact ex), HC.out.ge, hb2.mono (ex), (((HC.out.qa.mono (by exact ex)).turn ht1).mono x12).mono (by exact ex), (((HC.out.qb.mono (by exact ex)).turn ht1).mono x12).mono (by exact ex)⟩⟩
theorem tak_lead_b (h : WldC w0 W g w A a B b M m) (hs : StaOk 2 w.b) : Calls Tryz.prog 163 #[.pointer (some ⟨g, 0, none⟩), .pointer (some ⟨g, 12, none⟩)] W (StepC w0 W g ⟨w.now, w.limit, w.delay, w.cut, w.a, leadS w.limit w.b, w.mail⟩ M m) := by
 have HC := Lib.hid h
 have hla := (h.qa.recs h.ext (Ext.refl W)).len
 have hlb := (h.qb.recs h.ext (Ext.refl W)).len
 have hq0 := hs.q0
 have hq1 := hs.q1
 have ht0 := hs.node.t0
 have ht1 := hs.node.t1
 obtain ⟨q, hq⟩ : ∃ q, min (w.b.quiet + 1) 1048576 = q := ⟨_, rfl⟩
 have hw1 : IntKind.i64.wrap (w.b.quiet + 1) = w.b.quiet + 1 := IntWalk.i64_in _ (by omega)
 have hw2 : IntKind.i64.wrap (w.b.node.term + 1) = w.b.node.term + 1 := IntWalk.i64_in _ (by omega)
 have hw3 : IntKind.i64.wrap (w.b.node.term + 2) = w.b.node.term + 2 := IntWalk.i64_in _ (by omega)
 have HQ := Lib.hid hq
 have c0:=h.box.c 0 rfl;have c1:=h.box.c 1 rfl;have c2:=h.box.c 2 rfl;have c3:=h.box.c 3 rfl;have c4:=h.box.c 4 rfl;have c5:=h.box.c 5 rfl;have c6:=h.box.c 6 rfl;have c7:=h.box.c 7 rfl;have c8:=h.box.c 8 rfl;have c9:=h.box.c 9 rfl;have c10:=h.box.c 10 rfl;have c11:=h.box.c 11 rfl;have c12:=h.box.c 12 rfl;have c13:=h.box.c 13 rfl;have c14:=h.box.c 14 rfl;have c15:=h.box.c 15 rfl;have c16:=h.box.c 16 rfl;have c17:=h.box.c 17 rfl;have c18:=h.box.c 18 rfl;have c19:=h.box.c 19 rfl;have c20:=h.box.c 20 rfl
 clear h hs
 by_cases hl : q ≤ w.limit
 ·have hd : decide (q ≤ w.limit) = true := decide_eq_true hl
  have HV := Lib.hid (show leadS w.limit w.b = ⟨w.b.node, w.b.up, q⟩ by unfold leadS; simp only; rw [HQ.out, if_pos hl])
  clear hl
  go_enter Tryz.func163, Tryz.ntmps163
  go_wp2_with (refine wpList_store_cell rfl 3 (.tmp 16) (.tmp 14) rfl (HC.out.box.mono (ex)) 19 rfl (.int .i64 q) rfl (show 19 < 21 by decide) (show 21 < 44 by decide) (by kernel_rfl) rfl (Lv w w.a.node A a w.a.up w.a.quiet w.b.node B b w.b.up q M m) rfl ?_; intro W1 ht1 hb1; clear c0 c1 c2 c3 c4 c5 c6 c7 c8 c9 c10 c11 c12 c13 c14 c15 c16 c17 c18 c19 c20; have e0:=hb1.c 0 rfl; have e1:=hb1.c 1 rfl; have e2:=hb1.c 2 rfl; have e3:=hb1.c 3 rfl; have e4:=hb1.c 4 rfl; have e5:=hb1.c 5 rfl; have e6:=hb1.c 6 rfl; have e7:=hb1.c 7 rfl; have e8:=hb1.c 8 rfl; have e9:=hb1.c 9 rfl; have e10:=hb1.c 10 rfl; have e11:=hb1.c 11 rfl; have e12:=hb1.c 12 rfl; have e13:=hb1.c 13 rfl; have e14:=hb1.c 14 rfl; have e15:=hb1.c 15 rfl; have e16:=hb1.c 16 rfl; have e17:=hb1.c 17 rfl; have e18:=hb1.c 18 rfl; have e19:=hb1.c 19 rfl; have e20:=hb1.c 20 rfl)
  (try simp only [Act.put])
  (refine wp_region_grows (by kernel_rfl) (by kernel_rfl) ?_; (repeat (go_big_quiet_step (fail))); refine wpQuiet_nil ?_; rintro _ ⟨y, rfl⟩)
  go_wp2
  (first | go_end0 | (refine bodyPost_ret (results_none rfl _ _ _) rfl ?_))
  rw [HV.out]
  exact ⟨rfl, grown_trans (Ext.grown (by exact ex) _) (grown_trans ht1.grown (Ext.grown (by exact ex) _)), _, _, _, _, ⟨(ht1.ext (HC.out.ext.trans (by exact ex)) HC.out.ge).trans (by exact ex), HC.out.ge, hb1.mono (ex), ((HC.out.qa.mono (by exact ex)).turn ht1).mono (by exact ex), ((HC.out.qb.mono (by exact ex)).turn ht1).mono (by exact ex)⟩⟩
 ·have hd : decide (q ≤ w.limit) = false := decide_eq_false hl
  obtain ⟨x1, r1, hv1⟩ : ∃ x r, leadV w.b.node (w.b.node.term + 1) = (x, r) := ⟨_, _, rfl⟩
  obtain ⟨x2, r2, hv2⟩ : ∃ x r, leadV w.b.node (w.b.node.term + 2) = (x, r) := ⟨_, _, rfl⟩
  have HL1 := Lib.hid (fun (V X : World) (hx : Ext W X) (ht : Turn g X V) (Y : World) (hy : Ext V Y) => (rep_Lead w.b.node B b (w.b.node.term + 1) Y ((((HC.out.qb.mono hx).turn ht).recs (ht.ext (HC.out.ext.trans hx) HC.out.ge) hy))).mono fun _ _ p => RetNod.parts p hv1 (w0 := w0) (by have := leadV_log (R := fun r => AcnAt w0 r.act) w.b.node (w.b.node.term + 1) HC.out.qb.el; rwa [hv1] at this))
  have HL2 := Lib.hid (fun (V X : World) (hx : Ext W X) (ht : Turn g X V) (Y : World) (hy : Ext V Y) => (rep_Lead w.b.node B b (w.b.node.term + 2) Y ((((HC.out.qb.mono hx).turn ht).recs (ht.ext (HC.out.ext.trans hx) HC.out.ge) hy))).mono fun _ _ p => RetNod.parts p hv2 (w0 := w0) (by have := leadV_log (R := fun r => AcnAt w0 r.act) w.b.node (w.b.node.term + 2) HC.out.qb.el; rwa [hv2] at this))
  have HV := Lib.hid (show leadS w.limit w.b = (if r1 = 0 then ⟨x1, w.b.up, 0⟩ else if r2 = 0 then ⟨x2, w.b.up, 0⟩ else ⟨w.b.node, w.b.up, q⟩ : Sta) by unfold leadS; simp only; rw [HQ.out, if_neg hl, hv1, hv2])
  clear hl hv1 hv2
  go_enter Tryz.func163, Tryz.ntmps163
  go_wp2_with (refine wpList_store_cell rfl 3 (.tmp 16) (.tmp 14) rfl (HC.out.box.mono (ex)) 19 rfl (.int .i64 q) rfl (show 19 < 21 by decide) (show 21 < 44 by decide) (by kernel_rfl) rfl (Lv w w.a.node A a w.a.up w.a.quiet w.b.node B b w.b.up q M m) rfl ?_; intro W1 ht1 hb1; clear c0 c1 c2 c3 c4 c5 c6 c7 c8 c9 c10 c11 c12 c13 c14 c15 c16 c17 c18 c19 c20; have e0:=hb1.c 0 rfl; have e1:=hb1.c 1 rfl; have e2:=hb1.c 2 rfl; have e3:=hb1.c 3 rfl; have e4:=hb1.c 4 rfl; have e5:=hb1.c 5 rfl; have e6:=hb1.c 6 rfl; have e7:=hb1.c 7 rfl; have e8:=hb1.c 8 rfl; have e9:=hb1.c 9 rfl; have e10:=hb1.c 10 rfl; have e11:=hb1.c 11 rfl; have e12:=hb1.c 12 rfl; have e13:=hb1.c 13 rfl; have e14:=hb1.c 14 rfl; have e15:=hb1.c 15 rfl; have e16:=hb1.c 16 rfl; have e17:=hb1.c 17 rfl; have e18:=hb1.c 18 rfl; have e19:=hb1.c 19 rfl; have e20:=hb1.c 20 rfl)
  (try simp only [Act.put])
  (refine wp_region_grows (by kernel_rfl) (by kernel_rfl) ?_; (repeat (go_big_quiet_step (fail))); refine wpQuiet_nil ?_; rintro _ ⟨y, rfl⟩)
  go_wp2
  (refine wp_region_grows (by kernel_rfl) (by kernel_rfl) ?_; (repeat (go_big_quiet_step (fail))); refine wpQuiet_nil ?_; rintro _ ⟨y, rfl⟩)
  go_wp2
  refine wp_name (fun W2 hW2 => ?_)
  have x12 : Ext W1 W2 := by rw [hW2]; exact (ex)
  have hb2 := hb1.mono x12
  clear hW2 e0 e1 e2 e3 e4 e5 e6 e7 e8 e9 e10 e11 e12 e13 e14 e15 e16 e17 e18 e19 e20
  go_loopw [39] (fun i wr => Ext W2 wr ∧ (i = .int .i64 0 ∨ (i = .int .i64 1 ∧ r1 ≠ 0) ∨ (i = .int .i64 2 ∧ r1 ≠ 0 ∧ r2 ≠ 0))) (fun i _ => 2 - (intOf i).toNat)
  case atStart => exact ⟨Ext.refl _, .inl rfl⟩
  case round =>
   obtain ⟨hx, hrel⟩ := hrel
   obtain ⟨y0, rfl⟩ := hx.get
   clear hx
   have e0:=hb2.c 0 rfl;have e1:=hb2.c 1 rfl;have e2:=hb2.c 2 rfl;have e3:=hb2.c 3 rfl;have e4:=hb2.c 4 rfl;have e5:=hb2.c 5 rfl;have e6:=hb2.c 6 rfl;have e7:=hb2.c 7 rfl;have e8:=hb2.c 8 rfl;have e9:=hb2.c 9 rfl;have e10:=hb2.c 10 rfl;have e11:=hb2.c 11 rfl;have e12:=hb2.c 12 rfl;have e13:=hb2.c 13 rfl;have e14:=hb2.c 14 rfl;have e15:=hb2.c 15 rfl;have e16:=hb2.c 16 rfl;have e17:=hb2.c 17 rfl;have e18:=hb2.c 18 rfl;have e19:=hb2.c 19 rfl;have e20:=hb2.c 20 rfl
   rcases hrel with rfl | ⟨rfl, hr1⟩ | ⟨rfl, hr1, hr2⟩
   ·by_cases hr : r1 = 0
    ·subst hr
     go_wp2_with (first
     | (go_at_call 52; refine (HL1.out _ _ (ex) ht1 _ (ex)).mono ?_; rintro e w' ⟨D, K, rfl, hx, hl⟩; have HLa := Lib.hid hl; obtain ⟨ye, rfl⟩ := hx.get; clear hx hl)
     | (refine wpList_store_part rfl 24 (.tmp 57) (.tmp 55) rfl (hb2.mono (ex)) 12 rfl (Ln x1 D K) rfl (show 18 ≤ 21 by decide) (show 21 < 44 by decide) (by kernel_rfl) (nodl_one x1 D K) (Lv w w.a.node A a w.a.up w.a.quiet x1 D K w.b.up q M m) rfl ?_; intro W3 ht3 hb3)
     | (refine wpList_store_cell rfl 3 (.tmp 59) (.const (.int .i64 0)) rfl hb3 19 rfl (.int .i64 0) rfl (show 19 < 21 by decide) (show 21 < 44 by decide) (by kernel_rfl) rfl (Lv w w.a.node A a w.a.up w.a.quiet x1 D K w.b.up 0 M m) rfl ?_; intro W4 ht4 hb4))
     (first | go_end0 | (refine bodyPost_ret (results_none rfl _ _ _) rfl ?_))
     rw [HV.out, if_pos trivial]
     exact ⟨rfl, grown_trans (Ext.grown (by exact ex) _) (grown_trans ht1.grown (grown_trans (Ext.grown (x12.trans (by exact ex)) _) (grown_trans ht3.grown ht4.grown))), _, _, _, _, ⟨ht4.ext (ht3.ext ((ht1.ext (HC.out.ext.trans (by exact ex)) HC.out.ge).trans (x12.trans (by exact ex))) HC.out.ge) HC.out.ge, HC.out.ge, hb4, ((((HC.out.qa.mono (by exact ex)).turn ht1).mono (x12.trans (by exact ex))).turn ht3).turn ht4, ((HLa.out.mono (by exact ex)).turn ht3).turn ht4⟩⟩
    ·have hz : (r1 == 0) = false := by simpa using hr
     go_wp2_with (go_at_call 52; refine (HL1.out _ _ (ex) ht1 _ (ex)).mono ?_; rintro e w' ⟨D, K, rfl, hx, hl⟩; have HLa := Lib.hid hl; obtain ⟨ye, rfl⟩ := hx.get; clear hx hl)
     go_light
     exact ⟨⟨ex, .inr (.inl ⟨rfl, hr⟩)⟩, by simp [intOf]⟩
   ·by_cases hr : r2 = 0
    ·subst hr
     go_wp2_with (first
     | (go_at_call 52; refine (HL2.out _ _ (ex) ht1 _ (ex)).mono ?_; rintro e w' ⟨D, K, rfl, hx, hl⟩; have HLa := Lib.hid hl; obtain ⟨ye, rfl⟩ := hx.get; clear hx hl)
     | (refine wpList_store_part rfl 24 (.tmp 57) (.tmp 55) rfl (hb2.mono (ex)) 12 rfl (Ln x2 D K) rfl (show 18 ≤ 21 by decide) (show 21 < 44 by decide) (by kernel_rfl) (nodl_one x2 D K) (Lv w w.a.node A a w.a.up w.a.quiet x2 D K w.b.up q M m) rfl ?_; intro W3 ht3 hb3)
     | (refine wpList_store_cell rfl 3 (.tmp 59) (.const (.int .i64 0)) rfl hb3 19 rfl (.int .i64 0) rfl (show 19 < 21 by decide) (show 21 < 44 by decide) (by kernel_rfl) rfl (Lv w w.a.node A a w.a.up w.a.quiet x2 D K w.b.up 0 M m) rfl ?_; intro W4 ht4 hb4))
     (first | go_end0 | (refine bodyPost_ret (results_none rfl _ _ _) rfl ?_))
     rw [HV.out, if_neg hr1, if_pos trivial]
     exact ⟨rfl, grown_trans (Ext.grown (by exact ex) _) (grown_trans ht1.grown (grown_trans (Ext.grown (x12.trans (by exact ex)) _) (grown_trans ht3.grown ht4.grown))), _, _, _, _, ⟨ht4.ext (ht3.ext ((ht1.ext (HC.out.ext.trans (by exact ex)) HC.out.ge).trans (x12.trans (by exact ex))) HC.out.ge) HC.out.ge, HC.out.ge, hb4, ((((HC.out.qa.mono (by exact ex)).turn ht1).mono (x12.trans (by exact ex))).turn ht3).turn ht4, ((HLa.out.mono (by exact ex)).turn ht3).turn ht4⟩⟩
    ·have hz : (r2 == 0) = false := by simpa using hr
     go_wp2_with (go_at_call 52; refine (HL2.out _ _ (ex) ht1 _ (ex)).mono ?_; rintro e w' ⟨D, K, rfl, hx, hl⟩; have HLa := Lib.hid hl; obtain ⟨ye, rfl⟩ := hx.get; clear hx hl)
     go_light
     exact ⟨⟨ex, .inr (.inr ⟨rfl, hr1, hr⟩)⟩, by simp [intOf]⟩
   ·go_wp2
    (first | go_end0 | (refine bodyPost_ret (results_none rfl _ _ _) rfl ?_))
    rw [HV.out, if_neg hr1, if_neg hr2]
    exact ⟨rfl, grown_trans (Ext.grown (by exact ex) _) (grown_trans ht1.grown (Ext.grown (x12.trans (by exact ex)) _)), _, _, _, _, ⟨((ht1.ext (HC.out.ext.trans (by exact ex)) HC.out.ge).trans x12).trans (by exact ex), HC.out.ge, hb2.mono (ex), (((HC.out.qa.mono (by exact ex)).turn ht1).mono x12).mono (by exact ex), (((HC.out.qb.mono (by exact ex)).turn ht1).mono x12).mono (by exact ex)⟩⟩
end
end Go.Proofs.YtmhinhgflehkaaaGreat

/-
 Chapter 55: a letter is posted.
-/
namespace Go.Proofs.YtmhinhgflehkaaaGreat
open Go.RowKit

section
variable {w0 W : World} {g : Nat} {w : Wld} {A B M : Option Addr} {a b m : Nat} {xs : List (Ltr × Option Addr × Nat)}
theorem tak_post_go (h : WldC w0 W g w A a B b M m) (hm : MailM w0 W M m w.mail xs) (hn0 : 0 ≤ w.now) (hn1 : w.now ≤ 1048576) (hd0 : 0 ≤ w.delay) (hd1 : w.delay ≤ 8) (hcut : w.cut = false) (hlen : w.mail.length < 256) {d : Int} {x : Msg} {D : Option Addr} {K : Nat} (hl : LogW w0 W D x.recs.length K x.recs) : Calls Tryz.prog 162 #[.pointer (some ⟨g, 0, none⟩), .int .i64 d, .agg (Lm x D K)] W (StepM w0 W g M (postW w d x)) := by
 have HC := Lib.hid h
 have HM := Lib.hid hm
 have HL := Lib.hid hl
 have hla := (h.qa.recs h.ext (Ext.refl W)).len
 have hlb := (h.qb.recs h.ext (Ext.refl W)).len
 obtain ⟨q, hq⟩ : ∃ q, min (w.now + w.delay) 1048576 = q := ⟨_, rfl⟩
 have hw1 : IntKind.i64.wrap (w.now + w.delay) = w.now + w.delay := IntWalk.i64_in _ (by omega)
 have hdl : decide ((w.mail.length : Int) < 256) = true := decide_eq_true (by omega)
 have HV := Lib.hid (show postW w d x = ⟨w.now, w.limit, w.delay, w.cut, w.a, w.b, w.mail ++ [⟨d, q, x⟩]⟩ by unfold postW; rw [if_neg (fun hc => hc.elim (fun h => by rw [hcut] at h; cases h) (fun h => absurd h (by omega))), hq])
 have c0:=h.box.c 0 rfl;have c1:=h.box.c 1 rfl;have c2:=h.box.c 2 rfl;have c3:=h.box.c 3 rfl;have c4:=h.box.c 4 rfl;have c5:=h.box.c 5 rfl;have c6:=h.box.c 6 rfl;have c7:=h.box.c 7 rfl;have c8:=h.box.c 8 rfl;have c9:=h.box.c 9 rfl;have c10:=h.box.c 10 rfl;have c11:=h.box.c 11 rfl;have c12:=h.box.c 12 rfl;have c13:=h.box.c 13 rfl;have c14:=h.box.c 14 rfl;have c15:=h.box.c 15 rfl;have c16:=h.box.c 16 rfl;have c17:=h.box.c 17 rfl;have c18:=h.box.c 18 rfl;have c19:=h.box.c 19 rfl;have c20:=h.box.c 20 rfl
 have C3 := Lib.hid hcut
 rw [hcut] at c3
 clear h hm hl hcut
 rw [HV.out]
 clear HV
 go_enter Tryz.func162, Tryz.ntmps162
 go_wp2_with fail
 refine wp_name (fun W9 hW9 => ?_)
 have k12 : BoxAt W9 W.heap.size (Lm x D K) 143 := by rw [hW9]; exact (by repeat (first | exact BoxAt.new (by first | rfl | (simp [go_sem]; done) | (simp [go_sem]; omega)) _ _ | apply BoxAt.xt | apply BoxAt.drew | apply BoxAt.drewN | apply BoxAt.alloc))
 have x9 : Ext W W9 := by rw [hW9]; exact (ex)
 have h9 := HC.out.mono x9
 clear hW9 c0 c1 c2 c3 c4 c5 c6 c7 c8 c9 c10 c11 c12 c13 c14 c15 c16 c17 c18 c19 c20
 refine wp_region_L (S := SS 22 17 (fun w9 => BoxAt w9 g (Lw w A a B b M m) 30) (fun w9 => BoxAt w9 W.heap.size (Lm x D K) 143) (fun _ => True)) (by kernel_rfl) ⟨fun _ => h9.box.mono (ex), fun _ => k12.mono (ex), trivial⟩ (fun hcl hS => ?_)
 refine wpAnyL_take (i := 0) (T := (fun _ => True)) (v := ?_) rfl (by kernel_rfl) (by kernel_rfl) (by kernel_rfl) (fun _ _ _ h => h) (fun _ _ _ _ _ => trivial) (SS.up (by decide) (by decide)) (SS.down (by decide) (by decide)) (Or.inl ⟨by rfl, ?_⟩) hcl hS ?_
 rotate_left
 ·(intro w9 hw9; (try dsimp only at hw9); go_simp; try with_reducible rfl)
 clear hcl hS
 intro hcl hS
 (try simp only [Act.put]); (try simp only [List.setIfInBounds_toArray]); (repeat (first | simp only [List.set_cons_succ] | simp only [List.set_cons_zero]))
 refine wpAnyL_take (i := 1) (T := (fun _ => True)) (v := ?_) rfl (by kernel_rfl) (by kernel_rfl) (by kernel_rfl) (fun _ _ _ h => h) (fun _ _ _ _ _ => trivial) (SS.up (by decide) (by decide)) (SS.down (by decide) (by decide)) (Or.inl ⟨by rfl, ?_⟩) hcl hS ?_
 rotate_left
 ·(intro w9 hw9; (try dsimp only at hw9); go_simp; try with_reducible rfl)
 clear hcl hS
 intro hcl hS
 (try simp only [Act.put]); (try simp only [List.setIfInBounds_toArray]); (repeat (first | simp only [List.set_cons_succ] | simp only [List.set_cons_zero]))
 refine wpAnyL_take (i := 2) (T := (fun _ => True)) (v := ?_) rfl (by kernel_rfl) (by kernel_rfl) (by kernel_rfl) (fun _ _ _ h => h) (fun _ _ _ _ _ => trivial) (SS.up (by decide) (by decide)) (SS.down (by decide) (by decide)) (Or.inl ⟨by rfl, ?_⟩) hcl hS ?_
 rotate_left
 ·(intro w9 hw9; (try dsimp only at hw9); go_simp; try with_reducible rfl)
 clear hcl hS
 intro hcl hS
 (try simp only [Act.put]); (try simp only [List.setIfInBounds_toArray]); (repeat (first | simp only [List.set_cons_succ] | simp only [List.set_cons_zero]))
 refine wpAnyL_take (i := 3) (T := (fun _ => True)) (v := ?_) rfl (by kernel_rfl) (by kernel_rfl) (by kernel_rfl) (fun _ _ _ h => h) (fun _ _ _ _ _ => trivial) (SS.up (by decide) (by decide)) (SS.down (by decide) (by decide)) (Or.inl ⟨by rfl, ?_⟩) hcl hS ?_
 rotate_left
 ·(intro w9 hw9; (try dsimp only at hw9); go_simp; try with_reducible rfl)
 clear hcl hS
 intro hcl hS
 (try simp only [Act.put]); (try simp only [List.setIfInBounds_toArray]); (repeat (first | simp only [List.set_cons_succ] | simp only [List.set_cons_zero]))
 refine wpAnyL_take (i := 4) (T := (fun w9 => BoxAt w9 g (Lw w A a B b M m) 30)) (v := ?_) rfl (by kernel_rfl) (by kernel_rfl) (by kernel_rfl) (fun _ _ _ h => h) (fun _ _ hc hi hS => hS.1 (hc.not (k := 22) (by kernel_rfl) hi)) (SS.up (by decide) (by decide)) (SS.down (by decide) (by decide)) (Or.inl ⟨by rfl, ?_⟩) hcl hS ?_
 rotate_left
 ·(intro w9 hw9; (try dsimp only at hw9); have z9:=hw9.c 20 rfl; go_simp; try with_reducible rfl)
 clear hcl hS
 intro hcl hS
 (try simp only [Act.put]); (try simp only [List.setIfInBounds_toArray]); (repeat (first | simp only [List.set_cons_succ] | simp only [List.set_cons_zero]))
 refine wpAnyL_take (i := 5) (T := (fun _ => True)) (v := ?_) rfl (by kernel_rfl) (by kernel_rfl) (by kernel_rfl) (fun _ _ _ h => h) (fun _ _ _ _ _ => trivial) (SS.up (by decide) (by decide)) (SS.down (by decide) (by decide)) (Or.inl ⟨by rfl, ?_⟩) hcl hS ?_
 rotate_left
 ·(intro w9 hw9; (try dsimp only at hw9); go_simp; try with_reducible rfl)
 clear hcl hS
 intro hcl hS
 (try simp only [Act.put]); (try simp only [List.setIfInBounds_toArray]); (repeat (first | simp only [List.set_cons_succ] | simp only [List.set_cons_zero]))
 refine wpAnyL_take (i := 6) (T := (fun _ => True)) (v := ?_) rfl (by kernel_rfl) (by kernel_rfl) (by kernel_rfl) (fun _ _ _ h => h) (fun _ _ _ _ _ => trivial) (SS.up (by decide) (by decide)) (SS.down (by decide) (by decide)) (Or.inl ⟨by rfl, ?_⟩) hcl hS ?_
 rotate_left
 ·(intro w9 hw9; (try dsimp only at hw9); go_simp; try with_reducible rfl)
 clear hcl hS
 intro hcl hS
 (try simp only [Act.put]); (try simp only [List.setIfInBounds_toArray]); (repeat (first | simp only [List.set_cons_succ] | simp only [List.set_cons_zero]))
 refine wpAnyL_take (i := 7) (T := (fun _ => True)) (v := ?_) rfl (by kernel_rfl) (by kernel_rfl) (by kernel_rfl) (fun _ _ _ h => h) (fun _ _ _ _ _ => trivial) (SS.up (by decide) (by decide)) (SS.down (by decide) (by decide)) (Or.inl ⟨by rfl, ?_⟩) hcl hS ?_
 rotate_left
 ·(intro w9 hw9; (try dsimp only at hw9); go_simp; try with_reducible rfl)
 clear hcl hS
 intro hcl hS
 (try simp only [Act.put]); (try simp only [List.setIfInBounds_toArray]); (repeat (first | simp only [List.set_cons_succ] | simp only [List.set_cons_zero]))
 refine wpAnyL_take (i := 8) (T := (fun _ => True)) (v := ?_) rfl (by kernel_rfl) (by kernel_rfl) (by kernel_rfl) (fun _ _ _ h => h) (fun _ _ _ _ _ => trivial) (SS.up (by decide) (by decide)) (SS.down (by decide) (by decide)) (Or.inl ⟨by rfl, ?_⟩) hcl hS ?_
 rotate_left
 ·(intro w9 hw9; (try dsimp only at hw9); go_simp; try with_reducible rfl)
 clear hcl hS
 intro hcl hS
 (try simp only [Act.put]); (try simp only [List.setIfInBounds_toArray]); (repeat (first | simp only [List.set_cons_succ] | simp only [List.set_cons_zero]))
 refine wpAnyL_take (i := 9) (T := (fun w9 => BoxAt w9 g (Lw w A a B b M m) 30)) (v := ?_) rfl (by kernel_rfl) (by kernel_rfl) (by kernel_rfl) (fun _ _ _ h => h) (fun _ _ hc hi hS => hS.1 (hc.not (k := 22) (by kernel_rfl) hi)) (SS.up (by decide) (by decide)) (SS.down (by decide) (by decide)) (Or.inl ⟨by rfl, ?_⟩) hcl hS ?_
 rotate_left
 ·(intro w9 hw9; (try dsimp only at hw9); have z9:=hw9.c 0 rfl; go_simp; try with_reducible rfl)
 clear hcl hS
 intro hcl hS
 (try simp only [Act.put]); (try simp only [List.setIfInBounds_toArray]); (repeat (first | simp only [List.set_cons_succ] | simp only [List.set_cons_zero]))
 refine wpAnyL_take (i := 10) (T := (fun _ => True)) (v := ?_) rfl (by kernel_rfl) (by kernel_rfl) (by kernel_rfl) (fun _ _ _ h => h) (fun _ _ _ _ _ => trivial) (SS.up (by decide) (by decide)) (SS.down (by decide) (by decide)) (Or.inl ⟨by rfl, ?_⟩) hcl hS ?_
 rotate_left
 ·(intro w9 hw9; (try dsimp only at hw9); go_simp; try with_reducible rfl)
 clear hcl hS
 intro hcl hS
 (try simp only [Act.put]); (try simp only [List.setIfInBounds_toArray]); (repeat (first | simp only [List.set_cons_succ] | simp only [List.set_cons_zero]))
 refine wpAnyL_take (i := 11) (T := (fun _ => True)) (v := ?_) rfl (by kernel_rfl) (by kernel_rfl) (by kernel_rfl) (fun _ _ _ h => h) (fun _ _ _ _ _ => trivial) (SS.up (by decide) (by decide)) (SS.down (by decide) (by decide)) (Or.inl ⟨by rfl, ?_⟩) hcl hS ?_
 rotate_left
 ·(intro w9 hw9; (try dsimp only at hw9); go_simp; try with_reducible rfl)
 clear hcl hS
 intro hcl hS
 (try simp only [Act.put]); (try simp only [List.setIfInBounds_toArray]); (repeat (first | simp only [List.set_cons_succ] | simp only [List.set_cons_zero]))
 refine wpAnyL_take (i := 12) (T := (fun _ => True)) (v := ?_) rfl (by kernel_rfl) (by kernel_rfl) (by kernel_rfl) (fun _ _ _ h => h) (fun _ _ _ _ _ => trivial) (SS.up (by decide) (by decide)) (SS.down (by decide) (by decide)) (Or.inl ⟨by rfl, ?_⟩) hcl hS ?_
 rotate_left
 ·(intro w9 hw9; (try dsimp only at hw9); go_simp; try with_reducible rfl)
 clear hcl hS
 intro hcl hS
 (try simp only [Act.put]); (try simp only [List.setIfInBounds_toArray]); (repeat (first | simp only [List.set_cons_succ] | simp only [List.set_cons_zero]))
 refine wpAnyL_take (i := 13) (T := (fun w9 => BoxAt w9 g (Lw w A a B b M m) 30)) (v := ?_) rfl (by kernel_rfl) (by kernel_rfl) (by kernel_rfl) (fun _ _ _ h => h) (fun _ _ hc hi hS => hS.1 (hc.not (k := 22) (by kernel_rfl) hi)) (SS.up (by decide) (by decide)) (SS.down (by decide) (by decide)) (Or.inl ⟨by rfl, ?_⟩) hcl hS ?_
 rotate_left
 ·(intro w9 hw9; (try dsimp only at hw9); have z9:=hw9.c 2 rfl; go_simp; try with_reducible rfl)
 clear hcl hS
 intro hcl hS
 (try simp only [Act.put]); (try simp only [List.setIfInBounds_toArray]); (repeat (first | simp only [List.set_cons_succ] | simp only [List.set_cons_zero]))
 refine wpAnyL_take (i := 14) (T := (fun _ => True)) (v := ?_) rfl (by kernel_rfl) (by kernel_rfl) (by kernel_rfl) (fun _ _ _ h => h) (fun _ _ _ _ _ => trivial) (SS.up (by decide) (by decide)) (SS.down (by decide) (by decide)) (Or.inl ⟨by rfl, ?_⟩) hcl hS ?_
 rotate_left
 ·(intro w9 hw9; (try dsimp only at hw9); go_simp; try with_reducible rfl)
 clear hcl hS
 intro hcl hS
 (try simp only [Act.put]); (try simp only [List.setIfInBounds_toArray]); (repeat (first | simp only [List.set_cons_succ] | simp only [List.set_cons_zero]))
 refine wpAnyL_take (i := 16) (T := (fun w9 => BoxAt w9 W.heap.size (Lm x D K) 143)) (v := ?_) rfl (by kernel_rfl) (by kernel_rfl) (by kernel_rfl) (fun _ _ _ h => h) (fun _ _ hc hi hS => hS.2.1 (hc.not (k := 17) (by kernel_rfl) hi)) (SS.up (by decide) (by decide)) (SS.down (by decide) (by decide)) (Or.inl ⟨by rfl, ?_⟩) hcl hS ?_
 rotate_left
 ·(intro w9 hw9; (try dsimp only at hw9); have z0:=hw9.c 0 rfl; have z1:=hw9.c 1 rfl; have z2:=hw9.c 2 rfl; have z3:=hw9.c 3 rfl; have z4:=hw9.c 4 rfl; have z5:=hw9.c 5 rfl; go_simp; try with_reducible rfl)
 clear hcl hS
 intro hcl hS
 (try simp only [Act.put]); (try simp only [List.setIfInBounds_toArray]); (repeat (first | simp only [List.set_cons_succ] | simp only [List.set_cons_zero]))
 refine wpAnyL_only (i := 15) (by kernel_rfl) rfl rfl hcl (fun K9 hK9 => ?_)
 go_simp
 clear hS hcl
 refine hK9 _ _ ⟨fun _ => h9.box.mono (ex), fun _ => k12.mono (ex), trivial⟩ (fun hcl hS => ?_)
 clear hK9
 refine wpAnyL_only (i := 17) (by kernel_rfl) rfl rfl hcl (fun K9 hK9 => ?_)
 go_simp
 clear hS hcl
 refine hK9 _ _ ⟨fun _ => h9.box.mono (ex), fun hh => absurd hh (by decide), trivial⟩ (fun hcl hS => ?_)
 clear hK9
 refine wpAnyL_only (i := 18) (by kernel_rfl) rfl rfl hcl (fun K9 hK9 => ?_)
 go_simp
 clear hS hcl
 refine hK9 _ _ ⟨fun _ => h9.box.mono (ex), fun hh => absurd hh (by decide), trivial⟩ (fun hcl hS => ?_)
 clear hK9
 refine wpAnyL_only (i := 19) (by kernel_rfl) rfl rfl hcl (fun K9 hK9 => ?_)
 clear hS hcl
 refine wp_append_mute (w0 := w0) 30 (.tmp 23) (.tmp 37) 28 28 rfl 145 145 8 80 Tryz.underlying28 Tryz.underlying28 info_Ltr zero_Ltr (by decide) (h9.ext.trans (ex)) M w.mail.length m (xs.map ltrR) rfl ((HM.out.mono x9).own.mono (ex)) HM.out.room (ltrR_mute _) _ 1 1 [[.int .i64 d, .int .i64 q, .int .i64 x.kind, .int .i64 x.term, .int .i64 x.at_, .int .i64 x.before, .slice D x.recs.length K, .int .i64 x.acked]] rfl ((Sl.alloc' (by simp [go_sem]) (by simp) (by simp)).mono (Ext.refl _).drew) rfl (by decide) (ltrR_one [(⟨d, q, x⟩, D, K)]) (ltrR_mute [(⟨d, q, x⟩, D, K)]) (by unfold maxLen; omega) (by omega) _ rfl _ rfl ?_; intro M5 m5 V5 hx5 hown5 hk5 hs5 hgr5 hA5
 have hg9 := WldC.grownM (h9.mono (by exact ex)) ((HM.out.mono x9).mono (by exact ex)) hgr5
 refine hK9 _ _ ⟨fun _ => hg9, fun hh => absurd hh (by decide), trivial⟩ (fun hcl hS => ?_)
 clear hK9
 refine wpAnyL_only (i := 20) (by kernel_rfl) rfl rfl hcl (fun K9 hK9 => ?_)
 clear hS hcl
 go_simp
 refine hK9 _ _ ⟨fun _ => hg9, fun hh => absurd hh (by decide), trivial⟩ (fun hcl hS => ?_)
 clear hK9
 refine wpAnyL_only (i := 21) (by kernel_rfl) rfl rfl hcl (fun K9 hK9 => ?_)
 clear hS hcl
 go_simp
 refine hK9 _ _ ⟨fun _ => hg9, fun hh => absurd hh (by decide), trivial⟩ (fun hcl hS => ?_)
 clear hK9
 refine wpAnyL_only (i := 22) (by kernel_rfl) rfl rfl hcl (fun K9 hK9 => ?_)
 clear hS hcl
 refine wp_store_cell 28 (.tmp 40) (.tmp 38) rfl hg9 20 rfl (.slice M5 (w.mail ++ [(⟨d, q, x⟩ : Ltr)]).length m5) (by simp [Act.eval, List.length_append]) (show 20 < 21 by decide) (show 21 < 44 by decide) (by kernel_rfl) rfl [.int .i64 w.now, .int .i64 w.limit, .int .i64 w.delay, .bool w.cut, .int .i64 w.a.node.id, .int .i64 w.a.node.term, .bool w.a.node.speaks, .slice A w.a.node.log.length a, .int .i64 w.a.node.acked, .int .i64 w.a.node.next, .bool w.a.up, .int .i64 w.a.quiet, .int .i64 w.b.node.id, .int .i64 w.b.node.term, .bool w.b.node.speaks, .slice B w.b.node.log.length b, .int .i64 w.b.node.acked, .int .i64 w.b.node.next, .bool w.b.up, .int .i64 w.b.quiet, .slice M5 (w.mail ++ [(⟨d, q, x⟩ : Ltr)]).length m5] rfl ?_; intro V6 ht6 hb6
 refine hK9 _ _ ⟨fun hh => absurd hh (by decide), fun hh => absurd hh (by decide), trivial⟩ (fun hcl hS => ?_)
 clear hK9 hcl hS
 refine wpAnyL_done (by kernel_rfl) ?_ _
 go_wp2
 (first | go_end0 | (refine bodyPost_ret (results_none rfl _ _ _) rfl ?_))
 obtain ⟨p1, p2, p3, p4⟩ := WldC.posted (h9.mono (by exact ex)) ((HM.out.mono x9).mono (by exact ex)) hs5 hgr5 hx5 (y := ⟨d, q, x⟩) (D := D) (K := K) hown5 hk5 hA5 (HL.out.mono (x9.trans (by exact ex))) ht6 rfl hb6
 exact ⟨rfl, (Ext.bent (x9.trans (by exact ex)) g M).trans (.inl rfl) p1, _, _, _, _, _, _, _, p2, p3, p4.imp id fun ⟨c, e, hc⟩ => ⟨c, e, Nat.le_trans (show Ext W _ from x9.trans (by exact ex)).size hc⟩⟩
theorem tak_post_no (h : WldC w0 W g w A a B b M m) (hm : MailM w0 W M m w.mail xs) (hno : w.cut = true ∨ 256 ≤ w.mail.length) (hlen : w.mail.length ≤ 1000000) {d : Int} {x : Msg} {D : Option Addr} {K : Nat} (_hl : x.recs.length ≤ 1000000) : Calls Tryz.prog 162 #[.pointer (some ⟨g, 0, none⟩), .int .i64 d, .agg (Lm x D K)] W (StepM w0 W g M (postW w d x)) := by
 have HC := Lib.hid h
 have HM := Lib.hid hm
 have hla := (h.qa.recs h.ext (Ext.refl W)).len
 have hlb := (h.qb.recs h.ext (Ext.refl W)).len
 have HV := Lib.hid (show postW w d x = w by unfold postW; rw [if_pos hno])
 have c0:=h.box.c 0 rfl;have c1:=h.box.c 1 rfl;have c2:=h.box.c 2 rfl;have c3:=h.box.c 3 rfl;have c4:=h.box.c 4 rfl;have c5:=h.box.c 5 rfl;have c6:=h.box.c 6 rfl;have c7:=h.box.c 7 rfl;have c8:=h.box.c 8 rfl;have c9:=h.box.c 9 rfl;have c10:=h.box.c 10 rfl;have c11:=h.box.c 11 rfl;have c12:=h.box.c 12 rfl;have c13:=h.box.c 13 rfl;have c14:=h.box.c 14 rfl;have c15:=h.box.c 15 rfl;have c16:=h.box.c 16 rfl;have c17:=h.box.c 17 rfl;have c18:=h.box.c 18 rfl;have c19:=h.box.c 19 rfl;have c20:=h.box.c 20 rfl
 clear h hm
 rw [HV.out]
 clear HV
 cases hc : w.cut with
 | true =>
  rw [hc] at c3
  clear hno
  go_enter Tryz.func162, Tryz.ntmps162
  go_wp2
  (first | go_end0 | (refine bodyPost_ret (results_none rfl _ _ _) rfl ?_))
  exact ⟨rfl, Ext.bent (by exact ex) g M, _, _, _, _, _, _, _, HC.out.mono (by exact ex), HM.out.mono (by exact ex), .inl rfl⟩
 | false =>
  rw [hc] at c3 hno
  have hdl : decide ((w.mail.length : Int) < 256) = false := by
   rcases hno with hno | hno
   ·cases hno
   ·exact decide_eq_false (by omega)
  clear hno hc
  go_enter Tryz.func162, Tryz.ntmps162
  go_wp2
  (first | go_end0 | (refine bodyPost_ret (results_none rfl _ _ _) rfl ?_))
  exact ⟨rfl, Ext.bent (by exact ex) g M, _, _, _, _, _, _, _, HC.out.mono (by exact ex), HM.out.mono (by exact ex), .inl rfl⟩
theorem tak_post (h : WldC w0 W g w A a B b M m) (hm : MailM w0 W M m w.mail xs) (hw : WldOk w) {d : Int} {x : Msg} {D : Option Addr} {K : Nat} (hl : LogW w0 W D x.recs.length K x.recs) (hx : x.recs.length ≤ 1000000) : Calls Tryz.prog 162 #[.pointer (some ⟨g, 0, none⟩), .int .i64 d, .agg (Lm x D K)] W (StepM w0 W g M (postW w d x)) := by
 by_cases hno : w.cut = true ∨ 256 ≤ w.mail.length
 ·exact tak_post_no h hm hno (by have := hw.len; omega) hx
 ·have h1 : w.cut = false := by
   cases hc : w.cut
   ·rfl
   ·exact absurd (.inl hc) hno
  have := hw.d0
  exact tak_post_go h hm hw.n0 hw.n1 (by omega) hw.d1 h1 (by omega) hl
end
end Go.Proofs.YtmhinhgflehkaaaGreat

/-
 Chapter 55: New, as a world that can be read.
-/
namespace Go.Proofs.YtmhinhgflehkaaaGreat
open Go.RowKit

section
variable {W : World}
theorem tak_New_at {m n : Int} (h1 : 1 ≤ m) (h2 : m ≤ 16) (h3 : 1 ≤ n) (h4 : n ≤ 8) {v : Wld} (hv : (newW m n).1 = v) : Calls Tryz.prog 17 #[.int .i64 m, .int .i64 n] W fun e W' => ∃ A a B b M k, e = .returned (.tuple #[.agg (Lw v A a B b M k), .int .i64 0]) ∧ Ext W W' ∧ WldAt W' v A a B b M k [] := by
 refine (tak_New m n W).mono fun e W' h => ?_
 obtain ⟨A, a, B, b, M, k, he, hx, ha, hb, hk⟩ := h
 have e2 : newW m n = (⟨0, m, n, false, ⟨⟨1, 1, true, [], 0, 0⟩, true, 0⟩, ⟨⟨2, 0, false, [], 0, 0⟩, true, 0⟩, []⟩, 0) := by unfold newW; rw [if_neg (by omega)]
 rw [e2] at hv he
 subst hv
 exact ⟨A, a, B, b, M, k, he, hx, ⟨Sl.nil _ _ _, Nat.zero_le _, ha, by simp⟩, ⟨Sl.nil _ _ _, Nat.zero_le _, hb, by simp⟩, ⟨Sl.nil _ _ _, Nat.zero_le _, hk, by simp⟩, rfl⟩
end
end Go.Proofs.YtmhinhgflehkaaaGreat
