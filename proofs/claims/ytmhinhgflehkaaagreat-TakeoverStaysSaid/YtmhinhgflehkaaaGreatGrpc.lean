/-
 Chapter 54: right nodes and right messages: the program's checks.
-/
import Derived.Test.YtmhinhgflehkaaaGreatGrpa
import Derived.Test.YtmhinhgflehkaaaGreatGrpl
namespace Go.Proofs.YtmhinhgflehkaaaGreat
open Go.RowKit

section
variable {n : Nod}
theorem nodE_a (h : withinB n.id 1 2 = false) : nodE n = 2 := by
 have := withinB_no h
 unfold nodE; rw [if_pos (by omega)]
theorem nodE_b (h : withinB n.term 0 1048576 = false) : nodE n = 2 := by
 have := withinB_no h
 unfold nodE; rw [if_pos (by omega)]
theorem nodE_c (h1 : withinB n.id 1 2 = true) (h2 : withinB n.term 0 1048576 = true) (hs : n.speaks = true) (ho : ownB n.id n.term = false) : nodE n = 16 := by
 have := withinB_yes h1; have := withinB_yes h2
 unfold nodE; rw [if_neg (by omega), if_pos ⟨hs, ho⟩]
theorem nodE_d (h1 : withinB n.id 1 2 = true) (h2 : withinB n.term 0 1048576 = true) (h3 : ¬ (n.speaks = true ∧ ownB n.id n.term = false)) (h4 : 256 < n.log.length) : nodE n = 5 := by
 have := withinB_yes h1; have := withinB_yes h2
 unfold nodE; rw [if_neg (by omega), if_neg h3, if_pos h4]
theorem nodE_e (h1 : withinB n.id 1 2 = true) (h2 : withinB n.term 0 1048576 = true) (h3 : ¬ (n.speaks = true ∧ ownB n.id n.term = false)) (h4 : ¬ 256 < n.log.length) (h5 : recsE 1 n.term n.log ≠ 0) : nodE n = recsE 1 n.term n.log := by
 have := withinB_yes h1; have := withinB_yes h2
 unfold nodE; rw [if_neg (by omega), if_neg h3, if_neg h4, if_pos h5]
theorem nodE_f (h1 : withinB n.id 1 2 = true) (h2 : withinB n.term 0 1048576 = true) (h3 : ¬ (n.speaks = true ∧ ownB n.id n.term = false)) (h4 : ¬ 256 < n.log.length) (h5 : recsE 1 n.term n.log = 0) {v : Int} (hv : (if n.speaks = true then (n.log.length : Int) else 0) = v)
  (h6 : withinB n.acked 0 n.log.length = false ∨ withinB n.next 0 v = false) : nodE n = 2 := by
 have := withinB_yes h1; have := withinB_yes h2
 unfold nodE; rw [if_neg (by omega), if_neg h3, if_neg h4, if_neg (by simpa using h5), hv, if_pos]
 rcases h6 with h | h <;> have := withinB_no h <;> omega
theorem nodE_g (h1 : withinB n.id 1 2 = true) (h2 : withinB n.term 0 1048576 = true) (h3 : ¬ (n.speaks = true ∧ ownB n.id n.term = false)) (h4 : ¬ 256 < n.log.length) (h5 : recsE 1 n.term n.log = 0) {v : Int} (hv : (if n.speaks = true then (n.log.length : Int) else 0) = v)
  (h6 : withinB n.acked 0 n.log.length = true) (h7 : withinB n.next 0 v = true) : nodE n = 0 := by
 have := withinB_yes h1; have := withinB_yes h2; have := withinB_yes h6; have := withinB_yes h7
 unfold nodE; rw [if_neg (by omega), if_neg h3, if_neg h4, if_neg (by simpa using h5), hv, if_neg (by omega)]
end
set_option maxHeartbeats 3200000 in
set_option maxRecDepth 100000 in
theorem rep_Check_go (n : Nod) (A : Option Addr) (c : Nat) (w : World) (hs : RecsAt w A c n.log) (h1 : withinB n.id 1 2 = true) (h2 : withinB n.term 0 1048576 = true) (h3 : ¬ (n.speaks = true ∧ ownB n.id n.term = false)) (v : Int) (hv : (if n.speaks = true then (n.log.length : Int) else 0) = v) (b : Bool) (hb : n.speaks = b) (ho : b = true → ownB n.id n.term = true) :
  Calls Tryz.prog 103 #[.agg #[.int .i64 n.id, .int .i64 n.term, .bool b, .slice A n.log.length c, .int .i64 n.acked, .int .i64 n.next]] w fun e w' => e = .returned (.int .i64 (nodE n)) ∧ Ext w w' := by
 have hl := hs.len
 have HS := Lib.hid hs
 have H1 := Lib.hid h1
 have H2 := Lib.hid h2
 have H3 := Lib.hid h3
 have HV := Lib.hid hv
 have i1 := (withinB_yes h1).1; have i2 := (withinB_yes h1).2; have i3 := (withinB_yes h2).1; have i4 := (withinB_yes h2).2
 clear hs h1 h2 h3
 cases b with
 | false =>
  obtain rfl : v = 0 := by rw [← hv, hb]; rfl
  clear hv hb ho
  by_cases h4 : 256 < n.log.length
  ·have HR := Lib.hid (nodE_d H1.out H2.out H3.out h4)
   go_enter Tryz.func103, Tryz.ntmps103
   go_wp2_with (go_at_call 100; refine (rep_within _ _ _ _).mono ?_; rintro e w' ⟨he, rfl⟩; simp only [H1.out, H2.out] at he; subst he)
   go_ret
   exact ⟨ret_i HR.out.symm, ex⟩
  ·by_cases h5 : recsE 1 n.term n.log = 0
   ·have HZ := Lib.hid h5
    have hz : (recsE 1 n.term n.log != 0) = false := by simpa using h5
    clear h5
    cases h6 : withinB n.acked 0 n.log.length with
    | false =>
     have HR := Lib.hid (nodE_f H1.out H2.out H3.out h4 HZ.out HV.out (.inl h6))
     have H6 := Lib.hid h6
     clear h6
     go_enter Tryz.func103, Tryz.ntmps103
     go_wp2_with (first | (go_at_call 100; refine (rep_within _ _ _ _).mono ?_; rintro e w' ⟨he, rfl⟩; simp only [H1.out, H2.out, H6.out] at he; subst he) | (go_at_call 134; refine (rep_records A c n.log 1 n.term _ (HS.out.mono (ex))).mono ?_; rintro e w' ⟨rfl, hx⟩; obtain ⟨y, rfl⟩ := hx.get; clear hx))
     go_ret
     exact ⟨ret_i HR.out.symm, ex⟩
    | true =>
     cases h7 : withinB n.next 0 0 with
     | false =>
      have HR := Lib.hid (nodE_f H1.out H2.out H3.out h4 HZ.out HV.out (.inr h7))
      have H6 := Lib.hid h6
      have H7 := Lib.hid h7
      clear h6 h7
      go_enter Tryz.func103, Tryz.ntmps103
      go_wp2_with (first | (go_at_call 100; refine (rep_within _ _ _ _).mono ?_; rintro e w' ⟨he, rfl⟩; simp only [H1.out, H2.out, H6.out, H7.out] at he; subst he) | (go_at_call 134; refine (rep_records A c n.log 1 n.term _ (HS.out.mono (ex))).mono ?_; rintro e w' ⟨rfl, hx⟩; obtain ⟨y, rfl⟩ := hx.get; clear hx))
      go_ret
      exact ⟨ret_i HR.out.symm, ex⟩
     | true =>
      have HR := Lib.hid (nodE_g H1.out H2.out H3.out h4 HZ.out HV.out h6 h7)
      have H6 := Lib.hid h6
      have H7 := Lib.hid h7
      clear h6 h7
      go_enter Tryz.func103, Tryz.ntmps103
      go_wp2_with (first | (go_at_call 100; refine (rep_within _ _ _ _).mono ?_; rintro e w' ⟨he, rfl⟩; simp only [H1.out, H2.out, H6.out, H7.out] at he; subst he) | (go_at_call 134; refine (rep_records A c n.log 1 n.term _ (HS.out.mono (ex))).mono ?_; rintro e w' ⟨rfl, hx⟩; obtain ⟨y, rfl⟩ := hx.get; clear hx))
      go_ret
      exact ⟨ret_i HR.out.symm, ex⟩
   ·have hz : (recsE 1 n.term n.log != 0) = true := by simpa using h5
    have HR := Lib.hid (nodE_e H1.out H2.out H3.out h4 h5)
    clear h5
    go_enter Tryz.func103, Tryz.ntmps103
    go_wp2_with (first | (go_at_call 100; refine (rep_within _ _ _ _).mono ?_; rintro e w' ⟨he, rfl⟩; simp only [H1.out, H2.out] at he; subst he) | (go_at_call 134; refine (rep_records A c n.log 1 n.term _ (HS.out.mono (ex))).mono ?_; rintro e w' ⟨rfl, hx⟩; obtain ⟨y, rfl⟩ := hx.get; clear hx))
    go_ret
    exact ⟨ret_i HR.out.symm, ex⟩
 | true =>
  obtain rfl : v = n.log.length := by rw [← hv, hb]; rfl
  have HO := Lib.hid (ho rfl)
  clear hv hb ho
  by_cases h4 : 256 < n.log.length
  ·have HR := Lib.hid (nodE_d H1.out H2.out H3.out h4)
   go_enter Tryz.func103, Tryz.ntmps103
   go_wp2_with (first | (go_at_call 100; refine (rep_within _ _ _ _).mono ?_; rintro e w' ⟨he, rfl⟩; simp only [H1.out, H2.out] at he; subst he) | (go_at_call 104; refine (rep_owns _ _ _ i1 i2 i3 i4).mono ?_; rintro e w' ⟨he, rfl⟩; rw [HO.out] at he; subst he))
   go_ret
   exact ⟨ret_i HR.out.symm, ex⟩
  ·by_cases h5 : recsE 1 n.term n.log = 0
   ·have HZ := Lib.hid h5
    have hz : (recsE 1 n.term n.log != 0) = false := by simpa using h5
    clear h5
    cases h6 : withinB n.acked 0 n.log.length with
    | false =>
     have HR := Lib.hid (nodE_f H1.out H2.out H3.out h4 HZ.out HV.out (.inl h6))
     have H6 := Lib.hid h6
     clear h6
     go_enter Tryz.func103, Tryz.ntmps103
     go_wp2_with (first | (go_at_call 100; refine (rep_within _ _ _ _).mono ?_; rintro e w' ⟨he, rfl⟩; simp only [H1.out, H2.out, H6.out] at he; subst he) | (go_at_call 104; refine (rep_owns _ _ _ i1 i2 i3 i4).mono ?_; rintro e w' ⟨he, rfl⟩; rw [HO.out] at he; subst he) | (go_at_call 134; refine (rep_records A c n.log 1 n.term _ (HS.out.mono (ex))).mono ?_; rintro e w' ⟨rfl, hx⟩; obtain ⟨y, rfl⟩ := hx.get; clear hx))
     go_ret
     exact ⟨ret_i HR.out.symm, ex⟩
    | true =>
     cases h7 : withinB n.next 0 n.log.length with
     | false =>
      have HR := Lib.hid (nodE_f H1.out H2.out H3.out h4 HZ.out HV.out (.inr h7))
      have H6 := Lib.hid h6
      have H7 := Lib.hid h7
      clear h6 h7
      go_enter Tryz.func103, Tryz.ntmps103
      go_wp2_with (first | (go_at_call 100; refine (rep_within _ _ _ _).mono ?_; rintro e w' ⟨he, rfl⟩; simp only [H1.out, H2.out, H6.out, H7.out] at he; subst he) | (go_at_call 104; refine (rep_owns _ _ _ i1 i2 i3 i4).mono ?_; rintro e w' ⟨he, rfl⟩; rw [HO.out] at he; subst he) | (go_at_call 134; refine (rep_records A c n.log 1 n.term _ (HS.out.mono (ex))).mono ?_; rintro e w' ⟨rfl, hx⟩; obtain ⟨y, rfl⟩ := hx.get; clear hx))
      go_ret
      exact ⟨ret_i HR.out.symm, ex⟩
     | true =>
      have HR := Lib.hid (nodE_g H1.out H2.out H3.out h4 HZ.out HV.out h6 h7)
      have H6 := Lib.hid h6
      have H7 := Lib.hid h7
      clear h6 h7
      go_enter Tryz.func103, Tryz.ntmps103
      go_wp2_with (first | (go_at_call 100; refine (rep_within _ _ _ _).mono ?_; rintro e w' ⟨he, rfl⟩; simp only [H1.out, H2.out, H6.out, H7.out] at he; subst he) | (go_at_call 104; refine (rep_owns _ _ _ i1 i2 i3 i4).mono ?_; rintro e w' ⟨he, rfl⟩; rw [HO.out] at he; subst he) | (go_at_call 134; refine (rep_records A c n.log 1 n.term _ (HS.out.mono (ex))).mono ?_; rintro e w' ⟨rfl, hx⟩; obtain ⟨y, rfl⟩ := hx.get; clear hx))
      go_ret
      exact ⟨ret_i HR.out.symm, ex⟩
   ·have hz : (recsE 1 n.term n.log != 0) = true := by simpa using h5
    have HR := Lib.hid (nodE_e H1.out H2.out H3.out h4 h5)
    clear h5
    go_enter Tryz.func103, Tryz.ntmps103
    go_wp2_with (first | (go_at_call 100; refine (rep_within _ _ _ _).mono ?_; rintro e w' ⟨he, rfl⟩; simp only [H1.out, H2.out] at he; subst he) | (go_at_call 104; refine (rep_owns _ _ _ i1 i2 i3 i4).mono ?_; rintro e w' ⟨he, rfl⟩; rw [HO.out] at he; subst he) | (go_at_call 134; refine (rep_records A c n.log 1 n.term _ (HS.out.mono (ex))).mono ?_; rintro e w' ⟨rfl, hx⟩; obtain ⟨y, rfl⟩ := hx.get; clear hx))
    go_ret
    exact ⟨ret_i HR.out.symm, ex⟩
set_option maxHeartbeats 1600000 in
set_option maxRecDepth 100000 in
theorem rep_Check (n : Nod) (A : Option Addr) (c : Nat) (w : World) (hs : RecsAt w A c n.log) : Calls Tryz.prog 103 #[.agg #[.int .i64 n.id, .int .i64 n.term, .bool n.speaks, .slice A n.log.length c, .int .i64 n.acked, .int .i64 n.next]] w fun e w' => e = .returned (.int .i64 (nodE n)) ∧ Ext w w' := by
 cases h1 : withinB n.id 1 2 with
 | false =>
  have HR := Lib.hid (nodE_a h1)
  have H1 := Lib.hid h1
  have hl := hs.len
  clear h1 hs
  go_enter Tryz.func103, Tryz.ntmps103
  go_wp2_with (go_at_call 100; refine (rep_within _ _ _ _).mono ?_; rintro e w' ⟨he, rfl⟩; simp only [H1.out] at he; subst he)
  go_ret
  exact ⟨ret_i HR.out.symm, ex⟩
 | true =>
  cases h2 : withinB n.term 0 1048576 with
  | false =>
   have HR := Lib.hid (nodE_b h2)
   have H1 := Lib.hid h1
   have H2 := Lib.hid h2
   have hl := hs.len
   clear h1 h2 hs
   go_enter Tryz.func103, Tryz.ntmps103
   go_wp2_with (go_at_call 100; refine (rep_within _ _ _ _).mono ?_; rintro e w' ⟨he, rfl⟩; simp only [H1.out, H2.out] at he; subst he)
   go_ret
   exact ⟨ret_i HR.out.symm, ex⟩
  | true =>
   by_cases h3 : n.speaks = true ∧ ownB n.id n.term = false
   ·have HR := Lib.hid (nodE_c h1 h2 h3.1 h3.2)
    obtain ⟨b, hb⟩ : ∃ b, n.speaks = b := ⟨_, rfl⟩
    have hbt : b = true := hb.symm.trans h3.1
    subst hbt
    rw [hb]
    have H1 := Lib.hid h1
    have H2 := Lib.hid h2
    have H3 := Lib.hid h3.2
    have hl := hs.len
    have i1 := (withinB_yes h1).1; have i2 := (withinB_yes h1).2; have i3 := (withinB_yes h2).1; have i4 := (withinB_yes h2).2
    clear h1 h2 h3 hs hb
    go_enter Tryz.func103, Tryz.ntmps103
    go_wp2_with (first | (go_at_call 100; refine (rep_within _ _ _ _).mono ?_; rintro e w' ⟨he, rfl⟩; simp only [H1.out, H2.out] at he; subst he) | (go_at_call 104; refine (rep_owns _ _ _ i1 i2 i3 i4).mono ?_; rintro e w' ⟨he, rfl⟩; rw [H3.out] at he; subst he))
    go_ret
    exact ⟨ret_i HR.out.symm, ex⟩
   ·exact rep_Check_go n A c w hs h1 h2 h3 _ rfl n.speaks rfl (fun hb => by
     cases ho : ownB n.id n.term
     ·exact absurd ⟨hb, ho⟩ h3
     ·rfl)

/-! ### Messages -/
def leastB (m : Msg) : Int := if 0 < m.at_ then 1 else 0
def mostB (m : Msg) : Int := if 0 < m.at_ then m.term else 0
section
variable {m : Msg}
theorem appE_a (h : withinB m.before (leastB m) (mostB m) = false) : appE m = 2 := by
 have := withinB_no h
 unfold leastB mostB at this
 unfold appE; rw [if_pos this]
theorem appE_n (h : withinB m.before (leastB m) (mostB m) = true) : ¬ (m.before < (if 0 < m.at_ then 1 else 0) ∨ (if 0 < m.at_ then m.term else 0) < m.before) := by
 have := withinB_yes h
 unfold leastB mostB at this
 omega
theorem appE_b (h : withinB m.before (leastB m) (mostB m) = true) (h2 : 16 < m.recs.length) : appE m = 5 := by
 unfold appE; rw [if_neg (appE_n h), if_pos h2]
theorem appE_c (h : withinB m.before (leastB m) (mostB m) = true) (h2 : ¬ 16 < m.recs.length) (h3 : recsE m.before m.term m.recs ≠ 0) : appE m = recsE m.before m.term m.recs := by
 unfold appE; rw [if_neg (appE_n h), if_neg h2, if_pos h3]
theorem appE_d (h : withinB m.before (leastB m) (mostB m) = true) (h2 : ¬ 16 < m.recs.length) (h3 : recsE m.before m.term m.recs = 0) : appE m = if withinB m.acked 0 256 = true then 0 else 2 := by
 unfold appE; rw [if_neg (appE_n h), if_neg h2, if_neg (by simpa using h3)]
 cases hw : withinB m.acked 0 256
 ·have := withinB_no hw; rw [if_pos (by omega)]; rfl
 ·have := withinB_yes hw; rw [if_neg (by omega)]; rfl
end
set_option maxHeartbeats 3200000 in
set_option maxRecDepth 100000 in
theorem rep_appends_go (m : Msg) (A : Option Addr) (c : Nat) (w : World) (hs : RecsAt w A c m.recs) (lo hi : Int) (hlo : leastB m = lo) (hhi : mostB m = hi) (hc : (0 < m.at_ ∧ lo = 1 ∧ hi = m.term) ∨ (¬ 0 < m.at_ ∧ lo = 0 ∧ hi = 0)) :
  Calls Tryz.prog 138 #[.agg #[.int .i64 m.kind, .int .i64 m.term, .int .i64 m.at_, .int .i64 m.before, .slice A m.recs.length c, .int .i64 m.acked]] w fun e w' => e = .returned (.int .i64 (appE m)) ∧ Ext w w' := by
 have hl := hs.len
 have HS := Lib.hid hs
 clear hs
 cases h1 : withinB m.before lo hi with
 | false =>
  have HR := Lib.hid (appE_a (by rw [hlo, hhi]; exact h1))
  have H1 := Lib.hid h1
  clear hlo hhi h1
  rcases hc with ⟨h0, rfl, rfl⟩ | ⟨h0, rfl, rfl⟩
  ·go_enter Tryz.func138, Tryz.ntmps138
   go_wp2
   (refine wp_region_grows (by kernel_rfl) (by kernel_rfl) ?_; (repeat (go_big_quiet_step (fail))); refine wpQuiet_nil ?_; rintro _ ⟨y, rfl⟩)
   go_wp2_with (go_at_call 100; refine (rep_within _ _ _ _).mono ?_; rintro e w' ⟨he, rfl⟩; simp only [H1.out] at he; subst he)
   go_ret
   exact ⟨ret_i HR.out.symm, ex⟩
  ·go_enter Tryz.func138, Tryz.ntmps138
   go_wp2_with (go_at_call 100; refine (rep_within _ _ _ _).mono ?_; rintro e w' ⟨he, rfl⟩; simp only [H1.out] at he; subst he)
   go_ret
   exact ⟨ret_i HR.out.symm, ex⟩
 | true =>
  have HW := Lib.hid (show withinB m.before (leastB m) (mostB m) = true by rw [hlo, hhi]; exact h1)
  have H1 := Lib.hid h1
  clear hlo hhi h1
  by_cases h2 : 16 < m.recs.length
  ·have HR := Lib.hid (appE_b HW.out h2)
   rcases hc with ⟨h0, rfl, rfl⟩ | ⟨h0, rfl, rfl⟩
   ·go_enter Tryz.func138, Tryz.ntmps138
    go_wp2
    (refine wp_region_grows (by kernel_rfl) (by kernel_rfl) ?_; (repeat (go_big_quiet_step (fail))); refine wpQuiet_nil ?_; rintro _ ⟨y, rfl⟩)
    go_wp2_with (go_at_call 100; refine (rep_within _ _ _ _).mono ?_; rintro e w' ⟨he, rfl⟩; simp only [H1.out] at he; subst he)
    go_ret
    exact ⟨ret_i HR.out.symm, ex⟩
   ·go_enter Tryz.func138, Tryz.ntmps138
    go_wp2_with (go_at_call 100; refine (rep_within _ _ _ _).mono ?_; rintro e w' ⟨he, rfl⟩; simp only [H1.out] at he; subst he)
    go_ret
    exact ⟨ret_i HR.out.symm, ex⟩
  ·by_cases h3 : recsE m.before m.term m.recs = 0
   ·have hz : (recsE m.before m.term m.recs != 0) = false := by simpa using h3
    have HR := Lib.hid (appE_d HW.out h2 h3)
    clear h3
    cases h4 : withinB m.acked 0 256 with
    | false =>
     have HV := Lib.hid (show appE m = 2 by rw [HR.out, h4]; rfl)
     have H4 := Lib.hid h4
     clear h4
     rcases hc with ⟨h0, rfl, rfl⟩ | ⟨h0, rfl, rfl⟩
     ·go_enter Tryz.func138, Tryz.ntmps138
      go_wp2
      (refine wp_region_grows (by kernel_rfl) (by kernel_rfl) ?_; (repeat (go_big_quiet_step (fail))); refine wpQuiet_nil ?_; rintro _ ⟨y, rfl⟩)
      go_wp2_with (first | (go_at_call 100; refine (rep_within _ _ _ _).mono ?_; rintro e w' ⟨he, rfl⟩; simp only [H1.out, H4.out] at he; subst he) | (go_at_call 134; refine (rep_records A c m.recs m.before m.term _ (HS.out.mono (ex))).mono ?_; rintro e w' ⟨rfl, hx⟩; obtain ⟨y, rfl⟩ := hx.get; clear hx))
      go_ret
      exact ⟨ret_i HV.out.symm, ex⟩
     ·go_enter Tryz.func138, Tryz.ntmps138
      go_wp2_with (first | (go_at_call 100; refine (rep_within _ _ _ _).mono ?_; rintro e w' ⟨he, rfl⟩; simp only [H1.out, H4.out] at he; subst he) | (go_at_call 134; refine (rep_records A c m.recs m.before m.term _ (HS.out.mono (ex))).mono ?_; rintro e w' ⟨rfl, hx⟩; obtain ⟨y, rfl⟩ := hx.get; clear hx))
      go_ret
      exact ⟨ret_i HV.out.symm, ex⟩
    | true =>
     have HV := Lib.hid (show appE m = 0 by rw [HR.out, h4]; rfl)
     have H4 := Lib.hid h4
     clear h4
     rcases hc with ⟨h0, rfl, rfl⟩ | ⟨h0, rfl, rfl⟩
     ·go_enter Tryz.func138, Tryz.ntmps138
      go_wp2
      (refine wp_region_grows (by kernel_rfl) (by kernel_rfl) ?_; (repeat (go_big_quiet_step (fail))); refine wpQuiet_nil ?_; rintro _ ⟨y, rfl⟩)
      go_wp2_with (first | (go_at_call 100; refine (rep_within _ _ _ _).mono ?_; rintro e w' ⟨he, rfl⟩; simp only [H1.out, H4.out] at he; subst he) | (go_at_call 134; refine (rep_records A c m.recs m.before m.term _ (HS.out.mono (ex))).mono ?_; rintro e w' ⟨rfl, hx⟩; obtain ⟨y, rfl⟩ := hx.get; clear hx))
      go_ret
      exact ⟨ret_i HV.out.symm, ex⟩
     ·go_enter Tryz.func138, Tryz.ntmps138
      go_wp2_with (first | (go_at_call 100; refine (rep_within _ _ _ _).mono ?_; rintro e w' ⟨he, rfl⟩; simp only [H1.out, H4.out] at he; subst he) | (go_at_call 134; refine (rep_records A c m.recs m.before m.term _ (HS.out.mono (ex))).mono ?_; rintro e w' ⟨rfl, hx⟩; obtain ⟨y, rfl⟩ := hx.get; clear hx))
      go_ret
      exact ⟨ret_i HV.out.symm, ex⟩
   ·have hz : (recsE m.before m.term m.recs != 0) = true := by simpa using h3
    have HR := Lib.hid (appE_c HW.out h2 h3)
    clear h3
    rcases hc with ⟨h0, rfl, rfl⟩ | ⟨h0, rfl, rfl⟩
    ·go_enter Tryz.func138, Tryz.ntmps138
     go_wp2
     (refine wp_region_grows (by kernel_rfl) (by kernel_rfl) ?_; (repeat (go_big_quiet_step (fail))); refine wpQuiet_nil ?_; rintro _ ⟨y, rfl⟩)
     go_wp2_with (first | (go_at_call 100; refine (rep_within _ _ _ _).mono ?_; rintro e w' ⟨he, rfl⟩; simp only [H1.out] at he; subst he) | (go_at_call 134; refine (rep_records A c m.recs m.before m.term _ (HS.out.mono (ex))).mono ?_; rintro e w' ⟨rfl, hx⟩; obtain ⟨y, rfl⟩ := hx.get; clear hx))
     go_ret
     exact ⟨ret_i HR.out.symm, ex⟩
    ·go_enter Tryz.func138, Tryz.ntmps138
     go_wp2_with (first | (go_at_call 100; refine (rep_within _ _ _ _).mono ?_; rintro e w' ⟨he, rfl⟩; simp only [H1.out] at he; subst he) | (go_at_call 134; refine (rep_records A c m.recs m.before m.term _ (HS.out.mono (ex))).mono ?_; rintro e w' ⟨rfl, hx⟩; obtain ⟨y, rfl⟩ := hx.get; clear hx))
     go_ret
     exact ⟨ret_i HR.out.symm, ex⟩
theorem rep_appends (m : Msg) (A : Option Addr) (c : Nat) (w : World) (hs : RecsAt w A c m.recs) : Calls Tryz.prog 138 #[.agg #[.int .i64 m.kind, .int .i64 m.term, .int .i64 m.at_, .int .i64 m.before, .slice A m.recs.length c, .int .i64 m.acked]] w fun e w' => e = .returned (.int .i64 (appE m)) ∧ Ext w w' := by
 by_cases h0 : 0 < m.at_
 ·exact rep_appends_go m A c w hs _ _ rfl rfl (.inl ⟨h0, if_pos h0, if_pos h0⟩)
 ·exact rep_appends_go m A c w hs _ _ rfl rfl (.inr ⟨h0, if_neg h0, if_neg h0⟩)
set_option maxHeartbeats 1600000 in
set_option maxRecDepth 100000 in
theorem rep_answers (m : Msg) (A : Option Addr) (c : Nat) (w : World) (hs : RecsAt w A c m.recs) : Calls Tryz.prog 139 #[.agg #[.int .i64 m.kind, .int .i64 m.term, .int .i64 m.at_, .int .i64 m.before, .slice A m.recs.length c, .int .i64 m.acked]] w fun e w' => e = .returned (.int .i64 (ansE m)) ∧ Ext w w' := by
 have hl := hs.len
 have yes : m.before = 0 → ¬ 0 < m.recs.length → m.acked = 0 → 0 = ansE m := fun h1 h2 h3 => by
  unfold ansE
  rw [if_neg]
  rintro (h | h | h)
  ·exact h h1
  ·exact h (List.eq_nil_of_length_eq_zero (by omega))
  ·exact h h3
 have no : (m.before ≠ 0 ∨ 0 < m.recs.length ∨ m.acked ≠ 0) → 3 = ansE m := fun h => by
  unfold ansE
  rw [if_pos]
  rcases h with h | h | h
  ·exact .inl h
  ·exact .inr (.inl fun hn => by rw [hn] at h; simp at h)
  ·exact .inr (.inr h)
 clear hs
 by_cases h1 : m.before = 0
 ·have hz : (m.before != 0) = false := by simpa using h1
  by_cases h2 : 0 < m.recs.length
  ·have HV := Lib.hid (no (.inr (.inl h2)))
   clear yes no h1
   go_enter Tryz.func139, Tryz.ntmps139
   go_wp2
   go_ret
   exact ⟨ret_i HV.out, ex⟩
  ·by_cases h3 : m.acked = 0
   ·have hz3 : (m.acked != 0) = false := by simpa using h3
    have HV := Lib.hid (yes h1 h2 h3)
    clear yes no h1 h3
    go_enter Tryz.func139, Tryz.ntmps139
    go_wp2
    go_ret
    exact ⟨ret_i HV.out, ex⟩
   ·have hz3 : (m.acked != 0) = true := by simpa using h3
    have HV := Lib.hid (no (.inr (.inr h3)))
    clear yes no h1 h3
    go_enter Tryz.func139, Tryz.ntmps139
    go_wp2
    go_ret
    exact ⟨ret_i HV.out, ex⟩
 ·have hz : (m.before != 0) = true := by simpa using h1
  have HV := Lib.hid (no (.inl h1))
  clear yes no h1
  go_enter Tryz.func139, Tryz.ntmps139
  go_wp2
  go_ret
  exact ⟨ret_i HV.out, ex⟩
section
variable {m : Msg}
theorem msgE_a (h : withinB m.kind 0 2 = false) : msgE m = 1 := by
 have := withinB_no h
 unfold msgE; rw [if_pos (by omega)]
theorem msgE_b (h : withinB m.kind 0 2 = true) (h2 : withinB m.term 1 1048576 = false ∨ withinB m.at_ 0 256 = false) : msgE m = 2 := by
 have := withinB_yes h
 unfold msgE; rw [if_neg (by omega), if_pos]
 rcases h2 with h | h <;> have := withinB_no h <;> omega
theorem msgE_c (h : withinB m.kind 0 2 = true) (h2 : withinB m.term 1 1048576 = true) (h3 : withinB m.at_ 0 256 = true) : msgE m = if m.kind = 0 then appE m else ansE m := by
 have := withinB_yes h; have := withinB_yes h2; have := withinB_yes h3
 unfold msgE; rw [if_neg (by omega), if_neg (by omega)]
end
set_option maxHeartbeats 3200000 in
set_option maxRecDepth 100000 in
theorem rep_Right_go (k : Int) (m : Msg) (hk : m.kind = k) (A : Option Addr) (c : Nat) (w : World) (hs : RecsAt w A c m.recs) (h1 : withinB k 0 2 = true) (h2 : withinB m.term 1 1048576 = true) (h3 : withinB m.at_ 0 256 = true) :
  Calls Tryz.prog 109 #[.agg #[.int .i64 k, .int .i64 m.term, .int .i64 m.at_, .int .i64 m.before, .slice A m.recs.length c, .int .i64 m.acked]] w fun e w' => e = .returned (.int .i64 (msgE m)) ∧ Ext w w' := by
 have hl := hs.len
 have HS := Lib.hid hs
 have HE := Lib.hid (msgE_c (by rw [hk]; exact h1) h2 h3)
 have hkk := withinB_yes h1
 have hcase : k = 0 ∨ k = 1 ∨ k = 2 := by omega
 have H1 := Lib.hid h1
 have H2 := Lib.hid h2
 have H3 := Lib.hid h3
 clear h1 h2 h3 hs hkk
 rcases hcase with rfl | rfl | rfl
 ·have HV := Lib.hid (show msgE m = appE m by rw [HE.out, if_pos hk])
  have HC := Lib.hid (show ∀ w : World, RecsAt w A c m.recs → Calls Tryz.prog 138 #[.agg #[.int .i64 0, .int .i64 m.term, .int .i64 m.at_, .int .i64 m.before, .slice A m.recs.length c, .int .i64 m.acked]] w fun e w' => e = .returned (.int .i64 (appE m)) ∧ Ext w w' from fun w h => by have := rep_appends m A c w h; rwa [hk] at this)
  clear hk
  go_enter Tryz.func109, Tryz.ntmps109
  go_wp2_with (go_at_call 100; refine (rep_within _ _ _ _).mono ?_; rintro e w' ⟨he, rfl⟩; simp only [H1.out, H2.out, H3.out] at he; subst he)
  (refine wp_region_grows (by kernel_rfl) (by kernel_rfl) ?_; (repeat (go_big_quiet_step ((go_at_call 138; exact Calls.grows (HC.out _ (HS.out.mono (ex))))))); refine wpQuiet_nil ?_; rintro _ ⟨y, rfl⟩)
  go_wp2
  go_ret
  exact ⟨ret_i HV.out.symm, ex⟩
 all_goals
  have HV := Lib.hid (show msgE m = ansE m by rw [HE.out, if_neg (by omega)])
  have HC := Lib.hid (fun (w : World) (h : RecsAt w A c m.recs) => rep_answers m A c w h)
  rw [hk] at HC
  clear hk
  go_enter Tryz.func109, Tryz.ntmps109
  go_wp2_with (go_at_call 100; refine (rep_within _ _ _ _).mono ?_; rintro e w' ⟨he, rfl⟩; simp only [H1.out, H2.out, H3.out] at he; subst he)
  (refine wp_region_grows (by kernel_rfl) (by kernel_rfl) ?_; (repeat (go_big_quiet_step ((go_at_call 139; exact Calls.grows (HC.out _ (HS.out.mono (ex))))))); refine wpQuiet_nil ?_; rintro _ ⟨y, rfl⟩)
  go_wp2
  go_ret
  exact ⟨ret_i HV.out.symm, ex⟩
set_option maxHeartbeats 1600000 in
set_option maxRecDepth 100000 in
theorem rep_Right (m : Msg) (A : Option Addr) (c : Nat) (w : World) (hs : RecsAt w A c m.recs) : Calls Tryz.prog 109 #[.agg #[.int .i64 m.kind, .int .i64 m.term, .int .i64 m.at_, .int .i64 m.before, .slice A m.recs.length c, .int .i64 m.acked]] w fun e w' => e = .returned (.int .i64 (msgE m)) ∧ Ext w w' := by
 have hl := hs.len
 cases h1 : withinB m.kind 0 2 with
 | false =>
  have HR := Lib.hid (msgE_a h1)
  have H1 := Lib.hid h1
  clear h1 hs
  go_enter Tryz.func109, Tryz.ntmps109
  go_wp2_with (go_at_call 100; refine (rep_within _ _ _ _).mono ?_; rintro e w' ⟨he, rfl⟩; simp only [H1.out] at he; subst he)
  go_ret
  exact ⟨ret_i HR.out.symm, ex⟩
 | true =>
  cases h2 : withinB m.term 1 1048576 with
  | false =>
   have HR := Lib.hid (msgE_b h1 (.inl h2))
   have H1 := Lib.hid h1
   have H2 := Lib.hid h2
   clear h1 h2 hs
   go_enter Tryz.func109, Tryz.ntmps109
   go_wp2_with (go_at_call 100; refine (rep_within _ _ _ _).mono ?_; rintro e w' ⟨he, rfl⟩; simp only [H1.out, H2.out] at he; subst he)
   go_ret
   exact ⟨ret_i HR.out.symm, ex⟩
  | true =>
   cases h3 : withinB m.at_ 0 256 with
   | false =>
    have HR := Lib.hid (msgE_b h1 (.inr h3))
    have H1 := Lib.hid h1
    have H2 := Lib.hid h2
    have H3 := Lib.hid h3
    clear h1 h2 h3 hs
    go_enter Tryz.func109, Tryz.ntmps109
    go_wp2_with (go_at_call 100; refine (rep_within _ _ _ _).mono ?_; rintro e w' ⟨he, rfl⟩; simp only [H1.out, H2.out, H3.out] at he; subst he)
    go_ret
    exact ⟨ret_i HR.out.symm, ex⟩
   | true => exact rep_Right_go m.kind m rfl A c w hs h1 h2 h3
end Go.Proofs.YtmhinhgflehkaaaGreat

/-
 Chapter 54: new nodes, leading, what a speaker sends.
-/
namespace Go.Proofs.YtmhinhgflehkaaaGreat
open Go.RowKit

def RetNod (w : World) (v : Nod × Int) (e : Ending) (w' : World) : Prop := ∃ A c, e = .returned (.tuple #[.agg #[.int .i64 v.1.id, .int .i64 v.1.term, .bool v.1.speaks, .slice A v.1.log.length c, .int .i64 v.1.acked, .int .i64 v.1.next], .int .i64 v.2]) ∧ Ext w w' ∧ RecsAt w' A c v.1.log
theorem RetNod.err {w w' : World} {v : Nod × Int} {x : Int} (h : v = (nod0, x)) (hx : Ext w w') : RetNod w v (.returned (.tuple #[.agg #[.int .i64 0, .int .i64 0, .bool false, .slice none 0 0, .int .i64 0, .int .i64 0], .int .i64 x])) w' := by
 subst h
 exact ⟨none, 0, rfl, hx, RecsAt.nil _⟩
theorem newV_no {id : Int} (h : withinB id 1 2 = false) : newV id = (nod0, 2) := by
 have := withinB_no h
 unfold newV; rw [if_pos (by omega)]
theorem newV_yes {id : Int} (h : withinB id 1 2 = true) : newV id = (⟨id, 0, false, [], 0, 0⟩, 0) := by
 have := withinB_yes h
 unfold newV; rw [if_neg (by omega)]
set_option maxHeartbeats 800000 in
theorem rep_New (id : Int) (w : World) : Calls Tryz.prog 48 #[.int .i64 id] w (RetNod w (newV id)) := by
 cases h : withinB id 1 2 with
 | false =>
  have HR := Lib.hid (newV_no h)
  have H1 := Lib.hid h
  clear h
  go_enter Tryz.func48, Tryz.ntmps48
  go_wp2_with (go_at_call 100; refine (rep_within _ _ _ _).mono ?_; rintro e w' ⟨he, rfl⟩; simp only [H1.out] at he; subst he)
  exact bodyPost_ret (v := .tuple #[.agg #[.int .i64 0, .int .i64 0, .bool false, .slice none 0 0, .int .i64 0, .int .i64 0], .int .i64 2]) (by simp [results, Tryz.results48, go_sem]) rfl (RetNod.err HR.out (ex))
 | true =>
  have HR := Lib.hid (newV_yes h)
  have H1 := Lib.hid h
  clear h
  go_enter Tryz.func48, Tryz.ntmps48
  go_wp2_with (go_at_call 100; refine (rep_within _ _ _ _).mono ?_; rintro e w' ⟨he, rfl⟩; simp only [H1.out] at he; subst he)
  refine bodyPost_ret (v := .tuple #[.agg #[.int .i64 id, .int .i64 0, .bool false, .slice none 0 0, .int .i64 0, .int .i64 0], .int .i64 0]) (by simp [results, Tryz.results48, go_sem]) rfl ?_
  rw [HR.out]
  exact ⟨none, 0, rfl, ex, RecsAt.nil _⟩
section
variable {n : Nod} {t : Int}
theorem leadV_a (h : nodE n ≠ 0) : leadV n t = (nod0, nodE n) := by unfold leadV; rw [if_pos h]
theorem leadV_b (h : nodE n = 0) (h1 : withinB t 1 1048576 = false) : leadV n t = (nod0, 2) := by
 have := withinB_no h1
 unfold leadV; rw [if_neg (by simpa using h), if_pos (by omega)]
theorem leadV_c (h : nodE n = 0) (h1 : withinB t 1 1048576 = true) (h2 : ownB n.id t = false) : leadV n t = (nod0, 11) := by
 have := withinB_yes h1
 unfold leadV; rw [if_neg (by simpa using h), if_neg (by omega), if_pos h2]
theorem leadV_d (h : nodE n = 0) (h1 : withinB t 1 1048576 = true) (h2 : ownB n.id t = true) (h3 : t ≤ n.term) : leadV n t = (nod0, 9) := by
 have := withinB_yes h1
 unfold leadV; rw [if_neg (by simpa using h), if_neg (by omega), if_neg (by rw [h2]; simp), if_pos h3]
theorem leadV_e (h : nodE n = 0) (h1 : withinB t 1 1048576 = true) (h2 : ownB n.id t = true) (h3 : ¬ t ≤ n.term) : leadV n t = (ledN n t, 0) := by
 have := withinB_yes h1
 unfold leadV; rw [if_neg (by simpa using h), if_neg (by omega), if_neg (by rw [h2]; simp), if_neg h3]
end
set_option maxHeartbeats 3200000 in
set_option maxRecDepth 100000 in
theorem rep_Lead (n : Nod) (A : Option Addr) (c : Nat) (t : Int) (w : World) (hs : RecsAt w A c n.log) : Calls Tryz.prog 52 #[.agg #[.int .i64 n.id, .int .i64 n.term, .bool n.speaks, .slice A n.log.length c, .int .i64 n.acked, .int .i64 n.next], .int .i64 t] w (RetNod w (leadV n t)) := by
 have hl := hs.len
 have HS := Lib.hid hs
 clear hs
 by_cases h : nodE n = 0
 ·have hz : (nodE n != 0) = false := by simpa using h
  have HN := Lib.hid h
  have hok := (nodE_iff n).1 h
  have j1 := hok.id1; have j2 := hok.id2
  clear h hok
  cases h1 : withinB t 1 1048576 with
  | false =>
   have HR := Lib.hid (leadV_b HN.out h1)
   have H1 := Lib.hid h1
   clear h1
   go_enter Tryz.func52, Tryz.ntmps52
   go_wp2_with (first | (go_at_call 100; refine (rep_within _ _ _ _).mono ?_; rintro e w' ⟨he, rfl⟩; simp only [H1.out] at he; subst he) | (go_at_call 103; refine (rep_Check n A c _ (HS.out.mono (ex))).mono ?_; rintro e w' ⟨rfl, hx⟩; obtain ⟨y, rfl⟩ := hx.get; clear hx))
   exact bodyPost_ret (v := .tuple #[.agg #[.int .i64 0, .int .i64 0, .bool false, .slice none 0 0, .int .i64 0, .int .i64 0], .int .i64 2]) (by simp [results, Tryz.results52, go_sem]) rfl (RetNod.err HR.out (ex))
  | true =>
   have i1 := (withinB_yes h1).1; have i2 := (withinB_yes h1).2
   have i3 : 0 ≤ t := by omega
   cases h2 : ownB n.id t with
   | false =>
    have HR := Lib.hid (leadV_c HN.out h1 h2)
    have H1 := Lib.hid h1
    have H2 := Lib.hid h2
    clear h1 h2
    go_enter Tryz.func52, Tryz.ntmps52
    go_wp2_with (first | (go_at_call 100; refine (rep_within _ _ _ _).mono ?_; rintro e w' ⟨he, rfl⟩; simp only [H1.out] at he; subst he) | (go_at_call 103; refine (rep_Check n A c _ (HS.out.mono (ex))).mono ?_; rintro e w' ⟨rfl, hx⟩; obtain ⟨y, rfl⟩ := hx.get; clear hx) | (go_at_call 104; refine (rep_owns _ _ _ j1 j2 i3 i2).mono ?_; rintro e w' ⟨he, rfl⟩; rw [H2.out] at he; subst he))
    exact bodyPost_ret (v := .tuple #[.agg #[.int .i64 0, .int .i64 0, .bool false, .slice none 0 0, .int .i64 0, .int .i64 0], .int .i64 11]) (by simp [results, Tryz.results52, go_sem]) rfl (RetNod.err HR.out (ex))
   | true =>
    by_cases h3 : t ≤ n.term
    ·have HR := Lib.hid (leadV_d HN.out h1 h2 h3)
     have H1 := Lib.hid h1
     have H2 := Lib.hid h2
     clear h1 h2
     go_enter Tryz.func52, Tryz.ntmps52
     go_wp2_with (first | (go_at_call 100; refine (rep_within _ _ _ _).mono ?_; rintro e w' ⟨he, rfl⟩; simp only [H1.out] at he; subst he) | (go_at_call 103; refine (rep_Check n A c _ (HS.out.mono (ex))).mono ?_; rintro e w' ⟨rfl, hx⟩; obtain ⟨y, rfl⟩ := hx.get; clear hx) | (go_at_call 104; refine (rep_owns _ _ _ j1 j2 i3 i2).mono ?_; rintro e w' ⟨he, rfl⟩; rw [H2.out] at he; subst he))
     exact bodyPost_ret (v := .tuple #[.agg #[.int .i64 0, .int .i64 0, .bool false, .slice none 0 0, .int .i64 0, .int .i64 0], .int .i64 9]) (by simp [results, Tryz.results52, go_sem]) rfl (RetNod.err HR.out (ex))
    ·have HR := Lib.hid (leadV_e HN.out h1 h2 h3)
     have H1 := Lib.hid h1
     have H2 := Lib.hid h2
     clear h1 h2
     go_enter Tryz.func52, Tryz.ntmps52
     go_wp2_with (first | (go_at_call 100; refine (rep_within _ _ _ _).mono ?_; rintro e w' ⟨he, rfl⟩; simp only [H1.out] at he; subst he) | (go_at_call 103; refine (rep_Check n A c _ (HS.out.mono (ex))).mono ?_; rintro e w' ⟨rfl, hx⟩; obtain ⟨y, rfl⟩ := hx.get; clear hx) | (go_at_call 104; refine (rep_owns _ _ _ j1 j2 i3 i2).mono ?_; rintro e w' ⟨he, rfl⟩; rw [H2.out] at he; subst he))
     refine bodyPost_ret (v := .tuple #[.agg #[.int .i64 n.id, .int .i64 t, .bool true, .slice A n.log.length c, .int .i64 n.acked, .int .i64 n.log.length], .int .i64 0]) (by simp [results, Tryz.results52, go_sem]) rfl ?_
     rw [HR.out]
     exact ⟨A, c, rfl, ex, HS.out.mono (ex)⟩
 ·have hz : (nodE n != 0) = true := by simpa using h
  have HR := Lib.hid (leadV_a (t := t) h)
  clear h
  go_enter Tryz.func52, Tryz.ntmps52
  go_wp2_with (go_at_call 103; refine (rep_Check n A c _ (HS.out.mono (ex))).mono ?_; rintro e w' ⟨rfl, hx⟩; obtain ⟨y, rfl⟩ := hx.get; clear hx)
  exact bodyPost_ret (v := .tuple #[.agg #[.int .i64 0, .int .i64 0, .bool false, .slice none 0 0, .int .i64 0, .int .i64 0], .int .i64 (nodE n)]) (by simp [results, Tryz.results52, go_sem]) rfl (RetNod.err HR.out (ex))

/-! ### What a speaker sends -/
theorem termAt_get' {l : List Rec} {k : Nat} {r : Rec} (h : l[k]? = some r) : termAt l (k : Int) = r.term := by
 unfold termAt
 rw [if_neg (by omega), Int.toNat_natCast, h]
@[go_sem] theorem nil_R (A : Option Addr) (n c n' c' : Nat) (w : World) : (binOp .eql 22 (.slice A n c) (.slice none n' c')).run Tryz.prog w = .ok (.bool A.isNone) w := Lib.run_eql_slice_nil w _ _ A n c n' c' Tryz.underlying22
theorem info_R : infoOk Tryz.prog 170 45 552 = true := by kernel_rfl
def RetRecs (w0 : World) (n : Nat) (l : List Rec) (e : Ending) (w' : World) : Prop := ∃ A k, e = .returned (.slice A n k) ∧ Ext w0 w' ∧ Own w0 w' 170 45 A n k (l.map recR)
theorem Own.shift {X X' : World} {y : Gr} {E : TypeId} {size : Nat} {A : Option Addr} {n k : Nat} {rows : List (List Value)} (h : Own X (xt X y) E size A n k rows) (hs : X.heap.size = X'.heap.size) : Own X' (xt X' y) E size A n k rows := by
 refine ⟨h.len, h.row, h.one, h.le, h.cap, ?_⟩
 rcases h.at_ with h0 | ⟨g, cur, h1, h2, h3, h4⟩
 ·exact .inl h0
 ·refine .inr ⟨g, cur, h1, by omega, ?_, h4⟩
  have e : ∀ Z : World, X.heap.size = Z.heap.size → (xt Z y).heap[g]? = y.objs[g - X.heap.size]? := fun Z hz => by
   show (Z.heap ++ y.objs)[g]? = _
   rw [Array.getElem?_append_right (by omega), hz]
  rw [e X' hs, ← e X rfl]; exact h3
theorem Own.recs {w0 w : World} {E : TypeId} {A : Option Addr} {k n : Nat} {l : List Rec} (h : Own w0 w E 45 A n k (l.map recR)) (hl : l.length = n) (he : ∀ r ∈ l, AcnAt w r.act) : RecsAt w A k l := ⟨h.sl, by rw [hl]; exact h.le, h.cap, he⟩
set_option maxHeartbeats 400000 in
set_option maxRecDepth 100000 in
theorem Clone_R (A : Option Addr) (k n : Nat) (l : List Rec) (w : World) (hn : l.length = n) (hs : Sl w A 45 (l.map recR)) (hl : n ≤ 1000000) : Calls Tryz.prog 132 #[.slice A n k] w (RetRecs w n l) := by
 subst hn
 cases A with
 | none =>
  have hnil : l = [] := by simpa using hs.none_nil
  subst hnil
  go_enter Tryz.func132, Tryz.ntmps132
  go_wp2
  go_ret
  exact ⟨_, _, rfl, ex, Own.nil _⟩
 | some a =>
  go_enter Tryz.func132, Tryz.ntmps132
  go_wp2_with (at_builtin; refine wpList_append_mine (w0 := w) rfl _ _ 22 22 rfl 170 170 45 552 Tryz.underlying22 Tryz.underlying22 info_R (by decide) (ex) _ 0 0 [] rfl (Own.nil _) (some a) l.length _ (l.map recR) rfl (hs.mono (ex)) (by simp) (recR_ones l) (by unfold maxLen; omega) (by omega) l.length (by omega) (l.map recR) rfl ?_; intro A' k' w1 hx1 hown hg hA; have HO := Lib.hid hown; obtain ⟨y, rfl⟩ := hx1.get; clear hown hx1 hg hA)
  go_ret
  exact ⟨_, _, rfl, ex, HO.out⟩
def RetMsg (w : World) (m : Msg) (e : Ending) (w' : World) : Prop := ∃ A c, e = .returned (.agg #[.int .i64 m.kind, .int .i64 m.term, .int .i64 m.at_, .int .i64 m.before, .slice A m.recs.length c, .int .i64 m.acked]) ∧ Ext w w' ∧ Own w w' 170 45 A m.recs.length c (m.recs.map recR) ∧ ∀ r ∈ m.recs, AcnAt w r.act
theorem RetMsg.of {w w' : World} {m : Msg} {k t a b d : Int} {len c : Nat} {D : Option Addr} {l : List Rec} (hm : m = ⟨k, t, a, b, l, d⟩) (hl : l.length = len) (hx : Ext w w') (hr : Own w w' 170 45 D len c (l.map recR)) (he : ∀ r ∈ l, AcnAt w r.act) :
  RetMsg w m (.returned (.agg #[.int .i64 k, .int .i64 t, .int .i64 a, .int .i64 b, .slice D len c, .int .i64 d])) w' := by
 subst hm hl
 exact ⟨D, c, rfl, hx, hr, he⟩
theorem sentM_eq (n : Nod) (j q : Nat) (hj : n.next = j) (hq : min (j + 16) n.log.length = q) (b : Int) (hb : (if 0 < n.next then termAt n.log (n.next - 1) else 0) = b) : sentM n = ⟨0, n.term, j, b, (n.log.take q).drop j, n.acked⟩ := by
 have hrecs : (sentM n).recs = (n.log.take q).drop j := by
  show (n.log.drop n.next.toNat).take 16 = _
  rw [List.drop_take, show n.next.toNat = j by omega, ← hq]
  by_cases hc : j + 16 ≤ n.log.length
  ·rw [Nat.min_eq_left hc, show j + 16 - j = 16 by omega]
  ·rw [Nat.min_eq_right (by omega), List.take_of_length_le (by rw [List.length_drop]; omega), List.take_of_length_le (by rw [List.length_drop]; omega)]
 have : sentM n = ⟨0, n.term, n.next, if 0 < n.next then termAt n.log (n.next - 1) else 0, (sentM n).recs, n.acked⟩ := rfl
 rw [this, hrecs, hb, hj]
set_option maxHeartbeats 3200000 in
set_option maxRecDepth 100000 in
theorem rep_sent (n : Nod) (A : Option Addr) (c : Nat) (w : World) (hs : RecsAt w A c n.log) (hn : NodOk n) : Calls Tryz.prog 106 #[.agg #[.int .i64 n.id, .int .i64 n.term, .bool n.speaks, .slice A n.log.length c, .int .i64 n.acked, .int .i64 n.next]] w (RetMsg w (sentM n)) := by
 have hl := hs.len
 have h256 := hn.len
 have h0 := hn.n0; have h1 := hn.n1
 obtain ⟨j, hj⟩ : ∃ j : Nat, n.next = j := ⟨n.next.toNat, by omega⟩
 have hcap := hs.le
 obtain ⟨q, hq⟩ : ∃ q : Nat, min (j + 16) n.log.length = q := ⟨_, rfl⟩
 have hjq : j ≤ q := by omega
 have hjc : (j : Int) ≤ (q : Int) := by omega
 have hqc : (q : Int) ≤ (c : Int) := by omega
 have hql : q ≤ n.log.length := by omega
 by_cases hj0 : 0 < j
 ·obtain ⟨r, hr⟩ : ∃ r, n.log[j - 1]? = some r := ⟨_, List.getElem?_eq_getElem (by omega)⟩
  have HE := Lib.hid (sentM_eq n j q hj hq r.term (by rw [if_pos (by omega), hj, show ((j : Int) - 1) = ((j - 1 : Nat) : Int) by omega, termAt_get' hr]))
  obtain ⟨hp1, hp2⟩ := hs.part j q hql (q - j) rfl
  obtain ⟨b, o, rfl, hrec, -⟩ := hs.get hr
  have HP1 := Lib.hid hp1
  have HP2 := Lib.hid hp2
  have ht := hrec.term
  have hi1 : (0 : Int) ≤ (j : Int) - 1 := by omega
  have hi2 : (j : Int) - 1 < (n.log.length : Int) := by omega
  have hmin : min ((j : Int) + 16) (n.log.length : Int) = (q : Int) := by omega
  rw [hj] at h0 h1 ⊢
  clear hp1 hp2 hn hr hrec hq hj hs
  go_enter Tryz.func106, Tryz.ntmps106
  go_wp2_with (go_at_call 132; refine (Clone_R _ _ _ ((n.log.take q).drop j) _ HP2.out (HP1.out.sl.mono (ex)) (by omega)).mono ?_; rintro e w' ⟨D, n', rfl, hx, hown⟩; have HO := Lib.hid hown; obtain ⟨yc, rfl⟩ := hx.get; clear hx hown)
  refine bodyPost_ret (v := .agg #[.int .i64 0, .int .i64 n.term, .int .i64 j, .int .i64 r.term, .slice D (q - j) n', .int .i64 n.acked]) (by simp [results, Tryz.results106, go_sem]) rfl ?_
  exact RetMsg.of HE.out HP2.out (ex) (Own.older (Own.shift HO.out (by simp [go_sem])) (ex)) HP1.out.el
 ·obtain rfl : j = 0 := by omega
  have HE := Lib.hid (sentM_eq n 0 q hj hq 0 (by rw [if_neg (by omega)]))
  obtain ⟨hp1, hp2⟩ := hs.part 0 q hql q (Nat.sub_zero q)
  have HP1 := Lib.hid hp1
  have HP2 := Lib.hid hp2
  rw [partA_zero] at HP1
  have hmin : min 16 (n.log.length : Int) = (q : Int) := by omega
  rw [hj] at h0 h1 ⊢
  clear hp1 hp2 hn hq hj hs hj0
  go_enter Tryz.func106, Tryz.ntmps106
  go_wp2_with (go_at_call 132; refine (Clone_R _ _ _ ((n.log.take q).drop 0) _ HP2.out (HP1.out.sl.mono (ex)) (by omega)).mono ?_; rintro e w' ⟨D, n', rfl, hx, hown⟩; have HO := Lib.hid hown; obtain ⟨yc, rfl⟩ := hx.get; clear hx hown)
  refine bodyPost_ret (v := .agg #[.int .i64 0, .int .i64 n.term, .int .i64 0, .int .i64 0, .slice D q n', .int .i64 n.acked]) (by simp [results, Tryz.results106, go_sem]) rfl ?_
  exact RetMsg.of HE.out HP2.out (ex) (Own.older (Own.shift HO.out (by simp [go_sem])) (ex)) HP1.out.el
theorem rep_sent_as (n : Nod) (m : Msg) (hm : sentM n = m) (A : Option Addr) (c : Nat) (w : World) (hs : RecsAt w A c n.log) (hn : NodOk n) : Calls Tryz.prog 106 #[.agg #[.int .i64 n.id, .int .i64 n.term, .bool n.speaks, .slice A n.log.length c, .int .i64 n.acked, .int .i64 n.next]] w (RetMsg w m) := by
 subst hm
 exact rep_sent n A c w hs hn
theorem sendV_a {n : Nod} (h : nodE n ≠ 0) : sendV n = (msg0, nodE n) := by unfold sendV; rw [if_pos h]
theorem sendV_b {n : Nod} (h : nodE n = 0) (h1 : n.speaks = false) : sendV n = (msg0, 16) := by unfold sendV; rw [if_neg (by simpa using h), if_pos h1]
theorem sendV_c {n : Nod} {m : Msg} (hm : sentM n = m) (h : nodE n = 0) (h1 : n.speaks = true) : sendV n = (m, 0) := by
 subst hm
 unfold sendV; rw [if_neg (by simpa using h), if_neg (by rw [h1]; simp)]
def RetMsgE (w : World) (v : Msg × Int) (e : Ending) (w' : World) : Prop := ∃ A c, e = .returned (.tuple #[.agg #[.int .i64 v.1.kind, .int .i64 v.1.term, .int .i64 v.1.at_, .int .i64 v.1.before, .slice A v.1.recs.length c, .int .i64 v.1.acked], .int .i64 v.2]) ∧ Ext w w' ∧ Own w w' 170 45 A v.1.recs.length c (v.1.recs.map recR) ∧ ∀ r ∈ v.1.recs, AcnAt w r.act
theorem RetMsgE.err {w w' : World} {v : Msg × Int} {x : Int} (h : v = (msg0, x)) (hx : Ext w w') : RetMsgE w v (.returned (.tuple #[.agg #[.int .i64 0, .int .i64 0, .int .i64 0, .int .i64 0, .slice none 0 0, .int .i64 0], .int .i64 x])) w' := by
 subst h
 exact ⟨none, 0, rfl, hx, Own.nil _, by simp [msg0]⟩
set_option maxHeartbeats 3200000 in
set_option maxRecDepth 100000 in
theorem rep_Send (n : Nod) (A : Option Addr) (c : Nat) (w : World) (hs : RecsAt w A c n.log) : Calls Tryz.prog 101 #[.agg #[.int .i64 n.id, .int .i64 n.term, .bool n.speaks, .slice A n.log.length c, .int .i64 n.acked, .int .i64 n.next]] w (RetMsgE w (sendV n)) := by
 have hl := hs.len
 have HS := Lib.hid hs
 clear hs
 by_cases h : nodE n = 0
 ·have hz : (nodE n != 0) = false := by simpa using h
  have HN := Lib.hid h
  clear h
  obtain ⟨b, hb⟩ : ∃ b, n.speaks = b := ⟨_, rfl⟩
  have HC := Lib.hid (fun (w' : World) (h : RecsAt w' A c n.log) => rep_Check n A c w' h)
  rw [hb] at HC ⊢
  cases b with
  | false =>
   have HR := Lib.hid (sendV_b HN.out hb)
   clear hb
   go_enter Tryz.func101, Tryz.ntmps101
   go_wp2_with (go_at_call 103; refine (HC.out _ (HS.out.mono (ex))).mono ?_; rintro e w' ⟨rfl, hx⟩; obtain ⟨y, rfl⟩ := hx.get; clear hx)
   exact bodyPost_ret (v := .tuple #[.agg #[.int .i64 0, .int .i64 0, .int .i64 0, .int .i64 0, .slice none 0 0, .int .i64 0], .int .i64 16]) (by simp [results, Tryz.results101, go_sem]) rfl (RetMsgE.err HR.out (ex))
  | true =>
   obtain ⟨m, hm⟩ : ∃ m, sentM n = m := ⟨_, rfl⟩
   have HR := Lib.hid (sendV_c hm HN.out hb)
   have HD := Lib.hid (fun (w' : World) (h : RecsAt w' A c n.log) => rep_sent_as n m hm A c w' h ((nodE_iff n).1 HN.out))
   rw [hb] at HD
   have HM := Lib.hid hm
   clear hm hb
   go_enter Tryz.func101, Tryz.ntmps101
   go_wp2_with (first | (go_at_call 103; refine (HC.out _ (HS.out.mono (ex))).mono ?_; rintro e w' ⟨rfl, hx⟩; obtain ⟨y, rfl⟩ := hx.get; clear hx) | (go_at_call 106; refine (HD.out _ (HS.out.mono (ex))).mono ?_; rintro e w' ⟨D, n', rfl, hx, hown, -⟩; have HO := Lib.hid hown; obtain ⟨yc, rfl⟩ := hx.get; clear hx hown))
   refine bodyPost_ret (v := .tuple #[.agg #[.int .i64 m.kind, .int .i64 m.term, .int .i64 m.at_, .int .i64 m.before, .slice D m.recs.length n', .int .i64 m.acked], .int .i64 0]) (by simp [results, Tryz.results101, go_sem]) rfl ?_
   rw [HR.out]
   have hel2 : ∀ r ∈ m.recs, AcnAt w r.act := by rw [← HM.out]; exact fun r hr => HS.out.el r (List.mem_of_mem_drop (List.mem_of_mem_take hr))
   exact ⟨D, n', rfl, ex, Own.older (Own.shift HO.out (by simp [go_sem])) (ex), hel2⟩
 ·have hz : (nodE n != 0) = true := by simpa using h
  have HR := Lib.hid (sendV_a h)
  clear h
  go_enter Tryz.func101, Tryz.ntmps101
  go_wp2_with (go_at_call 103; refine (rep_Check n A c _ (HS.out.mono (ex))).mono ?_; rintro e w' ⟨rfl, hx⟩; obtain ⟨y, rfl⟩ := hx.get; clear hx)
  exact bodyPost_ret (v := .tuple #[.agg #[.int .i64 0, .int .i64 0, .int .i64 0, .int .i64 0, .slice none 0 0, .int .i64 0], .int .i64 (nodE n)]) (by simp [results, Tryz.results101, go_sem]) rfl (RetMsgE.err HR.out (ex))
end Go.Proofs.YtmhinhgflehkaaaGreat
