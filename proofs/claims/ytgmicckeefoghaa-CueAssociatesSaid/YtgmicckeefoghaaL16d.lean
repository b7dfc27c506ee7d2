/-
  Chapter 16: the law CueAssociates.
-/
import Derived.Test.YtgmicckeefoghaaAwk16
import Derived.Test.YtgmicckeefoghaaCSame
import Derived.Test.YtgmicckeefoghaaAssoc
namespace Go.Proofs.Ytgmicckeefoghaa
open Go.RowKit

theorem decide_same {α : Type} [DecidableEq α] (a : α) : decide (a = a) = true := by simp
def badB (l : List Move) : Bool := decide (40 < l.length) || (movesE l != 0)
theorem badB_ok {l : List Move} (h : badB l = false) : l.length ≤ 40 ∧ movesE l = 0 := by
  unfold badB at h
  simp only [Bool.or_eq_false_iff, decide_eq_false_iff_not, bne_eq_false_iff_eq] at h
  exact ⟨by omega, h.2⟩
set_option maxHeartbeats 400000 in
theorem l16_right1 (A : Option Addr) (k : Nat) (l : List Move) (w : World) (hs : Sl w A 5 (l.map mv)) (hl : l.length ≤ maxLen) : Calls Try.prog 123 #[.slice A l.length k] w fun e w' => e = .returned (.bool (badB l)) ∧ Ext w w' := by
  have hl2 : l.length ≤ 9223372036854775807 := hl
  go_enter Try.func123, Try.ntmps123
  go_wp2_with (go_at_call 64; refine (r16_Moves A k l _ (hs.mono (by repeat (first | exact Ext.refl _ | assumption | apply Ext.xt | apply Ext.alloc | apply Ext.drew | apply Ext.drewN))) hl).mono ?_; rintro e w' ⟨rfl, hx⟩; obtain ⟨y, rfl⟩ := hx.get; clear hx)
  all_goals
    go_ret
    go_light
    refine ⟨ret_b ?_, by repeat (first | exact Ext.refl _ | assumption | apply Ext.xt | apply Ext.alloc | apply Ext.drew | apply Ext.drewN)⟩
    first | grind [badB] | simp [badB, *]

section
variable (C : Option Addr) (n : Nat) (A : Option Addr) (k : Nat) (a : List Move) (B : Option Addr) (m : Nat) (b : List Move) (D : Option Addr) (q : Nat) (c : List Move) (w : World) (hs : Sl w C 1 [[.slice A a.length k], [.slice B b.length m], [.slice D c.length q]])
  (ha : Sl w A 5 (a.map mv)) (hla : a.length ≤ maxLen) (hb : Sl w B 5 (b.map mv)) (hlb : b.length ≤ maxLen) (hc : Sl w D 5 (c.map mv)) (hlc : c.length ≤ maxLen)
include hs ha hla hb hlb hc hlc
set_option maxHeartbeats 1600000 in
set_option maxRecDepth 100000 in
theorem IndexFunc_right : Calls Try.prog 168 #[.slice C 3 n, .func (Fn.func 123) #[] #[]] w fun e w' => e = .returned (.int .i64 (if badB a then 0 else if badB b then 1 else if badB c then 2 else -1)) ∧ Ext w w' := by
  obtain ⟨_, g, o, rfl, h0⟩ := hs.at_ 0 _ rfl
  obtain ⟨_, g1, o1, he1, h1⟩ := hs.at_ 1 _ rfl
  obtain ⟨_, g2, o2, he2, h2⟩ := hs.at_ 2 _ rfl
  injection he1 with he1
  injection he1 with e1 e2
  subst e1 e2
  injection he2 with he2
  injection he2 with e1 e2
  subst e1 e2
  have hc0 := h0 0 _ rfl
  have hc1 := h1 0 _ rfl
  have hc2 := h2 0 _ rfl
  simp only [Nat.mul_one, Nat.add_zero] at hc0 hc1 hc2
  have HA := Lib.hid ha
  have HB := Lib.hid hb
  have HC := Lib.hid hc
  clear h0 h1 h2 hs ha hb hc
  cases hba : badB a
  · cases hbb : badB b
    · cases hbc : badB c
      all_goals
        go_enter Try.func168, Try.ntmps168
        go_wp2
        refine wp_loop_rounds 4 ?_
        rw [rounds_succ]
        go_wp2_with (go_at_call 123; refine (l16_right1 _ _ _ _ (by first | exact HA.out.mono (by repeat (first | exact Ext.refl _ | assumption | apply Ext.xt | apply Ext.alloc | apply Ext.drew | apply Ext.drewN)) | exact HB.out.mono (by repeat (first | exact Ext.refl _ | assumption | apply Ext.xt | apply Ext.alloc | apply Ext.drew | apply Ext.drewN)) | exact HC.out.mono (by repeat (first | exact Ext.refl _ | assumption | apply Ext.xt | apply Ext.alloc | apply Ext.drew | apply Ext.drewN))) (by assumption)).mono ?_; rintro e w' ⟨rfl, hx⟩; obtain ⟨y, rfl⟩ := hx.get; clear hx)
        rw [rounds_succ]
        go_wp2_with (go_at_call 123; refine (l16_right1 _ _ _ _ (by first | exact HA.out.mono (by repeat (first | exact Ext.refl _ | assumption | apply Ext.xt | apply Ext.alloc | apply Ext.drew | apply Ext.drewN)) | exact HB.out.mono (by repeat (first | exact Ext.refl _ | assumption | apply Ext.xt | apply Ext.alloc | apply Ext.drew | apply Ext.drewN)) | exact HC.out.mono (by repeat (first | exact Ext.refl _ | assumption | apply Ext.xt | apply Ext.alloc | apply Ext.drew | apply Ext.drewN))) (by assumption)).mono ?_; rintro e w' ⟨rfl, hx⟩; obtain ⟨y, rfl⟩ := hx.get; clear hx)
        rw [rounds_succ]
        go_wp2_with (go_at_call 123; refine (l16_right1 _ _ _ _ (by first | exact HA.out.mono (by repeat (first | exact Ext.refl _ | assumption | apply Ext.xt | apply Ext.alloc | apply Ext.drew | apply Ext.drewN)) | exact HB.out.mono (by repeat (first | exact Ext.refl _ | assumption | apply Ext.xt | apply Ext.alloc | apply Ext.drew | apply Ext.drewN)) | exact HC.out.mono (by repeat (first | exact Ext.refl _ | assumption | apply Ext.xt | apply Ext.alloc | apply Ext.drew | apply Ext.drewN))) (by assumption)).mono ?_; rintro e w' ⟨rfl, hx⟩; obtain ⟨y, rfl⟩ := hx.get; clear hx)
        try rw [rounds_succ]
        try go_wp2
        go_ret
        exact ⟨rfl, by repeat (first | exact Ext.refl _ | assumption | apply Ext.xt | apply Ext.alloc | apply Ext.drew | apply Ext.drewN)⟩
    · go_enter Try.func168, Try.ntmps168
      go_wp2
      refine wp_loop_rounds 4 ?_
      rw [rounds_succ]
      go_wp2_with (go_at_call 123; refine (l16_right1 _ _ _ _ (by first | exact HA.out.mono (by repeat (first | exact Ext.refl _ | assumption | apply Ext.xt | apply Ext.alloc | apply Ext.drew | apply Ext.drewN)) | exact HB.out.mono (by repeat (first | exact Ext.refl _ | assumption | apply Ext.xt | apply Ext.alloc | apply Ext.drew | apply Ext.drewN)) | exact HC.out.mono (by repeat (first | exact Ext.refl _ | assumption | apply Ext.xt | apply Ext.alloc | apply Ext.drew | apply Ext.drewN))) (by assumption)).mono ?_; rintro e w' ⟨rfl, hx⟩; obtain ⟨y, rfl⟩ := hx.get; clear hx)
      rw [rounds_succ]
      go_wp2_with (go_at_call 123; refine (l16_right1 _ _ _ _ (by first | exact HA.out.mono (by repeat (first | exact Ext.refl _ | assumption | apply Ext.xt | apply Ext.alloc | apply Ext.drew | apply Ext.drewN)) | exact HB.out.mono (by repeat (first | exact Ext.refl _ | assumption | apply Ext.xt | apply Ext.alloc | apply Ext.drew | apply Ext.drewN)) | exact HC.out.mono (by repeat (first | exact Ext.refl _ | assumption | apply Ext.xt | apply Ext.alloc | apply Ext.drew | apply Ext.drewN))) (by assumption)).mono ?_; rintro e w' ⟨rfl, hx⟩; obtain ⟨y, rfl⟩ := hx.get; clear hx)
      go_ret
      exact ⟨rfl, by repeat (first | exact Ext.refl _ | assumption | apply Ext.xt | apply Ext.alloc | apply Ext.drew | apply Ext.drewN)⟩
  · go_enter Try.func168, Try.ntmps168
    go_wp2
    refine wp_loop_rounds 4 ?_
    rw [rounds_succ]
    go_wp2_with (go_at_call 123; refine (l16_right1 _ _ _ _ (by first | exact HA.out.mono (by repeat (first | exact Ext.refl _ | assumption | apply Ext.xt | apply Ext.alloc | apply Ext.drew | apply Ext.drewN)) | exact HB.out.mono (by repeat (first | exact Ext.refl _ | assumption | apply Ext.xt | apply Ext.alloc | apply Ext.drew | apply Ext.drewN)) | exact HC.out.mono (by repeat (first | exact Ext.refl _ | assumption | apply Ext.xt | apply Ext.alloc | apply Ext.drew | apply Ext.drewN))) (by assumption)).mono ?_; rintro e w' ⟨rfl, hx⟩; obtain ⟨y, rfl⟩ := hx.get; clear hx)
    go_ret
    exact ⟨rfl, by repeat (first | exact Ext.refl _ | assumption | apply Ext.xt | apply Ext.alloc | apply Ext.drew | apply Ext.drewN)⟩
theorem ContainsFunc_right : Calls Try.prog 122 #[.slice C 3 n, .func (Fn.func 123) #[] #[]] w fun e w' => e = .returned (.bool (badB a || badB b || badB c)) ∧ Ext w w' := by
  have H := Lib.hid (fun W (hx : Ext w W) => IndexFunc_right C n A k a B m b D q c W (hs.mono hx) (ha.mono hx) hla (hb.mono hx) hlb (hc.mono hx) hlc)
  clear hs ha hb hc
  go_enter Try.func122, Try.ntmps122
  cases hba : badB a
  · cases hbb : badB b
    · cases hbc : badB c
      all_goals
        rw [hba, hbb, hbc] at H
        go_wp2_with (go_at_call 168; refine (H.out _ (by repeat (first | exact Ext.refl _ | assumption | apply Ext.xt | apply Ext.alloc | apply Ext.drew | apply Ext.drewN))).mono ?_; rintro e w' ⟨rfl, hx⟩; obtain ⟨y, rfl⟩ := hx.get; clear hx)
        go_ret
        exact ⟨rfl, by repeat (first | exact Ext.refl _ | assumption | apply Ext.xt | apply Ext.alloc | apply Ext.drew | apply Ext.drewN)⟩
    · rw [hba, hbb] at H
      go_wp2_with (go_at_call 168; refine (H.out _ (by repeat (first | exact Ext.refl _ | assumption | apply Ext.xt | apply Ext.alloc | apply Ext.drew | apply Ext.drewN))).mono ?_; rintro e w' ⟨rfl, hx⟩; obtain ⟨y, rfl⟩ := hx.get; clear hx)
      go_ret
      exact ⟨rfl, by repeat (first | exact Ext.refl _ | assumption | apply Ext.xt | apply Ext.alloc | apply Ext.drew | apply Ext.drewN)⟩
  · rw [hba] at H
    go_wp2_with (go_at_call 168; refine (H.out _ (by repeat (first | exact Ext.refl _ | assumption | apply Ext.xt | apply Ext.alloc | apply Ext.drew | apply Ext.drewN))).mono ?_; rintro e w' ⟨rfl, hx⟩; obtain ⟨y, rfl⟩ := hx.get; clear hx)
    go_ret
    exact ⟨rfl, by repeat (first | exact Ext.refl _ | assumption | apply Ext.xt | apply Ext.alloc | apply Ext.drew | apply Ext.drewN)⟩
theorem l16_right : Calls Try.prog 59 #[.slice C 3 n] w fun e w' => e = .returned (.bool (!(badB a || badB b || badB c))) ∧ Ext w w' := by
  have H := Lib.hid (fun W (hx : Ext w W) => ContainsFunc_right C n A k a B m b D q c W (hs.mono hx) (ha.mono hx) hla (hb.mono hx) hlb (hc.mono hx) hlc)
  clear hs ha hb hc
  go_enter Try.func59, Try.ntmps59
  go_wp2_with (go_at_call 122; refine (H.out _ (by repeat (first | exact Ext.refl _ | assumption | apply Ext.xt | apply Ext.alloc | apply Ext.drew | apply Ext.drewN))).mono ?_; rintro e w' ⟨rfl, hx⟩; obtain ⟨y, rfl⟩ := hx.get; clear hx)
  go_ret
  exact ⟨ret_b (by cases badB a <;> cases badB b <;> cases badB c <;> rfl), by repeat (first | exact Ext.refl _ | assumption | apply Ext.xt | apply Ext.alloc | apply Ext.drew | apply Ext.drewN)⟩
end

theorem cue_Merge_to (A : Option Addr) (k : Nat) (a : List Move) (B : Option Addr) (m : Nat) (b : List Move) (w : World) (hs : Sl w A 5 (a.map mv)) (hk : a.length ≤ k) (hkm : k ≤ maxLen) (hs' : Sl w B 5 (b.map mv)) (hm : b.length ≤ m) (hmm : m ≤ maxLen) (d : List Move) (hd : mergeV a b = (d, 0)) :
    Calls Try.prog 43 #[.slice A a.length k, .slice B b.length m] w fun e w' => ∃ D q, e = .returned (.tuple #[.slice D d.length q, .int .i64 0]) ∧ Ext w w' ∧ Sl w' D 5 (d.map mv) ∧ d.length ≤ q ∧ q ≤ maxLen := by
  have h := cue_Merge A k a B m b w hs hk hkm hs' hm hmm
  rw [hd] at h
  exact h

set_option maxHeartbeats 3200000 in
set_option maxRecDepth 100000 in
theorem l16_CueAssociates (A : Option Addr) (k : Nat) (a : List Move) (B : Option Addr) (m : Nat) (b : List Move) (D : Option Addr) (q : Nat) (c : List Move) (w : World) (ha : Sl w A 5 (a.map mv)) (hka : a.length ≤ k) (hkm : k ≤ maxLen) (hb : Sl w B 5 (b.map mv)) (hkb : b.length ≤ m) (hmm : m ≤ maxLen) (hc : Sl w D 5 (c.map mv)) (hkc : c.length ≤ q) (hqm : q ≤ maxLen) :
    Calls Try.prog 15 #[.slice A a.length k, .slice B b.length m, .slice D c.length q] w fun e w' => e = .returned (.bool true) ∧ Ext w w' := by
  have HA := Lib.hid ha
  have HB := Lib.hid hb
  have HC := Lib.hid hc
  have hla : a.length ≤ maxLen := Nat.le_trans hka hkm
  have hlb : b.length ≤ maxLen := Nat.le_trans hkb hmm
  have hlc : c.length ≤ maxLen := Nat.le_trans hkc hqm
  clear ha hb hc
  by_cases hG : (badB a || badB b || badB c) = false
  · have hG2 := hG
    simp only [Bool.or_eq_false_iff] at hG2
    obtain ⟨⟨h1, h2⟩, h3⟩ := hG2
    obtain ⟨a1, a2⟩ := badB_ok h1
    obtain ⟨b1, b2⟩ := badB_ok h2
    obtain ⟨c1, c2⟩ := badB_ok h3
    have ma := mergeV_ok a2 a2 (by omega)
    have mab := mergeV_ok a2 b2 (by omega)
    have mabc := mergeV_ok mab.2.1 c2 (by have := mab.2.2; omega)
    have mbc := mergeV_ok b2 c2 (by omega)
    have mabc' := mergeV_ok a2 mbc.2.1 (by have := mbc.2.2; omega)
    have n0 : movesE ([] : List Move) = 0 := by decide
    have na := mergeV_ok n0 a2 (by simp; omega)
    have an := mergeV_ok a2 n0 (by simp; omega)
    have M1 := Lib.hid (show mergeV a a = (a, 0) by rw [ma.1, mergeL_self (movesE_ok a2)])
    have M2 := Lib.hid (show mergeV [] a = (a, 0) by rw [na.1, mergeL_nil (movesE_ok a2)])
    have M3 := Lib.hid (show mergeV a [] = (a, 0) by rw [an.1]; rfl)
    obtain ⟨lx, hx⟩ : ∃ lx, lx = mergeL a b := ⟨_, rfl⟩
    obtain ⟨ly, hy⟩ : ∃ ly, ly = mergeL b c := ⟨_, rfl⟩
    obtain ⟨lz, hz⟩ : ∃ lz, lz = mergeL (mergeL a b) c := ⟨_, rfl⟩
    have M4 := Lib.hid (show mergeV a b = (lx, 0) by rw [hx]; exact mab.1)
    have M5 := Lib.hid (show mergeV lx c = (lz, 0) by rw [hx, hz]; exact mabc.1)
    have M6 := Lib.hid (show mergeV b c = (ly, 0) by rw [hy]; exact mbc.1)
    have M7 := Lib.hid (show mergeV a ly = (lz, 0) by rw [hy, hz, mergeL_assoc (movesE_ok a2) (movesE_ok b2) (movesE_ok c2)]; exact mabc'.1)
    have ea := decide_same a
    have ez := decide_same lz
    clear hx hy hz ma mab mabc mbc mabc' na an n0 h1 h2 h3 a2 b2 c2
    go_enter Try.func15, Try.ntmps15
    go_wp2_with (first
      | (go_at_call 59; refine (l16_right _ _ A k a B m b D q c _ (Sl.alloc' (by simp [go_sem]) rfl (by simp)) (HA.out.mono (by repeat (first | exact Ext.refl _ | assumption | apply Ext.xt | apply Ext.alloc | apply Ext.drew | apply Ext.drewN))) hla (HB.out.mono (by repeat (first | exact Ext.refl _ | assumption | apply Ext.xt | apply Ext.alloc | apply Ext.drew | apply Ext.drewN))) hlb (HC.out.mono (by repeat (first | exact Ext.refl _ | assumption | apply Ext.xt | apply Ext.alloc | apply Ext.drew | apply Ext.drewN))) hlc).mono ?_; rintro e w' ⟨rfl, hx⟩; obtain ⟨y, rfl⟩ := hx.get; clear hx)
      | (go_at_call 43; have hh := H6; clear hh; refine (cue_Merge_to A k a D6 q6 ly _ (HA.out.mono (by repeat (first | exact Ext.refl _ | assumption | apply Ext.xt | apply Ext.alloc | apply Ext.drew | apply Ext.drewN))) hka hkm (H6.out.1.mono (by repeat (first | exact Ext.refl _ | assumption | apply Ext.xt | apply Ext.alloc | apply Ext.drew | apply Ext.drewN))) H6.out.2.1 H6.out.2.2 lz M7.out).mono ?_; rintro e w' ⟨D7, q7, rfl, hx, h1, h2, h3⟩; have H7 := Lib.hid (And.intro h1 (And.intro h2 h3)); obtain ⟨y7, rfl⟩ := hx.get; clear hx h1 h2 h3)
      | (go_at_call 43; have hh := H5; clear hh; refine (cue_Merge_to B m b D q c _ (HB.out.mono (by repeat (first | exact Ext.refl _ | assumption | apply Ext.xt | apply Ext.alloc | apply Ext.drew | apply Ext.drewN))) hkb hmm (HC.out.mono (by repeat (first | exact Ext.refl _ | assumption | apply Ext.xt | apply Ext.alloc | apply Ext.drew | apply Ext.drewN))) hkc hqm ly M6.out).mono ?_; rintro e w' ⟨D6, q6, rfl, hx, h1, h2, h3⟩; have H6 := Lib.hid (And.intro h1 (And.intro h2 h3)); obtain ⟨y6, rfl⟩ := hx.get; clear hx h1 h2 h3)
      | (go_at_call 43; have hh := H4; clear hh; refine (cue_Merge_to D4 q4 lx D q c _ (H4.out.1.mono (by repeat (first | exact Ext.refl _ | assumption | apply Ext.xt | apply Ext.alloc | apply Ext.drew | apply Ext.drewN))) H4.out.2.1 H4.out.2.2 (HC.out.mono (by repeat (first | exact Ext.refl _ | assumption | apply Ext.xt | apply Ext.alloc | apply Ext.drew | apply Ext.drewN))) hkc hqm lz M5.out).mono ?_; rintro e w' ⟨D5, q5, rfl, hx, h1, h2, h3⟩; have H5 := Lib.hid (And.intro h1 (And.intro h2 h3)); obtain ⟨y5, rfl⟩ := hx.get; clear hx h1 h2 h3)
      | (go_at_call 43; have hh := H3; clear hh; refine (cue_Merge_to A k a B m b _ (HA.out.mono (by repeat (first | exact Ext.refl _ | assumption | apply Ext.xt | apply Ext.alloc | apply Ext.drew | apply Ext.drewN))) hka hkm (HB.out.mono (by repeat (first | exact Ext.refl _ | assumption | apply Ext.xt | apply Ext.alloc | apply Ext.drew | apply Ext.drewN))) hkb hmm lx M4.out).mono ?_; rintro e w' ⟨D4, q4, rfl, hx, h1, h2, h3⟩; have H4 := Lib.hid (And.intro h1 (And.intro h2 h3)); obtain ⟨y4, rfl⟩ := hx.get; clear hx h1 h2 h3)
      | (go_at_call 43; have hh := H2; clear hh; refine (cue_Merge_to A k a none 0 [] _ (HA.out.mono (by repeat (first | exact Ext.refl _ | assumption | apply Ext.xt | apply Ext.alloc | apply Ext.drew | apply Ext.drewN))) hka hkm (Sl.nil _ _ _) (by decide) (by decide) a M3.out).mono ?_; rintro e w' ⟨D3, q3, rfl, hx, h1, h2, h3⟩; have H3 := Lib.hid (And.intro h1 (And.intro h2 h3)); obtain ⟨y3, rfl⟩ := hx.get; clear hx h1 h2 h3)
      | (go_at_call 43; have hh := H1; clear hh; refine (cue_Merge_to none 0 [] A k a _ (Sl.nil _ _ _) (by decide) (by decide) (HA.out.mono (by repeat (first | exact Ext.refl _ | assumption | apply Ext.xt | apply Ext.alloc | apply Ext.drew | apply Ext.drewN))) hka hkm a M2.out).mono ?_; rintro e w' ⟨D2, q2, rfl, hx, h1, h2, h3⟩; have H2 := Lib.hid (And.intro h1 (And.intro h2 h3)); obtain ⟨y2, rfl⟩ := hx.get; clear hx h1 h2 h3)
      | (go_at_call 43; refine (cue_Merge_to A k a A k a _ (HA.out.mono (by repeat (first | exact Ext.refl _ | assumption | apply Ext.xt | apply Ext.alloc | apply Ext.drew | apply Ext.drewN))) hka hkm (HA.out.mono (by repeat (first | exact Ext.refl _ | assumption | apply Ext.xt | apply Ext.alloc | apply Ext.drew | apply Ext.drewN))) hka hkm a M1.out).mono ?_; rintro e w' ⟨D1, q1, rfl, hx, h1, h2, h3⟩; have H1 := Lib.hid (And.intro h1 (And.intro h2 h3)); obtain ⟨y1, rfl⟩ := hx.get; clear hx h1 h2 h3)
      | (have hh := H7; clear hh; (go_at_call 60; refine (Equal_M D5 q5 lz D7 q7 lz _ (H5.out.1.mono (by repeat (first | exact Ext.refl _ | assumption | apply Ext.xt | apply Ext.alloc | apply Ext.drew | apply Ext.drewN))) (Nat.le_trans H5.out.2.1 H5.out.2.2) (H7.out.1.mono (by repeat (first | exact Ext.refl _ | assumption | apply Ext.xt | apply Ext.alloc | apply Ext.drew | apply Ext.drewN))) (Nat.le_trans H7.out.2.1 H7.out.2.2)).mono ?_; rintro e w' ⟨rfl, hx⟩; obtain ⟨y, rfl⟩ := hx.get; clear hx))
      | (go_at_call 60; refine (Equal_M _ _ a _ _ a _ (by first | exact H1.out.1.mono (by repeat (first | exact Ext.refl _ | assumption | apply Ext.xt | apply Ext.alloc | apply Ext.drew | apply Ext.drewN)) | exact H2.out.1.mono (by repeat (first | exact Ext.refl _ | assumption | apply Ext.xt | apply Ext.alloc | apply Ext.drew | apply Ext.drewN)) | exact H3.out.1.mono (by repeat (first | exact Ext.refl _ | assumption | apply Ext.xt | apply Ext.alloc | apply Ext.drew | apply Ext.drewN))) hla (HA.out.mono (by repeat (first | exact Ext.refl _ | assumption | apply Ext.xt | apply Ext.alloc | apply Ext.drew | apply Ext.drewN))) hla).mono ?_; rintro e w' ⟨rfl, hx⟩; obtain ⟨y, rfl⟩ := hx.get; clear hx)
      | (go_at_call 42; refine (l16_awake _).mono ?_; rintro e w' ⟨rfl, hx⟩; obtain ⟨y, rfl⟩ := hx.get; clear hx))
    go_ret
    exact ⟨rfl, by repeat (first | exact Ext.refl _ | assumption | apply Ext.xt | apply Ext.alloc | apply Ext.drew | apply Ext.drewN)⟩
  · have hG' : (badB a || badB b || badB c) = true := by
      cases h : (badB a || badB b || badB c) with
      | false => exact absurd h hG
      | true => rfl
    clear hG
    go_enter Try.func15, Try.ntmps15
    go_wp2_with (first
      | (go_at_call 59; refine (l16_right _ _ A k a B m b D q c _ (Sl.alloc' (by simp [go_sem]) rfl (by simp)) (HA.out.mono (by repeat (first | exact Ext.refl _ | assumption | apply Ext.xt | apply Ext.alloc | apply Ext.drew | apply Ext.drewN))) hla (HB.out.mono (by repeat (first | exact Ext.refl _ | assumption | apply Ext.xt | apply Ext.alloc | apply Ext.drew | apply Ext.drewN))) hlb (HC.out.mono (by repeat (first | exact Ext.refl _ | assumption | apply Ext.xt | apply Ext.alloc | apply Ext.drew | apply Ext.drewN))) hlc).mono ?_; rintro e w' ⟨rfl, hx⟩; obtain ⟨y, rfl⟩ := hx.get; clear hx)
      | (go_at_call 42; refine (l16_awake _).mono ?_; rintro e w' ⟨rfl, hx⟩; obtain ⟨y, rfl⟩ := hx.get; clear hx))
    go_ret
    exact ⟨rfl, by repeat (first | exact Ext.refl _ | assumption | apply Ext.xt | apply Ext.alloc | apply Ext.drew | apply Ext.drewN)⟩
end Go.Proofs.Ytgmicckeefoghaa
