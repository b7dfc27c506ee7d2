/-
  Chapter 16: the law CueDrops.
-/
import Derived.Test.YtgmicckeefoghaaAwk16
import Derived.Test.YtgmicckeefoghaaRef1
import Derived.Test.YtgmicckeefoghaaRef7
namespace Go.Proofs.Ytgmicckeefoghaa
open Go.RowKit

theorem CueAt.peel {w : World} {y : Gr} {c : Cue} {A : Option Addr} {k : Nat} {B : Option Addr} {m : Nat} (h : CueAt w c A k B m) : CueAt (xt w y) c A k B m := h.mono (Ext.xt (Ext.refl _) _)
theorem cue_PackO_to (c : Cue) (A : Option Addr) (k : Nat) (B : Option Addr) (m : Nat) (w : World) (hc : CueAt w c A k B m) (d : Cue) (x : Int) (hd : packV c = (d, x)) :
    Calls Try.prog 51 #[.agg (cueV c A k B m).toArray] w (RetCueO w (d, x)) := by
  rw [← hd]; exact cue_PackO c A k B m w hc
theorem r16_PackO_to (c : Cue) (A : Option Addr) (k : Nat) (B : Option Addr) (m : Nat) (w : World) (hc : CueAt w c A k B m) (d : Cue) (x : Int) (hd : packV c = (d, x)) :
    Calls Try.prog 52 #[.agg (cueV c A k B m).toArray] w (RetCueO w (d, x)) := by
  rw [← hd]; exact r16_PackO c A k B m w hc
theorem cue_Drop_as (c : Cue) (A : Option Addr) (k : Nat) (B : Option Addr) (m : Nat) (C : Option Addr) (n : Nat) (ps : List Param) (w : World) (hc : CueAt w c A k B m) (hs : Sl w C 2 (ps.map prm)) (hl : ps.length ≤ maxLen) (d : Cue) (x : Int) (hd : dropV c ps = (d, x)) :
    Calls Try.prog 49 #[.agg (cueV c A k B m).toArray, .slice C ps.length n] w (RetCue w (d, x)) := by
  rw [← hd]; exact cue_Drop c A k B m C n ps w hc hs hl
theorem r16_Drop_as (c : Cue) (A : Option Addr) (k : Nat) (B : Option Addr) (m : Nat) (C : Option Addr) (n : Nat) (ps : List Param) (w : World) (hc : CueAt w c A k B m) (hs : Sl w C 2 (ps.map prm)) (hl : ps.length ≤ maxLen) (d : Cue) (x : Int) (hd : dropV c ps = (d, x)) :
    Calls Try.prog 50 #[.agg (cueV c A k B m).toArray, .slice C ps.length n] w (RetCue w (d, x)) := by
  rw [← hd]; exact r16_Drop c A k B m C n ps w hc hs hl

set_option maxHeartbeats 1600000 in
set_option maxRecDepth 100000 in
theorem l16_CueDrops (c : Cue) (A : Option Addr) (k : Nat) (B : Option Addr) (m : Nat) (C : Option Addr) (n : Nat) (ps : List Param) (w : World) (hc : CueAt w c A k B m) (hs : Sl w C 2 (ps.map prm)) (hn : ps.length ≤ n) (hnm : n ≤ maxLen) :
    Calls Try.prog 12 #[.agg (cueV c A k B m).toArray, .slice C ps.length n] w fun e w' => e = .returned (.bool true) ∧ Ext w w' := by
  have HC := Lib.hid hc
  have HS := Lib.hid hs
  have HL := Lib.hid (Nat.le_trans hn hnm)
  have hL : ps.length ≤ 9223372036854775807 := Nat.le_trans hn hnm
  obtain ⟨d, x, hd⟩ : ∃ d x, packV c = (d, x) := ⟨_, _, rfl⟩
  obtain ⟨f, z, hf⟩ : ∃ f z, dropV c ps = (f, z) := ⟨_, _, rfl⟩
  have HD := Lib.hid hd
  have HF := Lib.hid hf
  have hself : decide (d = d) = true := by simp
  have hself2 : decide (f = f) = true := by simp
  clear hc hs hn hnm hd hf
  simp only [cueV]
  go_enter Try.func12, Try.ntmps12
  go_wp2_with (first
    | (go_at_call 27; refine (r16_Few c A k B m _).mono ?_; rintro e w' ⟨rfl, hx⟩; obtain ⟨y, rfl⟩ := hx.get; clear hx)
    | (go_at_call 42; refine (l16_awake _).mono ?_; rintro e w' ⟨rfl, hx⟩; obtain ⟨y, rfl⟩ := hx.get; clear hx)
    | (go_at_call 49; refine (cue_Drop_as c A k B m C n ps _ (HC.out.mono (by repeat (first | exact Ext.refl _ | assumption | apply Ext.xt | apply Ext.alloc | apply Ext.drew | apply Ext.drewN))) (HS.out.mono (by repeat (first | exact Ext.refl _ | assumption | apply Ext.xt | apply Ext.alloc | apply Ext.drew | apply Ext.drewN))) HL.out f z HF.out).mono ?_; rintro e w' ⟨A1, k1, B1, m1, he, hx, h1⟩; simp only [cueV] at he; subst he; have H1 := Lib.hid h1; obtain ⟨y1, rfl⟩ := hx.get; clear hx h1)
    | (go_at_call 50; refine (r16_Drop_as c A k B m C n ps _ (HC.out.mono (by repeat (first | exact Ext.refl _ | assumption | apply Ext.xt | apply Ext.alloc | apply Ext.drew | apply Ext.drewN))) (HS.out.mono (by repeat (first | exact Ext.refl _ | assumption | apply Ext.xt | apply Ext.alloc | apply Ext.drew | apply Ext.drewN))) HL.out f z HF.out).mono ?_; rintro e w' ⟨A2, k2, B2, m2, he, hx, h2⟩; simp only [cueV] at he; subst he; have H2 := Lib.hid h2; obtain ⟨y2, rfl⟩ := hx.get; clear hx h2)
    | (go_at_call 51; refine (cue_PackO_to c A k B m _ (HC.out.mono (by repeat (first | exact Ext.refl _ | assumption | apply Ext.xt | apply Ext.alloc | apply Ext.drew | apply Ext.drewN))) d x HD.out).mono ?_; rintro e w' ⟨A3, k3, B3, m3, he, hx, h3⟩; simp only [cueV] at he; subst he; have H3 := Lib.hid h3; obtain ⟨y3, rfl⟩ := hx.get; clear hx h3)
    | (go_at_call 52; refine (r16_PackO_to c A k B m _ (HC.out.mono (by repeat (first | exact Ext.refl _ | assumption | apply Ext.xt | apply Ext.alloc | apply Ext.drew | apply Ext.drewN))) d x HD.out).mono ?_; rintro e w' ⟨A4, k4, B4, m4, he, hx, h4⟩; simp only [cueV] at he; subst he; have H4 := Lib.hid h4; obtain ⟨y4, rfl⟩ := hx.get; clear hx h4)
    | (go_at_call 40; have hh := H3; clear hh; refine (r16_Same d A3 k3 B3 m3 d A4 k4 B4 m4 _ (CueAt.peel (CueOwn.at_ (CueOwn.moved H3.out (by simp [go_sem])))) (CueOwn.at_ (CueOwn.moved H4.out (by simp [go_sem])))).mono ?_; rintro e w' ⟨rfl, hx⟩; obtain ⟨y, rfl⟩ := hx.get; clear hx)
    | (go_at_call 40; refine (r16_Same f A1 k1 B1 m1 f A2 k2 B2 m2 _ (H1.out.mono (by repeat (first | exact Ext.refl _ | assumption | apply Ext.xt | apply Ext.alloc | apply Ext.drew | apply Ext.drewN))) (H2.out.mono (by repeat (first | exact Ext.refl _ | assumption | apply Ext.xt | apply Ext.alloc | apply Ext.drew | apply Ext.drewN)))).mono ?_; rintro e w' ⟨rfl, hx⟩; obtain ⟨y, rfl⟩ := hx.get; clear hx))
  all_goals (go_ret; exact ⟨rfl, by repeat (first | exact Ext.refl _ | assumption | apply Ext.xt | apply Ext.alloc | apply Ext.drew | apply Ext.drewN)⟩)
end Go.Proofs.Ytgmicckeefoghaa
