/-
  Chapter 16: the law CueSets.
-/
import Derived.Test.YtgmicckeefoghaaAwk16
import Derived.Test.YtgmicckeefoghaaCSame
import Derived.Test.YtgmicckeefoghaaSameE
import Derived.Test.YtgmicckeefoghaaRef3
namespace Go.Proofs.Ytgmicckeefoghaa
open Go.RowKit

set_option maxHeartbeats 1600000 in
set_option maxRecDepth 100000 in
theorem l16_CueSets (c : Cue) (A : Option Addr) (k : Nat) (B : Option Addr) (m : Nat) (C : Option Addr) (n : Nat) (es : List Entry) (part : Int) (w : World) (hc : CueAt w c A k B m) (hs : Sl w C 4 (es.map en)) (hn : es.length ≤ n) (hnm : n ≤ maxLen) :
    Calls Try.prog 11 #[.agg (cueV c A k B m).toArray, .slice C es.length n, .int .i64 part] w fun e w' => e = .returned (.bool true) ∧ Ext w w' := by
  have HC := Lib.hid hc
  have HS := Lib.hid hs
  have HL := Lib.hid (Nat.le_trans hn hnm)
  clear hc hs hn hnm
  simp only [cueV]
  go_enter Try.func11, Try.ntmps11
  go_wp2_with (first
    | (go_at_call 27; refine (r16_Few c A k B m _).mono ?_; rintro e w' ⟨rfl, hx⟩; obtain ⟨y, rfl⟩ := hx.get; clear hx)
    | (go_at_call 46; refine (r15_FewEntries _ _ _ _).mono ?_; rintro e w' ⟨rfl, rfl⟩)
    | (go_at_call 42; refine (l16_awake _).mono ?_; rintro e w' ⟨rfl, hx⟩; obtain ⟨y, rfl⟩ := hx.get; clear hx)
    | (go_at_call 47; refine (cue_Set c A k B m C n es part _ (HC.out.mono (by repeat (first | exact Ext.refl _ | assumption | apply Ext.xt | apply Ext.alloc | apply Ext.drew | apply Ext.drewN))) (HS.out.mono (by repeat (first | exact Ext.refl _ | assumption | apply Ext.xt | apply Ext.alloc | apply Ext.drew | apply Ext.drewN))) HL.out).mono ?_; rintro e w' ⟨A1, k1, B1, m1, he, hx, h1⟩; simp only [cueV] at he; subst he; have H1 := Lib.hid h1; obtain ⟨y1, rfl⟩ := hx.get; clear hx h1)
    | (go_at_call 48; refine (r16_Set c A k B m C n es part _ (HC.out.mono (by repeat (first | exact Ext.refl _ | assumption | apply Ext.xt | apply Ext.alloc | apply Ext.drew | apply Ext.drewN))) (HS.out.mono (by repeat (first | exact Ext.refl _ | assumption | apply Ext.xt | apply Ext.alloc | apply Ext.drew | apply Ext.drewN))) HL.out).mono ?_; rintro e w' ⟨A2, k2, B2, m2, he, hx, h2⟩; simp only [cueV] at he; subst he; have H2 := Lib.hid h2; obtain ⟨y2, rfl⟩ := hx.get; clear hx h2)
    | (go_at_call 40; refine (r16_Same (csetV c es part).1 A1 k1 B1 m1 (csetV c es part).1 A2 k2 B2 m2 _ (H1.out.mono (by repeat (first | exact Ext.refl _ | assumption | apply Ext.xt | apply Ext.alloc | apply Ext.drew | apply Ext.drewN))) (H2.out.mono (by repeat (first | exact Ext.refl _ | assumption | apply Ext.xt | apply Ext.alloc | apply Ext.drew | apply Ext.drewN)))).mono ?_; rintro e w' ⟨rfl, hx⟩; obtain ⟨y, rfl⟩ := hx.get; clear hx))
  all_goals (go_ret; exact ⟨rfl, by repeat (first | exact Ext.refl _ | assumption | apply Ext.xt | apply Ext.alloc | apply Ext.drew | apply Ext.drewN)⟩)
end Go.Proofs.Ytgmicckeefoghaa
