/-
  Chapter 16: the laws CueMerges, CueFinds.
-/
import Derived.Test.YtgmicckeefoghaaAwk16
import Derived.Test.YtgmicckeefoghaaCSame
import Derived.Test.YtgmicckeefoghaaSameE
import Derived.Test.YtgmicckeefoghaaCEnt
import Derived.Test.YtgmicckeefoghaaRef4
namespace Go.Proofs.Ytgmicckeefoghaa
open Go.RowKit

set_option maxHeartbeats 800000 in
set_option maxRecDepth 100000 in
theorem l16_CueMerges (A : Option Addr) (k : Nat) (a : List Move) (B : Option Addr) (m : Nat) (b : List Move) (w : World) (hs : Sl w A 5 (a.map mv)) (hk : a.length ≤ k) (hkm : k ≤ maxLen) (hs' : Sl w B 5 (b.map mv)) (hm : b.length ≤ m) (hmm : m ≤ maxLen) :
    Calls Try.prog 10 #[.slice A a.length k, .slice B b.length m] w fun e w' => e = .returned (.bool true) ∧ Ext w w' := by
  have HS := Lib.hid hs
  have HS' := Lib.hid hs'
  clear hs hs'
  go_enter Try.func10, Try.ntmps10
  go_wp2_with (first
    | (go_at_call 41; refine (r16_FewMoves _ _ _ _).mono ?_; rintro e w' ⟨rfl, rfl⟩)
    | (go_at_call 42; refine (l16_awake _).mono ?_; rintro e w' ⟨rfl, hx⟩; obtain ⟨y, rfl⟩ := hx.get; clear hx)
    | (go_at_call 43; refine (cue_Merge A k a B m b _ (HS.out.mono (by repeat (first | exact Ext.refl _ | assumption | apply Ext.xt | apply Ext.alloc | apply Ext.drew | apply Ext.drewN))) hk hkm (HS'.out.mono (by repeat (first | exact Ext.refl _ | assumption | apply Ext.xt | apply Ext.alloc | apply Ext.drew | apply Ext.drewN))) hm hmm).mono ?_; rintro e w' ⟨A1, k1, he, hx, hs1, h1, h2⟩; subst he; have H1 := Lib.hid (And.intro hs1 (Nat.le_trans h1 h2)); obtain ⟨y1, rfl⟩ := hx.get; clear hx hs1 h1 h2)
    | (go_at_call 44; refine (r16_Merge A k a B m b _ (HS.out.mono (by repeat (first | exact Ext.refl _ | assumption | apply Ext.xt | apply Ext.alloc | apply Ext.drew | apply Ext.drewN))) hk hkm (HS'.out.mono (by repeat (first | exact Ext.refl _ | assumption | apply Ext.xt | apply Ext.alloc | apply Ext.drew | apply Ext.drewN))) hm hmm).mono ?_; rintro e w' ⟨A2, k2, he, hx, hs2, h1, h2⟩; subst he; have H2 := Lib.hid (And.intro hs2 (Nat.le_trans h1 h2)); obtain ⟨y2, rfl⟩ := hx.get; clear hx hs2 h1 h2)
    | (go_at_call 45; refine (r16_SameMoves A1 k1 _ A2 k2 _ _ (H1.out.1.mono (by repeat (first | exact Ext.refl _ | assumption | apply Ext.xt | apply Ext.alloc | apply Ext.drew | apply Ext.drewN))) H1.out.2 (H2.out.1.mono (by repeat (first | exact Ext.refl _ | assumption | apply Ext.xt | apply Ext.alloc | apply Ext.drew | apply Ext.drewN))) H2.out.2).mono ?_; rintro e w' ⟨rfl, hx⟩; obtain ⟨y, rfl⟩ := hx.get; clear hx))
  all_goals (go_ret; exact ⟨rfl, by repeat (first | exact Ext.refl _ | assumption | apply Ext.xt | apply Ext.alloc | apply Ext.drew | apply Ext.drewN)⟩)

set_option maxHeartbeats 1600000 in
set_option maxRecDepth 100000 in
theorem l16_CueFinds (c : Cue) (A : Option Addr) (k : Nat) (B : Option Addr) (m : Nat) (p : Param) (part : Int) (w : World) (hc : CueAt w c A k B m) :
    Calls Try.prog 18 #[.agg (cueV c A k B m).toArray, .agg (prm p).toArray, .int .i64 part] w fun e w' => e = .returned (.bool true) ∧ Ext w w' := by
  have HC := Lib.hid hc
  clear hc
  simp only [cueV, prm]
  go_enter Try.func18, Try.ntmps18
  go_wp2_with (first
    | (go_at_call 27; refine (r16_Few c A k B m _).mono ?_; rintro e w' ⟨rfl, hx⟩; obtain ⟨y, rfl⟩ := hx.get; clear hx)
    | (go_at_call 42; refine (l16_awake _).mono ?_; rintro e w' ⟨rfl, hx⟩; obtain ⟨y, rfl⟩ := hx.get; clear hx)
    | (go_at_call 62; refine (cue_Find c A k B m p _ (HC.out.mono (by repeat (first | exact Ext.refl _ | assumption | apply Ext.xt | apply Ext.alloc | apply Ext.drew | apply Ext.drewN)))).mono ?_; rintro e w' ⟨rfl, hx⟩; obtain ⟨y, rfl⟩ := hx.get; clear hx)
    | (go_at_call 66; refine (r16_Find c A k B m p _ (HC.out.mono (by repeat (first | exact Ext.refl _ | assumption | apply Ext.xt | apply Ext.alloc | apply Ext.drew | apply Ext.drewN)))).mono ?_; rintro e w' ⟨rfl, hx⟩; obtain ⟨y, rfl⟩ := hx.get; clear hx)
    | (go_at_call 67; refine (cue_Entries c A k B m _ (HC.out.mono (by repeat (first | exact Ext.refl _ | assumption | apply Ext.xt | apply Ext.alloc | apply Ext.drew | apply Ext.drewN)))).mono ?_; rintro e w' ⟨A1, k1, he, hx, hs1, h1, h2⟩; subst he; have H1 := Lib.hid (And.intro hs1 (Nat.le_trans h1 h2)); obtain ⟨y1, rfl⟩ := hx.get; clear hx hs1 h1 h2)
    | (go_at_call 68; refine (r16_Entries c A k B m _ (HC.out.mono (by repeat (first | exact Ext.refl _ | assumption | apply Ext.xt | apply Ext.alloc | apply Ext.drew | apply Ext.drewN)))).mono ?_; rintro e w' ⟨A2, k2, he, hx, hs2, h1, h2⟩; subst he; have H2 := Lib.hid (And.intro hs2 (Nat.le_trans h1 h2)); obtain ⟨y2, rfl⟩ := hx.get; clear hx hs2 h1 h2)
    | (go_at_call 69; refine (r15_SameEntries A1 k1 _ A2 k2 _ _ (H1.out.1.mono (by repeat (first | exact Ext.refl _ | assumption | apply Ext.xt | apply Ext.alloc | apply Ext.drew | apply Ext.drewN))) H1.out.2 (H2.out.1.mono (by repeat (first | exact Ext.refl _ | assumption | apply Ext.xt | apply Ext.alloc | apply Ext.drew | apply Ext.drewN))) H2.out.2).mono ?_; rintro e w' ⟨rfl, hx⟩; obtain ⟨y, rfl⟩ := hx.get; clear hx)
    | (go_at_call 55; refine (cue_Split c A k B m part _ (HC.out.mono (by repeat (first | exact Ext.refl _ | assumption | apply Ext.xt | apply Ext.alloc | apply Ext.drew | apply Ext.drewN)))).mono ?_; rintro e w' ⟨A3, k3, he, hx, hs1, h1, h2⟩; subst he; have H3 := Lib.hid (And.intro hs1 (Nat.le_trans h1 h2)); obtain ⟨y3, rfl⟩ := hx.get; clear hx hs1 h1 h2)
    | (go_at_call 70; refine (r16_Split c A k B m part _ (HC.out.mono (by repeat (first | exact Ext.refl _ | assumption | apply Ext.xt | apply Ext.alloc | apply Ext.drew | apply Ext.drewN)))).mono ?_; rintro e w' ⟨A4, k4, he, hx, hs2, h1, h2⟩; subst he; have H4 := Lib.hid (And.intro hs2 (Nat.le_trans h1 h2)); obtain ⟨y4, rfl⟩ := hx.get; clear hx hs2 h1 h2)
    | (go_at_call 45; refine (r16_SameMoves A3 k3 _ A4 k4 _ _ (H3.out.1.mono (by repeat (first | exact Ext.refl _ | assumption | apply Ext.xt | apply Ext.alloc | apply Ext.drew | apply Ext.drewN))) H3.out.2 (H4.out.1.mono (by repeat (first | exact Ext.refl _ | assumption | apply Ext.xt | apply Ext.alloc | apply Ext.drew | apply Ext.drewN))) H4.out.2).mono ?_; rintro e w' ⟨rfl, hx⟩; obtain ⟨y, rfl⟩ := hx.get; clear hx))
  all_goals (go_ret; exact ⟨rfl, by repeat (first | exact Ext.refl _ | assumption | apply Ext.xt | apply Ext.alloc | apply Ext.drew | apply Ext.drewN)⟩)
end Go.Proofs.Ytgmicckeefoghaa
