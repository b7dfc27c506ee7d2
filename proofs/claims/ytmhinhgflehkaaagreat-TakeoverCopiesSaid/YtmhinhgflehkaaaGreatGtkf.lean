/-
 Chapter 55 in plain: the speaker fails, and the other one takes over.
-/
import Derived.Test.YtmhinhgflehkaaaGreatGtkq
import Derived.KernelRfl
set_option maxRecDepth 100000
namespace Go.Proofs.YtmhinhgflehkaaaGreat
namespace Tk

def upE (k i : Int) : Evt := ⟨k, 2, i, acnN, 0⟩
def soonL (t u : Int) : List Evt := [downE t 1, upE u 1]
def Pa (d t : Int) (x : Ltr) : Prop := d ≤ x.at_ ∧ (x.msg.kind = 0 → x.at_ ≤ t - 1 + d) ∧ (x.msg.kind ≠ 0 → x.at_ ≤ t - 1 + 2 * d)
structure PhA (d n t s : Int) (K : Nat) (w : Wld) : Prop where
 calm : Calm false 1 n s s K 1 (Pa d t) [] w
 delay : w.delay = d
 bup : w.b.up = true
 aup : w.a.up = decide (s ≤ t)
 app : ∀ p, 0 ≤ p → p < s → p < t → s ≤ p + d → ∃ x, x ∈ w.mail ∧ x.msg.kind = 0 ∧ x.at_ = p + d
 q1 : s ≤ d → w.b.quiet = s
 q2 : d < s → s ≤ t + d → w.b.quiet = 1
 q3 : t + d < s → w.b.quiet = s - (t + d) + 1
structure PhB (d n u s : Int) (K : Nat) (w : Wld) : Prop where
 calm : Calm true 2 n s s K 3 (fun _ => True) [] w
 delay : w.delay = d
 bup : w.b.up = true
 aup : w.a.up = decide (u < s)
 hush : w.a.up = true → Hush true n s w
section
variable {d n t s u : Int} {K : Nat} {w : Wld}
end
end Tk
end Go.Proofs.YtmhinhgflehkaaaGreat

/-
 Chapter 55 in plain: the examples of the chapter.
-/
namespace Go.Proofs.YtmhinhgflehkaaaGreat
namespace Tk

def cutL (t u : Int) : List Evt := [⟨t, 3, 0, acnN, 0⟩, ⟨u, 4, 0, acnN, 0⟩]
def five (w : Wld) : Bool × Int × Bool × Int × Int := (w.a.node.speaks, w.a.node.term, w.b.node.speaks, w.b.node.term, spokenW w)
theorem cut_8 : five (runW (cutL 5 9) 8 (newW 2 1).1) = (true, 1, true, 2, 2) := by kernel_rfl
theorem cut_11 : (runW (cutL 5 9) 11 (newW 2 1).1).a.node.speaks = false ∧ (runW (cutL 5 9) 11 (newW 2 1).1).b.node.speaks = true := ⟨by kernel_rfl, by kernel_rfl⟩
end Tk
end Go.Proofs.YtmhinhgflehkaaaGreat

/-
 Chapter 55 in plain: the examples of the chapter.
-/
namespace Go.Proofs.YtmhinhgflehkaaaGreat
namespace Tk

noncomputable def aw : Wld := (newW 2 1).1
theorem aw_tr8 : traceW [] 8 aw = [1, 1, 1, 1, 1, 1, 1, 1] := by kernel_rfl
theorem aw_tr14 : traceW (soonL 5 10) 14 aw = [1, 1, 1, 1, 1, 0, 0, 2, 2, 2, 2, 2, 2, 2] := by kernel_rfl
theorem aw_ok : WldOk aw := (newW_ok (by omega) (by omega) (by omega) (by omega)).2
theorem aw_now : aw.now = 0 := by unfold aw newW; rw [if_neg (by omega)]
theorem cutE_zero {t k : Int} (h1 : k = 3 ∨ k = 4) : evtE ⟨t, k, 0, acnN, 0⟩ = 0 := by
 unfold evtE
 rw [if_neg (by show ¬ (k < 0 ∨ 5 < k); omega), if_neg (by show ¬ (k ≤ 2 ∧ _ ∨ k = 5 ∧ _); rintro (⟨h, -⟩ | ⟨h, -⟩) <;> omega), if_neg (by show ¬ (k = 0 ∧ _); rintro ⟨h, -⟩; omega), if_neg]
 rintro (⟨-, b⟩ | ⟨-, b⟩ | ⟨-, b⟩)
 ·exact b rfl
 ·exact b rfl
 ·have : sameA acnN acnN = false := b
  rw [sameA_refl] at this; cases this
theorem upE_zero {t i k : Int} (h1 : k = 1 ∨ k = 2) (hi : 1 ≤ i) (hi2 : i ≤ 2) : evtE ⟨t, k, i, acnN, 0⟩ = 0 := by
 unfold evtE
 rw [if_neg (by show ¬ (k < 0 ∨ 5 < k); omega), if_neg (by show ¬ (k ≤ 2 ∧ (i < 1 ∨ 2 < i) ∨ k = 5 ∧ _); rintro (⟨-, h⟩ | ⟨h, -⟩) <;> omega), if_neg (by show ¬ (k = 0 ∧ _); rintro ⟨h, -⟩; omega), if_neg]
 rintro (⟨a, -⟩ | ⟨-, b⟩ | ⟨-, b⟩)
 ·exact a (by show k ≤ 2; omega)
 ·exact b rfl
 ·have : sameA acnN acnN = false := b
  rw [sameA_refl] at this; cases this
theorem two_right {x y : Evt} (hx : evtE x = 0) (hy : evtE y = 0) (h0 : 0 ≤ x.tick) (h1 : x.tick ≤ y.tick) (h2 : y.tick ≤ 1048576) : evtsE [x, y] = 0 := by
 unfold evtsE
 rw [if_neg (by show ¬ (256 < 2); omega)]
 refine scan_zero _ _ fun k z hz => ?_
 match k, hz with
 | 0, hz =>
  obtain rfl : x = z := by injection hz
  unfold evtS
  rw [if_neg (by omega)]
  exact hx
 | 1, hz =>
  obtain rfl : y = z := by injection hz
  unfold evtS
  rw [if_neg (by omega)]
  show (if y.tick < x.tick then 9 else evtE y) = 0
  rw [if_neg (by omega)]
  exact hy
theorem soonL_right {t u : Int} (h0 : 0 ≤ t) (h1 : t ≤ u) (h2 : u ≤ 1048576) : evtsE (soonL t u) = 0 := two_right (upE_zero (k := 1) (.inl rfl) (by omega) (by omega)) (upE_zero (k := 2) (.inr rfl) (by omega) (by omega)) h0 h1 h2
theorem cutL_right {t u : Int} (h0 : 0 ≤ t) (h1 : t ≤ u) (h2 : u ≤ 1048576) : evtsE (cutL t u) = 0 := two_right (cutE_zero (.inl rfl)) (cutE_zero (.inr rfl)) h0 h1 h2
theorem aw_c8 : (seqW (cutL 5 9) aw 8).a.node.speaks = true ∧ (seqW (cutL 5 9) aw 8).a.node.term = 1 ∧ (seqW (cutL 5 9) aw 8).b.node.speaks = true ∧ (seqW (cutL 5 9) aw 8).b.node.term = 2 ∧ spokenW (seqW (cutL 5 9) aw 8) = 2 := by
 have h := cut_8
 rw [runW_seq] at h
 unfold five at h
 simp only [Prod.mk.injEq] at h
 exact h
theorem aw_c11 : (seqW (cutL 5 9) aw 11).a.node.speaks = false ∧ (seqW (cutL 5 9) aw 11).b.node.speaks = true := by
 have h := cut_11
 rw [runW_seq (cutL 5 9) 11 (newW 2 1).1] at h
 exact h
theorem aw_spk : speakerV (seqW (cutL 5 9) aw 8) = (2, 0) := by
 have h := (seqW_ok (fun x hx => evtsE_ok (cutL_right (t := 5) (u := 9) (by omega) (by omega) (by omega)) x hx) aw_ok 8 (by rw [aw_now]; omega)).1
 unfold speakerV
 rw [if_neg (by rw [(wldE_iff _).2 h]; simp), aw_c8.2.2.2.2]
end Tk
end Go.Proofs.YtmhinhgflehkaaaGreat

/-
 Chapter 55 in plain: some of right events are right.
-/
namespace Go.Proofs.YtmhinhgflehkaaaGreat
end Go.Proofs.YtmhinhgflehkaaaGreat
