/-
  The checks of the examples' actions, plain.
-/
import Derived.Test.YtlpboikonnpjbaaGreatGfld
namespace Go.Proofs.YtlpboikonnpjbaaGreat
open Go.RowKit

def mkA (t k g v : Int) : Acn := ⟨t, k, g, ⟨#[]⟩, v, 0, ⟨[], none, 0⟩, ⟨[], none, 0⟩, ⟨[], none, 0⟩, noEdit⟩
theorem mkA_at (t k g v : Int) (w : World) : AcnAt w (mkA t k g v) := ⟨Nat.zero_le _, LstAt.nil, LstAt.nil, LstAt.nil, noEdit_at w⟩
open Classical in
theorem acnE_mk (t k g v : Int) (hk : ¬ (k < 0 ∨ 20 ≤ k)) (ht : inE t 0 10000000 = 0) :
    acnE (mkA t k g v) = chkS (useB k) (fun i => [inE g 1 1048576, numE ⟨#[]⟩, levelsE k v, inE 0 0 10000000, setE [], parsE [], chansE [], editE noEdit].getD i 0) (fun i => [g == 0, true, v == 0, true, true, true, true, true].getD i true) 8 0 true := by
  have hs : sameE noEdit noEdit = true := by unfold sameE; exact decide_eq_true ⟨rfl, rfl, rfl, rfl, rfl, rfl, rfl, rfl, rfl, rfl, rfl, rfl, rfl, rfl, rfl, rfl, rfl, rfl, rfl, rfl, rfl⟩
  unfold acnE
  rw [if_neg (show ¬ ((mkA t k g v).kind < 0 ∨ 20 ≤ (mkA t k g v).kind) from hk), if_neg (by show ¬ inE t 0 10000000 ≠ 0; simpa using ht)]
  unfold fieldZ
  have hc : (⟨#[]⟩ : ByteArray).toList.isEmpty = true := by decide +kernel
  simp only [mkA, hs, hc]
  rfl
theorem acnE_good : acnE (mkA 500 0 2 0) = 0 := by
  rw [acnE_mk _ _ _ _ (by decide) (by decide)]
  simp only [chkS, show useB 0 0 = true by decide +kernel, show useB 0 1 = false by decide +kernel, show useB 0 2 = false by decide +kernel, show useB 0 3 = false by decide +kernel, show useB 0 4 = false by decide +kernel, show useB 0 5 = false by decide +kernel, show useB 0 6 = false by decide +kernel, show useB 0 7 = false by decide +kernel, Nat.zero_add, Nat.reduceAdd]
  simp [inE, parsE, scan]
theorem acnE_bad : acnE (mkA 500 0 2 1) = 3 := by
  rw [acnE_mk _ _ _ _ (by decide) (by decide)]
  simp only [chkS, show useB 0 0 = true by decide +kernel, show useB 0 1 = false by decide +kernel, show useB 0 2 = false by decide +kernel, show useB 0 3 = false by decide +kernel, show useB 0 4 = false by decide +kernel, show useB 0 5 = false by decide +kernel, show useB 0 6 = false by decide +kernel, show useB 0 7 = false by decide +kernel, Nat.zero_add, Nat.reduceAdd]
  simp [inE, parsE, scan]
theorem acnE_none : acnE (mkA 500 0 0 0) = 2 := by
  rw [acnE_mk _ _ _ _ (by decide) (by decide)]
  simp only [chkS, show useB 0 0 = true by decide +kernel, show useB 0 1 = false by decide +kernel, show useB 0 2 = false by decide +kernel, show useB 0 3 = false by decide +kernel, show useB 0 4 = false by decide +kernel, show useB 0 5 = false by decide +kernel, show useB 0 6 = false by decide +kernel, show useB 0 7 = false by decide +kernel, Nat.zero_add, Nat.reduceAdd]
  simp [inE, parsE, scan]
theorem acnE_go : acnE (mkA 0 0 2 0) = 0 := by
  rw [acnE_mk _ _ _ _ (by decide) (by decide)]
  simp only [chkS, show useB 0 0 = true by decide +kernel, show useB 0 1 = false by decide +kernel, show useB 0 2 = false by decide +kernel, show useB 0 3 = false by decide +kernel, show useB 0 4 = false by decide +kernel, show useB 0 5 = false by decide +kernel, show useB 0 6 = false by decide +kernel, show useB 0 7 = false by decide +kernel, Nat.zero_add, Nat.reduceAdd]
  simp [inE, parsE, scan]
theorem acnE_undo : acnE (mkA 500 18 0 0) = 0 := by
  rw [acnE_mk _ _ _ _ (by decide) (by decide)]
  simp only [chkS, show useB 18 0 = false by decide +kernel, show useB 18 1 = false by decide +kernel, show useB 18 2 = false by decide +kernel, show useB 18 3 = false by decide +kernel, show useB 18 4 = false by decide +kernel, show useB 18 5 = false by decide +kernel, show useB 18 6 = false by decide +kernel, show useB 18 7 = false by decide +kernel, Nat.zero_add, Nat.reduceAdd]
  simp
theorem acnE_clear : acnE (mkA 500 13 0 0) = 0 := by
  rw [acnE_mk _ _ _ _ (by decide) (by decide)]
  simp only [chkS, show useB 13 0 = false by decide +kernel, show useB 13 1 = false by decide +kernel, show useB 13 2 = false by decide +kernel, show useB 13 3 = false by decide +kernel, show useB 13 4 = false by decide +kernel, show useB 13 5 = true by decide +kernel, show useB 13 6 = false by decide +kernel, show useB 13 7 = false by decide +kernel, Nat.zero_add, Nat.reduceAdd]
  simp [inE, parsE, scan]
theorem acnE_back : acnE (mkA 900 2 2 0) = 0 := by
  rw [acnE_mk _ _ _ _ (by decide) (by decide)]
  simp only [chkS, show useB 2 0 = true by decide +kernel, show useB 2 1 = false by decide +kernel, show useB 2 2 = false by decide +kernel, show useB 2 3 = false by decide +kernel, show useB 2 4 = false by decide +kernel, show useB 2 5 = false by decide +kernel, show useB 2 6 = false by decide +kernel, show useB 2 7 = false by decide +kernel, Nat.zero_add, Nat.reduceAdd]
  simp [inE, parsE, scan]
theorem acnE_20 : acnE (mkA 0 20 0 0) = 1 := by
  unfold acnE
  rw [if_pos (show ((mkA 0 20 0 0).kind < 0 ∨ 20 ≤ (mkA 0 20 0 0).kind) from .inr (Int.le_refl _))]

/-! ### With all fields set no action is right -/
theorem chkS_three {u : Nat → Bool} {e : Nat → Int} {z : Nat → Bool} : ∀ (n i : Nat) (b : Bool) (_ : ∀ j, i ≤ j → j < i + n → u j = true → e j = 0) (_ : b = false ∨ ∃ j, i ≤ j ∧ j < i + n ∧ u j = false ∧ z j = false), chkS u e z n i b = 3
  | 0, i, b, _, h => by
    rcases h with rfl | ⟨j, h1, h2, _⟩
    · rfl
    · omega
  | n + 1, i, b, h0, h => by
    rw [chkS]
    by_cases hu : u i = true
    · rw [if_pos hu, if_neg (by simpa using h0 i (by omega) (by omega) hu)]
      refine chkS_three n (i + 1) b (fun j h1 h2 => h0 j (by omega) (by omega)) (h.imp id ?_)
      rintro ⟨j, h1, h2, h3, h4⟩
      refine ⟨j, ?_, by omega, h3, h4⟩
      rcases Nat.lt_or_eq_of_le h1 with h5 | rfl
      · omega
      · rw [hu] at h3; cases h3
    · rw [if_neg hu]
      refine chkS_three n (i + 1) _ (fun j h1 h2 => h0 j (by omega) (by omega)) ?_
      rcases h with rfl | ⟨j, h1, h2, h3, h4⟩
      · exact .inl rfl
      · rcases Nat.lt_or_eq_of_le h1 with h5 | rfl
        · exact .inr ⟨j, by omega, by omega, h3, h4⟩
        · exact .inl (by rw [h4, Bool.and_false])
theorem chkS_used {u : Nat → Bool} {e : Nat → Int} {z : Nat → Bool} : ∀ (n i : Nat) (b : Bool) (_ : chkS u e z n i b = 0) (j : Nat) (_ : i ≤ j) (_ : j < i + n) (_ : u j = true), e j = 0
  | 0, i, b, _, j, h1, h2, _ => by omega
  | n + 1, i, b, h, j, h1, h2, h3 => by
    rw [chkS] at h
    rcases Nat.lt_or_eq_of_le h1 with h5 | rfl
    · split at h
      · split at h
        · rename_i h4; exact absurd h h4
        · exact chkS_used n (i + 1) b h j (by omega) (by omega) h3
      · exact chkS_used n (i + 1) _ h j (by omega) (by omega) h3
    · rw [if_pos h3] at h
      split at h
      · exact h
      · rename_i h4; simpa using h4
def fullA (a : Acn) (A B : Option Addr) : Acn := { a with target := max a.target 1, cue := ⟨#[49]⟩, level := max a.level 1, time := max a.time 1, params := ⟨[⟨1, 0⟩], A, 1⟩, chans := ⟨[1], B, 1⟩ }
theorem use_free : ∀ k : Fin 20, useB (k : Nat) 0 = false ∨ useB (k : Nat) 1 = false ∨ useB (k : Nat) 2 = false := by decide +kernel
theorem acnE_full {a : Acn} (h : acnE a = 0) (A B : Option Addr) : acnE (fullA a A B) = 3 := by
  unfold acnE at h ⊢
  split at h
  · omega
  · rename_i hk
    split at h
    · omega
    · rename_i ht
      have hu := chkS_used 8 0 true h
      rw [if_neg (show ¬ ((fullA a A B).kind < 0 ∨ 20 ≤ (fullA a A B).kind) from hk), if_neg (show ¬ inE (fullA a A B).at_ 0 10000000 ≠ 0 from ht)]
      have hin : ∀ n lo hi : Int, inE n lo hi = 0 → lo ≤ n ∧ n ≤ hi := fun n lo hi hh => by
        unfold inE at hh
        split at hh
        · omega
        · omega
      have hni : ∀ n lo hi : Int, lo ≤ n → n ≤ hi → inE n lo hi = 0 := fun n lo hi h1 h2 => by
        unfold inE
        rw [if_neg (by omega)]
      refine chkS_three 8 0 true (fun j _ hj hju => ?_) (.inr ?_)
      · have h0 := hu j (by omega) hj hju
        match j, hj with
        | 0, _ =>
          have := hin _ _ _ (show inE a.target 1 1048576 = 0 from h0)
          exact hni (max a.target 1) _ _ (by omega) (by omega)
        | 1, _ => show numE ⟨#[49]⟩ = 0; decide +kernel
        | 2, _ =>
          have h1 : levelsE a.kind a.level = 0 := h0
          show levelsE a.kind (max a.level 1) = 0
          unfold levelsE at h1 ⊢
          split at h1
          · rename_i h2; rw [if_pos h2]; have := hin _ _ _ h1; exact hni _ _ _ (by omega) (by omega)
          · rename_i h2
            rw [if_neg h2]
            split at h1
            · rename_i h3; rw [if_pos h3]; have := hin _ _ _ h1; exact hni _ _ _ (by omega) (by omega)
            · rename_i h3; rw [if_neg h3]; have := hin _ _ _ h1; exact hni _ _ _ (by omega) (by omega)
        | 3, _ =>
          have := hin _ _ _ (show inE a.time 0 10000000 = 0 from h0)
          exact hni (max a.time 1) _ _ (by omega) (by omega)
        | 4, _ => exact h0
        | 5, _ => show parsE [⟨1, 0⟩] = 0; decide +kernel
        | 6, _ => show chansE [1] = 0; decide +kernel
        | 7, _ => exact h0
      · have hkk : ∃ k : Fin 20, a.kind = (k : Nat) := ⟨⟨a.kind.toNat, by omega⟩, by simp; omega⟩
        obtain ⟨k, hk2⟩ := hkk
        have hf := use_free k
        have e : (fullA a A B).kind = ((k : Nat) : Int) := hk2
        rw [e]
        rcases hf with hf | hf | hf
        · exact ⟨0, by omega, by omega, hf, by show (max a.target 1 == 0) = false; simp; omega⟩
        · exact ⟨1, by omega, by omega, hf, by show (⟨#[49]⟩ : ByteArray).toList.isEmpty = false; decide +kernel⟩
        · exact ⟨2, by omega, by omega, hf, by show (max a.level 1 == 0) = false; simp; omega⟩
theorem acnE_moved {a : Acn} (h : acnE a = 0) : acnE { a with at_ := 0 } = 0 := by
  unfold acnE at h ⊢
  split at h
  · omega
  · rename_i hk
    split at h
    · omega
    · rename_i ht
      rw [if_neg hk, if_neg (by simp [inE])]
      exact h
end Go.Proofs.YtlpboikonnpjbaaGreat
