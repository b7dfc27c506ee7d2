/-
  The checks of the examples' actions, plain.
-/
import Derived.Test.YtlpboikonnpjbaaGreatGfld
namespace Go.Proofs.YtlpboikonnpjbaaGreat
open Go.RowKit

def mkA (t k g v : Int) : Acn := ⟨t, k, g, ⟨#[]⟩, v, 0, ⟨[], none, 0⟩, ⟨[], none, 0⟩, ⟨[], none, 0⟩, noEdit⟩
theorem mkA_at (t k g v : Int) (w : World) : AcnAt w (mkA t k g v) := ⟨Nat.zero_le _, LstAt.nil, LstAt.nil, LstAt.nil, noEdit_at w⟩
open Classical in
theorem acnE_mk (t k g v : Int) (hk : ¬ (k < 0 ∨ 20 ≤ k)) (ht : inE t 0 10000000 = 0) :
    acnE (mkA t k g v) = chkS (useB k) (fun i => [inE g 1 1048576, numE ⟨#[]⟩, levelsE k v, inE 0 0 10000000, setE [], parsE [], chansE [], editE noEdit].getD i 0) (fun i => [g == 0, true, v == 0, true, true, true, true, true].getD i true) 8 0 true := by
  have hs : sameE noEdit noEdit = true := by unfold sameE; exact decide_eq_true ⟨rfl, rfl, rfl, rfl, rfl, rfl, rfl, rfl, rfl, rfl, rfl, rfl, rfl, rfl, rfl, rfl, rfl, rfl, rfl, rfl, rfl⟩
  unfold acnE
  rw [if_neg (show ¬ ((mkA t k g v).kind < 0 ∨ 20 ≤ (mkA t k g v).kind) from hk), if_neg (by show ¬ inE t 0 10000000 ≠ 0; simpa using ht)]
  unfold fieldZ
  have hc : (⟨#[]⟩ : ByteArray).toList.isEmpty = true := by decide +kernel
  simp only [mkA, hs, hc]
  rfl
/-! ### With all fields set no action is right -/
def fullA (a : Acn) (A B : Option Addr) : Acn := { a with target := max a.target 1, cue := ⟨#[49]⟩, level := max a.level 1, time := max a.time 1, params := ⟨[⟨1, 0⟩], A, 1⟩, chans := ⟨[1], B, 1⟩ }
end Go.Proofs.YtlpboikonnpjbaaGreat
