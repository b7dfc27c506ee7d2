/-
 Chapter 55 in plain: what an operator does at the speaker is at both stations soon (TakeoverCopies).
-/
import Derived.Test.YtmhinhgflehkaaaGreatGtkg
namespace Go.Proofs.YtmhinhgflehkaaaGreat
namespace Tk

def coL (K : Nat) : List Evt := (List.range K).map fun i : Nat => actE (i : Int) (goA (25 * (i : Int)))
theorem coL_len (K : Nat) : (coL K).length = K := by unfold coL; rw [List.length_map, List.length_range]
theorem coL_succ (K : Nat) : coL (K + 1) = coL K ++ [actE (K : Int) (goA (25 * (K : Int)))] := by unfold coL; rw [List.range_succ, List.map_append]; rfl
theorem coL_get {K i : Nat} (h : i < K) : (coL K)[i]? = some (actE (i : Int) (goA (25 * (i : Int)))) := by
 unfold coL
 rw [List.getElem?_map, List.getElem?_range h]; rfl
theorem coL_mem {K : Nat} {x : Evt} (h : x ∈ coL K) : ∃ i : Nat, i < K ∧ x = actE (i : Int) (goA (25 * (i : Int))) := by
 unfold coL at h
 obtain ⟨i, hi, e⟩ := List.mem_map.1 h
 exact ⟨i, List.mem_range.1 hi, e.symm⟩
theorem coL_evts {K : Nat} (h : K ≤ 11) : evtsE (coL K) = 0 := by
 unfold evtsE
 rw [if_neg (by rw [coL_len]; omega)]
 refine scan_zero _ _ fun k x hx => ?_
 have hk : k < K := by have := (List.getElem?_eq_some_iff.1 hx).1; rwa [coL_len] at this
 rw [coL_get hk] at hx
 injection hx with hx
 subst hx
 have e := actE_zero (s := (k : Int)) (acnE_goA (t := 25 * (k : Int)) (by omega) (by omega))
 unfold evtS
 rw [if_neg (by show ¬ ((k : Int) < 0 ∨ 1048576 < (k : Int)); omega)]
 cases k with
 | zero => exact e
 | succ k =>
  rw [prv_succ, coL_get (by omega)]
  show (if ((k + 1 : Nat) : Int) < (k : Int) then (9 : Int) else _) = 0
  rw [if_neg (by omega), e]
theorem atL_coL (s : Int) : ∀ K : Nat, atL (coL K) s = if 0 ≤ s ∧ s < (K : Int) then [actE s (goA (25 * s))] else []
 | 0 => by rw [if_neg (by omega)]; rfl
 | K + 1 => by
  have ih := atL_coL s K
  rw [coL_succ]
  unfold atL at ih ⊢
  rw [List.filter_append, ih]
  by_cases h : (K : Int) = s
  ·rw [if_neg (by omega), if_pos (by omega), List.nil_append]
   rw [List.filter_cons_of_pos (by exact decide_eq_true h), h]; rfl
  ·rw [List.filter_cons_of_neg (by show ¬ decide ((K : Int) = s) = true; rw [decide_eq_true_iff]; exact h), List.filter_nil, List.append_nil]
   by_cases g : 0 ≤ s ∧ s < (K : Int)
   ·rw [if_pos g, if_pos (by omega)]
   ·rw [if_neg g, if_neg (by omega)]
def coC (K : Nat) (s : Int) : Nat := min K s.toNat
theorem co_end {K : Nat} (hK : K ≤ 11) {d n : Int} (hd : 1 ≤ d) (hd8 : d ≤ 8) (hdn : d ≤ n) (hn : n ≤ 16) {T : Nat} (hT : (T : Int) = K + 4 * d + 4) {v : Wld} (hv : seqW (coL K) (newW n d).1 T = v) : v.a.node.log = recL goF K ∧ v.b.node.log = recL goF K ∧ v.a.node.acked = K ∧ v.b.node.acked = K ∧ nodE v.a.node = 0 := by
 have h := cop_seq (cnt := coC K) (aL := goF) (l := coL K) (fun i j hij => by unfold coC; omega) (fun i hi => by unfold coC; omega) (fun i => by unfold coC; omega) goF_ok (fun i => by rw [goF_at, goF_at]; omega) hd hd8 hdn hn (fun s h0 h60 => by
  rw [atL_coL]
  by_cases g : 0 ≤ s ∧ s < (K : Int)
  ·right
   have e : coC K s = s.toNat := by unfold coC; omega
   refine ⟨?_, by rw [e]; unfold coC; omega⟩
   rw [if_pos g, e]
   unfold goF
   have : ((min s.toNat 11 : Nat) : Int) = s := by omega
   rw [this]
  ·left
   exact ⟨if_neg g, by unfold coC; omega⟩) T (by omega)
 have e : coC K (T : Int) = K := by unfold coC; omega
 rw [e, hv] at h
 have hN : coC K ((T : Int) - 3 * d) = (recL goF K).length := by rw [recL_len]; unfold coC; omega
 obtain ⟨e1, e2, e3, e4⟩ := h.done hN (fun i j hij => by unfold coC; omega) hd
 rw [recL_len] at e3 e4
 exact ⟨e1, e2, e3, e4, (nodE_iff _).2 h.calm.ok.a.node⟩
end Tk
end Go.Proofs.YtmhinhgflehkaaaGreat
