/-
  slices.Delete at Action, of one element, of a slice that the call made itself.
-/
import Derived.Test.YtbgpcgapkeddpaaGreatInsA
import Derived.Test.YtbgpcgapkeddpaaGreatGshf
import Derived.Test.YtbgpcgapkeddpaaGreatQuiet
import Derived.Test.YtbgpcgapkeddpaaGreatGbtw
import Derived.Test.YtbgpcgapkeddpaaGreatRoom
namespace Go.Proofs.YtbgpcgapkeddpaaGreat
open Go.RowKit

def delAtA (m : List Acn) (n : Nat) : List Acn := m.take n ++ m.drop (n + 1)
theorem delAt_lenA (m : List Acn) (n : Nat) (hn : n < m.length) : (delAtA m n).length = m.length - 1 := by
  simp [delAtA]; omega
theorem zero_A : zeroOne Tryz.prog 46 = true := by kernel_rfl
def RetDelA (w0 : World) (N : Nat) (m : List Acn) (n : Nat) (e : Ending) (w' : World) : Prop :=
  ∃ D k, e = .returned (.slice D N k) ∧ Ext w0 w' ∧ Own w0 w' 46 44 D N k ((delAtA m n).map acnR)

set_option maxHeartbeats 3200000 in
set_option maxRecDepth 100000 in
theorem Delete_A (w0 : World) (A : Option Addr) (k M N : Nat) (m : List Acn) (n : Nat) (w : World) (hM : m.length = M) (hN : N + 1 = M) (hx : Ext w0 w) (ho : Own w0 w 46 44 A M k (m.map acnR)) (hn : n < M) :
    Calls Tryz.prog 33 #[.slice A M k, .int .i64 n, .int .i64 ((n : Int) + 1)] w (RetDelA w0 N m n) := by
  have hle := ho.le
  have hcap := ho.cap
  unfold maxLen at hcap
  obtain ⟨g, rfl, hg, hcell, hfro⟩ := ho.cellOf (i := n) (j := 0) (row := acnR (m[n]'(by omega))) (v := .int .i64 (m[n]'(by omega)).at_) (by rw [List.getElem?_map, List.getElem?_eq_getElem (by omega)]; rfl) rfl
  clear hcell hfro
  have HX := Lib.hid hx
  have HF := Lib.hid (show Own w0 w 46 44 (some ⟨g, 0, none⟩) n k ((m.take n).map acnR) by
    have := ho.front n (Nat.le_of_lt hn)
    rwa [← List.map_take] at this)
  have HS := Lib.hid (show Sl w (some ⟨g, (n + 1) * 44, none⟩) 44 ((m.drop (n + 1)).map acnR) by
    have := Sl.dropped ho.sl (n + 1)
    rw [List.map_drop]
    simpa using this)
  have HL := Lib.hid (show (delAtA m n).map acnR = (m.take n).map acnR ++ (m.drop (n + 1)).map acnR by simp [delAtA])
  have hb0 : (0 : Int) ≤ (n : Int) := by omega
  have hb1 : (0 : Int) ≤ (n : Int) + 1 := by omega
  have hb2 : (n : Int) ≤ (n : Int) + 1 := by omega
  have hb3 : (n : Int) + 1 ≤ (M : Int) := by omega
  have hb4 : (M : Int) ≤ (k : Int) := by omega
  have hb5 : (n : Int) ≤ (k : Int) := by omega
  have hb6 : (N : Int) ≤ (M : Int) := by omega
  have hb7 : (0 : Int) ≤ (N : Int) := by omega
  have hb8 : ¬ N = k := by omega
  have hb9 : ¬ k = N := by omega
  have hw1 : ((n : Int) + 1).toNat = n + 1 := by omega
  have hne : ((n : Int) == (n : Int) + 1) = false := by simp; omega
  clear hx ho
  by_cases hk : n + 1 = k
  · have hd : m.drop (n + 1) = [] := by apply List.eq_nil_of_length_eq_zero; rw [List.length_drop]; omega
    have HSN := Lib.hid (show ∀ B : Option Addr, ∀ W : World, Sl W B 44 ((m.drop (n + 1)).map acnR) from fun B W => by rw [hd]; exact Sl.nil _ _ _)
    clear hd
    subst hk
    go_enter Tryz.func33, Tryz.ntmps33
    go_upto_region 5 with fail
    go_region_law ((refine step_append_room (w0 := w0) rfl _ _ 22 22 rfl 46 46 44 544 Tryz.underlying22 Tryz.underlying22 info_A (by decide) (HX.out.drew) g n (n + 1) ((m.take n).map acnR) (by rfl) (HF.out.mono (by repeat (first | exact Ext.refl _ | assumption | apply Ext.xt | apply Ext.alloc | apply Ext.drew | apply Ext.drewN))) _ _ _ ((m.drop (n + 1)).map acnR) (by rfl) (HSN.out _ _) (by simp; omega) (acnR_ones _) (by omega) (by omega) N (by omega) ((delAtA m n).map acnR) HL.out.symm ?_; intro w1 hx1 hown; have HX1 := Lib.hid hx1; have HO := Lib.hid hown; clear hown hx1))
    all_goals
      go_wp2_with (refine wpList_clear_room (w0 := w0) rfl (.tmp 31) 22 rfl 46 44 544 Tryz.underlying22 info_A zero_A HX1.out g N (n + 1) (M - N) (n + 1 - N) _ HO.out (by omega) (by omega) rfl ?_; intro w2 hx2 hown2; have HX2 := Lib.hid hx2; have HO2 := Lib.hid hown2; clear hown2 hx2)
      go_ret
      exact ⟨_, _, rfl, HX2.out, HO2.out⟩
  · have hk' : ¬ k = n + 1 := fun e => hk e.symm
    go_enter Tryz.func33, Tryz.ntmps33
    go_upto_region 5 with fail
    go_region_law ((refine step_append_room (w0 := w0) rfl _ _ 22 22 rfl 46 46 44 544 Tryz.underlying22 Tryz.underlying22 info_A (by decide) (HX.out.drew) g n k ((m.take n).map acnR) (by rfl) (HF.out.mono (by repeat (first | exact Ext.refl _ | assumption | apply Ext.xt | apply Ext.alloc | apply Ext.drew | apply Ext.drewN))) _ _ _ ((m.drop (n + 1)).map acnR) (by rfl) (HS.out.mono (by repeat (first | exact Ext.refl _ | assumption | apply Ext.xt | apply Ext.alloc | apply Ext.drew | apply Ext.drewN))) (by simp; omega) (acnR_ones _) (by omega) (by omega) N (by omega) ((delAtA m n).map acnR) HL.out.symm ?_; intro w1 hx1 hown; have HX1 := Lib.hid hx1; have HO := Lib.hid hown; clear hown hx1))
    all_goals
      go_wp2_with (refine wpList_clear_room (w0 := w0) rfl (.tmp 31) 22 rfl 46 44 544 Tryz.underlying22 info_A zero_A HX1.out g N k (M - N) (k - N) _ HO.out (by omega) (by omega) rfl ?_; intro w2 hx2 hown2; have HX2 := Lib.hid hx2; have HO2 := Lib.hid hown2; clear hown2 hx2)
      go_ret
      exact ⟨_, _, rfl, HX2.out, HO2.out⟩
end Go.Proofs.YtbgpcgapkeddpaaGreat
