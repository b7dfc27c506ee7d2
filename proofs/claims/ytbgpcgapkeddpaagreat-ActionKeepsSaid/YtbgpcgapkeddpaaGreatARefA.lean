/-
  The reference's logs: a further action, other times, sameness.
-/
import Derived.Test.YtbgpcgapkeddpaaGreatGfew
import Derived.Test.YtbgpcgapkeddpaaGreatInsA
import Derived.Test.YtbgpcgapkeddpaaGreatAct16
namespace Go.Proofs.YtbgpcgapkeddpaaGreat
open Go.RowKit

theorem r33_Count_as (A : Option Addr) (c : Nat) (l : List Acn) (t : Int) (i : Nat) (hi : untilL l t = i) (h : logE l = 0) (w : World) (hs : LogAt w A c l) :
    Calls Tryz.prog 53 #[.slice A l.length c, .int .i64 t] w fun e w' => e = .returned (.int .i64 (i : Int)) ∧ Ext w w' := by
  subst hi
  exact r33_Count_log A c l t w hs h
def RetOwnA (w : World) (n : Nat) (l : List Acn) (e : Ending) (w' : World) : Prop := ∃ D k, e = .returned (.slice D n k) ∧ Ext w w' ∧ Own w w' 46 44 D n k (l.map acnR)
set_option maxHeartbeats 6400000 in
set_option maxRecDepth 100000 in
theorem r33_Inserted (A : Option Addr) (c : Nat) (l : List Acn) (a : Acn) (w : World) (hs : LogAt w A c l) (h : logE l = 0) :
    Calls Tryz.prog 39 #[.slice A l.length c, .agg (acnR a).toArray] w (RetOwnA w (l.length + 1) (insL l a)) := by
  rw [← insL_at]
  have hcl := hs.le
  have hcm := hs.cap
  unfold maxLen at hcm
  have HS := Lib.hid hs
  have HR := Lib.hid (rangeAt_new w rfl (acnR a) 46)
  have HZ := Lib.hid h
  have h256 := (logE_ok h).1
  have hi := untilL_le l a.at_
  obtain ⟨i, hi'⟩ : ∃ i, untilL l a.at_ = i := ⟨_, rfl⟩
  have HI := Lib.hid hi'
  rw [hi'] at hi ⊢
  clear h hi' hs
  by_cases h0 : l.length = 0
  · have hnil : l = [] := List.length_eq_zero_iff.1 h0
    subst hnil
    obtain rfl : i = 0 := by simpa using hi
    clear h0
    cases A with
    | none =>
      go_enter Tryz.func39, Tryz.ntmps39
      go_wp2_with (first
          | (refine wpList_load_row rfl 46 _ rfl w.heap.size 0 rfl (acnR a) _ (rangeAt_mono HR.out (by repeat (first | exact Ext.refl _ | assumption | apply Ext.xt | apply Ext.alloc | apply Ext.drew | apply Ext.drewN))) Tryz.underlying46 rfl (by kernel_rfl) ?_)
          | (go_at_call 53; refine (r33_Count_as none c (([] : List Acn)) _ 0 HI.out HZ.out _ (HS.out.mono (by repeat (first | exact Ext.refl _ | assumption | apply Ext.xt | apply Ext.alloc | apply Ext.drew | apply Ext.drewN)))).mono ?_; rintro e w' ⟨rfl, hx⟩; obtain ⟨y, rfl⟩ := hx.get; clear hx)
          | (at_builtin; refine wpList_append_mine (w0 := w.alloc (.cells (acnR a).toArray 46)) rfl _ _ 22 22 rfl 46 46 44 544 Tryz.underlying22 Tryz.underlying22 info_A (by decide) (by repeat (first | exact Ext.refl _ | assumption | apply Ext.xt | apply Ext.alloc | apply Ext.drew | apply Ext.drewN)) D2 1 k2 (((([] : List Acn)).take 0).map acnR ++ [acnR a]) rfl (HO2.out.mono (by repeat (first | exact Ext.refl _ | assumption | apply Ext.xt | apply Ext.alloc | apply Ext.drew | apply Ext.drewN))) _ _ _ (((([] : List Acn)).drop 0).map acnR) rfl (Sl.nil _ _ _) (by first | omega | (simp <;> omega)) (acnR_ones _) (by unfold maxLen; first | omega | (simp <;> omega)) (by first | omega | (simp <;> omega)) ((([] : List Acn)).length + 1) (by first | omega | (simp <;> omega)) ((insAtA (([] : List Acn)) 0 a).map acnR) (by simp [insAtA]) ?_; intro D3 k3 w3 hx3 hown hg hA; have HO3 := Lib.hid hown; obtain ⟨y3, rfl⟩ := hx3.get; clear hown hx3 hg hA)
          | (at_builtin; refine wpList_append_mine (w0 := w.alloc (.cells (acnR a).toArray 46)) rfl _ _ 22 22 rfl 46 46 44 544 Tryz.underlying22 Tryz.underlying22 info_A (by decide) (by repeat (first | exact Ext.refl _ | assumption | apply Ext.xt | apply Ext.alloc | apply Ext.drew | apply Ext.drewN)) D1 0 k1 (((([] : List Acn)).take 0).map acnR) rfl (HO1.out.mono (by repeat (first | exact Ext.refl _ | assumption | apply Ext.xt | apply Ext.alloc | apply Ext.drew | apply Ext.drewN))) _ 1 1 [acnR a] rfl (Sl.alloc' (by simp [go_sem]) (by simp) (by simp [acnR_len])) rfl (acnR_ones1 a) (by unfold maxLen; omega) (by omega) 1 rfl (((([] : List Acn)).take 0).map acnR ++ [acnR a]) rfl ?_; intro D2 k2 w2 hx2 hown hg hA; have HO2 := Lib.hid hown; obtain ⟨y2, rfl⟩ := hx2.get; clear hown hx2 hg hA)
          | (at_builtin; refine wpList_append_mine (w0 := w.alloc (.cells (acnR a).toArray 46)) rfl _ _ 22 22 rfl 46 46 44 544 Tryz.underlying22 Tryz.underlying22 info_A (by decide) (by repeat (first | exact Ext.refl _ | assumption | apply Ext.xt | apply Ext.alloc | apply Ext.drew | apply Ext.drewN)) _ 0 0 [] rfl (Own.nil _) _ 0 _ (((([] : List Acn)).take 0).map acnR) rfl (Sl.nil _ _ _) (by first | omega | (simp <;> omega)) (acnR_ones _) (by unfold maxLen; omega) (by omega) 0 (by omega) (((([] : List Acn)).take 0).map acnR) rfl ?_; intro D1 k1 w1 hx1 hown hg hA; have HO1 := Lib.hid hown; obtain ⟨y1, rfl⟩ := hx1.get; clear hown hx1 hg hA))
      go_ret
      exact ⟨D3, k3, rfl, by repeat (first | exact Ext.refl _ | assumption | apply Ext.xt | apply Ext.alloc | apply Ext.drew | apply Ext.drewN), (HO3.out.mono (by repeat (first | exact Ext.refl _ | assumption | apply Ext.xt | apply Ext.alloc | apply Ext.drew | apply Ext.drewN))).older (by repeat (first | exact Ext.refl _ | assumption | apply Ext.xt | apply Ext.alloc | apply Ext.drew | apply Ext.drewN))⟩
    | some ad =>
      go_enter Tryz.func39, Tryz.ntmps39
      go_wp2_with (first
          | (refine wpList_load_row rfl 46 _ rfl w.heap.size 0 rfl (acnR a) _ (rangeAt_mono HR.out (by repeat (first | exact Ext.refl _ | assumption | apply Ext.xt | apply Ext.alloc | apply Ext.drew | apply Ext.drewN))) Tryz.underlying46 rfl (by kernel_rfl) ?_)
          | (go_at_call 53; refine (r33_Count_as (some ad) c (([] : List Acn)) _ 0 HI.out HZ.out _ (HS.out.mono (by repeat (first | exact Ext.refl _ | assumption | apply Ext.xt | apply Ext.alloc | apply Ext.drew | apply Ext.drewN)))).mono ?_; rintro e w' ⟨rfl, hx⟩; obtain ⟨y, rfl⟩ := hx.get; clear hx)
          | (at_builtin; refine wpList_append_mine (w0 := w.alloc (.cells (acnR a).toArray 46)) rfl _ _ 22 22 rfl 46 46 44 544 Tryz.underlying22 Tryz.underlying22 info_A (by decide) (by repeat (first | exact Ext.refl _ | assumption | apply Ext.xt | apply Ext.alloc | apply Ext.drew | apply Ext.drewN)) D2 1 k2 (((([] : List Acn)).take 0).map acnR ++ [acnR a]) rfl (HO2.out.mono (by repeat (first | exact Ext.refl _ | assumption | apply Ext.xt | apply Ext.alloc | apply Ext.drew | apply Ext.drewN))) _ _ _ (((([] : List Acn)).drop 0).map acnR) rfl (Sl.nil _ _ _) (by first | omega | (simp <;> omega)) (acnR_ones _) (by unfold maxLen; first | omega | (simp <;> omega)) (by first | omega | (simp <;> omega)) ((([] : List Acn)).length + 1) (by first | omega | (simp <;> omega)) ((insAtA (([] : List Acn)) 0 a).map acnR) (by simp [insAtA]) ?_; intro D3 k3 w3 hx3 hown hg hA; have HO3 := Lib.hid hown; obtain ⟨y3, rfl⟩ := hx3.get; clear hown hx3 hg hA)
          | (at_builtin; refine wpList_append_mine (w0 := w.alloc (.cells (acnR a).toArray 46)) rfl _ _ 22 22 rfl 46 46 44 544 Tryz.underlying22 Tryz.underlying22 info_A (by decide) (by repeat (first | exact Ext.refl _ | assumption | apply Ext.xt | apply Ext.alloc | apply Ext.drew | apply Ext.drewN)) D1 0 k1 (((([] : List Acn)).take 0).map acnR) rfl (HO1.out.mono (by repeat (first | exact Ext.refl _ | assumption | apply Ext.xt | apply Ext.alloc | apply Ext.drew | apply Ext.drewN))) _ 1 1 [acnR a] rfl (Sl.alloc' (by simp [go_sem]) (by simp) (by simp [acnR_len])) rfl (acnR_ones1 a) (by unfold maxLen; omega) (by omega) 1 rfl (((([] : List Acn)).take 0).map acnR ++ [acnR a]) rfl ?_; intro D2 k2 w2 hx2 hown hg hA; have HO2 := Lib.hid hown; obtain ⟨y2, rfl⟩ := hx2.get; clear hown hx2 hg hA)
          | (at_builtin; refine wpList_append_mine (w0 := w.alloc (.cells (acnR a).toArray 46)) rfl _ _ 22 22 rfl 46 46 44 544 Tryz.underlying22 Tryz.underlying22 info_A (by decide) (by repeat (first | exact Ext.refl _ | assumption | apply Ext.xt | apply Ext.alloc | apply Ext.drew | apply Ext.drewN)) _ 0 0 [] rfl (Own.nil _) _ 0 _ (((([] : List Acn)).take 0).map acnR) rfl (Sl.nil _ _ _) (by first | omega | (simp <;> omega)) (acnR_ones _) (by unfold maxLen; omega) (by omega) 0 (by omega) (((([] : List Acn)).take 0).map acnR) rfl ?_; intro D1 k1 w1 hx1 hown hg hA; have HO1 := Lib.hid hown; obtain ⟨y1, rfl⟩ := hx1.get; clear hown hx1 hg hA))
      go_ret
      exact ⟨D3, k3, rfl, by repeat (first | exact Ext.refl _ | assumption | apply Ext.xt | apply Ext.alloc | apply Ext.drew | apply Ext.drewN), (HO3.out.mono (by repeat (first | exact Ext.refl _ | assumption | apply Ext.xt | apply Ext.alloc | apply Ext.drew | apply Ext.drewN))).older (by repeat (first | exact Ext.refl _ | assumption | apply Ext.xt | apply Ext.alloc | apply Ext.drew | apply Ext.drewN))⟩
  · obtain ⟨b, o, rfl, -⟩ := HS.out.sl.range (i := 0) (by rw [List.getElem?_map, List.getElem?_eq_getElem (by omega)]; rfl)
    have hb2 : (i : Int) ≤ (c : Int) := by omega
    have hb3 : (i : Int) ≤ (l.length : Int) := by omega
    have hb0 : (0 : Int) ≤ (i : Int) := by omega
    have HF := Lib.hid (show Sl w (some ⟨b, o, none⟩) 44 ((l.take i).map acnR) by rw [List.map_take]; exact HS.out.sl.front i)
    have HD := Lib.hid (show Sl w (some ⟨b, o + i * 44, none⟩) 44 ((l.drop i).map acnR) by rw [List.map_drop]; exact HS.out.sl.dropped i)
    by_cases hic : i = c
    · have hz2 : ((i : Int) == (c : Int)) = true := by rw [hic]; simp
      have hd : l.drop i = [] := by apply List.eq_nil_of_length_eq_zero; rw [List.length_drop]; omega
      have HSN := Lib.hid (show ∀ B : Option Addr, ∀ W : World, Sl W B 44 ((l.drop i).map acnR) from fun B W => by rw [hd]; exact Sl.nil _ _ _)
      clear hd
      subst hic
      go_enter Tryz.func39, Tryz.ntmps39
      go_wp2_with (first
          | (refine wpList_load_row rfl 46 _ rfl w.heap.size 0 rfl (acnR a) _ (rangeAt_mono HR.out (by repeat (first | exact Ext.refl _ | assumption | apply Ext.xt | apply Ext.alloc | apply Ext.drew | apply Ext.drewN))) Tryz.underlying46 rfl (by kernel_rfl) ?_)
          | (go_at_call 53; refine (r33_Count_as _ i (l) _ i HI.out HZ.out _ (HS.out.mono (by repeat (first | exact Ext.refl _ | assumption | apply Ext.xt | apply Ext.alloc | apply Ext.drew | apply Ext.drewN)))).mono ?_; rintro e w' ⟨rfl, hx⟩; obtain ⟨y, rfl⟩ := hx.get; clear hx)
          | (at_builtin; refine wpList_append_mine (w0 := w.alloc (.cells (acnR a).toArray 46)) rfl _ _ 22 22 rfl 46 46 44 544 Tryz.underlying22 Tryz.underlying22 info_A (by decide) (by repeat (first | exact Ext.refl _ | assumption | apply Ext.xt | apply Ext.alloc | apply Ext.drew | apply Ext.drewN)) D2 (i + 1) k2 (((l).take i).map acnR ++ [acnR a]) rfl (HO2.out.mono (by repeat (first | exact Ext.refl _ | assumption | apply Ext.xt | apply Ext.alloc | apply Ext.drew | apply Ext.drewN))) _ _ _ (((l).drop i).map acnR) rfl (HSN.out _ _) (by first | omega | (simp <;> omega)) (acnR_ones _) (by unfold maxLen; first | omega | (simp <;> omega)) (by first | omega | (simp <;> omega)) ((l).length + 1) (by first | omega | (simp <;> omega)) ((insAtA (l) i a).map acnR) (by simp [insAtA]) ?_; intro D3 k3 w3 hx3 hown hg hA; have HO3 := Lib.hid hown; obtain ⟨y3, rfl⟩ := hx3.get; clear hown hx3 hg hA)
          | (at_builtin; refine wpList_append_mine (w0 := w.alloc (.cells (acnR a).toArray 46)) rfl _ _ 22 22 rfl 46 46 44 544 Tryz.underlying22 Tryz.underlying22 info_A (by decide) (by repeat (first | exact Ext.refl _ | assumption | apply Ext.xt | apply Ext.alloc | apply Ext.drew | apply Ext.drewN)) D1 i k1 (((l).take i).map acnR) rfl (HO1.out.mono (by repeat (first | exact Ext.refl _ | assumption | apply Ext.xt | apply Ext.alloc | apply Ext.drew | apply Ext.drewN))) _ 1 1 [acnR a] rfl (Sl.alloc' (by simp [go_sem]) (by simp) (by simp [acnR_len])) rfl (acnR_ones1 a) (by unfold maxLen; omega) (by omega) (i + 1) rfl (((l).take i).map acnR ++ [acnR a]) rfl ?_; intro D2 k2 w2 hx2 hown hg hA; have HO2 := Lib.hid hown; obtain ⟨y2, rfl⟩ := hx2.get; clear hown hx2 hg hA)
          | (at_builtin; refine wpList_append_mine (w0 := w.alloc (.cells (acnR a).toArray 46)) rfl _ _ 22 22 rfl 46 46 44 544 Tryz.underlying22 Tryz.underlying22 info_A (by decide) (by repeat (first | exact Ext.refl _ | assumption | apply Ext.xt | apply Ext.alloc | apply Ext.drew | apply Ext.drewN)) _ 0 0 [] rfl (Own.nil _) _ i _ (((l).take i).map acnR) rfl (HF.out.mono (by repeat (first | exact Ext.refl _ | assumption | apply Ext.xt | apply Ext.alloc | apply Ext.drew | apply Ext.drewN))) (by first | omega | (simp <;> omega)) (acnR_ones _) (by unfold maxLen; omega) (by omega) i (by omega) (((l).take i).map acnR) rfl ?_; intro D1 k1 w1 hx1 hown hg hA; have HO1 := Lib.hid hown; obtain ⟨y1, rfl⟩ := hx1.get; clear hown hx1 hg hA))
      go_ret
      exact ⟨D3, k3, rfl, by repeat (first | exact Ext.refl _ | assumption | apply Ext.xt | apply Ext.alloc | apply Ext.drew | apply Ext.drewN), (HO3.out.mono (by repeat (first | exact Ext.refl _ | assumption | apply Ext.xt | apply Ext.alloc | apply Ext.drew | apply Ext.drewN))).older (by repeat (first | exact Ext.refl _ | assumption | apply Ext.xt | apply Ext.alloc | apply Ext.drew | apply Ext.drewN))⟩
    · have hic2 : ¬ c = i := fun e => hic e.symm
      have HC := Lib.hid hic
      clear hic
      go_enter Tryz.func39, Tryz.ntmps39
      go_wp2_with (first
          | (refine wpList_load_row rfl 46 _ rfl w.heap.size 0 rfl (acnR a) _ (rangeAt_mono HR.out (by repeat (first | exact Ext.refl _ | assumption | apply Ext.xt | apply Ext.alloc | apply Ext.drew | apply Ext.drewN))) Tryz.underlying46 rfl (by kernel_rfl) ?_)
          | (go_at_call 53; refine (r33_Count_as _ c (l) _ i HI.out HZ.out _ (HS.out.mono (by repeat (first | exact Ext.refl _ | assumption | apply Ext.xt | apply Ext.alloc | apply Ext.drew | apply Ext.drewN)))).mono ?_; rintro e w' ⟨rfl, hx⟩; obtain ⟨y, rfl⟩ := hx.get; clear hx)
          | (at_builtin; refine wpList_append_mine (w0 := w.alloc (.cells (acnR a).toArray 46)) rfl _ _ 22 22 rfl 46 46 44 544 Tryz.underlying22 Tryz.underlying22 info_A (by decide) (by repeat (first | exact Ext.refl _ | assumption | apply Ext.xt | apply Ext.alloc | apply Ext.drew | apply Ext.drewN)) D2 (i + 1) k2 (((l).take i).map acnR ++ [acnR a]) rfl (HO2.out.mono (by repeat (first | exact Ext.refl _ | assumption | apply Ext.xt | apply Ext.alloc | apply Ext.drew | apply Ext.drewN))) _ _ _ (((l).drop i).map acnR) rfl (HD.out.mono (by repeat (first | exact Ext.refl _ | assumption | apply Ext.xt | apply Ext.alloc | apply Ext.drew | apply Ext.drewN))) (by first | omega | (simp <;> omega)) (acnR_ones _) (by unfold maxLen; first | omega | (simp <;> omega)) (by first | omega | (simp <;> omega)) ((l).length + 1) (by first | omega | (simp <;> omega)) ((insAtA (l) i a).map acnR) (by simp [insAtA]) ?_; intro D3 k3 w3 hx3 hown hg hA; have HO3 := Lib.hid hown; obtain ⟨y3, rfl⟩ := hx3.get; clear hown hx3 hg hA)
          | (at_builtin; refine wpList_append_mine (w0 := w.alloc (.cells (acnR a).toArray 46)) rfl _ _ 22 22 rfl 46 46 44 544 Tryz.underlying22 Tryz.underlying22 info_A (by decide) (by repeat (first | exact Ext.refl _ | assumption | apply Ext.xt | apply Ext.alloc | apply Ext.drew | apply Ext.drewN)) D1 i k1 (((l).take i).map acnR) rfl (HO1.out.mono (by repeat (first | exact Ext.refl _ | assumption | apply Ext.xt | apply Ext.alloc | apply Ext.drew | apply Ext.drewN))) _ 1 1 [acnR a] rfl (Sl.alloc' (by simp [go_sem]) (by simp) (by simp [acnR_len])) rfl (acnR_ones1 a) (by unfold maxLen; omega) (by omega) (i + 1) rfl (((l).take i).map acnR ++ [acnR a]) rfl ?_; intro D2 k2 w2 hx2 hown hg hA; have HO2 := Lib.hid hown; obtain ⟨y2, rfl⟩ := hx2.get; clear hown hx2 hg hA)
          | (at_builtin; refine wpList_append_mine (w0 := w.alloc (.cells (acnR a).toArray 46)) rfl _ _ 22 22 rfl 46 46 44 544 Tryz.underlying22 Tryz.underlying22 info_A (by decide) (by repeat (first | exact Ext.refl _ | assumption | apply Ext.xt | apply Ext.alloc | apply Ext.drew | apply Ext.drewN)) _ 0 0 [] rfl (Own.nil _) _ i _ (((l).take i).map acnR) rfl (HF.out.mono (by repeat (first | exact Ext.refl _ | assumption | apply Ext.xt | apply Ext.alloc | apply Ext.drew | apply Ext.drewN))) (by first | omega | (simp <;> omega)) (acnR_ones _) (by unfold maxLen; omega) (by omega) i (by omega) (((l).take i).map acnR) rfl ?_; intro D1 k1 w1 hx1 hown hg hA; have HO1 := Lib.hid hown; obtain ⟨y1, rfl⟩ := hx1.get; clear hown hx1 hg hA))
      go_ret
      exact ⟨D3, k3, rfl, by repeat (first | exact Ext.refl _ | assumption | apply Ext.xt | apply Ext.alloc | apply Ext.drew | apply Ext.drewN), (HO3.out.mono (by repeat (first | exact Ext.refl _ | assumption | apply Ext.xt | apply Ext.alloc | apply Ext.drew | apply Ext.drewN))).older (by repeat (first | exact Ext.refl _ | assumption | apply Ext.xt | apply Ext.alloc | apply Ext.drew | apply Ext.drewN))⟩

theorem insL_AcnAt {w w' : World} {A : Option Addr} {c : Nat} {l : List Acn} {a : Acn} (hs : LogAt w A c l) (ha : AcnAt w a) (hx : Ext w w') : ∀ x ∈ insL l a, AcnAt w' x := fun x hm => by
  rcases ins_mem hm with hm | rfl
  · exact (hs.el x hm).mono hx
  · exact ha.mono hx
set_option maxHeartbeats 3200000 in
set_option maxRecDepth 100000 in
theorem r33_Insert (A : Option Addr) (c : Nat) (l : List Acn) (a : Acn) (w : World) (hs : LogAt w A c l) (ha : AcnAt w a) :
    Calls Tryz.prog 14 #[.slice A l.length c, .agg (acnR a).toArray] w (RetLog w (insertV l a)) := by
  have HS := Lib.hid hs
  have HA := Lib.hid ha
  have HR := Lib.hid (rangeAt_new w rfl (acnR a) 46)
  clear hs ha
  by_cases h : logE l = 0
  · have hz : (logE l != 0) = false := by simpa using h
    have h256 := (logE_ok h).1
    by_cases he : acnE a = 0
    · have hz2 : (acnE a != 0) = false := by simpa using he
      by_cases hm : l.length = 256
      · have HV := Lib.hid (show insertV l a = ([], 5) by unfold insertV; rw [if_neg (by simpa using h), if_neg (by simpa using he), if_pos hm])
        have hge : ((l.length : Int) == 256) = true := by simp; omega
        clear h he hm h256
        go_enter Tryz.func14, Tryz.ntmps14
        go_wp2_with (first
          | (refine wpList_load_row rfl 46 _ rfl w.heap.size 0 rfl (acnR a) _ (rangeAt_mono HR.out (by repeat (first | exact Ext.refl _ | assumption | apply Ext.xt | apply Ext.alloc | apply Ext.drew | apply Ext.drewN))) Tryz.underlying46 rfl (by kernel_rfl) ?_)
          | (go_at_call 25; refine (r33_Log A c l _ (HS.out.mono (by repeat (first | exact Ext.refl _ | assumption | apply Ext.xt | apply Ext.alloc | apply Ext.drew | apply Ext.drewN)))).mono ?_; rintro e w' ⟨rfl, hx⟩; obtain ⟨y, rfl⟩ := hx.get; clear hx)
          | (go_at_call 23; refine (r33_Check a _ (HA.out.mono (by repeat (first | exact Ext.refl _ | assumption | apply Ext.xt | apply Ext.alloc | apply Ext.drew | apply Ext.drewN)))).mono ?_; rintro e w' ⟨rfl, hx⟩; obtain ⟨y, rfl⟩ := hx.get; clear hx))
        go_ret2
        exact RetLog.err HV.out (by repeat (first | exact Ext.refl _ | assumption | apply Ext.xt | apply Ext.alloc | apply Ext.drew | apply Ext.drewN))
      · have HV := Lib.hid (show insertV l a = (insL l a, 0) by unfold insertV; rw [if_neg (by simpa using h), if_neg (by simpa using he), if_neg hm])
        have HZ := Lib.hid h
        have hlt : ((l.length : Int) == 256) = false := by simp; omega
        clear h he hm h256
        go_enter Tryz.func14, Tryz.ntmps14
        go_wp2_with (first
          | (refine wpList_load_row rfl 46 _ rfl w.heap.size 0 rfl (acnR a) _ (rangeAt_mono HR.out (by repeat (first | exact Ext.refl _ | assumption | apply Ext.xt | apply Ext.alloc | apply Ext.drew | apply Ext.drewN))) Tryz.underlying46 rfl (by kernel_rfl) ?_)
          | (go_at_call 25; refine (r33_Log A c l _ (HS.out.mono (by repeat (first | exact Ext.refl _ | assumption | apply Ext.xt | apply Ext.alloc | apply Ext.drew | apply Ext.drewN)))).mono ?_; rintro e w' ⟨rfl, hx⟩; obtain ⟨y, rfl⟩ := hx.get; clear hx)
          | (go_at_call 23; refine (r33_Check a _ (HA.out.mono (by repeat (first | exact Ext.refl _ | assumption | apply Ext.xt | apply Ext.alloc | apply Ext.drew | apply Ext.drewN)))).mono ?_; rintro e w' ⟨rfl, hx⟩; obtain ⟨y, rfl⟩ := hx.get; clear hx)
          | (go_at_call 39; refine (r33_Inserted A c l a _ (HS.out.mono (by repeat (first | exact Ext.refl _ | assumption | apply Ext.xt | apply Ext.alloc | apply Ext.drew | apply Ext.drewN))) HZ.out).mono ?_; rintro e w' ⟨D, k, rfl, hx, hown⟩; have HO := Lib.hid (hown.older (show Ext w _ by repeat (first | exact Ext.refl _ | assumption | apply Ext.xt | apply Ext.alloc | apply Ext.drew | apply Ext.drewN))); obtain ⟨y1, rfl⟩ := hx.get; clear hx hown))
        go_ret2
        rw [HV.out]
        exact ⟨D, k, by simp only [ins_len]; rfl, by repeat (first | exact Ext.refl _ | assumption | apply Ext.xt | apply Ext.alloc | apply Ext.drew | apply Ext.drewN), by simpa only [ins_len] using HO.out.mono (by repeat (first | exact Ext.refl _ | assumption | apply Ext.xt | apply Ext.alloc | apply Ext.drew | apply Ext.drewN)), insL_AcnAt HS.out HA.out (by repeat (first | exact Ext.refl _ | assumption | apply Ext.xt | apply Ext.alloc | apply Ext.drew | apply Ext.drewN))⟩
    · have hz2 : (acnE a != 0) = true := by simpa using he
      have HV := Lib.hid (show insertV l a = ([], acnE a) by unfold insertV; rw [if_neg (by simpa using h), if_pos he])
      clear h he
      go_enter Tryz.func14, Tryz.ntmps14
      go_wp2_with (first
        | (refine wpList_load_row rfl 46 _ rfl w.heap.size 0 rfl (acnR a) _ (rangeAt_mono HR.out (by repeat (first | exact Ext.refl _ | assumption | apply Ext.xt | apply Ext.alloc | apply Ext.drew | apply Ext.drewN))) Tryz.underlying46 rfl (by kernel_rfl) ?_)
        | (go_at_call 25; refine (r33_Log A c l _ (HS.out.mono (by repeat (first | exact Ext.refl _ | assumption | apply Ext.xt | apply Ext.alloc | apply Ext.drew | apply Ext.drewN)))).mono ?_; rintro e w' ⟨rfl, hx⟩; obtain ⟨y, rfl⟩ := hx.get; clear hx)
        | (go_at_call 23; refine (r33_Check a _ (HA.out.mono (by repeat (first | exact Ext.refl _ | assumption | apply Ext.xt | apply Ext.alloc | apply Ext.drew | apply Ext.drewN)))).mono ?_; rintro e w' ⟨rfl, hx⟩; obtain ⟨y, rfl⟩ := hx.get; clear hx))
      go_ret2
      exact RetLog.err HV.out (by repeat (first | exact Ext.refl _ | assumption | apply Ext.xt | apply Ext.alloc | apply Ext.drew | apply Ext.drewN))
  · have hz : (logE l != 0) = true := by simpa using h
    have HV := Lib.hid (show insertV l a = ([], logE l) by unfold insertV; rw [if_pos h])
    clear h
    go_enter Tryz.func14, Tryz.ntmps14
    go_wp2_with (go_at_call 25; refine (r33_Log A c l _ (HS.out.mono (by repeat (first | exact Ext.refl _ | assumption | apply Ext.xt | apply Ext.alloc | apply Ext.drew | apply Ext.drewN)))).mono ?_; rintro e w' ⟨rfl, hx⟩; obtain ⟨y, rfl⟩ := hx.get; clear hx)
    go_ret2
    exact RetLog.err HV.out (by repeat (first | exact Ext.refl _ | assumption | apply Ext.xt | apply Ext.alloc | apply Ext.drew | apply Ext.drewN))

theorem shift_take {l : List Acn} {by_ : Int} {j : Nat} {m : Acn} (hm : l[j]? = some m) : (l.take (j + 1)).map (shA by_) = (l.take j).map (shA by_) ++ [shA by_ m] := by
  obtain ⟨hj, he⟩ := List.getElem?_eq_some_iff.1 hm
  rw [List.take_succ_eq_append_getElem hj, he, List.map_append]; rfl
set_option maxHeartbeats 3200000 in
set_option maxRecDepth 100000 in
theorem r33_Shift (A : Option Addr) (c : Nat) (l : List Acn) (by_ : Int) (w : World) (hs : LogAt w A c l) :
    Calls Tryz.prog 16 #[.slice A l.length c, .int .i64 by_] w (RetLog w (shiftV l by_)) := by
  have HS := Lib.hid hs
  clear hs
  by_cases h : logE l = 0
  · have hz : (logE l != 0) = false := by simpa using h
    have h256 := (logE_ok h).1
    have HB := Lib.hid (fun a (ha : a ∈ l) => logE_at h ha)
    have HL := Lib.hid h
    clear h
    go_enter Tryz.func16, Tryz.ntmps16
    go_wp2_with (go_at_call 25; refine (r33_Log A c l _ HS.out).mono ?_; rintro e w' ⟨rfl, hx⟩; obtain ⟨y, rfl⟩ := hx.get; clear hx)
    go_loopw [7, 8] (fun s i wr => ∃ (j : Nat) (D : Option Addr) (d : Nat), j ≤ l.length ∧ i = .int .i64 j ∧ s = .slice D j d ∧ Ext w wr ∧ Hid ((l.take j).all (shOk by_) = true) ∧ Hid (Own w wr 46 44 D j d (((l.take j).map (shA by_)).map acnR))) (fun _ i _ => l.length - (intOf i).toNat)
    case atStart => exact ⟨0, none, 0, by omega, rfl, rfl, by repeat (first | exact Ext.refl _ | assumption | apply Ext.xt | apply Ext.alloc | apply Ext.drew | apply Ext.drewN), Lib.hid (by simp), Lib.hid (Own.nil _)⟩
    case round =>
      obtain ⟨j, D, d, hj, rfl, rfl, hx, HK, HO⟩ := hrel
      obtain ⟨y, rfl⟩ := hx.get
      clear hx
      by_cases hlt : j < l.length
      · obtain ⟨m, hm⟩ : ∃ m, l[j]? = some m := ⟨_, List.getElem?_eq_getElem hlt⟩
        obtain ⟨⟨b, o, rfl, hr⟩, -⟩ := HS.out.get hm
        obtain ⟨hat0, hat1⟩ := HB.out m (List.mem_of_getElem? hm)
        have hb0 : (0 : Int) ≤ (j : Int) := by omega
        have hb1 : (j : Int) < (l.length : Int) := by omega
        have HR := Lib.hid hr
        have HM := Lib.hid hm
        clear hr hm
        by_cases h2 : 10000000 - m.at_ < by_
        · have HV := Lib.hid (show shiftV l by_ = ([], 2) by unfold shiftV; rw [if_neg (by simpa using HL.out), if_neg (allS_not HM.out (decide_eq_false (by omega)))])
          go_wp2_with (first
            | (refine wpList_load_row rfl 46 (.tmp 23) rfl b (o + j * 44) rfl (acnR m) _ (rangeAt_mono HR.out (by repeat (first | exact Ext.refl _ | assumption | apply Ext.xt | apply Ext.alloc | apply Ext.drew | apply Ext.drewN))) Tryz.underlying46 rfl (by kernel_rfl) ?_)
            | (refine wpList_store_top rfl 46 (.tmp 9) (.tmp 24) rfl rfl (by simp [go_sem]) (acnR m) rfl rfl (by kernel_rfl) (acnR_one m) ?_))
          go_ret2
          exact RetLog.err HV.out (by repeat (first | exact Ext.refl _ | assumption | apply Ext.xt | apply Ext.alloc | apply Ext.drew | apply Ext.drewN))
        · by_cases h1 : by_ < -m.at_
          · have HV := Lib.hid (show shiftV l by_ = ([], 2) by unfold shiftV; rw [if_neg (by simpa using HL.out), if_neg (allS_not HM.out (decide_eq_false (by omega)))])
            go_wp2_with (first
              | (refine wpList_load_row rfl 46 (.tmp 23) rfl b (o + j * 44) rfl (acnR m) _ (rangeAt_mono HR.out (by repeat (first | exact Ext.refl _ | assumption | apply Ext.xt | apply Ext.alloc | apply Ext.drew | apply Ext.drewN))) Tryz.underlying46 rfl (by kernel_rfl) ?_)
              | (refine wpList_store_top rfl 46 (.tmp 9) (.tmp 24) rfl rfl (by simp [go_sem]) (acnR m) rfl rfl (by kernel_rfl) (acnR_one m) ?_))
            go_ret2
            exact RetLog.err HV.out (by repeat (first | exact Ext.refl _ | assumption | apply Ext.xt | apply Ext.alloc | apply Ext.drew | apply Ext.drewN))
          · have HV := Lib.hid (allS_step HK.out HM.out (show shOk by_ m = true from decide_eq_true (by omega)))
            have HW := Lib.hid (shift_take (by_ := by_) HM.out)
            go_wp2_with (first
              | (refine wpList_load_row rfl 46 (.tmp 23) rfl b (o + j * 44) rfl (acnR m) _ (rangeAt_mono HR.out (by repeat (first | exact Ext.refl _ | assumption | apply Ext.xt | apply Ext.alloc | apply Ext.drew | apply Ext.drewN))) Tryz.underlying46 rfl (by kernel_rfl) ?_)
              | (refine wpList_store_top rfl 46 (.tmp 9) (.tmp 24) rfl rfl (by simp [go_sem]) (acnR m) rfl rfl (by kernel_rfl) (acnR_one m) ?_)
              | (refine wpList_load_row rfl 46 (.tmp 9) rfl _ 0 rfl (acnR (shA by_ m)) _ (rangeAt_new _ (by simp [go_sem]) (acnR (shA by_ m)) 46) Tryz.underlying46 rfl (by kernel_rfl) ?_)
              | (at_builtin; refine wpList_append_mine (w0 := w) rfl _ _ 22 22 rfl 46 46 44 544 Tryz.underlying22 Tryz.underlying22 info_A (by decide) (by repeat (first | exact Ext.refl _ | assumption | apply Ext.xt | apply Ext.alloc | apply Ext.drew | apply Ext.drewN)) D j d (((l.take j).map (shA by_)).map acnR) rfl (HO.out.mono (by repeat (first | exact Ext.refl _ | assumption | apply Ext.xt | apply Ext.alloc | apply Ext.drew | apply Ext.drewN))) _ 1 1 [acnR (shA by_ m)] rfl (Sl.alloc' (by simp [go_sem]) (by simp) (by simp [acnR_len])) rfl (acnR_ones1 _) (by unfold maxLen; omega) (by omega) (j + 1) rfl (((l.take j).map (shA by_)).map acnR ++ [acnR (shA by_ m)]) rfl ?_; intro D1 c1 w1 hx1 hown hg hA; have HO := Lib.hid hown; obtain ⟨y1, rfl⟩ := hx1.get; clear hown hx1 hg hA))
            go_light
            exact ⟨⟨j + 1, D1, c1, by omega, by go_num, rfl, by repeat (first | exact Ext.refl _ | assumption | apply Ext.xt | apply Ext.alloc | apply Ext.drew | apply Ext.drewN), HV, Lib.hid (by rw [HW.out, List.map_append]; exact HO.out.mono (by repeat (first | exact Ext.refl _ | assumption | apply Ext.xt | apply Ext.alloc | apply Ext.drew | apply Ext.drewN)))⟩, by simp [intOf]; omega⟩
      · obtain rfl : j = l.length := by omega
        have HV := Lib.hid (show shiftV l by_ = (l.map (shA by_), 0) by
          have := HK.out
          rw [List.take_length] at this
          unfold shiftV; rw [if_neg (by simpa using HL.out), if_pos this])
        go_wp2
        go_ret2
        rw [HV.out]
        have ho := HO.out
        rw [List.take_length] at ho
        refine ⟨D, d, by simp only [List.length_map]; rfl, by repeat (first | exact Ext.refl _ | assumption | apply Ext.xt | apply Ext.alloc | apply Ext.drew | apply Ext.drewN), by simpa using ho.mono (by repeat (first | exact Ext.refl _ | assumption | apply Ext.xt | apply Ext.alloc | apply Ext.drew | apply Ext.drewN)), fun a ha => ?_⟩
        obtain ⟨x, hx, rfl⟩ := List.mem_map.1 ha
        exact shA_at ((HS.out.el x hx).mono (by repeat (first | exact Ext.refl _ | assumption | apply Ext.xt | apply Ext.alloc | apply Ext.drew | apply Ext.drewN)))
  · have hz : (logE l != 0) = true := by simpa using h
    have HV := Lib.hid (show shiftV l by_ = ([], logE l) by unfold shiftV; rw [if_pos h])
    clear h
    go_enter Tryz.func16, Tryz.ntmps16
    go_wp2_with (go_at_call 25; refine (r33_Log A c l _ HS.out).mono ?_; rintro e w' ⟨rfl, hx⟩; obtain ⟨y, rfl⟩ := hx.get; clear hx)
    go_ret2
    exact RetLog.err HV.out (by repeat (first | exact Ext.refl _ | assumption | apply Ext.xt | apply Ext.alloc | apply Ext.drew | apply Ext.drewN))
end Go.Proofs.YtbgpcgapkeddpaaGreat
