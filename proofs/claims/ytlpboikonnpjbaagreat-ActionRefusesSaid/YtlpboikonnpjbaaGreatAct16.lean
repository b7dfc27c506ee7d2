/-
  Logs of actions: a further action is laid in.
-/
import Derived.Test.YtlpboikonnpjbaaGreatGshf
import Derived.Test.YtlpboikonnpjbaaGreatInsA
import Derived.Test.YtlpboikonnpjbaaGreatQuiet
import Derived.Test.YtlpboikonnpjbaaGreatWant
import Derived.Test.YtlpboikonnpjbaaGreatLoad
namespace Go.Proofs.YtlpboikonnpjbaaGreat
open Go.RowKit

noncomputable def insertV (l : List Acn) (a : Acn) : List Acn × Int := if logE l ≠ 0 then ([], logE l) else if acnE a ≠ 0 then ([], acnE a) else if l.length = 256 then ([], 5) else (insL l a, 0)
theorem insL_at (l : List Acn) (a : Acn) : insAtA l (untilL l a.at_) a = insL l a := rfl
set_option maxHeartbeats 6400000 in
set_option maxRecDepth 100000 in
theorem act_Insert_log (A : Option Addr) (c : Nat) (l : List Acn) (a : Acn) (w : World) (hs : LogAt w A c l) (ha : AcnAt w a) (h : logE l ≠ 0) :
    Calls Tryz.prog 58 #[.slice A l.length c, .agg (acnR a).toArray] w (RetLog w (insertV l a)) := by
  have HS := Lib.hid hs
  have HA := Lib.hid ha
  have HR := Lib.hid (rangeAt_new w rfl (acnR a) 45)
  clear hs ha
  have hz : (logE l != 0) = true := by simpa using h
  have HV := Lib.hid (show insertV l a = ([], logE l) by unfold insertV; rw [if_pos h])
  clear h
  go_enter Tryz.func58, Tryz.ntmps58
  go_wp2_with (go_at_call 101; refine (act_Log A c l _ (HS.out.mono (by repeat (first | exact Ext.refl _ | assumption | apply Ext.xt | apply Ext.alloc | apply Ext.drew | apply Ext.drewN)))).mono ?_; rintro e w' ⟨rfl, hx⟩; obtain ⟨y, rfl⟩ := hx.get; clear hx)
  go_ret2
  exact RetLog.err HV.out (by repeat (first | exact Ext.refl _ | assumption | apply Ext.xt | apply Ext.alloc | apply Ext.drew | apply Ext.drewN))
set_option maxHeartbeats 6400000 in
set_option maxRecDepth 100000 in
theorem act_Insert_bad (A : Option Addr) (c : Nat) (l : List Acn) (a : Acn) (w : World) (hs : LogAt w A c l) (ha : AcnAt w a) (h : logE l = 0) (he : acnE a ≠ 0) :
    Calls Tryz.prog 58 #[.slice A l.length c, .agg (acnR a).toArray] w (RetLog w (insertV l a)) := by
  have HS := Lib.hid hs
  have HA := Lib.hid ha
  have HR := Lib.hid (rangeAt_new w rfl (acnR a) 45)
  clear hs ha
  have hz : (logE l != 0) = false := by simpa using h
  have hz2 : (acnE a != 0) = true := by simpa using he
  have HV := Lib.hid (show insertV l a = ([], acnE a) by unfold insertV; rw [if_neg (by simpa using h), if_pos he])
  clear h he
  go_enter Tryz.func58, Tryz.ntmps58
  go_wp2_with (first
    | (refine wpList_load_row rfl 45 _ rfl w.heap.size 0 rfl (acnR a) _ (rangeAt_mono HR.out (by repeat (first | exact Ext.refl _ | assumption | apply Ext.xt | apply Ext.alloc | apply Ext.drew | apply Ext.drewN))) Tryz.underlying45 rfl (by kernel_rfl) ?_)
    | (go_at_call 101; refine (act_Log A c l _ (HS.out.mono (by repeat (first | exact Ext.refl _ | assumption | apply Ext.xt | apply Ext.alloc | apply Ext.drew | apply Ext.drewN)))).mono ?_; rintro e w' ⟨rfl, hx⟩; obtain ⟨y, rfl⟩ := hx.get; clear hx)
    | (go_at_call 16; refine (act_Check a _ (HA.out.mono (by repeat (first | exact Ext.refl _ | assumption | apply Ext.xt | apply Ext.alloc | apply Ext.drew | apply Ext.drewN)))).mono ?_; rintro e w' ⟨rfl, hx⟩; obtain ⟨y, rfl⟩ := hx.get; clear hx))
  go_ret2
  exact RetLog.err HV.out (by repeat (first | exact Ext.refl _ | assumption | apply Ext.xt | apply Ext.alloc | apply Ext.drew | apply Ext.drewN))
set_option maxHeartbeats 6400000 in
set_option maxRecDepth 100000 in
theorem act_Insert_full (A : Option Addr) (c : Nat) (l : List Acn) (a : Acn) (w : World) (hs : LogAt w A c l) (ha : AcnAt w a) (h : logE l = 0) (he : acnE a = 0) (hm : l.length = 256) :
    Calls Tryz.prog 58 #[.slice A l.length c, .agg (acnR a).toArray] w (RetLog w (insertV l a)) := by
  have HS := Lib.hid hs
  have HA := Lib.hid ha
  have HR := Lib.hid (rangeAt_new w rfl (acnR a) 45)
  clear hs ha
  have hz : (logE l != 0) = false := by simpa using h
  have hz2 : (acnE a != 0) = false := by simpa using he
  have HV := Lib.hid (show insertV l a = ([], 5) by unfold insertV; rw [if_neg (by simpa using h), if_neg (by simpa using he), if_pos hm])
  have hge : (256 : Int) ≤ (l.length : Int) := by omega
  clear h he hm
  go_enter Tryz.func58, Tryz.ntmps58
  go_wp2_with (first
    | (refine wpList_load_row rfl 45 _ rfl w.heap.size 0 rfl (acnR a) _ (rangeAt_mono HR.out (by repeat (first | exact Ext.refl _ | assumption | apply Ext.xt | apply Ext.alloc | apply Ext.drew | apply Ext.drewN))) Tryz.underlying45 rfl (by kernel_rfl) ?_)
    | (go_at_call 101; refine (act_Log A c l _ (HS.out.mono (by repeat (first | exact Ext.refl _ | assumption | apply Ext.xt | apply Ext.alloc | apply Ext.drew | apply Ext.drewN)))).mono ?_; rintro e w' ⟨rfl, hx⟩; obtain ⟨y, rfl⟩ := hx.get; clear hx)
    | (go_at_call 16; refine (act_Check a _ (HA.out.mono (by repeat (first | exact Ext.refl _ | assumption | apply Ext.xt | apply Ext.alloc | apply Ext.drew | apply Ext.drewN)))).mono ?_; rintro e w' ⟨rfl, hx⟩; obtain ⟨y, rfl⟩ := hx.get; clear hx))
  go_ret2
  exact RetLog.err HV.out (by repeat (first | exact Ext.refl _ | assumption | apply Ext.xt | apply Ext.alloc | apply Ext.drew | apply Ext.drewN))
set_option maxHeartbeats 6400000 in
set_option maxRecDepth 100000 in
theorem act_Insert_main (A : Option Addr) (c : Nat) (l : List Acn) (a : Acn) (w : World) (hs : LogAt w A c l) (ha : AcnAt w a) (h : logE l = 0) (he : acnE a = 0) (hm : ¬ l.length = 256) :
    Calls Tryz.prog 58 #[.slice A l.length c, .agg (acnR a).toArray] w (RetLog w (insertV l a)) := by
  have HS := Lib.hid hs
  have HA := Lib.hid ha
  have HR := Lib.hid (rangeAt_new w rfl (acnR a) 45)
  clear hs ha
  have hz : (logE l != 0) = false := by simpa using h
  have hz2 : (acnE a != 0) = false := by simpa using he
  have h256 := (logE_ok h).1
  have HV := Lib.hid (show insertV l a = (insL l a, 0) by unfold insertV; rw [if_neg (by simpa using h), if_neg (by simpa using he), if_neg hm])
  have hlt : (l.length : Int) < 256 := by omega
  clear h he hm h256
  have hi := untilL_le l a.at_
  obtain ⟨i, hi'⟩ : ∃ i, untilL l a.at_ = i := ⟨_, rfl⟩
  have HI := Lib.hid hi'
  have HN := Lib.hid (show insAtA l i a = insL l a by rw [← hi']; rfl)
  rw [hi'] at hi
  clear hi'
  have hr1 := rowQ_of (n := 44) HR.out rfl
  go_enter Tryz.func58, Tryz.ntmps58
  go_upto_region 9 with (first
    | (refine wpList_load_row rfl 45 _ rfl w.heap.size 0 rfl (acnR a) _ (rangeAt_mono HR.out (by repeat (first | exact Ext.refl _ | assumption | apply Ext.xt | apply Ext.alloc | apply Ext.drew | apply Ext.drewN))) Tryz.underlying45 rfl (by kernel_rfl) ?_)
    | (go_at_call 101; refine (act_Log A c l _ (HS.out.mono (by repeat (first | exact Ext.refl _ | assumption | apply Ext.xt | apply Ext.alloc | apply Ext.drew | apply Ext.drewN)))).mono ?_; rintro e w' ⟨rfl, hx⟩; obtain ⟨y, rfl⟩ := hx.get; clear hx)
    | (go_at_call 16; refine (act_Check a _ (HA.out.mono (by repeat (first | exact Ext.refl _ | assumption | apply Ext.xt | apply Ext.alloc | apply Ext.drew | apply Ext.drewN)))).mono ?_; rintro e w' ⟨rfl, hx⟩; obtain ⟨y, rfl⟩ := hx.get; clear hx))
  go_region_law (first
    | (go_simp; go_at_call 103; refine (Clone_A A c l _ (HS.out.sl.mono (by repeat (first | exact Ext.refl _ | assumption | apply Ext.xt | apply Ext.alloc | apply Ext.drew | apply Ext.drewN))) (by omega)).mono ?_; rintro e w' ⟨D, n', rfl, hx, hown⟩; have HC := Lib.hid hown; have HO := Lib.hid (hown.older (show Ext w _ by repeat (first | exact Ext.refl _ | assumption | apply Ext.xt | apply Ext.alloc | apply Ext.drew | apply Ext.drewN))); obtain ⟨yc, rfl⟩ := hx.get; clear hx hown)
    | (go_simp; go_at_call 102; refine (act_until_as A c l _ i HI.out _ (HS.out.mono (by repeat (first | exact Ext.refl _ | assumption | apply Ext.xt | apply Ext.alloc | apply Ext.drew | apply Ext.drewN)))).mono ?_; rintro e w' ⟨rfl, hx⟩; obtain ⟨y, rfl⟩ := hx.get; clear hx)
    | (go_simp; go_at_call 104; refine (InsertA w D n' l i a _ _ (by repeat (first | exact Ext.refl _ | assumption | apply Ext.xt | apply Ext.alloc | apply Ext.drew | apply Ext.drewN)) (HO.out.mono (by repeat (first | exact Ext.refl _ | assumption | apply Ext.xt | apply Ext.alloc | apply Ext.drew | apply Ext.drewN))) (by omega) hi (by repeat (first | (with_reducible refine heap_nw ?_; simp [go_sem]; done) | with_reducible apply heap_xt | with_reducible apply heap_al | with_reducible apply heap_dr)) (fun hk x hx => by first | (have := HC.out.below hk x hx; simp [go_sem] at this ⊢; omega) | (have := HC.out.above hk x hx; simp [go_sem] at this ⊢; omega))).mono ?_; rintro e w' ⟨D1, c1, rfl, hx, hown, hgr⟩; have HO1 := Lib.hid hown; obtain ⟨y1, rfl⟩ := hx.get; clear hx hown hgr))
  all_goals as_aux_lemma =>
    go_wp2
    go_ret2
    rw [HV.out]
    refine ⟨D1, c1, by simp only [ins_len]; rfl, by repeat (first | exact Ext.refl _ | assumption | apply Ext.xt | apply Ext.alloc | apply Ext.drew | apply Ext.drewN), ?_, fun x hx => ?_⟩
    · have := HO1.out.mono (w' := _) (by repeat (first | exact Ext.refl _ | assumption | apply Ext.xt | apply Ext.alloc | apply Ext.drew | apply Ext.drewN))
      rw [HN.out] at this
      simpa only [ins_len] using this
    · rcases ins_mem hx with hx | rfl
      · exact (HS.out.el x hx).mono (by repeat (first | exact Ext.refl _ | assumption | apply Ext.xt | apply Ext.alloc | apply Ext.drew | apply Ext.drewN))
      · exact HA.out.mono (by repeat (first | exact Ext.refl _ | assumption | apply Ext.xt | apply Ext.alloc | apply Ext.drew | apply Ext.drewN))
theorem act_Insert (A : Option Addr) (c : Nat) (l : List Acn) (a : Acn) (w : World) (hs : LogAt w A c l) (ha : AcnAt w a) :
    Calls Tryz.prog 58 #[.slice A l.length c, .agg (acnR a).toArray] w (RetLog w (insertV l a)) := by
  by_cases h : logE l = 0
  · by_cases he : acnE a = 0
    · by_cases hm : l.length = 256
      · exact act_Insert_full A c l a w hs ha h he hm
      · exact act_Insert_main A c l a w hs ha h he hm
    · exact act_Insert_bad A c l a w hs ha h he
  · exact act_Insert_log A c l a w hs ha h
end Go.Proofs.YtlpboikonnpjbaaGreat
