/-
  Chapter 33: the law ActionKeeps.
-/
import Derived.Test.YtbgpcgapkeddpaaGreatGlaw
import Derived.Test.YtbgpcgapkeddpaaGreatDelA
namespace Go.Proofs.YtbgpcgapkeddpaaGreat
open Go.RowKit

/-! ### What was laid in -/
theorem ins_at {l : List Acn} (a : Acn) : (insL l a)[untilL l a.at_]? = some a := by
  have := untilL_le l a.at_
  unfold insL
  rw [List.getElem?_append_right (by simp; omega), List.length_take, Nat.min_eq_left this, Nat.sub_self]
  rfl
theorem ins_del (l : List Acn) (a : Acn) : delAtA (insL l a) (untilL l a.at_) = l := by
  have := untilL_le l a.at_
  have hl : (l.take (untilL l a.at_)).length = untilL l a.at_ := by simp; omega
  unfold delAtA insL
  rw [List.take_append_of_le_length (by omega), List.take_of_length_le (by omega), List.drop_append, List.drop_eq_nil_of_le (by omega), hl, show untilL l a.at_ + 1 - untilL l a.at_ = 1 by omega]
  simp
theorem insert_ok {l : List Acn} {a : Acn} (h : logE l = 0) (ha : acnE a = 0) (hl : l.length ≤ 40) : insertV l a = (insL l a, 0) := by
  unfold insertV
  rw [if_neg (by simpa using h), if_neg (by simpa using ha), if_neg (by omega)]
section
variable (A : Option Addr) (c : Nat) (l : List Acn) (a : Acn) (w : World) (hs : LogAt w A c l) (ha : AcnAt w a)
include hs
set_option maxHeartbeats 1600000 in
set_option maxRecDepth 100000 in
theorem Keeps_bad (hg : ¬ (l.length ≤ 40 ∧ logE l = 0)) :
    Calls Tryz.prog 9 #[.slice A l.length c, .agg (acnR a).toArray] w fun e w' => e = .returned (.bool true) ∧ Ext w w' := by
  have HS := Lib.hid hs
  clear hs
  go_enter Tryz.func9, Tryz.ntmps9
  go_wp2_with (first
    | (go_at_call 18; refine (l33_good_no A c l _ (HS.out.mono (by repeat (first | exact Ext.refl _ | assumption | apply Ext.xt | apply Ext.alloc | apply Ext.drew | apply Ext.drewN))) hg).mono ?_; rintro e w' ⟨rfl, hx⟩; obtain ⟨y, rfl⟩ := hx.get; clear hx)
    | (go_at_call 12; refine (l33_awake _).mono ?_; rintro e w' ⟨rfl, hx⟩; obtain ⟨y, rfl⟩ := hx.get; clear hx))
  go_ret
  exact ⟨rfl, by repeat (first | exact Ext.refl _ | assumption | apply Ext.xt | apply Ext.alloc | apply Ext.drew | apply Ext.drewN)⟩
include ha
set_option maxHeartbeats 1600000 in
set_option maxRecDepth 100000 in
theorem Keeps_wrong (he : acnE a ≠ 0) :
    Calls Tryz.prog 9 #[.slice A l.length c, .agg (acnR a).toArray] w fun e w' => e = .returned (.bool true) ∧ Ext w w' := by
  have HS := Lib.hid hs
  have HA := Lib.hid ha
  have HR := Lib.hid (rangeAt_new w rfl (acnR a) 46)
  have hz : (acnE a != 0) = true := by simpa using he
  clear hs ha he
  go_enter Tryz.func9, Tryz.ntmps9
  go_wp2_with (first
    | (refine wpList_load_row rfl 46 (.tmp 3) rfl w.heap.size 0 rfl (acnR a) _ (rangeAt_mono HR.out (by repeat (first | exact Ext.refl _ | assumption | apply Ext.xt | apply Ext.alloc | apply Ext.drew | apply Ext.drewN))) Tryz.underlying46 rfl (by kernel_rfl) ?_)
    | (go_at_call 18; refine (l33_good A c l _ (HS.out.mono (by repeat (first | exact Ext.refl _ | assumption | apply Ext.xt | apply Ext.alloc | apply Ext.drew | apply Ext.drewN)))).mono ?_; rintro e w' ⟨⟨gb, rfl, -⟩, hx⟩; obtain ⟨y0, rfl⟩ := hx.get; clear hx; cases gb)
    | (go_at_call 11; refine (r33_Few a _).mono ?_; rintro e w' ⟨⟨fa, rfl⟩, hx⟩; obtain ⟨ya, rfl⟩ := hx.get; clear hx; cases fa)
    | (go_at_call 23; refine (r33_Check a _ (HA.out.mono (by repeat (first | exact Ext.refl _ | assumption | apply Ext.xt | apply Ext.alloc | apply Ext.drew | apply Ext.drewN)))).mono ?_; rintro e w' ⟨rfl, hx⟩; obtain ⟨y, rfl⟩ := hx.get; clear hx)
    | (go_at_call 12; refine (l33_awake _).mono ?_; rintro e w' ⟨rfl, hx⟩; obtain ⟨y, rfl⟩ := hx.get; clear hx))
  all_goals (go_ret; exact ⟨rfl, by repeat (first | exact Ext.refl _ | assumption | apply Ext.xt | apply Ext.alloc | apply Ext.drew | apply Ext.drewN)⟩)
set_option maxHeartbeats 6400000 in
set_option maxRecDepth 100000 in
theorem Keeps_main (h40 : l.length ≤ 40) (h0 : logE l = 0) (he : acnE a = 0) :
    Calls Tryz.prog 9 #[.slice A l.length c, .agg (acnR a).toArray] w fun e w' => e = .returned (.bool true) ∧ Ext w w' := by
  have HS := Lib.hid hs
  have HA := Lib.hid ha
  have HR := Lib.hid (rangeAt_new w rfl (acnR a) 46)
  have hz : (acnE a != 0) = false := by simpa using he
  have H1 := Lib.hid (insert_ok h0 he h40)
  have HG := Lib.hid h0
  have HL := Lib.hid (ins_log h0 he (by omega))
  have hu := untilL_le l a.at_
  have HI := Lib.hid (ins_at (l := l) a)
  have HD0 := Lib.hid (ins_del l a)
  have hlen := ins_len l a
  obtain ⟨m, hm⟩ : ∃ m, insL l a = m := ⟨_, rfl⟩
  rw [hm] at H1 HL HI HD0 hlen
  obtain ⟨u, hv⟩ : ∃ u, untilL l a.at_ = u := ⟨_, rfl⟩
  rw [hv] at hu HI HD0
  have HV := Lib.hid hv
  have hlt : (u : Int) < (m.length : Int) := by omega
  have hu0 : (0 : Int) ≤ (u : Int) := by omega
  have hd1 : decide ((u : Int) < 0) = false := by simp
  have hd2 : decide (m.length ≤ u) = false := by simp; omega
  have hw1 : IntKind.i64.wrap ((u : Int) + 1) = (u : Int) + 1 := IntWalk.i64_in _ (by omega)
  have HN := Lib.hid hlen
  clear hs ha he h0 hm hv hlen
  go_enter Tryz.func9, Tryz.ntmps9
  go_upto_region 5 with (first
    | (refine wpList_load_row rfl 46 (.tmp 3) rfl w.heap.size 0 rfl (acnR a) _ (rangeAt_mono HR.out (by repeat (first | exact Ext.refl _ | assumption | apply Ext.xt | apply Ext.alloc | apply Ext.drew | apply Ext.drewN))) Tryz.underlying46 rfl (by kernel_rfl) ?_)
    | (go_at_call 18; refine (l33_good A c l _ (HS.out.mono (by repeat (first | exact Ext.refl _ | assumption | apply Ext.xt | apply Ext.alloc | apply Ext.drew | apply Ext.drewN)))).mono ?_; rintro e w' ⟨⟨gb, rfl, -⟩, hx⟩; obtain ⟨y0, rfl⟩ := hx.get; clear hx; cases gb)
    | (go_at_call 11; refine (r33_Few a _).mono ?_; rintro e w' ⟨⟨fa, rfl⟩, hx⟩; obtain ⟨ya, rfl⟩ := hx.get; clear hx; cases fa)
    | (go_at_call 23; refine (r33_Check a _ (HA.out.mono (by repeat (first | exact Ext.refl _ | assumption | apply Ext.xt | apply Ext.alloc | apply Ext.drew | apply Ext.drewN)))).mono ?_; rintro e w' ⟨rfl, hx⟩; obtain ⟨y, rfl⟩ := hx.get; clear hx)
    | (go_at_call 12; refine (l33_awake _).mono ?_; rintro e w' ⟨rfl, hx⟩; obtain ⟨y, rfl⟩ := hx.get; clear hx)
    | (go_at_call 13; refine (act_Insert_at A c l _ (HS.out.mono (by repeat (first | exact Ext.refl _ | assumption | apply Ext.xt | apply Ext.alloc | apply Ext.drew | apply Ext.drewN))) a m 0 H1.out (HA.out.mono (by repeat (first | exact Ext.refl _ | assumption | apply Ext.xt | apply Ext.alloc | apply Ext.drew | apply Ext.drewN)))).mono ?_; rintro e w' ⟨D, q, rfl, hx, hl⟩; have HD := Lib.hid hl; obtain ⟨⟨b, o, rfl, hr⟩, -⟩ := hl.get HI.out; have HQ := Lib.hid hr; obtain ⟨y1, rfl⟩ := hx.get; clear hx hl hr)
    | (go_at_call 19; refine (act_Until_to A c _ l a.at_ u _ rfl HG.out HV.out (HS.out.mono (by repeat (first | exact Ext.refl _ | assumption | apply Ext.xt | apply Ext.alloc | apply Ext.drew | apply Ext.drewN)))).mono ?_; rintro e w' ⟨rfl, hx⟩; obtain ⟨y, rfl⟩ := hx.get; clear hx))
  all_goals first
    | (go_ret; exact ⟨rfl, by repeat (first | exact Ext.refl _ | assumption | apply Ext.xt | apply Ext.alloc | apply Ext.drew | apply Ext.drewN)⟩)
    | (refine wp_region_grows (by kernel_rfl) (by kernel_rfl) ?_
       repeat (first
        | (go_big_quiet_want; refine quiet_load_row 46 (.tmp 60) rfl b (o + u * 44) rfl (acnR a) _ Tryz.underlying46 rfl (by kernel_rfl) (fun wx hwx => by obtain ⟨yy, rfl⟩ := hwx; exact rangeAt_mono HQ.out (by repeat (first | exact Ext.refl _ | assumption | apply Ext.xt | apply Ext.alloc | apply Ext.drew | apply Ext.drewN))) (by simp [Act.put]; rfl) ?_; go_big_quiet_on)
        | (go_big_quiet_want; refine quiet_load_row 46 (.tmp 3) rfl w.heap.size 0 rfl (acnR a) _ Tryz.underlying46 rfl (by kernel_rfl) (fun wx hwx => by obtain ⟨yy, rfl⟩ := hwx; exact rangeAt_mono HR.out (by repeat (first | exact Ext.refl _ | assumption | apply Ext.xt | apply Ext.alloc | apply Ext.drew | apply Ext.drewN))) (by simp [Act.put]; rfl) ?_; go_big_quiet_on)
        | go_big_quiet_step (first
          | (go_at_call 22; exact Calls.grows (act_Log_to _ q m 0 HL.out _ (HD.out.mono (by repeat (first | exact Ext.refl _ | assumption | apply Ext.xt | apply Ext.alloc | apply Ext.drew | apply Ext.drewN)))))
          | (go_at_call 26; exact Calls.grows (act_Same_self a _ (HA.out.mono (by repeat (first | exact Ext.refl _ | assumption | apply Ext.xt | apply Ext.alloc | apply Ext.drew | apply Ext.drewN)))))))
       refine wpQuiet_nil ?_
       rintro _ ⟨y2, rfl⟩
       go_wp2_with (first
         | (go_at_call 21; refine (Clone_A _ q m _ (HD.out.sl.mono (by repeat (first | exact Ext.refl _ | assumption | apply Ext.xt | apply Ext.alloc | apply Ext.drew | apply Ext.drewN))) (by have := HN.out; omega)).mono ?_; rintro e w' ⟨D3, q3, rfl, hx, hown⟩; have HO := Lib.hid (hown.older (show Ext w _ by repeat (first | exact Ext.refl _ | assumption | apply Ext.xt | apply Ext.alloc | apply Ext.drew | apply Ext.drewN))); obtain ⟨yc, rfl⟩ := hx.get; clear hx hown)
         | (go_at_call 33; refine (Delete_A w D3 q3 m.length l.length m u _ rfl HN.out.symm (by repeat (first | exact Ext.refl _ | assumption | apply Ext.xt | apply Ext.alloc | apply Ext.drew | apply Ext.drewN)) (HO.out.mono (by repeat (first | exact Ext.refl _ | assumption | apply Ext.xt | apply Ext.alloc | apply Ext.drew | apply Ext.drewN))) (by omega)).mono ?_; rintro e w' ⟨D4, q4, rfl, hx, hown⟩; have HO4 := Lib.hid hown; obtain ⟨y4, rfl⟩ := hx.get; clear hx hown)
         | (go_at_call 17; refine (r33_SameLog1 _ _ _ _ l _ (by have ho := HO4.out; rw [HD0.out] at ho; exact ⟨ho.sl.mono (by repeat (first | exact Ext.refl _ | assumption | apply Ext.xt | apply Ext.alloc | apply Ext.drew | apply Ext.drewN)), ho.le, ho.cap, fun x hx => (HS.out.el x hx).mono (by repeat (first | exact Ext.refl _ | assumption | apply Ext.xt | apply Ext.alloc | apply Ext.drew | apply Ext.drewN))⟩) (HS.out.mono (by repeat (first | exact Ext.refl _ | assumption | apply Ext.xt | apply Ext.alloc | apply Ext.drew | apply Ext.drewN)))).mono ?_; rintro e w' ⟨rfl, hx⟩; obtain ⟨y, rfl⟩ := hx.get; clear hx)
         | (go_at_call 12; refine (l33_awake _).mono ?_; rintro e w' ⟨rfl, hx⟩; obtain ⟨y, rfl⟩ := hx.get; clear hx))
       all_goals (go_ret; exact ⟨rfl, by repeat (first | exact Ext.refl _ | assumption | apply Ext.xt | apply Ext.alloc | apply Ext.drew | apply Ext.drewN)⟩))
theorem l33_ActionKeeps : Calls Tryz.prog 9 #[.slice A l.length c, .agg (acnR a).toArray] w fun e w' => e = .returned (.bool true) ∧ Ext w w' := by
  by_cases hg : l.length ≤ 40 ∧ logE l = 0
  · by_cases he : acnE a = 0
    · exact Keeps_main A c l a w hs ha hg.1 hg.2 he
    · exact Keeps_wrong A c l a w hs ha he
  · exact Keeps_bad A c l a w hs hg
end
end Go.Proofs.YtbgpcgapkeddpaaGreat
