/-
  The reference's logs: the check, counts, parts.
-/
import Derived.Test.YtbgpcgapkeddpaaGreatGidl
import Derived.Test.YtbgpcgapkeddpaaGreatGshf
import Derived.Test.YtbgpcgapkeddpaaGreatLoad
import Derived.Test.YtbgpcgapkeddpaaGreatGten
namespace Go.Proofs.YtbgpcgapkeddpaaGreat
open Go.RowKit

theorem r33_Check (a : Acn) (w : World) (ha : AcnAt w a) : Calls Tryz.prog 23 #[.agg (acnR a).toArray] w fun e w' => e = .returned (.int .i64 (acnE a)) ∧ Ext w w' := by
  rw [← r33E_acn]
  exact r33_Check0 a w ha
set_option maxHeartbeats 3200000 in
set_option maxRecDepth 100000 in
theorem r33_Log (A : Option Addr) (c : Nat) (l : List Acn) (w : World) (hs : LogAt w A c l) :
    Calls Tryz.prog 25 #[.slice A l.length c] w fun e w' => e = .returned (.int .i64 (logE l)) ∧ Ext w w' := by
  have hl := Nat.le_trans hs.le hs.cap
  unfold maxLen at hl
  have HS := Lib.hid hs
  clear hs
  by_cases h1 : 256 < l.length
  · have HV := Lib.hid (show logE l = 5 by unfold logE; rw [if_pos h1])
    go_enter Tryz.func25, Tryz.ntmps25
    go_wp2
    go_ret
    exact ⟨ret_i HV.out.symm, Ext.refl _⟩
  · have HM := Lib.hid (show logE l = scan acnS none l by unfold logE; rw [if_neg h1])
    go_enter Tryz.func25, Tryz.ntmps25
    go_wp2
    go_loopw [3, 4] (fun i _ wr => ∃ k : Nat, k ≤ l.length ∧ i = .int .i64 k ∧ Ext w wr ∧ Hid (logE l = scan acnS (prv l k) (l.drop k))) (fun i _ _ => l.length - (intOf i).toNat)
    case atStart => exact ⟨0, by omega, rfl, Ext.refl _, HM⟩
    case round =>
      obtain ⟨k, hk, rfl, hx, HE⟩ := hrel
      obtain ⟨y, rfl⟩ := hx.get
      clear hx HM
      by_cases hlt : k < l.length
      · obtain ⟨m, hm⟩ : ∃ m, l[k]? = some m := ⟨_, List.getElem?_eq_getElem hlt⟩
        obtain ⟨⟨b, o, rfl, hr⟩, hat⟩ := HS.out.get hm
        have HE2 := Lib.hid (HE.out.trans (scan_at acnS l k m hm))
        have hb0 : (0 : Int) ≤ (k : Int) := by omega
        have hb1 : (k : Int) < (l.length : Int) := by omega
        have HR := Lib.hid hr
        have HA := Lib.hid hat
        have hq0 := acn_cell0 hr
        clear HE hr hat
        by_cases he : acnE m = 0
        · have hz : (acnE m != 0) = false := by simpa using he
          have HZ := Lib.hid he
          clear he
          by_cases hk0 : 0 < k
          · obtain ⟨m', hm'⟩ : ∃ m', l[k - 1]? = some m' := ⟨_, List.getElem?_eq_getElem (by omega)⟩
            obtain ⟨⟨b', o', hA, hr'⟩, -⟩ := HS.out.get hm'
            injection hA with hA
            injection hA with e1 e2
            subst e1 e2
            have hp0 := acn_cell0 hr'
            have HP := Lib.hid (show prv l k = some m' by unfold prv; rw [if_neg (by omega), hm'])
            clear hm hm' hr'
            go_wp2_with (first
              | (refine wpList_load_row rfl 46 (.tmp 16) rfl b (o + k * 44) rfl (acnR m) _ (rangeAt_mono HR.out (by repeat (first | exact Ext.refl _ | assumption | apply Ext.xt | apply Ext.alloc | apply Ext.drew | apply Ext.drewN))) Tryz.underlying46 rfl (by kernel_rfl) ?_)
              | (go_at_call 23; refine (r33_Check m _ (HA.out.mono (by repeat (first | exact Ext.refl _ | assumption | apply Ext.xt | apply Ext.alloc | apply Ext.drew | apply Ext.drewN)))).mono ?_; rintro e w' ⟨rfl, hx⟩; obtain ⟨y, rfl⟩ := hx.get; clear hx))
            (refine wp_region_grows (by kernel_rfl) (by kernel_rfl) ?_; (repeat (go_big_quiet_step (fail))); refine wpQuiet_nil ?_; rintro _ ⟨y, rfl⟩)
            go_wp2
            · go_ret
              have hlt' : m.at_ < m'.at_ := by assumption
              refine ⟨ret_i ?_, by repeat (first | exact Ext.refl _ | assumption | apply Ext.xt | apply Ext.alloc | apply Ext.drew | apply Ext.drewN)⟩
              have hS := HE2.out
              rw [HP.out, acnS_lt HZ.out hlt'] at hS
              rw [hS]; rfl
            · have hlt' : ¬ m.at_ < m'.at_ := by omega
              go_light
              refine ⟨⟨k + 1, by omega, by go_num, by repeat (first | exact Ext.refl _ | assumption | apply Ext.xt | apply Ext.alloc | apply Ext.drew | apply Ext.drewN), Lib.hid ?_⟩, by simp [intOf]; omega⟩
              have hS := HE2.out
              rw [HP.out, acnS_ge HZ.out hlt'] at hS
              rw [hS]; rfl
          · have HP : Hid (prv l k = none) := Lib.hid (by unfold prv; rw [if_pos (by omega)])
            obtain rfl : k = 0 := by omega
            clear hm hk0
            go_wp2_with (first
              | (refine wpList_load_row rfl 46 (.tmp 16) rfl b (o + 0 * 44) rfl (acnR m) _ (rangeAt_mono HR.out (by repeat (first | exact Ext.refl _ | assumption | apply Ext.xt | apply Ext.alloc | apply Ext.drew | apply Ext.drewN))) Tryz.underlying46 rfl (by kernel_rfl) ?_)
              | (go_at_call 23; refine (r33_Check m _ (HA.out.mono (by repeat (first | exact Ext.refl _ | assumption | apply Ext.xt | apply Ext.alloc | apply Ext.drew | apply Ext.drewN)))).mono ?_; rintro e w' ⟨rfl, hx⟩; obtain ⟨y, rfl⟩ := hx.get; clear hx))
            (refine wp_region_grows (by kernel_rfl) (by kernel_rfl) ?_; (repeat (go_big_quiet_step (fail))); refine wpQuiet_nil ?_; rintro _ ⟨y, rfl⟩)
            go_wp2
            go_light
            refine ⟨⟨1, by omega, by rfl, by repeat (first | exact Ext.refl _ | assumption | apply Ext.xt | apply Ext.alloc | apply Ext.drew | apply Ext.drewN), Lib.hid ?_⟩, by simp [intOf]; omega⟩
            have hS := HE2.out
            rw [HP.out, acnS_none HZ.out] at hS
            rw [hS]; rfl
        · have hz : (acnE m != 0) = true := by simpa using he
          have HV := Lib.hid (show acnE m = logE l by rw [HE2.out, acnS_err he, if_pos he])
          clear he hm
          go_wp2_with (first
            | (refine wpList_load_row rfl 46 (.tmp 16) rfl b (o + k * 44) rfl (acnR m) _ (rangeAt_mono HR.out (by repeat (first | exact Ext.refl _ | assumption | apply Ext.xt | apply Ext.alloc | apply Ext.drew | apply Ext.drewN))) Tryz.underlying46 rfl (by kernel_rfl) ?_)
            | (go_at_call 23; refine (r33_Check m _ (HA.out.mono (by repeat (first | exact Ext.refl _ | assumption | apply Ext.xt | apply Ext.alloc | apply Ext.drew | apply Ext.drewN)))).mono ?_; rintro e w' ⟨rfl, hx⟩; obtain ⟨y, rfl⟩ := hx.get; clear hx))
          go_ret
          exact ⟨ret_i HV.out, by repeat (first | exact Ext.refl _ | assumption | apply Ext.xt | apply Ext.alloc | apply Ext.drew | apply Ext.drewN)⟩
      · have HV := Lib.hid (HE.out.trans (scan_end acnS l k _ (by omega)))
        go_wp2
        go_ret
        exact ⟨ret_i HV.out.symm, by repeat (first | exact Ext.refl _ | assumption | apply Ext.xt | apply Ext.alloc | apply Ext.drew | apply Ext.drewN)⟩

theorem filter_step {α : Type} (p : α → Bool) {l : List α} {k : Nat} {m : α} (hm : l[k]? = some m) : (l.take (k + 1)).filter p = (l.take k).filter p ++ if p m = true then [m] else [] := by
  obtain ⟨hk, he⟩ := List.getElem?_eq_some_iff.1 hm
  rw [List.take_succ_eq_append_getElem hk, he, List.filter_append]
  congr 1
  by_cases hp : p m = true
  · rw [List.filter_cons_of_pos hp, if_pos hp]; rfl
  · rw [List.filter_cons_of_neg hp, if_neg hp]; rfl
theorem cntL_yes {l : List Acn} {k : Nat} {m : Acn} {t : Int} (hm : l[k]? = some m) (h : m.at_ ≤ t) : cntL (l.take (k + 1)) t = cntL (l.take k) t + 1 := by
  unfold cntL
  rw [filter_step _ hm, if_pos (by simpa using h), List.length_append]; rfl
theorem cntL_no {l : List Acn} {k : Nat} {m : Acn} {t : Int} (hm : l[k]? = some m) (h : ¬ m.at_ ≤ t) : cntL (l.take (k + 1)) t = cntL (l.take k) t := by
  unfold cntL
  rw [filter_step _ hm, if_neg (by simpa using h), List.append_nil]
set_option maxHeartbeats 1600000 in
set_option maxRecDepth 100000 in
theorem r33_Count (A : Option Addr) (c : Nat) (l : List Acn) (t : Int) (w : World) (hs : LogAt w A c l) :
    Calls Tryz.prog 53 #[.slice A l.length c, .int .i64 t] w fun e w' => e = .returned (.int .i64 (cntL l t : Int)) ∧ Ext w w' := by
  have hl := Nat.le_trans hs.le hs.cap
  unfold maxLen at hl
  have HS := Lib.hid hs
  clear hs
  go_enter Tryz.func53, Tryz.ntmps53
  go_wp2
  go_loopw [5, 6] (fun s i wr => ∃ k n : Nat, k ≤ l.length ∧ n ≤ k ∧ i = .int .i64 k ∧ s = .int .i64 n ∧ Ext w wr ∧ Hid (cntL (l.take k) t = n)) (fun _ i _ => l.length - (intOf i).toNat)
  case atStart => exact ⟨0, 0, by omega, by omega, rfl, rfl, Ext.refl _, Lib.hid rfl⟩
  case round =>
    obtain ⟨k, n, hk, hn, rfl, rfl, hx, HE⟩ := hrel
    obtain ⟨y, rfl⟩ := hx.get
    clear hx
    by_cases hlt : k < l.length
    · obtain ⟨m, hm⟩ : ∃ m, l[k]? = some m := ⟨_, List.getElem?_eq_getElem hlt⟩
      obtain ⟨⟨b, o, rfl, hr⟩, -⟩ := HS.out.get hm
      have hq0 := acn_cell0 hr
      have hb0 : (0 : Int) ≤ (k : Int) := by omega
      have hb1 : (k : Int) < (l.length : Int) := by omega
      have HM := Lib.hid hm
      clear hr hm
      by_cases h : m.at_ ≤ t
      · go_wp2
        go_light
        exact ⟨⟨k + 1, n + 1, by omega, by omega, by go_num, by go_num, by repeat (first | exact Ext.refl _ | assumption | apply Ext.xt | apply Ext.alloc | apply Ext.drew | apply Ext.drewN), Lib.hid (by rw [cntL_yes HM.out h, HE.out])⟩, by simp [intOf]; omega⟩
      · go_wp2
        go_light
        exact ⟨⟨k + 1, n, by omega, by omega, by go_num, rfl, by repeat (first | exact Ext.refl _ | assumption | apply Ext.xt | apply Ext.alloc | apply Ext.drew | apply Ext.drewN), Lib.hid (by rw [cntL_no HM.out h, HE.out])⟩, by simp [intOf]; omega⟩
    · have HV := Lib.hid (show (n : Int) = (cntL l t : Int) by
        have := HE.out
        rw [List.take_of_length_le (by omega)] at this
        rw [this])
      go_wp2
      go_ret
      exact ⟨ret_i HV.out, by repeat (first | exact Ext.refl _ | assumption | apply Ext.xt | apply Ext.alloc | apply Ext.drew | apply Ext.drewN)⟩
theorem r33_Count_log (A : Option Addr) (c : Nat) (l : List Acn) (t : Int) (w : World) (hs : LogAt w A c l) (h : logE l = 0) :
    Calls Tryz.prog 53 #[.slice A l.length c, .int .i64 t] w fun e w' => e = .returned (.int .i64 (untilL l t : Int)) ∧ Ext w w' := by
  rw [← cntL_until ((logE_iff l).1 h).2.2]
  exact r33_Count A c l t w hs
set_option maxHeartbeats 800000 in
set_option maxRecDepth 100000 in
theorem r33_Until (A : Option Addr) (c : Nat) (l : List Acn) (t : Int) (w : World) (hs : LogAt w A c l) :
    Calls Tryz.prog 28 #[.slice A l.length c, .int .i64 t] w fun e w' => e = .returned (.tuple #[.int .i64 (untilV l t).1, .int .i64 (untilV l t).2]) ∧ Ext w w' := by
  have HS := Lib.hid hs
  clear hs
  by_cases h : logE l = 0
  · have hz : (logE l != 0) = false := by simpa using h
    have HZ := Lib.hid h
    have HV := Lib.hid (show untilV l t = ((untilL l t : Int), 0) by unfold untilV; rw [if_neg (by simpa using h)])
    clear h
    go_enter Tryz.func28, Tryz.ntmps28
    go_wp2_with (first | (go_at_call 25; refine (r33_Log A c l _ HS.out).mono ?_; rintro e w' ⟨rfl, hx⟩; obtain ⟨y, rfl⟩ := hx.get; clear hx) | (go_at_call 53; refine (r33_Count_log A c l t _ (HS.out.mono (by repeat (first | exact Ext.refl _ | assumption | apply Ext.xt | apply Ext.alloc | apply Ext.drew | apply Ext.drewN))) HZ.out).mono ?_; rintro e w' ⟨rfl, hx⟩; obtain ⟨y, rfl⟩ := hx.get; clear hx))
    go_ret2
    rw [HV.out]
    exact ⟨rfl, by repeat (first | exact Ext.refl _ | assumption | apply Ext.xt | apply Ext.alloc | apply Ext.drew | apply Ext.drewN)⟩
  · have hz : (logE l != 0) = true := by simpa using h
    have HV := Lib.hid (show untilV l t = (0, logE l) by unfold untilV; rw [if_pos h])
    clear h
    go_enter Tryz.func28, Tryz.ntmps28
    go_wp2_with (go_at_call 25; refine (r33_Log A c l _ HS.out).mono ?_; rintro e w' ⟨rfl, hx⟩; obtain ⟨y, rfl⟩ := hx.get; clear hx)
    go_ret2
    rw [HV.out]
    exact ⟨rfl, by repeat (first | exact Ext.refl _ | assumption | apply Ext.xt | apply Ext.alloc | apply Ext.drew | apply Ext.drewN)⟩

theorem btwL_yes {l : List Acn} {j : Nat} {m : Acn} {i k : Int} (hm : l[j]? = some m) (h1 : i < m.at_) (h2 : m.at_ ≤ k) : btwL (l.take (j + 1)) i k = btwL (l.take j) i k ++ [m] := by
  unfold btwL
  rw [filter_step _ hm, if_pos (by simp; omega)]
theorem btwL_no {l : List Acn} {j : Nat} {m : Acn} {i k : Int} (hm : l[j]? = some m) (h : ¬ (i < m.at_ ∧ m.at_ ≤ k)) : btwL (l.take (j + 1)) i k = btwL (l.take j) i k := by
  unfold btwL
  rw [filter_step _ hm, if_neg (by simpa using h), List.append_nil]
theorem btwL_mem {l : List Acn} {j : Nat} {i k : Int} {a : Acn} (h : a ∈ btwL (l.take j) i k) : a ∈ l := List.mem_of_mem_take (List.mem_filter.1 h).1
set_option maxHeartbeats 3200000 in
set_option maxRecDepth 100000 in
theorem r33_Between (A : Option Addr) (c : Nat) (l : List Acn) (t u : Int) (w : World) (hs : LogAt w A c l) :
    Calls Tryz.prog 29 #[.slice A l.length c, .int .i64 t, .int .i64 u] w (RetLog w (betweenV l t u)) := by
  have HS := Lib.hid hs
  clear hs
  by_cases h : logE l = 0
  · have hz : (logE l != 0) = false := by simpa using h
    have h256 := (logE_ok h).1
    have HV := Lib.hid (betweenV_ok h t u)
    clear h
    go_enter Tryz.func29, Tryz.ntmps29
    go_wp2_with (go_at_call 25; refine (r33_Log A c l _ HS.out).mono ?_; rintro e w' ⟨rfl, hx⟩; obtain ⟨y, rfl⟩ := hx.get; clear hx)
    go_loopw [9, 10] (fun s i wr => ∃ (j : Nat) (D : Option Addr) (q d : Nat) (ol : List Acn), j ≤ l.length ∧ i = .int .i64 j ∧ s = .slice D q d ∧ q = ol.length ∧ q ≤ j ∧ Hid (ol = btwL (l.take j) t u) ∧ Ext w wr ∧ Hid (Own w wr 46 44 D q d (ol.map acnR))) (fun _ i _ => l.length - (intOf i).toNat)
    case atStart => exact ⟨0, none, 0, 0, [], by omega, rfl, rfl, rfl, by omega, Lib.hid (by simp [btwL]), by repeat (first | exact Ext.refl _ | assumption | apply Ext.xt | apply Ext.alloc | apply Ext.drew | apply Ext.drewN), Lib.hid (Own.nil _)⟩
    case round =>
      obtain ⟨j, D, q, d, ol, hj, rfl, rfl, hq, hqj, HE, hx, HO⟩ := hrel
      obtain ⟨y, rfl⟩ := hx.get
      have HQ := Lib.hid hq
      clear hx hq
      by_cases hlt : j < l.length
      · obtain ⟨m, hm⟩ : ∃ m, l[j]? = some m := ⟨_, List.getElem?_eq_getElem hlt⟩
        obtain ⟨⟨b, o, rfl, hr⟩, -⟩ := HS.out.get hm
        have hq0 := acn_cell0 hr
        have hb0 : (0 : Int) ≤ (j : Int) := by omega
        have hb1 : (j : Int) < (l.length : Int) := by omega
        have HR := Lib.hid hr
        have HM := Lib.hid hm
        clear hr hm
        by_cases h1 : t < m.at_
        · by_cases h2 : m.at_ ≤ u
          · have HI := Lib.hid (btwL_yes HM.out h1 h2)
            go_wp2_with (first
              | (refine wpList_load_row rfl 46 (.tmp 41) rfl b (o + j * 44) rfl (acnR m) _ (rangeAt_mono HR.out (by repeat (first | exact Ext.refl _ | assumption | apply Ext.xt | apply Ext.alloc | apply Ext.drew | apply Ext.drewN))) Tryz.underlying46 rfl (by kernel_rfl) ?_)
              | (at_builtin; refine wpList_append_mine (w0 := w) rfl _ _ 22 22 rfl 46 46 44 544 Tryz.underlying22 Tryz.underlying22 info_A (by decide) (by repeat (first | exact Ext.refl _ | assumption | apply Ext.xt | apply Ext.alloc | apply Ext.drew | apply Ext.drewN)) D q d (ol.map acnR) rfl (HO.out.mono (by repeat (first | exact Ext.refl _ | assumption | apply Ext.xt | apply Ext.alloc | apply Ext.drew | apply Ext.drewN))) _ 1 1 [acnR m] rfl (Sl.alloc' (by simp [go_sem]) (by simp) (acnR_rows [m])) rfl (acnR_ones1 m) (by unfold maxLen; omega) (by omega) (q + 1) rfl (ol.map acnR ++ [acnR m]) rfl ?_; intro D1 c1 w1 hx1 hown hg hA; have HO := Lib.hid hown; obtain ⟨y1, rfl⟩ := hx1.get; clear hown hx1 hg hA))
            go_light
            exact ⟨⟨j + 1, D1, q + 1, c1, ol ++ [m], by omega, by go_num, rfl, by have := HQ.out; simp; omega, by omega, Lib.hid (by rw [HI.out, HE.out]), by repeat (first | exact Ext.refl _ | assumption | apply Ext.xt | apply Ext.alloc | apply Ext.drew | apply Ext.drewN), Lib.hid (by rw [List.map_append]; exact HO.out.mono (by repeat (first | exact Ext.refl _ | assumption | apply Ext.xt | apply Ext.alloc | apply Ext.drew | apply Ext.drewN)))⟩, by simp [intOf]; omega⟩
          · have HI := Lib.hid (btwL_no HM.out (show ¬ (t < m.at_ ∧ m.at_ ≤ u) by omega))
            go_wp2
            go_light
            exact ⟨⟨j + 1, D, q, d, ol, by omega, by go_num, rfl, HQ.out, by omega, Lib.hid (by rw [HI.out, HE.out]), by repeat (first | exact Ext.refl _ | assumption | apply Ext.xt | apply Ext.alloc | apply Ext.drew | apply Ext.drewN), Lib.hid (HO.out.mono (by repeat (first | exact Ext.refl _ | assumption | apply Ext.xt | apply Ext.alloc | apply Ext.drew | apply Ext.drewN)))⟩, by simp [intOf]; omega⟩
        · have HI := Lib.hid (btwL_no HM.out (show ¬ (t < m.at_ ∧ m.at_ ≤ u) by omega))
          go_wp2
          go_light
          exact ⟨⟨j + 1, D, q, d, ol, by omega, by go_num, rfl, HQ.out, by omega, Lib.hid (by rw [HI.out, HE.out]), by repeat (first | exact Ext.refl _ | assumption | apply Ext.xt | apply Ext.alloc | apply Ext.drew | apply Ext.drewN), Lib.hid (HO.out.mono (by repeat (first | exact Ext.refl _ | assumption | apply Ext.xt | apply Ext.alloc | apply Ext.drew | apply Ext.drewN)))⟩, by simp [intOf]; omega⟩
      · have HE2 := Lib.hid (show ol = btwL l t u by rw [HE.out, List.take_of_length_le (by omega)])
        go_wp2
        go_ret2
        rw [HV.out]
        have h1 := HE2.out
        have h2 := HQ.out
        subst h1 h2
        exact ⟨D, d, rfl, by repeat (first | exact Ext.refl _ | assumption | apply Ext.xt | apply Ext.alloc | apply Ext.drew | apply Ext.drewN), HO.out, fun a ha => (HS.out.el a (List.mem_filter.1 ha).1).mono (by repeat (first | exact Ext.refl _ | assumption | apply Ext.xt | apply Ext.alloc | apply Ext.drew | apply Ext.drewN))⟩
  · have hz : (logE l != 0) = true := by simpa using h
    have HV := Lib.hid (show betweenV l t u = ([], logE l) by unfold betweenV; rw [if_pos h])
    clear h
    go_enter Tryz.func29, Tryz.ntmps29
    go_wp2_with (go_at_call 25; refine (r33_Log A c l _ HS.out).mono ?_; rintro e w' ⟨rfl, hx⟩; obtain ⟨y, rfl⟩ := hx.get; clear hx)
    go_ret2
    exact RetLog.err HV.out (by repeat (first | exact Ext.refl _ | assumption | apply Ext.xt | apply Ext.alloc | apply Ext.drew | apply Ext.drewN))
set_option maxHeartbeats 3200000 in
set_option maxRecDepth 100000 in
theorem r33_Edits (A : Option Addr) (c : Nat) (l : List Acn) (w : World) (hs : LogAt w A c l) :
    Calls Tryz.prog 31 #[.slice A l.length c] w (RetInts2 w (editsV l)) := by
  have HS := Lib.hid hs
  have hl := Nat.le_trans hs.le hs.cap
  unfold maxLen at hl
  clear hs
  by_cases h : logE l = 0
  · have hz : (logE l != 0) = false := by simpa using h
    have h256 := (logE_ok h).1
    have HV := Lib.hid (show editsV l = (idxsE l l.length, 0) by unfold editsV; rw [if_neg (by simpa using h)])
    have HK := Lib.hid (show ∀ a ∈ l, a.kind < 20 from fun a ha => by
      have := ((logE_iff l).1 h).2.1 a ha
      unfold acnE at this
      split at this
      · omega
      · omega)
    clear h
    go_enter Tryz.func31, Tryz.ntmps31
    go_wp2_with (go_at_call 25; refine (r33_Log A c l _ HS.out).mono ?_; rintro e w' ⟨rfl, hx⟩; obtain ⟨y, rfl⟩ := hx.get; clear hx)
    go_loopw [5, 6] (fun s i wr => ∃ (j : Nat) (D : Option Addr) (q d : Nat) (ol : List Int), j ≤ l.length ∧ i = .int .i64 j ∧ s = .slice D q d ∧ q = ol.length ∧ q ≤ j ∧ Hid (ol = idxsE l j) ∧ Ext w wr ∧ Hid (Own w wr 3 1 D q d (ol.map intR))) (fun _ i _ => l.length - (intOf i).toNat)
    case atStart => exact ⟨0, none, 0, 0, [], by omega, rfl, rfl, rfl, by omega, Lib.hid (by simp [idxsE]), by repeat (first | exact Ext.refl _ | assumption | apply Ext.xt | apply Ext.alloc | apply Ext.drew | apply Ext.drewN), Lib.hid (Own.nil _)⟩
    case round =>
      obtain ⟨j, D, q, d, ol, hj, rfl, rfl, hq, hqj, HE, hx, HO⟩ := hrel
      obtain ⟨y, rfl⟩ := hx.get
      have HQ := Lib.hid hq
      clear hx hq
      by_cases hlt : j < l.length
      · obtain ⟨m, hm⟩ : ∃ m, l[j]? = some m := ⟨_, List.getElem?_eq_getElem hlt⟩
        obtain ⟨⟨b, o, rfl, hr⟩, -⟩ := HS.out.get hm
        have hq1 := acn_cell1 hr
        have hk20 := HK.out m (List.mem_of_getElem? hm)
        have hb0 : (0 : Int) ≤ (j : Int) := by omega
        have hb1 : (j : Int) < (l.length : Int) := by omega
        have HM := Lib.hid hm
        clear hr hm
        by_cases h1 : 17 ≤ m.kind
        · have HI := Lib.hid (idxsE_yes HM.out (show isEd m = true from decide_eq_true (by omega)))
          go_wp2_with (at_builtin; refine wpList_append_mine (w0 := w) rfl _ _ 25 25 rfl 3 3 1 8 Tryz.underlying25 Tryz.underlying25 info_int (by decide) (by repeat (first | exact Ext.refl _ | assumption | apply Ext.xt | apply Ext.alloc | apply Ext.drew | apply Ext.drewN)) D q d (ol.map intR) rfl (HO.out.mono (by repeat (first | exact Ext.refl _ | assumption | apply Ext.xt | apply Ext.alloc | apply Ext.drew | apply Ext.drewN))) _ 1 1 [intR (j : Int)] rfl (Sl.alloc' (by simp [go_sem]) rfl (by simp [intR])) rfl (intR_one [(j : Int)]) (by unfold maxLen; omega) (by omega) (q + 1) rfl (ol.map intR ++ [intR (j : Int)]) rfl ?_; intro D1 c1 w1 hx1 hown hg hA; have HO := Lib.hid hown; obtain ⟨y1, rfl⟩ := hx1.get; clear hown hx1 hg hA)
          go_light
          exact ⟨⟨j + 1, D1, q + 1, c1, ol ++ [(j : Int)], by omega, by go_num, rfl, by have := HQ.out; simp; omega, by omega, Lib.hid (by rw [HI.out, HE.out]), by repeat (first | exact Ext.refl _ | assumption | apply Ext.xt | apply Ext.alloc | apply Ext.drew | apply Ext.drewN), Lib.hid (by rw [List.map_append]; exact HO.out.mono (by repeat (first | exact Ext.refl _ | assumption | apply Ext.xt | apply Ext.alloc | apply Ext.drew | apply Ext.drewN)))⟩, by simp [intOf]; omega⟩
        · have HI := Lib.hid (idxsE_no HM.out (show isEd m = false from decide_eq_false (by omega)))
          go_wp2
          go_light
          exact ⟨⟨j + 1, D, q, d, ol, by omega, by go_num, rfl, HQ.out, by omega, Lib.hid (by rw [HI.out, HE.out]), by repeat (first | exact Ext.refl _ | assumption | apply Ext.xt | apply Ext.alloc | apply Ext.drew | apply Ext.drewN), Lib.hid (HO.out.mono (by repeat (first | exact Ext.refl _ | assumption | apply Ext.xt | apply Ext.alloc | apply Ext.drew | apply Ext.drewN)))⟩, by simp [intOf]; omega⟩
      · have HE2 := Lib.hid (show ol = idxsE l l.length by rw [HE.out]; congr 1; omega)
        go_wp2
        go_ret2
        rw [HV.out]
        have h1 := HE2.out
        have h2 := HQ.out
        subst h1 h2
        exact ⟨D, d, rfl, by repeat (first | exact Ext.refl _ | assumption | apply Ext.xt | apply Ext.alloc | apply Ext.drew | apply Ext.drewN), HO.out⟩
  · have hz : (logE l != 0) = true := by simpa using h
    have HV := Lib.hid (show editsV l = ([], logE l) by unfold editsV; rw [if_pos h])
    clear h
    go_enter Tryz.func31, Tryz.ntmps31
    go_wp2_with (go_at_call 25; refine (r33_Log A c l _ HS.out).mono ?_; rintro e w' ⟨rfl, hx⟩; obtain ⟨y, rfl⟩ := hx.get; clear hx)
    go_ret2
    rw [HV.out]
    exact ⟨none, 0, rfl, by repeat (first | exact Ext.refl _ | assumption | apply Ext.xt | apply Ext.alloc | apply Ext.drew | apply Ext.drewN), Own.nil _⟩
end Go.Proofs.YtbgpcgapkeddpaaGreat

/-
  Small edits, actions and logs: whether they are is some answer.
-/
namespace Go.Proofs.YtbgpcgapkeddpaaGreat
open Go.RowKit

set_option maxHeartbeats 800000 in
set_option maxRecDepth 100000 in
theorem r15_Few1 (b n c : Nat) (A : Option Addr) (w : World) (h : w.cell? ⟨b, 1, none⟩ = some (.slice A n c)) : Calls Tryz.prog 55 #[.slice (some ⟨b, 0, none⟩) 1 1] w fun e w' => e = .returned (.bool (decide (n ≤ 512))) ∧ Ext w w' := by
  go_enter Tryz.func55, Tryz.ntmps55
  go_wp2
  go_loopw [3] (fun q wr => ∃ k : Nat, k ≤ 1 ∧ q = .int .i64 k ∧ Ext w wr ∧ Hid (k = 1 → n ≤ 512)) (fun q _ => 1 - (intOf q).toNat)
  case atStart => exact ⟨0, by omega, rfl, Ext.refl _, Lib.hid (by omega)⟩
  case round =>
    obtain ⟨k, hk, rfl, hx, HE⟩ := hrel
    obtain ⟨y, rfl⟩ := hx.get
    clear hx
    match k, hk with
    | 0, _ =>
      by_cases hn : 512 < n
      · go_wp2
        go_ret
        exact ⟨ret_b (decide_eq_false (by omega)).symm, by repeat (first | exact Ext.refl _ | assumption | apply Ext.xt | apply Ext.alloc | apply Ext.drew | apply Ext.drewN)⟩
      · go_wp2
        go_light
        exact ⟨⟨1, by omega, by rfl, by repeat (first | exact Ext.refl _ | assumption | apply Ext.xt | apply Ext.alloc | apply Ext.drew | apply Ext.drewN), Lib.hid fun _ => by omega⟩, by simp [intOf]⟩
    | 1, _ =>
      have HV := Lib.hid (HE.out rfl)
      go_wp2
      go_ret
      exact ⟨ret_b (by have h := HV.out; symm; simpa using h), by repeat (first | exact Ext.refl _ | assumption | apply Ext.xt | apply Ext.alloc | apply Ext.drew | apply Ext.drewN)⟩
    | k + 2, hk => exact absurd hk (by omega)
set_option maxHeartbeats 800000 in
set_option maxRecDepth 100000 in
theorem r14_Few1 (b n c : Nat) (A : Option Addr) (w : World) (h : w.cell? ⟨b, 1, none⟩ = some (.slice A n c)) : Calls Tryz.prog 56 #[.slice (some ⟨b, 0, none⟩) 1 1] w fun e w' => e = .returned (.bool (decide (n ≤ 40 ∨ 256 < n))) ∧ Ext w w' := by
  go_enter Tryz.func56, Tryz.ntmps56
  go_wp2
  go_loopw [3] (fun q wr => ∃ k : Nat, k ≤ 1 ∧ q = .int .i64 k ∧ Ext w wr ∧ Hid (k = 1 → n ≤ 40 ∨ 256 < n)) (fun q _ => 1 - (intOf q).toNat)
  case atStart => exact ⟨0, by omega, rfl, Ext.refl _, Lib.hid (by omega)⟩
  case round =>
    obtain ⟨k, hk, rfl, hx, HE⟩ := hrel
    obtain ⟨y, rfl⟩ := hx.get
    clear hx
    match k, hk with
    | 0, _ =>
      by_cases h1 : 40 < n
      · by_cases h2 : n ≤ 256
        · go_wp2
          go_ret
          exact ⟨ret_b (decide_eq_false (by omega)).symm, by repeat (first | exact Ext.refl _ | assumption | apply Ext.xt | apply Ext.alloc | apply Ext.drew | apply Ext.drewN)⟩
        · go_wp2
          go_light
          exact ⟨⟨1, by omega, by rfl, by repeat (first | exact Ext.refl _ | assumption | apply Ext.xt | apply Ext.alloc | apply Ext.drew | apply Ext.drewN), Lib.hid fun _ => by omega⟩, by simp [intOf]⟩
      · go_wp2
        go_light
        exact ⟨⟨1, by omega, by rfl, by repeat (first | exact Ext.refl _ | assumption | apply Ext.xt | apply Ext.alloc | apply Ext.drew | apply Ext.drewN), Lib.hid fun _ => by omega⟩, by simp [intOf]⟩
    | 1, _ =>
      have HV := Lib.hid (HE.out rfl)
      go_wp2
      go_ret
      exact ⟨ret_b (by have h := HV.out; symm; simpa using h), by repeat (first | exact Ext.refl _ | assumption | apply Ext.xt | apply Ext.alloc | apply Ext.drew | apply Ext.drewN)⟩
    | k + 2, hk => exact absurd hk (by omega)
set_option maxHeartbeats 800000 in
set_option maxRecDepth 100000 in
theorem r26_Few1 (b n c : Nat) (A : Option Addr) (w : World) (h : w.cell? ⟨b, 3, none⟩ = some (.slice A n c)) : Calls Tryz.prog 57 #[.slice (some ⟨b, 0, none⟩) 1 1] w fun e w' => e = .returned (.bool (decide (n ≤ 30 ∨ 128 < n))) ∧ Ext w w' := by
  go_enter Tryz.func57, Tryz.ntmps57
  go_wp2
  go_loopw [3] (fun q wr => ∃ k : Nat, k ≤ 1 ∧ q = .int .i64 k ∧ Ext w wr ∧ Hid (k = 1 → n ≤ 30 ∨ 128 < n)) (fun q _ => 1 - (intOf q).toNat)
  case atStart => exact ⟨0, by omega, rfl, Ext.refl _, Lib.hid (by omega)⟩
  case round =>
    obtain ⟨k, hk, rfl, hx, HE⟩ := hrel
    obtain ⟨y, rfl⟩ := hx.get
    clear hx
    match k, hk with
    | 0, _ =>
      by_cases h1 : 30 < n
      · by_cases h2 : n ≤ 128
        · go_wp2
          go_ret
          exact ⟨ret_b (decide_eq_false (by omega)).symm, by repeat (first | exact Ext.refl _ | assumption | apply Ext.xt | apply Ext.alloc | apply Ext.drew | apply Ext.drewN)⟩
        · go_wp2
          go_light
          exact ⟨⟨1, by omega, by rfl, by repeat (first | exact Ext.refl _ | assumption | apply Ext.xt | apply Ext.alloc | apply Ext.drew | apply Ext.drewN), Lib.hid fun _ => by omega⟩, by simp [intOf]⟩
      · go_wp2
        go_light
        exact ⟨⟨1, by omega, by rfl, by repeat (first | exact Ext.refl _ | assumption | apply Ext.xt | apply Ext.alloc | apply Ext.drew | apply Ext.drewN), Lib.hid fun _ => by omega⟩, by simp [intOf]⟩
    | 1, _ =>
      have HV := Lib.hid (HE.out rfl)
      go_wp2
      go_ret
      exact ⟨ret_b (by have h := HV.out; symm; simpa using h), by repeat (first | exact Ext.refl _ | assumption | apply Ext.xt | apply Ext.alloc | apply Ext.drew | apply Ext.drewN)⟩
    | k + 2, hk => exact absurd hk (by omega)
set_option maxHeartbeats 800000 in
set_option maxRecDepth 100000 in
theorem r28_Few1 (b : Nat) (w : World) : Calls Tryz.prog 58 #[.slice (some ⟨b, 0, none⟩) 1 1, .slice none 0 0] w fun e w' => e = .returned (.bool true) ∧ Ext w w' := by
  go_enter Tryz.func58, Tryz.ntmps58
  go_wp2
  refine wp_loop_rounds 1 ?_
  rw [rounds_succ]
  go_wp2
  go_ret
  exact ⟨rfl, by repeat (first | exact Ext.refl _ | assumption | apply Ext.xt | apply Ext.alloc | apply Ext.drew | apply Ext.drewN)⟩
set_option maxHeartbeats 400000 in
set_option maxRecDepth 100000 in
theorem r15_FewEnts (A : Option Addr) (n c : Nat) (w : World) : Calls Tryz.prog 34 #[.slice A n c] w fun e w' => e = .returned (.bool (decide (n ≤ 200 ∨ 4096 < n))) ∧ w = w' := by
  go_enter Tryz.func34, Tryz.ntmps34
  go_wp2
  all_goals
    go_ret
    refine ⟨ret_b ?_, rfl⟩
    go_light
    grind
def SomeB (w : World) (e : Ending) (w' : World) : Prop := (∃ b : Bool, e = .returned (.bool b)) ∧ Ext w w'
set_option maxHeartbeats 3200000 in
set_option maxRecDepth 100000 in
theorem r32_FewEdit (e : Edit) (w : World) : Calls Tryz.prog 35 #[.agg (editR e).toArray] w (SomeB w) := by
  go_enter Tryz.func35, Tryz.ntmps35
  go_upto_region 1 with fail
  refine wp_region_strip (l' := ?l2) ?hl ?_
  case hl =>
    simp only [List.map_cons, List.map_nil, stripO]
    rfl
  go_wp2_with (first
    | (go_at_call 54; refine (r16_Few e.cue e.cA e.ck e.cB e.cm _).mono ?_; rintro e w' ⟨rfl, hx⟩; obtain ⟨y, rfl⟩ := hx.get; clear hx)
    | (go_at_call 55; refine (r15_Few1 _ e.hues.l.length e.hues.cap e.hues.at_ _ (by simp [go_sem])).mono ?_; rintro e w' ⟨rfl, hx⟩; obtain ⟨y, rfl⟩ := hx.get; clear hx)
    | (go_at_call 56; refine (r14_Few1 _ e.chans.l.length e.chans.cap e.chans.at_ _ (by simp [go_sem])).mono ?_; rintro e w' ⟨rfl, hx⟩; obtain ⟨y, rfl⟩ := hx.get; clear hx)
    | (go_at_call 57; refine (r26_Few1 _ e.sub.gains.l.length e.sub.gains.cap e.sub.gains.at_ _ (by simp [go_sem])).mono ?_; rintro e w' ⟨rfl, hx⟩; obtain ⟨y, rfl⟩ := hx.get; clear hx)
    | (go_at_call 58; refine (r28_Few1 _ _).mono ?_; rintro e w' ⟨rfl, hx⟩; obtain ⟨y, rfl⟩ := hx.get; clear hx))
  all_goals
    go_ret
    exact ⟨⟨_, rfl⟩, by repeat (first | exact Ext.refl _ | assumption | apply Ext.xt | apply Ext.alloc | apply Ext.drew | apply Ext.drewN)⟩
section
variable (a : Acn) (w : World)
set_option maxHeartbeats 1600000 in
set_option maxRecDepth 100000 in
theorem Few_1 (h1 : 40 < a.cue.size) : Calls Tryz.prog 11 #[.agg (acnR a).toArray] w (SomeB w) := by
  go_enter Tryz.func11, Tryz.ntmps11
  go_wp2
  go_ret
  exact ⟨⟨_, rfl⟩, by repeat (first | exact Ext.refl _ | assumption | apply Ext.xt | apply Ext.alloc | apply Ext.drew | apply Ext.drewN)⟩
set_option maxHeartbeats 1600000 in
set_option maxRecDepth 100000 in
theorem Few_2 (h1 : ¬ 40 < a.cue.size) (h2 : decide (a.entries.l.length ≤ 200 ∨ 4096 < a.entries.l.length) = false) : Calls Tryz.prog 11 #[.agg (acnR a).toArray] w (SomeB w) := by
  have HE := Lib.hid h2
  clear h2
  go_enter Tryz.func11, Tryz.ntmps11
  go_wp2_with (go_at_call 34; refine (r15_FewEnts _ _ _ _).mono ?_; rintro e w' ⟨he, rfl⟩; rw [HE.out] at he; subst he)
  go_ret
  exact ⟨⟨_, rfl⟩, by repeat (first | exact Ext.refl _ | assumption | apply Ext.xt | apply Ext.alloc | apply Ext.drew | apply Ext.drewN)⟩
set_option maxHeartbeats 1600000 in
set_option maxRecDepth 100000 in
theorem Few_3 (h1 : ¬ 40 < a.cue.size) (h2 : decide (a.entries.l.length ≤ 200 ∨ 4096 < a.entries.l.length) = true) (h3 : 200 < a.params.l.length) (h4 : a.params.l.length ≤ 4096) : Calls Tryz.prog 11 #[.agg (acnR a).toArray] w (SomeB w) := by
  have HE := Lib.hid h2
  clear h2
  go_enter Tryz.func11, Tryz.ntmps11
  go_wp2_with (go_at_call 34; refine (r15_FewEnts _ _ _ _).mono ?_; rintro e w' ⟨he, rfl⟩; rw [HE.out] at he; subst he)
  go_ret
  exact ⟨⟨_, rfl⟩, by repeat (first | exact Ext.refl _ | assumption | apply Ext.xt | apply Ext.alloc | apply Ext.drew | apply Ext.drewN)⟩
set_option maxHeartbeats 1600000 in
set_option maxRecDepth 100000 in
theorem Few_4 (h1 : ¬ 40 < a.cue.size) (h2 : decide (a.entries.l.length ≤ 200 ∨ 4096 < a.entries.l.length) = true) (h3 : ¬ 200 < a.params.l.length) : Calls Tryz.prog 11 #[.agg (acnR a).toArray] w (SomeB w) := by
  have HE := Lib.hid h2
  have HR := Lib.hid (rangeAt_new w rfl (acnR a) 46)
  clear h2
  by_cases h5 : 512 < a.chans.l.length
  all_goals
    go_enter Tryz.func11, Tryz.ntmps11
    go_wp2_with (first
      | (refine wpList_load_row rfl 44 (.tmp 31) rfl w.heap.size 9 rfl (editR a.edit) _ (rangeAt_mono (rangeAt_end HR.out rfl) (by repeat (first | exact Ext.refl _ | assumption | apply Ext.xt | apply Ext.alloc | apply Ext.drew | apply Ext.drewN))) Tryz.underlying44 rfl (by kernel_rfl) ?_)
      | (go_at_call 34; refine (r15_FewEnts _ _ _ _).mono ?_; rintro e w' ⟨he, rfl⟩; rw [HE.out] at he; subst he)
      | (go_at_call 35; refine (r32_FewEdit a.edit _).mono ?_; rintro e w' ⟨⟨fe, rfl⟩, hx⟩; obtain ⟨y, rfl⟩ := hx.get; clear hx))
    go_ret
    exact ⟨⟨_, rfl⟩, by repeat (first | exact Ext.refl _ | assumption | apply Ext.xt | apply Ext.alloc | apply Ext.drew | apply Ext.drewN)⟩
set_option maxHeartbeats 1600000 in
set_option maxRecDepth 100000 in
theorem Few_5 (h1 : ¬ 40 < a.cue.size) (h2 : decide (a.entries.l.length ≤ 200 ∨ 4096 < a.entries.l.length) = true) (h4 : ¬ a.params.l.length ≤ 4096) : Calls Tryz.prog 11 #[.agg (acnR a).toArray] w (SomeB w) := by
  have HE := Lib.hid h2
  have HR := Lib.hid (rangeAt_new w rfl (acnR a) 46)
  clear h2
  by_cases h5 : 512 < a.chans.l.length
  all_goals
    go_enter Tryz.func11, Tryz.ntmps11
    go_wp2_with (first
      | (refine wpList_load_row rfl 44 (.tmp 31) rfl w.heap.size 9 rfl (editR a.edit) _ (rangeAt_mono (rangeAt_end HR.out rfl) (by repeat (first | exact Ext.refl _ | assumption | apply Ext.xt | apply Ext.alloc | apply Ext.drew | apply Ext.drewN))) Tryz.underlying44 rfl (by kernel_rfl) ?_)
      | (go_at_call 34; refine (r15_FewEnts _ _ _ _).mono ?_; rintro e w' ⟨he, rfl⟩; rw [HE.out] at he; subst he)
      | (go_at_call 35; refine (r32_FewEdit a.edit _).mono ?_; rintro e w' ⟨⟨fe, rfl⟩, hx⟩; obtain ⟨y, rfl⟩ := hx.get; clear hx))
    go_ret
    exact ⟨⟨_, rfl⟩, by repeat (first | exact Ext.refl _ | assumption | apply Ext.xt | apply Ext.alloc | apply Ext.drew | apply Ext.drewN)⟩
theorem r33_Few : Calls Tryz.prog 11 #[.agg (acnR a).toArray] w (SomeB w) := by
  by_cases h1 : 40 < a.cue.size
  · exact Few_1 a w h1
  · cases h2 : decide (a.entries.l.length ≤ 200 ∨ 4096 < a.entries.l.length)
    · exact Few_2 a w h1 h2
    · by_cases h3 : 200 < a.params.l.length
      · by_cases h4 : a.params.l.length ≤ 4096
        · exact Few_3 a w h1 h2 h3 h4
        · exact Few_5 a w h1 h2 h4
      · exact Few_4 a w h1 h2 h3
end
set_option maxHeartbeats 1600000 in
set_option maxRecDepth 100000 in
theorem r33_FewLog (A : Option Addr) (c : Nat) (l : List Acn) (w : World) (hs : LogAt w A c l) : Calls Tryz.prog 10 #[.slice A l.length c] w (SomeB w) := by
  have hl := Nat.le_trans hs.le hs.cap
  unfold maxLen at hl
  have HS := Lib.hid hs
  clear hs
  by_cases h40 : 40 < l.length
  · go_enter Tryz.func10, Tryz.ntmps10
    go_wp2
    all_goals
      go_ret
      exact ⟨⟨_, rfl⟩, by repeat (first | exact Ext.refl _ | assumption | apply Ext.xt | apply Ext.alloc | apply Ext.drew | apply Ext.drewN)⟩
  · go_enter Tryz.func10, Tryz.ntmps10
    go_wp2
    go_loopw [3] (fun i wr => ∃ k : Nat, k ≤ l.length ∧ i = .int .i64 k ∧ Ext w wr) (fun i _ => l.length - (intOf i).toNat)
    case atStart => exact ⟨0, by omega, rfl, Ext.refl _⟩
    case round =>
      obtain ⟨k, hk, rfl, hx⟩ := hrel
      obtain ⟨y, rfl⟩ := hx.get
      clear hx
      by_cases hlt : k < l.length
      · obtain ⟨m, hm⟩ : ∃ m, l[k]? = some m := ⟨_, List.getElem?_eq_getElem hlt⟩
        obtain ⟨⟨b, o, rfl, hr⟩, -⟩ := HS.out.get hm
        have hb0 : (0 : Int) ≤ (k : Int) := by omega
        have hb1 : (k : Int) < (l.length : Int) := by omega
        have HR := Lib.hid hr
        clear hr hm
        go_wp2_with (first
          | (refine wpList_load_row rfl 46 (.tmp 23) rfl b (o + k * 44) rfl (acnR m) _ (rangeAt_mono HR.out (by repeat (first | exact Ext.refl _ | assumption | apply Ext.xt | apply Ext.alloc | apply Ext.drew | apply Ext.drewN))) Tryz.underlying46 rfl (by kernel_rfl) ?_)
          | (go_at_call 11; refine (r33_Few m _).mono ?_; rintro e w' ⟨⟨fb, rfl⟩, hx⟩; obtain ⟨y2, rfl⟩ := hx.get; clear hx; cases fb))
        · go_ret
          exact ⟨⟨_, rfl⟩, by repeat (first | exact Ext.refl _ | assumption | apply Ext.xt | apply Ext.alloc | apply Ext.drew | apply Ext.drewN)⟩
        · go_light
          exact ⟨⟨k + 1, by omega, by go_num, by repeat (first | exact Ext.refl _ | assumption | apply Ext.xt | apply Ext.alloc | apply Ext.drew | apply Ext.drewN)⟩, by simp [intOf]; omega⟩
      · go_wp2
        go_ret
        exact ⟨⟨_, rfl⟩, by repeat (first | exact Ext.refl _ | assumption | apply Ext.xt | apply Ext.alloc | apply Ext.drew | apply Ext.drewN)⟩
def GoodB (w : World) (l : List Acn) (e : Ending) (w' : World) : Prop := (∃ b : Bool, e = .returned (.bool b) ∧ (b = true → l.length ≤ 40 ∧ logE l = 0)) ∧ Ext w w'
set_option maxHeartbeats 800000 in
set_option maxRecDepth 100000 in
theorem l33_good (A : Option Addr) (c : Nat) (l : List Acn) (w : World) (hs : LogAt w A c l) : Calls Tryz.prog 18 #[.slice A l.length c] w (GoodB w l) := by
  have HS := Lib.hid hs
  clear hs
  by_cases h40 : l.length ≤ 40
  · by_cases h0 : logE l = 0
    · have hz : (logE l == 0) = true := by simpa using h0
      have HG := Lib.hid (And.intro h40 h0)
      clear h0
      go_enter Tryz.func18, Tryz.ntmps18
      go_wp2_with (first
        | (go_at_call 10; refine (r33_FewLog A c l _ (HS.out.mono (by repeat (first | exact Ext.refl _ | assumption | apply Ext.xt | apply Ext.alloc | apply Ext.drew | apply Ext.drewN)))).mono ?_; rintro e w' ⟨⟨fb, rfl⟩, hx⟩; obtain ⟨y2, rfl⟩ := hx.get; clear hx; cases fb)
        | (go_at_call 25; refine (r33_Log A c l _ (HS.out.mono (by repeat (first | exact Ext.refl _ | assumption | apply Ext.xt | apply Ext.alloc | apply Ext.drew | apply Ext.drewN)))).mono ?_; rintro e w' ⟨rfl, hx⟩; obtain ⟨y, rfl⟩ := hx.get; clear hx))
      all_goals
        go_ret
        exact ⟨⟨_, rfl, fun _ => HG.out⟩, by repeat (first | exact Ext.refl _ | assumption | apply Ext.xt | apply Ext.alloc | apply Ext.drew | apply Ext.drewN)⟩
    · have hz : (logE l == 0) = false := by simpa using h0
      clear h0
      go_enter Tryz.func18, Tryz.ntmps18
      go_wp2_with (first
        | (go_at_call 10; refine (r33_FewLog A c l _ (HS.out.mono (by repeat (first | exact Ext.refl _ | assumption | apply Ext.xt | apply Ext.alloc | apply Ext.drew | apply Ext.drewN)))).mono ?_; rintro e w' ⟨⟨fb, rfl⟩, hx⟩; obtain ⟨y2, rfl⟩ := hx.get; clear hx; cases fb)
        | (go_at_call 25; refine (r33_Log A c l _ (HS.out.mono (by repeat (first | exact Ext.refl _ | assumption | apply Ext.xt | apply Ext.alloc | apply Ext.drew | apply Ext.drewN)))).mono ?_; rintro e w' ⟨rfl, hx⟩; obtain ⟨y, rfl⟩ := hx.get; clear hx))
      all_goals
        go_ret
        exact ⟨⟨false, rfl, fun h => by cases h⟩, by repeat (first | exact Ext.refl _ | assumption | apply Ext.xt | apply Ext.alloc | apply Ext.drew | apply Ext.drewN)⟩
  · go_enter Tryz.func18, Tryz.ntmps18
    go_wp2
    go_ret
    exact ⟨⟨false, rfl, fun h => by cases h⟩, by repeat (first | exact Ext.refl _ | assumption | apply Ext.xt | apply Ext.alloc | apply Ext.drew | apply Ext.drewN)⟩
end Go.Proofs.YtbgpcgapkeddpaaGreat
