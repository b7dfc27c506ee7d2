/-
  The reference's Has, Params, Without.
-/
import Derived.Test.YtgmicckeefoghaaDrop
namespace Go.Proofs.Ytgmicckeefoghaa
open Go.RowKit

set_option maxHeartbeats 800000 in
set_option maxRecDepth 100000 in
theorem r16_Has (C : Option Addr) (c : Nat) (ps : List Param) (p : Param) (w : World) (hs : Sl w C 2 (ps.map prm)) (hl : ps.length ≤ maxLen) :
    Calls Try.prog 153 #[.slice C ps.length c, .agg (prm p).toArray] w fun e w' => e = .returned (.bool (hasP ps p)) ∧ Ext w w' := by
  unfold maxLen at hl
  simp only [prm]
  go_enter Try.func153, Try.ntmps153
  go_wp2
  go_loopw [5] (fun i wr => ∃ j : Nat, j ≤ ps.length ∧ i = .int .i64 j ∧ Ext (w.alloc (.cells #[.int .i64 p.ch, .int .i64 p.attr] 40)) wr ∧ Hid ((ps.take j).all (fun q => !decide (p = q)) = true)) (fun i _ => ps.length - (intOf i).toNat)
  case atStart => exact ⟨0, by omega, rfl, Ext.refl _, Lib.hid (by simp)⟩
  case round =>
    obtain ⟨j, hj, rfl, hx, HN⟩ := hrel
    obtain ⟨y, rfl⟩ := hx.get
    clear hx
    by_cases hlt : j < ps.length
    · obtain ⟨q, hq⟩ : ∃ q, ps[j]? = some q := ⟨_, List.getElem?_eq_getElem hlt⟩
      have HQ := Lib.hid hq
      obtain ⟨b', o, rfl, hc0, hc1⟩ := hs.row2 (i := j) (by rw [List.getElem?_map, hq]; rfl)
      have hb0 : (0 : Int) ≤ (j : Int) := by omega
      have hb1 : (j : Int) < (ps.length : Int) := by omega
      clear hq hs
      go_wp2
      (refine wp_region_grows (by kernel_rfl) (by kernel_rfl) ?_; (repeat (go_big_quiet_step (fail))); refine wpQuiet_nil ?_; rintro _ ⟨y, rfl⟩)
      by_cases he : p = q
      · have hz : eqP q.ch q.attr p.ch p.attr = true := by rw [eqP_def]; simpa using he.symm
        rw [hz]
        have HE := Lib.hid he
        clear he
        go_wp2
        go_ret
        refine ⟨?_, by repeat (first | exact Ext.refl _ | assumption | apply Ext.xt | apply Ext.alloc | apply Ext.drew | apply Ext.drewN)⟩
        have h : hasP ps p = true := by
          unfold hasP
          rw [List.any_eq_true]
          exact ⟨q, List.mem_of_getElem? HQ.out, by simpa using HE.out⟩
        rw [h]; rfl
      · have hz : eqP q.ch q.attr p.ch p.attr = false := by rw [eqP_def]; simpa using Ne.symm he
        rw [hz]
        have HE := Lib.hid he
        clear he
        go_wp2
        go_light
        exact ⟨⟨j + 1, by omega, by go_num, by repeat (first | exact Ext.refl _ | assumption | apply Ext.xt | apply Ext.alloc | apply Ext.drew | apply Ext.drewN), Lib.hid (all_step HQ.out (by simpa using HE.out) HN.out)⟩, by simp [intOf]; omega⟩
    · have HA := Lib.hid (all_full (l := ps) (k := j) (by omega) HN.out)
      go_wp2
      go_ret
      refine ⟨?_, by repeat (first | exact Ext.refl _ | assumption | apply Ext.xt | apply Ext.alloc | apply Ext.drew | apply Ext.drewN)⟩
      have h : hasP ps p = false := by
        unfold hasP
        rw [List.any_eq_false]
        intro q hq
        have := (List.all_eq_true.1 HA.out) q hq
        simpa using this
      rw [h]; rfl

set_option maxHeartbeats 800000 in
set_option maxRecDepth 100000 in
theorem r16_Params (C : Option Addr) (c : Nat) (ps : List Param) (w : World) (hs : Sl w C 2 (ps.map prm)) (hl : ps.length ≤ maxLen) :
    Calls Try.prog 101 #[.slice C ps.length c] w fun e w' => e = .returned (.int .i64 (paramsE ps)) ∧ Ext w w' := by
  unfold maxLen at hl
  by_cases h4 : 4096 < ps.length
  · go_enter Try.func101, Try.ntmps101
    go_wp2
    go_ret
    exact ⟨by simp [paramsE, h4], Ext.refl _⟩
  have HP := Lib.hid (show paramsE ps = if ps.all (fun p => decide (paramE p = 0)) then 0 else 2 by unfold paramsE; rw [if_neg h4])
  go_enter Try.func101, Try.ntmps101
  go_wp2
  go_loopw [3] (fun i wr => ∃ j : Nat, j ≤ ps.length ∧ i = .int .i64 j ∧ Ext w wr ∧ Hid ((ps.take j).all (fun p => decide (paramE p = 0)) = true)) (fun i _ => ps.length - (intOf i).toNat)
  case atStart => exact ⟨0, by omega, rfl, Ext.refl _, Lib.hid (by simp)⟩
  case round =>
    obtain ⟨j, hj, rfl, hx, HN⟩ := hrel
    obtain ⟨y, rfl⟩ := hx.get
    clear hx
    by_cases hlt : j < ps.length
    · obtain ⟨q, hq⟩ : ∃ q, ps[j]? = some q := ⟨_, List.getElem?_eq_getElem hlt⟩
      have HQ := Lib.hid hq
      obtain ⟨b', o, rfl, hc0, hc1⟩ := hs.row2 (i := j) (by rw [List.getElem?_map, hq]; rfl)
      have hb0 : (0 : Int) ≤ (j : Int) := by omega
      have hb1 : (j : Int) < (ps.length : Int) := by omega
      clear hq hs
      rcases paramE_two q with h0 | h0
      · have H0 := Lib.hid h0
        go_wp2_with (go_at_call 37; refine (r15_Param q _).mono ?_; rintro e w' ⟨rfl, hx⟩; obtain ⟨y, rfl⟩ := hx.get; clear hx)
        go_light
        exact ⟨⟨j + 1, by omega, by go_num, by repeat (first | exact Ext.refl _ | assumption | apply Ext.xt | apply Ext.alloc | apply Ext.drew | apply Ext.drewN), Lib.hid (all_step HQ.out (by simpa using H0.out) HN.out)⟩, by simp [intOf]; omega⟩
      · have H0 := Lib.hid h0
        go_wp2_with (go_at_call 37; refine (r15_Param q _).mono ?_; rintro e w' ⟨rfl, hx⟩; obtain ⟨y, rfl⟩ := hx.get; clear hx)
        go_ret
        refine ⟨?_, by repeat (first | exact Ext.refl _ | assumption | apply Ext.xt | apply Ext.alloc | apply Ext.drew | apply Ext.drewN)⟩
        have hn := all_not (p := fun p => decide (paramE p = 0)) HQ.out (by simp [H0.out])
        rw [HP.out, hn]; simp
    · have HA := Lib.hid (all_full (p := fun p => decide (paramE p = 0)) (l := ps) (k := j) (by omega) HN.out)
      go_wp2
      go_ret
      exact ⟨by rw [HP.out, HA.out]; rfl, by repeat (first | exact Ext.refl _ | assumption | apply Ext.xt | apply Ext.alloc | apply Ext.drew | apply Ext.drewN)⟩

theorem dropM_step {l : List Move} {j : Nat} {x : Move} (h : l[j]? = some x) (ps : List Param) : dropM (l.take (j + 1)) ps = dropM (l.take j) ps ++ if hasP ps x.p then [] else [x] := by
  obtain ⟨hk, hx⟩ := List.getElem?_eq_some_iff.1 h
  unfold dropM
  rw [List.take_succ_eq_append_getElem hk, List.filter_append, hx]
  cases hp : hasP ps x.p <;> simp [hp]

set_option maxHeartbeats 1600000 in
set_option maxRecDepth 100000 in
theorem r16_Without (A : Option Addr) (k : Nat) (l : List Move) (C : Option Addr) (c : Nat) (ps : List Param) (w : World) (hs : Sl w A 5 (l.map mv)) (hl : l.length ≤ 1000000) (hp : Sl w C 2 (ps.map prm)) (hpl : ps.length ≤ maxLen) :
    Calls Try.prog 102 #[.slice A l.length k, .slice C ps.length c] w (RetSl w 90 5 (dropM l ps).length ((dropM l ps).map mv)) := by
  have HP := Lib.hid hp
  have HPL := Lib.hid hpl
  clear hp hpl
  go_enter Try.func102, Try.ntmps102
  go_wp2
  go_loopw [5, 6] (fun s i wr => ∃ (j : Nat) (D : Option Addr) (q d : Nat) (o : List Move), j ≤ l.length ∧ i = .int .i64 j ∧ s = .slice D q d ∧ q ≤ j ∧ Hid (q = o.length) ∧ Hid (o = dropM (l.take j) ps) ∧ Ext w wr ∧ Hid (Own w wr 90 5 D q d (o.map mv))) (fun _ i _ => l.length - (intOf i).toNat)
  case atStart => exact ⟨0, none, 0, 0, [], by omega, rfl, rfl, by omega, Lib.hid rfl, Lib.hid (by simp [dropM]), Ext.refl _, Lib.hid (Own.nil _)⟩
  case round =>
    obtain ⟨j, D, q, d, o, hj, rfl, rfl, hq, HQ, HO1, hx, HO⟩ := hrel
    obtain ⟨y, rfl⟩ := hx.get
    clear hx
    by_cases hlt : j < l.length
    · obtain ⟨x, hx⟩ : ∃ x, l[j]? = some x := ⟨_, List.getElem?_eq_getElem hlt⟩
      have HX := Lib.hid (dropM_step hx ps)
      obtain ⟨b', of, rfl, hc0, hc1, hc2, hc3, hc4⟩ := hs.row5 (i := j) (by rw [List.getElem?_map, hx]; rfl)
      have hb0 : (0 : Int) ≤ (j : Int) := by omega
      have hb1 : (j : Int) < (l.length : Int) := by omega
      clear hx hs
      cases hh : hasP ps x.p
      · have HH := Lib.hid hh
        go_wp2_with (first | (go_at_call 153; refine (r16_Has C c ps x.p _ (HP.out.mono (by repeat (first | exact Ext.refl _ | assumption | apply Ext.xt | apply Ext.alloc | apply Ext.drew | apply Ext.drewN))) HPL.out).mono ?_; rintro e w' ⟨rfl, hx⟩; obtain ⟨y, rfl⟩ := hx.get; clear hx) | (at_builtin; refine wpList_append_mine (w0 := _) rfl _ _ 35 35 rfl 90 90 5 40 Try.underlying35 Try.underlying35 info_M (by decide) (by repeat (first | exact Ext.refl _ | assumption | apply Ext.xt | apply Ext.alloc | apply Ext.drew | apply Ext.drewN)) _ _ _ _ rfl (HO.out.mono (by repeat (first | exact Ext.refl _ | assumption | apply Ext.xt | apply Ext.alloc | apply Ext.drew | apply Ext.drewN))) _ 1 1 [mv x] rfl (Sl.alloc' (by simp [go_sem]) rfl (by simp [mv])) rfl (mv_one [x]) (by unfold maxLen; omega) (by omega) _ rfl _ rfl ?_; intro D1 c1 w1 hx1 hown hg hA; have HO := Lib.hid hown; obtain ⟨y1, rfl⟩ := hx1.get; clear hown hx1 hg hA))
        go_light
        exact ⟨⟨j + 1, D1, q + 1, c1, o ++ [x], by omega, by go_num, rfl, by omega, Lib.hid (by have := HQ.out; simp; omega), Lib.hid (by rw [HX.out, HO1.out, HH.out]; rfl), by repeat (first | exact Ext.refl _ | assumption | apply Ext.xt | apply Ext.alloc | apply Ext.drew | apply Ext.drewN), Lib.hid (by rw [← mv_app]; exact HO.out.mono (by repeat (first | exact Ext.refl _ | assumption | apply Ext.xt | apply Ext.alloc | apply Ext.drew | apply Ext.drewN)))⟩, by simp [intOf]; omega⟩
      · have HH := Lib.hid hh
        go_wp2_with (go_at_call 153; refine (r16_Has C c ps x.p _ (HP.out.mono (by repeat (first | exact Ext.refl _ | assumption | apply Ext.xt | apply Ext.alloc | apply Ext.drew | apply Ext.drewN))) HPL.out).mono ?_; rintro e w' ⟨rfl, hx⟩; obtain ⟨y, rfl⟩ := hx.get; clear hx)
        go_light
        exact ⟨⟨j + 1, D, q, d, o, by omega, by go_num, rfl, by omega, HQ, Lib.hid (by rw [HX.out, HO1.out, HH.out]; simp), by repeat (first | exact Ext.refl _ | assumption | apply Ext.xt | apply Ext.alloc | apply Ext.drew | apply Ext.drewN), Lib.hid (HO.out.mono (by repeat (first | exact Ext.refl _ | assumption | apply Ext.xt | apply Ext.alloc | apply Ext.drew | apply Ext.drewN)))⟩, by simp [intOf]; omega⟩
    · have HE := Lib.hid (show o = dropM l ps by rw [HO1.out, List.take_of_length_le (by omega)])
      have hqo := HQ.out
      subst hqo
      go_wp2
      go_ret
      have h := HE.out
      subst h
      exact ⟨D, d, rfl, by repeat (first | exact Ext.refl _ | assumption | apply Ext.xt | apply Ext.alloc | apply Ext.drew | apply Ext.drewN), HO.out⟩
end Go.Proofs.Ytgmicckeefoghaa

/-
  The reference's Drop.
-/
namespace Go.Proofs.Ytgmicckeefoghaa
open Go.RowKit

set_option maxHeartbeats 3200000 in
set_option maxRecDepth 100000 in
theorem r16_Drop (c : Cue) (A : Option Addr) (k : Nat) (B : Option Addr) (m : Nat) (C : Option Addr) (n : Nat) (ps : List Param) (w : World) (hc : CueAt w c A k B m) (hs : Sl w C 2 (ps.map prm)) (hl : ps.length ≤ maxLen) :
    Calls Try.prog 50 #[.agg (cueV c A k B m).toArray, .slice C ps.length n] w (RetCue w (dropV c ps)) := by
  have HC := Lib.hid hc
  have HL := Lib.hid hl
  have HS := Lib.hid hs
  unfold maxLen at hl
  by_cases hE : cueE c = 0
  · have hE' : (cueE c != 0) = false := by simpa using hE
    have hmv := (movesE_scan (cueE_ok hE).2.2.1).1
    have hpl := (parts_len hE).2
    have HE := Lib.hid hE
    clear hc hE hs
    by_cases hP : paramsE ps = 0
    · have hP' : (paramsE ps != 0) = false := by simpa using hP
      have HV := Lib.hid (show dropV c ps = ({ c with moves := dropM c.moves ps }, 0) by unfold dropV; rw [if_neg (by simpa using HE.out), if_neg (by simpa using hP)])
      clear hP
      simp only [cueV]
      go_enter Try.func50, Try.ntmps50
      go_wp2_with (first | (go_at_call 53; refine (r16_Check c A k B m _ (HC.out.mono (by repeat (first | exact Ext.refl _ | assumption | apply Ext.xt | apply Ext.alloc | apply Ext.drew | apply Ext.drewN)))).mono ?_; rintro e w' ⟨rfl, hx⟩; obtain ⟨ya, rfl⟩ := hx.get; clear hx) | (go_at_call 101; refine (r16_Params C n ps _ (HS.out.mono (by repeat (first | exact Ext.refl _ | assumption | apply Ext.xt | apply Ext.alloc | apply Ext.drew | apply Ext.drewN))) HL.out).mono ?_; rintro e w' ⟨rfl, hx⟩; obtain ⟨yb, rfl⟩ := hx.get; clear hx))
      have hmv' := HC.out.mv
      have hpt := HC.out.pt
      go_region_law (first
        | (go_simp; go_at_call 102; refine (r16_Without A k c.moves C n ps _ (hmv'.mono (by repeat (first | exact Ext.refl _ | assumption | apply Ext.xt | apply Ext.alloc | apply Ext.drew | apply Ext.drewN))) (by omega) (HS.out.mono (by repeat (first | exact Ext.refl _ | assumption | apply Ext.xt | apply Ext.alloc | apply Ext.drew | apply Ext.drewN))) HL.out).mono ?_; rintro e w' ⟨M, k', rfl, hx, hown⟩; have HM := Lib.hid hown; obtain ⟨ym, rfl⟩ := hx.get; clear hx hown)
        | (go_simp; go_at_call 88; refine (r16_Copied c A k B m _ _ (dropM c.moves ps) _ (hpt.mono (by repeat (first | exact Ext.refl _ | assumption | apply Ext.xt | apply Ext.alloc | apply Ext.drew | apply Ext.drewN))) (by omega)).mono ?_; rintro e w' ⟨D, n', he, hx, hown⟩; simp only [cueV] at he; subst he; have HO := Lib.hid hown; obtain ⟨yc, rfl⟩ := hx.get; clear hx hown))
      all_goals
        go_wp2
        refine bodyPost_ret (v := .tuple #[.agg (cueV { c with moves := dropM c.moves ps } M k' D n').toArray, .int .i64 0]) (by simp [results, Try.results50, go_sem, cueV]) rfl ?_
        rw [HV.out]
        exact ⟨M, k', D, n', rfl, by repeat (first | exact Ext.refl _ | assumption | apply Ext.xt | apply Ext.alloc | apply Ext.drew | apply Ext.drewN), ⟨Sl.upon (by repeat (first | exact Ext.refl _ | assumption | apply Ext.xt | apply Ext.alloc | apply Ext.drew | apply Ext.drewN)) (Own.swapped (w := w) HM.out (by simp [go_sem]) (by repeat (first | exact Ext.refl _ | assumption | apply Ext.xt | apply Ext.alloc | apply Ext.drew | apply Ext.drewN))).sl, (Own.swapped (w := w) HO.out (by simp [go_sem]) (by repeat (first | exact Ext.refl _ | assumption | apply Ext.xt | apply Ext.alloc | apply Ext.drew | apply Ext.drewN))).sl, HM.out.le, HO.out.le, HM.out.cap, HO.out.cap, HC.out.num, HC.out.lab, HC.out.lnk⟩⟩
    · have hP' : (paramsE ps != 0) = true := by simpa using hP
      have HV := Lib.hid (show dropV c ps = (emptyC, paramsE ps) by unfold dropV; rw [if_neg (by simpa using HE.out), if_pos hP])
      clear hP
      simp only [cueV]
      go_enter Try.func50, Try.ntmps50
      go_wp2_with (first | (go_at_call 53; refine (r16_Check c A k B m _ (HC.out.mono (by repeat (first | exact Ext.refl _ | assumption | apply Ext.xt | apply Ext.alloc | apply Ext.drew | apply Ext.drewN)))).mono ?_; rintro e w' ⟨rfl, hx⟩; obtain ⟨ya, rfl⟩ := hx.get; clear hx) | (go_at_call 101; refine (r16_Params C n ps _ (HS.out.mono (by repeat (first | exact Ext.refl _ | assumption | apply Ext.xt | apply Ext.alloc | apply Ext.drew | apply Ext.drewN))) HL.out).mono ?_; rintro e w' ⟨rfl, hx⟩; obtain ⟨yb, rfl⟩ := hx.get; clear hx))
      refine bodyPost_ret (v := .tuple #[.agg (cueV emptyC none 0 none 0).toArray, .int .i64 (paramsE ps)]) (by simp [results, Try.results50, go_sem, cueV, emptyC]) rfl (RetCue.empty HV.out rfl (by repeat (first | exact Ext.refl _ | assumption | apply Ext.xt | apply Ext.alloc | apply Ext.drew | apply Ext.drewN)))
  · have hE' : (cueE c != 0) = true := by simpa using hE
    have HV := Lib.hid (show dropV c ps = (emptyC, cueE c) by unfold dropV; rw [if_pos hE])
    clear hc hE hs
    simp only [cueV]
    go_enter Try.func50, Try.ntmps50
    go_wp2_with (go_at_call 53; refine (r16_Check c A k B m _ (HC.out.mono (by repeat (first | exact Ext.refl _ | assumption | apply Ext.xt | apply Ext.alloc | apply Ext.drew | apply Ext.drewN)))).mono ?_; rintro e w' ⟨rfl, hx⟩; obtain ⟨ya, rfl⟩ := hx.get; clear hx)
    refine bodyPost_ret (v := .tuple #[.agg (cueV emptyC none 0 none 0).toArray, .int .i64 (cueE c)]) (by simp [results, Try.results50, go_sem, cueV, emptyC]) rfl (RetCue.empty HV.out rfl (by repeat (first | exact Ext.refl _ | assumption | apply Ext.xt | apply Ext.alloc | apply Ext.drew | apply Ext.drewN)))
end Go.Proofs.Ytgmicckeefoghaa
