/-
  The reference's Given and Set.
-/
import Derived.Test.YtgmicckeefoghaaRef1
import Derived.Test.YtgmicckeefoghaaCSet
namespace Go.Proofs.Ytgmicckeefoghaa
open Go.RowKit

theorem givenM_len (l : List Entry) (part : Int) : (givenM l part).length = l.length := by simp [givenM]
set_option maxHeartbeats 1600000 in
set_option maxRecDepth 100000 in
theorem r16_Given (C : Option Addr) (n : Nat) (es : List Entry) (part : Int) (w : World) (hs : Sl w C 4 (es.map en)) (hl : es.length ≤ 100000) :
    Calls Try.prog 95 #[.slice C es.length n, .int .i64 part] w (RetSl w 90 5 (givenM es part).length ((givenM es part).map mv)) := by
  rw [givenM_len]
  go_enter Try.func95, Try.ntmps95
  go_wp2
  go_loopw [5, 6] (fun s i wr => ∃ (j : Nat) (D : Option Addr) (q d : Nat) (o : List Move), j ≤ es.length ∧ i = .int .i64 j ∧ s = .slice D q d ∧ q = j ∧ Hid (o = givenM (es.take j) part) ∧ Ext w wr ∧ Hid (Own w wr 90 5 D q d (o.map mv))) (fun _ i _ => es.length - (intOf i).toNat)
  case atStart => exact ⟨0, none, 0, 0, [], by omega, rfl, rfl, rfl, Lib.hid (by simp [givenM]), Ext.refl _, Lib.hid (Own.nil _)⟩
  case round =>
    obtain ⟨j, D, q, d, o, hj, rfl, rfl, hq, HO1, hx, HO⟩ := hrel
    obtain ⟨y, rfl⟩ := hx.get
    clear hx
    by_cases hlt : j < es.length
    · obtain ⟨x, hx⟩ : ∃ x, es[j]? = some x := ⟨_, List.getElem?_eq_getElem hlt⟩
      have HX := Lib.hid (givenM_step hx part)
      obtain ⟨b', of, rfl, hc0, hc1, hc2, hc3⟩ := hs.row4 (i := j) (by rw [List.getElem?_map, hx]; rfl)
      have hb0 : (0 : Int) ≤ (j : Int) := by omega
      have hb1 : (j : Int) < (es.length : Int) := by omega
      have hq1 : q ≤ 100000 := by omega
      have HQ := Lib.hid hq
      clear hx hs hq
      go_wp2
      go_region_law ((refine step_append_mine (w0 := w) rfl _ _ 35 35 rfl 90 90 5 40 Try.underlying35 Try.underlying35 info_M (by decide) (by repeat (first | exact Ext.refl _ | assumption | apply Ext.xt | apply Ext.alloc | apply Ext.drew | apply Ext.drewN)) D q d (o.map mv) (by rfl) (HO.out.mono (by repeat (first | exact Ext.refl _ | assumption | apply Ext.xt | apply Ext.alloc | apply Ext.drew | apply Ext.drewN))) _ 1 1 [mv ⟨x.p, x.v, part⟩] (by rfl) (by first | exact Sl.allocD (by simp [go_sem]) rfl (by simp [mv]) | exact Sl.alloc' (by simp [go_sem]) rfl (by simp [mv])) rfl (mv_one [⟨x.p, x.v, part⟩]) (by unfold maxLen; omega) (by omega) (q + 1) rfl (o.map mv ++ [mv ⟨x.p, x.v, part⟩]) rfl ?_; intro D1 c1 w1 hx1 hown hg hA; have HO := Lib.hid hown; obtain ⟨y1, rfl⟩ := hx1.get; clear hown hx1 hg hA))
      all_goals
        go_wp2
        go_light
        exact ⟨⟨j + 1, D1, q + 1, c1, o ++ [⟨x.p, x.v, part⟩], by omega, by go_num, rfl, by have := HQ.out; omega, Lib.hid (by rw [HX.out, HO1.out]), by repeat (first | exact Ext.refl _ | assumption | apply Ext.xt | apply Ext.alloc | apply Ext.drew | apply Ext.drewN), Lib.hid (by rw [← mv_app]; exact HO.out.mono (by repeat (first | exact Ext.refl _ | assumption | apply Ext.xt | apply Ext.alloc | apply Ext.drew | apply Ext.drewN)))⟩, by simp [intOf]; omega⟩
    · have HE := Lib.hid (show o = givenM es part by rw [HO1.out, List.take_of_length_le (by omega)])
      obtain rfl : j = es.length := by omega
      subst hq
      go_wp2
      go_ret
      have h := HE.out
      subst h
      exact ⟨D, d, rfl, by repeat (first | exact Ext.refl _ | assumption | apply Ext.xt | apply Ext.alloc | apply Ext.drew | apply Ext.drewN), HO.out⟩

set_option maxHeartbeats 3200000 in
set_option maxRecDepth 100000 in
theorem r16_Set (c : Cue) (A : Option Addr) (k : Nat) (B : Option Addr) (m : Nat) (C : Option Addr) (n : Nat) (es : List Entry) (part : Int) (w : World) (hc : CueAt w c A k B m) (hs : Sl w C 4 (es.map en)) (hl : es.length ≤ maxLen) :
    Calls Try.prog 48 #[.agg (cueV c A k B m).toArray, .slice C es.length n, .int .i64 part] w (RetCue w (csetV c es part)) := by
  have HC := Lib.hid hc
  have HL := Lib.hid hl
  have HS := Lib.hid hs
  unfold maxLen at hl
  simp only [cueV]
  by_cases hE : cueE c = 0
  · have hE' : (cueE c != 0) = false := by simpa using hE
    have hmv := (movesE_scan (cueE_ok hE).2.2.1).1
    have hpl := (parts_len hE).2
    have HE := Lib.hid hE
    clear hc hE hs
    by_cases hF : entriesE es = 0
    · have hF' : (entriesE es != 0) = false := by simpa using hF
      have hen := (entries_ok hF).1
      have HF := Lib.hid hF
      clear hF
      rcases (by omega : part < 1 ∨ (1 ≤ part ∧ (c.parts.length : Int) < part) ∨ (1 ≤ part ∧ part ≤ (c.parts.length : Int))) with h1 | ⟨h1, h2⟩ | ⟨h1, h2⟩
      · have HV := Lib.hid (show csetV c es part = (emptyC, 6) by unfold csetV; rw [if_neg (by simpa using HE.out), if_neg (by simpa using HF.out), if_pos (by omega)])
        go_enter Try.func48, Try.ntmps48
        go_wp2_with (first | (go_at_call 53; refine (r16_Check c A k B m _ (HC.out.mono (by repeat (first | exact Ext.refl _ | assumption | apply Ext.xt | apply Ext.alloc | apply Ext.drew | apply Ext.drewN)))).mono ?_; rintro e w' ⟨rfl, hx⟩; obtain ⟨ya, rfl⟩ := hx.get; clear hx) | (go_at_call 61; refine (r15_Entries C n es _ (HS.out.mono (by repeat (first | exact Ext.refl _ | assumption | apply Ext.xt | apply Ext.alloc | apply Ext.drew | apply Ext.drewN))) HL.out).mono ?_; rintro e w' ⟨rfl, hx⟩; obtain ⟨yb, rfl⟩ := hx.get; clear hx))
        refine bodyPost_ret (v := .tuple #[.agg (cueV emptyC none 0 none 0).toArray, .int .i64 6]) (by simp [results, Try.results48, go_sem, cueV, emptyC]) rfl (RetCue.empty HV.out rfl (by repeat (first | exact Ext.refl _ | assumption | apply Ext.xt | apply Ext.alloc | apply Ext.drew | apply Ext.drewN)))
      · have HV := Lib.hid (show csetV c es part = (emptyC, 6) by unfold csetV; rw [if_neg (by simpa using HE.out), if_neg (by simpa using HF.out), if_pos (by omega)])
        go_enter Try.func48, Try.ntmps48
        go_wp2_with (first | (go_at_call 53; refine (r16_Check c A k B m _ (HC.out.mono (by repeat (first | exact Ext.refl _ | assumption | apply Ext.xt | apply Ext.alloc | apply Ext.drew | apply Ext.drewN)))).mono ?_; rintro e w' ⟨rfl, hx⟩; obtain ⟨ya, rfl⟩ := hx.get; clear hx) | (go_at_call 61; refine (r15_Entries C n es _ (HS.out.mono (by repeat (first | exact Ext.refl _ | assumption | apply Ext.xt | apply Ext.alloc | apply Ext.drew | apply Ext.drewN))) HL.out).mono ?_; rintro e w' ⟨rfl, hx⟩; obtain ⟨yb, rfl⟩ := hx.get; clear hx))
        refine bodyPost_ret (v := .tuple #[.agg (cueV emptyC none 0 none 0).toArray, .int .i64 6]) (by simp [results, Try.results48, go_sem, cueV, emptyC]) rfl (RetCue.empty HV.out rfl (by repeat (first | exact Ext.refl _ | assumption | apply Ext.xt | apply Ext.alloc | apply Ext.drew | apply Ext.drewN)))
      · have hmv' := HC.out.mv
        have hpt := HC.out.pt
        go_enter Try.func48, Try.ntmps48
        go_wp2_with (first | (go_at_call 53; refine (r16_Check c A k B m _ (HC.out.mono (by repeat (first | exact Ext.refl _ | assumption | apply Ext.xt | apply Ext.alloc | apply Ext.drew | apply Ext.drewN)))).mono ?_; rintro e w' ⟨rfl, hx⟩; obtain ⟨ya, rfl⟩ := hx.get; clear hx) | (go_at_call 61; refine (r15_Entries C n es _ (HS.out.mono (by repeat (first | exact Ext.refl _ | assumption | apply Ext.xt | apply Ext.alloc | apply Ext.drew | apply Ext.drewN))) HL.out).mono ?_; rintro e w' ⟨rfl, hx⟩; obtain ⟨yb, rfl⟩ := hx.get; clear hx))
        go_region_held3 (fun w' => (∀ q, ((xt (xt ((w.alloc (.cells #[.string c.number, .string c.label, .slice A c.moves.length k, .slice B c.parts.length m, .bool c.block, .bool c.mark, .int .i64 c.follow, .string c.link, .int .i64 c.loops] 38)).alloc (.cells #[.string emptyC.number, .string emptyC.label, .slice none emptyC.moves.length 0, .slice none emptyC.parts.length 0, .bool emptyC.block, .bool emptyC.mark, .int .i64 emptyC.follow, .string emptyC.link, .int .i64 emptyC.loops] 38)) ya) yb).cell? q).isSome = true → w'.cell? q = (xt (xt ((w.alloc (.cells #[.string c.number, .string c.label, .slice A c.moves.length k, .slice B c.parts.length m, .bool c.block, .bool c.mark, .int .i64 c.follow, .string c.link, .int .i64 c.loops] 38)).alloc (.cells #[.string emptyC.number, .string emptyC.label, .slice none emptyC.moves.length 0, .slice none emptyC.parts.length 0, .bool emptyC.block, .bool emptyC.mark, .int .i64 emptyC.follow, .string emptyC.link, .int .i64 emptyC.loops] 38)) ya) yb).cell? q) ∧ Ext (xt (xt ((w.alloc (.cells #[.string c.number, .string c.label, .slice A c.moves.length k, .slice B c.parts.length m, .bool c.block, .bool c.mark, .int .i64 c.follow, .string c.link, .int .i64 c.loops] 38)).alloc (.cells #[.string emptyC.number, .string emptyC.label, .slice none emptyC.moves.length 0, .slice none emptyC.parts.length 0, .bool emptyC.block, .bool emptyC.mark, .int .i64 emptyC.follow, .string emptyC.link, .int .i64 emptyC.loops] 38)) ya) yb) w') ((refine kept ?_; go_split_ands; exact (by repeat (first | exact Ext.refl _ | assumption | apply Ext.xt | apply Ext.alloc | apply Ext.drew | apply Ext.drewN)))) (first
          | (go_at_call 95; refine (r16_Given C n es part _ (HS.out.mono (by repeat (first | exact Ext.refl _ | assumption | apply Ext.xt | apply Ext.alloc | apply Ext.drew | apply Ext.drewN))) (by omega)).mono ?_; rintro e w' ⟨M, k', rfl, hx, hown⟩; have HM := Lib.hid hown; obtain ⟨ym, rfl⟩ := hx.get; clear hx hown)
          | (go_at_call 92; refine (r16_Merged A k c.moves M k' (givenM es part) _ (hmv'.mono (by repeat (first | exact Ext.refl _ | assumption | apply Ext.xt | apply Ext.alloc | apply Ext.drew | apply Ext.drewN))) (by omega) (HM.out.sl.mono (by repeat (first | exact Ext.refl _ | assumption | apply Ext.xt | apply Ext.alloc | apply Ext.drew | apply Ext.drewN))) (by rw [givenM_len]; omega)).mono ?_; rintro e w' ⟨D2, n2, rfl, hx, hown⟩; have HD := Lib.hid hown; obtain ⟨yd, rfl⟩ := hx.get; clear hx hown))
        by_cases h128 : 128 < (mergeL c.moves (givenM es part)).length
        · have HV := Lib.hid (show csetV c es part = (emptyC, 5) by
            have hm5 : mergedV c.moves (givenM es part) = ([], 5) := by unfold mergedV; rw [if_pos h128]
            unfold csetV; rw [if_neg (by simpa using HE.out), if_neg (by simpa using HF.out), if_neg (by omega), hm5]; rfl)
          go_wp2
          refine bodyPost_ret (v := .tuple #[.agg (cueV emptyC none 0 none 0).toArray, .int .i64 5]) (by simp [results, Try.results48, go_sem, cueV, emptyC]) rfl (RetCue.empty HV.out rfl (by repeat (first | exact Ext.refl _ | assumption | apply Ext.xt | apply Ext.alloc | apply Ext.drew | apply Ext.drewN)))
        · have HV := Lib.hid (show csetV c es part = ({ c with moves := mergeL c.moves (givenM es part) }, 0) by
            have hm5 : mergedV c.moves (givenM es part) = (mergeL c.moves (givenM es part), 0) := by unfold mergedV; rw [if_neg h128]
            unfold csetV; rw [if_neg (by simpa using HE.out), if_neg (by simpa using HF.out), if_neg (by omega), hm5]; rfl)
          go_wp2_with (go_at_call 88; refine (r16_Copied c A k B m _ _ (mergeL c.moves (givenM es part)) _ (hpt.mono (by repeat (first | exact Ext.refl _ | assumption | apply Ext.xt | apply Ext.alloc | apply Ext.drew | apply Ext.drewN))) (by omega)).mono ?_; rintro e w' ⟨D, n', he, hx, hown⟩; simp only [cueV] at he; subst he; have HO := Lib.hid hown; obtain ⟨yc, rfl⟩ := hx.get; clear hx hown)
          refine bodyPost_ret (v := .tuple #[.agg (cueV { c with moves := mergeL c.moves (givenM es part) } D2 n2 D n').toArray, .int .i64 0]) (by simp [results, Try.results48, go_sem, cueV]) rfl ?_
          rw [HV.out]
          exact ⟨D2, n2, D, n', rfl, by repeat (first | exact Ext.refl _ | assumption | apply Ext.xt | apply Ext.alloc | apply Ext.drew | apply Ext.drewN), ⟨Sl.upon (by repeat (first | exact Ext.refl _ | assumption | apply Ext.xt | apply Ext.alloc | apply Ext.drew | apply Ext.drewN)) (Own.swapped (w := w) HD.out (by simp [go_sem]) (by repeat (first | exact Ext.refl _ | assumption | apply Ext.xt | apply Ext.alloc | apply Ext.drew | apply Ext.drewN))).sl, (Own.swapped (w := w) HO.out (by simp [go_sem]) (by repeat (first | exact Ext.refl _ | assumption | apply Ext.xt | apply Ext.alloc | apply Ext.drew | apply Ext.drewN))).sl, HD.out.le, HO.out.le, HD.out.cap, HO.out.cap, HC.out.num, HC.out.lab, HC.out.lnk⟩⟩
    · have hF' : (entriesE es != 0) = true := by simpa using hF
      have HV := Lib.hid (show csetV c es part = (emptyC, entriesE es) by unfold csetV; rw [if_neg (by simpa using HE.out), if_pos hF])
      clear hF
      go_enter Try.func48, Try.ntmps48
      go_wp2_with (first | (go_at_call 53; refine (r16_Check c A k B m _ (HC.out.mono (by repeat (first | exact Ext.refl _ | assumption | apply Ext.xt | apply Ext.alloc | apply Ext.drew | apply Ext.drewN)))).mono ?_; rintro e w' ⟨rfl, hx⟩; obtain ⟨ya, rfl⟩ := hx.get; clear hx) | (go_at_call 61; refine (r15_Entries C n es _ (HS.out.mono (by repeat (first | exact Ext.refl _ | assumption | apply Ext.xt | apply Ext.alloc | apply Ext.drew | apply Ext.drewN))) HL.out).mono ?_; rintro e w' ⟨rfl, hx⟩; obtain ⟨yb, rfl⟩ := hx.get; clear hx))
      refine bodyPost_ret (v := .tuple #[.agg (cueV emptyC none 0 none 0).toArray, .int .i64 (entriesE es)]) (by simp [results, Try.results48, go_sem, cueV, emptyC]) rfl (RetCue.empty HV.out rfl (by repeat (first | exact Ext.refl _ | assumption | apply Ext.xt | apply Ext.alloc | apply Ext.drew | apply Ext.drewN)))
  · have hE' : (cueE c != 0) = true := by simpa using hE
    have HV := Lib.hid (show csetV c es part = (emptyC, cueE c) by unfold csetV; rw [if_pos hE])
    clear hc hE hs
    go_enter Try.func48, Try.ntmps48
    go_wp2_with (go_at_call 53; refine (r16_Check c A k B m _ (HC.out.mono (by repeat (first | exact Ext.refl _ | assumption | apply Ext.xt | apply Ext.alloc | apply Ext.drew | apply Ext.drewN)))).mono ?_; rintro e w' ⟨rfl, hx⟩; obtain ⟨ya, rfl⟩ := hx.get; clear hx)
    refine bodyPost_ret (v := .tuple #[.agg (cueV emptyC none 0 none 0).toArray, .int .i64 (cueE c)]) (by simp [results, Try.results48, go_sem, cueV, emptyC]) rfl (RetCue.empty HV.out rfl (by repeat (first | exact Ext.refl _ | assumption | apply Ext.xt | apply Ext.alloc | apply Ext.drew | apply Ext.drewN)))
end Go.Proofs.Ytgmicckeefoghaa
