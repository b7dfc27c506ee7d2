/-
  The reference's Part and Split.
-/
import Derived.Test.YtgmicckeefoghaaDrop
namespace Go.Proofs.Ytgmicckeefoghaa
open Go.RowKit

theorem splitM_step {l : List Move} {j : Nat} {x : Move} (h : l[j]? = some x) (part : Int) : splitM (l.take (j + 1)) part = splitM (l.take j) part ++ if x.part = part then [x] else [] := by
  obtain ⟨hk, hx⟩ := List.getElem?_eq_some_iff.1 h
  unfold splitM
  rw [List.take_succ_eq_append_getElem hk, List.filter_append, hx]
  by_cases hp : x.part = part <;> simp [hp]

set_option maxHeartbeats 1600000 in
set_option maxRecDepth 100000 in
theorem r16_Part (A : Option Addr) (k : Nat) (l : List Move) (part : Int) (w : World) (hs : Sl w A 5 (l.map mv)) (hl : l.length ≤ 1000000) :
    Calls Try.prog 131 #[.slice A l.length k, .int .i64 part] w (RetSl w 90 5 (splitM l part).length ((splitM l part).map mv)) := by
  go_enter Try.func131, Try.ntmps131
  go_wp2
  go_loopw [5, 6] (fun s i wr => ∃ (j : Nat) (D : Option Addr) (q d : Nat) (o : List Move), j ≤ l.length ∧ i = .int .i64 j ∧ s = .slice D q d ∧ q ≤ j ∧ Hid (q = o.length) ∧ Hid (o = splitM (l.take j) part) ∧ Ext w wr ∧ Hid (Own w wr 90 5 D q d (o.map mv))) (fun _ i _ => l.length - (intOf i).toNat)
  case atStart => exact ⟨0, none, 0, 0, [], by omega, rfl, rfl, by omega, Lib.hid rfl, Lib.hid (by simp [splitM]), Ext.refl _, Lib.hid (Own.nil _)⟩
  case round =>
    obtain ⟨j, D, q, d, o, hj, rfl, rfl, hq, HQ, HO1, hx, HO⟩ := hrel
    obtain ⟨y, rfl⟩ := hx.get
    clear hx
    by_cases hlt : j < l.length
    · obtain ⟨x, hx⟩ : ∃ x, l[j]? = some x := ⟨_, List.getElem?_eq_getElem hlt⟩
      have HX := Lib.hid (splitM_step hx part)
      obtain ⟨b', of, rfl, hc0, hc1, hc2, hc3, hc4⟩ := hs.row5 (i := j) (by rw [List.getElem?_map, hx]; rfl)
      have hb0 : (0 : Int) ≤ (j : Int) := by omega
      have hb1 : (j : Int) < (l.length : Int) := by omega
      clear hx hs
      by_cases hh : x.part = part
      · have hz : (x.part == part) = true := by simpa using hh
        have HH := Lib.hid hh
        clear hh
        go_wp2_with (at_builtin; refine wpList_append_mine (w0 := _) rfl _ _ 35 35 rfl 90 90 5 40 Try.underlying35 Try.underlying35 info_M (by decide) (by repeat (first | exact Ext.refl _ | assumption | apply Ext.xt | apply Ext.alloc | apply Ext.drew | apply Ext.drewN)) _ _ _ _ rfl (HO.out.mono (by repeat (first | exact Ext.refl _ | assumption | apply Ext.xt | apply Ext.alloc | apply Ext.drew | apply Ext.drewN))) _ 1 1 [mv x] rfl (Sl.alloc' (by simp [go_sem]) rfl (by simp [mv])) rfl (mv_one [x]) (by unfold maxLen; omega) (by omega) _ rfl _ rfl ?_; intro D1 c1 w1 hx1 hown hg hA; have HO := Lib.hid hown; obtain ⟨y1, rfl⟩ := hx1.get; clear hown hx1 hg hA)
        go_light
        exact ⟨⟨j + 1, D1, q + 1, c1, o ++ [x], by omega, by go_num, rfl, by omega, Lib.hid (by have := HQ.out; simp; omega), Lib.hid (by rw [HX.out, HO1.out, if_pos HH.out]), by repeat (first | exact Ext.refl _ | assumption | apply Ext.xt | apply Ext.alloc | apply Ext.drew | apply Ext.drewN), Lib.hid (by rw [← mv_app]; exact HO.out.mono (by repeat (first | exact Ext.refl _ | assumption | apply Ext.xt | apply Ext.alloc | apply Ext.drew | apply Ext.drewN)))⟩, by simp [intOf]; omega⟩
      · have hz : (x.part == part) = false := by simpa using hh
        have HH := Lib.hid hh
        clear hh
        go_wp2
        go_light
        exact ⟨⟨j + 1, D, q, d, o, by omega, by go_num, rfl, by omega, HQ, Lib.hid (by rw [HX.out, HO1.out, if_neg HH.out, List.append_nil]), by repeat (first | exact Ext.refl _ | assumption | apply Ext.xt | apply Ext.alloc | apply Ext.drew | apply Ext.drewN), Lib.hid (HO.out.mono (by repeat (first | exact Ext.refl _ | assumption | apply Ext.xt | apply Ext.alloc | apply Ext.drew | apply Ext.drewN)))⟩, by simp [intOf]; omega⟩
    · have HE := Lib.hid (show o = splitM l part by rw [HO1.out, List.take_of_length_le (by omega)])
      have hqo := HQ.out
      subst hqo
      go_wp2
      go_ret
      have h := HE.out
      subst h
      exact ⟨D, d, rfl, by repeat (first | exact Ext.refl _ | assumption | apply Ext.xt | apply Ext.alloc | apply Ext.drew | apply Ext.drewN), HO.out⟩

set_option maxHeartbeats 1600000 in
set_option maxRecDepth 100000 in
theorem r16_Split (c : Cue) (A : Option Addr) (k : Nat) (B : Option Addr) (m : Nat) (part : Int) (w : World) (hc : CueAt w c A k B m) :
    Calls Try.prog 70 #[.agg (cueV c A k B m).toArray, .int .i64 part] w (RetMoves w (splitV c part)) := by
  have HC := Lib.hid hc
  simp only [cueV]
  by_cases hE : cueE c = 0
  · have hE' : (cueE c != 0) = false := by simpa using hE
    have hmv := (movesE_scan (cueE_ok hE).2.2.1).1
    have HE := Lib.hid hE
    clear hc hE
    rcases (by omega : part < 1 ∨ (1 ≤ part ∧ (c.parts.length : Int) < part) ∨ (1 ≤ part ∧ part ≤ (c.parts.length : Int))) with h1 | ⟨h1, h2⟩ | ⟨h1, h2⟩
    · have HV := Lib.hid (show splitV c part = ([], 6) by unfold splitV; rw [if_neg (by simpa using HE.out), if_pos (by omega)])
      go_enter Try.func70, Try.ntmps70
      go_wp2_with (go_at_call 53; refine (r16_Check c A k B m _ (HC.out.mono (by repeat (first | exact Ext.refl _ | assumption | apply Ext.xt | apply Ext.alloc | apply Ext.drew | apply Ext.drewN)))).mono ?_; rintro e w' ⟨rfl, hx⟩; obtain ⟨ya, rfl⟩ := hx.get; clear hx)
      go_ret2
      exact ret_nil HV.out rfl (by repeat (first | exact Ext.refl _ | assumption | apply Ext.xt | apply Ext.alloc | apply Ext.drew | apply Ext.drewN))
    · have HV := Lib.hid (show splitV c part = ([], 6) by unfold splitV; rw [if_neg (by simpa using HE.out), if_pos (by omega)])
      go_enter Try.func70, Try.ntmps70
      go_wp2_with (go_at_call 53; refine (r16_Check c A k B m _ (HC.out.mono (by repeat (first | exact Ext.refl _ | assumption | apply Ext.xt | apply Ext.alloc | apply Ext.drew | apply Ext.drewN)))).mono ?_; rintro e w' ⟨rfl, hx⟩; obtain ⟨ya, rfl⟩ := hx.get; clear hx)
      go_ret2
      exact ret_nil HV.out rfl (by repeat (first | exact Ext.refl _ | assumption | apply Ext.xt | apply Ext.alloc | apply Ext.drew | apply Ext.drewN))
    · have HV := Lib.hid (show splitV c part = (splitM c.moves part, 0) by unfold splitV; rw [if_neg (by simpa using HE.out), if_neg (by omega)])
      go_enter Try.func70, Try.ntmps70
      go_wp2_with (first
        | (go_at_call 53; refine (r16_Check c A k B m _ (HC.out.mono (by repeat (first | exact Ext.refl _ | assumption | apply Ext.xt | apply Ext.alloc | apply Ext.drew | apply Ext.drewN)))).mono ?_; rintro e w' ⟨rfl, hx⟩; obtain ⟨ya, rfl⟩ := hx.get; clear hx)
        | (go_at_call 131; refine (r16_Part A k c.moves part _ (HC.out.mv.mono (by repeat (first | exact Ext.refl _ | assumption | apply Ext.xt | apply Ext.alloc | apply Ext.drew | apply Ext.drewN))) (by omega)).mono ?_; rintro e w' ⟨D, n1, rfl, hx, hown⟩; have HM := Lib.hid hown; obtain ⟨ym, rfl⟩ := hx.get; clear hx hown))
      go_ret2
      rw [HV.out]
      exact ⟨D, n1, rfl, by repeat (first | exact Ext.refl _ | assumption | apply Ext.xt | apply Ext.alloc | apply Ext.drew | apply Ext.drewN), HM.out.sl.mono (by repeat (first | exact Ext.refl _ | assumption | apply Ext.xt | apply Ext.alloc | apply Ext.drew | apply Ext.drewN)), HM.out.le, HM.out.cap⟩
  · have hE' : (cueE c != 0) = true := by simpa using hE
    have HV := Lib.hid (show splitV c part = ([], cueE c) by unfold splitV; rw [if_pos hE])
    clear hc hE
    go_enter Try.func70, Try.ntmps70
    go_wp2_with (go_at_call 53; refine (r16_Check c A k B m _ (HC.out.mono (by repeat (first | exact Ext.refl _ | assumption | apply Ext.xt | apply Ext.alloc | apply Ext.drew | apply Ext.drewN)))).mono ?_; rintro e w' ⟨rfl, hx⟩; obtain ⟨ya, rfl⟩ := hx.get; clear hx)
    go_ret2
    exact ret_nil HV.out rfl (by repeat (first | exact Ext.refl _ | assumption | apply Ext.xt | apply Ext.alloc | apply Ext.drew | apply Ext.drewN))
end Go.Proofs.Ytgmicckeefoghaa
