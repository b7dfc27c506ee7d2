/-
  The reference's Values and Entries.
-/
import Derived.Test.YtgmicckeefoghaaRef5
import Derived.Test.YtgmicckeefoghaaEnt
namespace Go.Proofs.Ytgmicckeefoghaa
open Go.RowKit

/-- The entries of a list of moves. -/
def valuesL (l : List Move) : List Entry := l.map fun m => ⟨m.p, m.v⟩
theorem valuesL_step {l : List Move} {j : Nat} {x : Move} (h : l[j]? = some x) : valuesL (l.take (j + 1)) = valuesL (l.take j) ++ [⟨x.p, x.v⟩] := by
  obtain ⟨hk, hx⟩ := List.getElem?_eq_some_iff.1 h
  unfold valuesL
  rw [List.take_succ_eq_append_getElem hk, List.map_append, hx]; rfl
theorem valuesL_len (l : List Move) : (valuesL l).length = l.length := by simp [valuesL]
def entriesV (c : Cue) : List Entry × Int := if cueE c ≠ 0 then ([], cueE c) else (valuesL c.moves, 0)
/-- Entries and an error come back. -/
def RetEntries (w : World) (R : List Entry × Int) (e : Ending) (w' : World) : Prop := ∃ A k, e = .returned (.tuple #[.slice A R.1.length k, .int .i64 R.2]) ∧ Ext w w' ∧ Sl w' A 4 (R.1.map en) ∧ R.1.length ≤ k ∧ k ≤ maxLen
theorem info_E : infoOk Try.prog 107 4 32 = true := by kernel_rfl
theorem en_one (l : List Entry) : ∀ r ∈ l.map en, ∀ u ∈ r, u.oneCell' = true := fun r hr u hu => by
  obtain ⟨m, _, rfl⟩ := List.mem_map.1 hr
  simp [en] at hu
  rcases hu with rfl | rfl | rfl | rfl <;> rfl
theorem en_app (o : List Entry) (x : Entry) : o.map en ++ [en x] = (o ++ [x]).map en := by simp

set_option maxHeartbeats 1600000 in
set_option maxRecDepth 100000 in
theorem r16_Values (A : Option Addr) (k : Nat) (l : List Move) (w : World) (hs : Sl w A 5 (l.map mv)) (hl : l.length ≤ 100000) :
    Calls Try.prog 130 #[.slice A l.length k] w (RetSl w 107 4 l.length ((valuesL l).map en)) := by
  go_enter Try.func130, Try.ntmps130
  go_wp2
  go_loopw [3, 4] (fun s i wr => ∃ (j : Nat) (D : Option Addr) (q d : Nat) (o : List Entry), j ≤ l.length ∧ i = .int .i64 j ∧ s = .slice D q d ∧ q = j ∧ Hid (o = valuesL (l.take j)) ∧ Ext w wr ∧ Hid (Own w wr 107 4 D q d (o.map en))) (fun _ i _ => l.length - (intOf i).toNat)
  case atStart => exact ⟨0, none, 0, 0, [], by omega, rfl, rfl, rfl, Lib.hid (by simp [valuesL]), Ext.refl _, Lib.hid (Own.nil _)⟩
  case round =>
    obtain ⟨j, D, q, d, o, hj, rfl, rfl, hq, HO1, hx, HO⟩ := hrel
    obtain ⟨y, rfl⟩ := hx.get
    clear hx
    by_cases hlt : j < l.length
    · obtain ⟨x, hx⟩ : ∃ x, l[j]? = some x := ⟨_, List.getElem?_eq_getElem hlt⟩
      have HX := Lib.hid (valuesL_step hx)
      obtain ⟨b', of, rfl, hc0, hc1, hc2, hc3, hc4⟩ := hs.row5 (i := j) (by rw [List.getElem?_map, hx]; rfl)
      have hb0 : (0 : Int) ≤ (j : Int) := by omega
      have hb1 : (j : Int) < (l.length : Int) := by omega
      have hq1 : q ≤ 100000 := by omega
      have HQ := Lib.hid hq
      clear hx hs hq
      go_wp2
      go_region_law ((refine step_append_mine (w0 := w) rfl _ _ 74 74 rfl 107 107 4 32 Try.underlying74 Try.underlying74 info_E (by decide) (by repeat (first | exact Ext.refl _ | assumption | apply Ext.xt | apply Ext.alloc | apply Ext.drew | apply Ext.drewN)) D q d (o.map en) (by rfl) (HO.out.mono (by repeat (first | exact Ext.refl _ | assumption | apply Ext.xt | apply Ext.alloc | apply Ext.drew | apply Ext.drewN))) _ 1 1 [en ⟨x.p, x.v⟩] (by rfl) (by first | exact Sl.allocD (by simp [go_sem]) rfl (by simp [en]) | exact Sl.alloc' (by simp [go_sem]) rfl (by simp [en])) rfl (en_one [⟨x.p, x.v⟩]) (by unfold maxLen; omega) (by omega) (q + 1) rfl (o.map en ++ [en ⟨x.p, x.v⟩]) rfl ?_; intro D1 c1 w1 hx1 hown hg hA; have HO := Lib.hid hown; obtain ⟨y1, rfl⟩ := hx1.get; clear hown hx1 hg hA))
      all_goals
        go_wp2
        go_light
        exact ⟨⟨j + 1, D1, q + 1, c1, o ++ [⟨x.p, x.v⟩], by omega, by go_num, rfl, by have := HQ.out; omega, Lib.hid (by rw [HX.out, HO1.out]), by repeat (first | exact Ext.refl _ | assumption | apply Ext.xt | apply Ext.alloc | apply Ext.drew | apply Ext.drewN), Lib.hid (by rw [← en_app]; exact HO.out.mono (by repeat (first | exact Ext.refl _ | assumption | apply Ext.xt | apply Ext.alloc | apply Ext.drew | apply Ext.drewN)))⟩, by simp [intOf]; omega⟩
    · have HE := Lib.hid (show o = valuesL l by rw [HO1.out, List.take_of_length_le (by omega)])
      obtain rfl : j = l.length := by omega
      subst hq
      go_wp2
      go_ret
      have h := HE.out
      subst h
      exact ⟨D, d, rfl, by repeat (first | exact Ext.refl _ | assumption | apply Ext.xt | apply Ext.alloc | apply Ext.drew | apply Ext.drewN), HO.out⟩

set_option maxHeartbeats 1600000 in
set_option maxRecDepth 100000 in
theorem r16_Entries (c : Cue) (A : Option Addr) (k : Nat) (B : Option Addr) (m : Nat) (w : World) (hc : CueAt w c A k B m) :
    Calls Try.prog 68 #[.agg (cueV c A k B m).toArray] w (RetEntries w (entriesV c)) := by
  have HC := Lib.hid hc
  simp only [cueV]
  by_cases hE : cueE c = 0
  · have hE' : (cueE c != 0) = false := by simpa using hE
    have hmv := (movesE_scan (cueE_ok hE).2.2.1).1
    have HV := Lib.hid (show entriesV c = (valuesL c.moves, 0) by unfold entriesV; rw [if_neg (by simpa using hE)])
    clear hc hE
    go_enter Try.func68, Try.ntmps68
    go_wp2_with (first
      | (go_at_call 53; refine (r16_Check c A k B m _ (HC.out.mono (by repeat (first | exact Ext.refl _ | assumption | apply Ext.xt | apply Ext.alloc | apply Ext.drew | apply Ext.drewN)))).mono ?_; rintro e w' ⟨rfl, hx⟩; obtain ⟨ya, rfl⟩ := hx.get; clear hx)
      | (go_at_call 130; refine (r16_Values A k c.moves _ (HC.out.mv.mono (by repeat (first | exact Ext.refl _ | assumption | apply Ext.xt | apply Ext.alloc | apply Ext.drew | apply Ext.drewN))) (by omega)).mono ?_; rintro e w' ⟨D, n1, rfl, hx, hown⟩; have HM := Lib.hid hown; obtain ⟨ym, rfl⟩ := hx.get; clear hx hown))
    go_ret2
    rw [HV.out]
    exact ⟨D, n1, by rw [valuesL_len]; rfl, by repeat (first | exact Ext.refl _ | assumption | apply Ext.xt | apply Ext.alloc | apply Ext.drew | apply Ext.drewN), HM.out.sl.mono (by repeat (first | exact Ext.refl _ | assumption | apply Ext.xt | apply Ext.alloc | apply Ext.drew | apply Ext.drewN)), by rw [valuesL_len]; exact HM.out.le, HM.out.cap⟩
  · have hE' : (cueE c != 0) = true := by simpa using hE
    have HV := Lib.hid (show entriesV c = ([], cueE c) by unfold entriesV; rw [if_pos hE])
    clear hc hE
    go_enter Try.func68, Try.ntmps68
    go_wp2_with (go_at_call 53; refine (r16_Check c A k B m _ (HC.out.mono (by repeat (first | exact Ext.refl _ | assumption | apply Ext.xt | apply Ext.alloc | apply Ext.drew | apply Ext.drewN)))).mono ?_; rintro e w' ⟨rfl, hx⟩; obtain ⟨ya, rfl⟩ := hx.get; clear hx)
    go_ret2
    rw [HV.out]
    exact ⟨none, 0, rfl, by repeat (first | exact Ext.refl _ | assumption | apply Ext.xt | apply Ext.alloc | apply Ext.drew | apply Ext.drewN), Sl.nil _ _ _, by simp, by unfold maxLen; omega⟩
end Go.Proofs.Ytgmicckeefoghaa
