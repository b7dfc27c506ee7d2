/-
  The program's Drop and Split.
-/
import Derived.Test.YtgmicckeefoghaaDel1
namespace Go.Proofs.Ytgmicckeefoghaa
open Go.RowKit

theorem Sl.upon {w1 w2 : World} {A : Option Addr} {size : Nat} {rows : List (List Value)} (hx : Ext w1 w2) (h : Sl w1 A size rows) : Sl w2 A size rows := h.mono hx
/-- The error of a list of parameters. -/
def paramsE (ps : List Param) : Int := if 4096 < ps.length then 5 else if ps.all (fun p => decide (paramE p = 0)) then 0 else 2
theorem paramE_two (p : Param) : paramE p = 0 ∨ paramE p = 2 := by unfold paramE; split <;> simp
def dropM (l : List Move) (ps : List Param) : List Move := l.filter fun m => !(fun m : Move => hasP ps m.p) m
def dropV (c : Cue) (ps : List Param) : Cue × Int := if cueE c ≠ 0 then (emptyC, cueE c) else if paramsE ps ≠ 0 then (emptyC, paramsE ps) else ({ c with moves := dropM c.moves ps }, 0)

set_option maxHeartbeats 400000 in
set_option maxRecDepth 100000 in
theorem draft_keep (bd : Nat) (B : Option Addr) (m : Nat) (l : List Timing) (W : World) (hb : W.cell? ⟨bd, 3, none⟩ = some (.slice B l.length m)) (hf : W.frozen? ⟨bd, 3, none⟩ = false) (hs : Sl W B 6 (l.map tmg)) (hl : l.length ≤ 1000000) :
    Calls Try.prog 94 #[.pointer (some ⟨bd, 0, none⟩)] W fun e w' => ∃ D m' y, e = .returned (.tuple #[]) ∧ w' = (xt W y).setCell ⟨bd, 3, none⟩ (.slice D l.length m') ∧ Own W (xt W y) 23 6 D l.length m' (l.map tmg) := by
  have HS := Lib.hid hs
  clear hs
  have hb2 : (W.cell? ⟨bd, 3, none⟩).isSome = true := by rw [hb]; rfl
  go_enter Try.func94, Try.ntmps94
  go_wp2_with (go_at_call 87; refine (Clone_T B m l _ HS.out hl).mono ?_; rintro e w' ⟨D, n', rfl, hx, hown⟩; have HO := Lib.hid hown; obtain ⟨yc, rfl⟩ := hx.get; clear hx hown)
  go_end0
  refine ⟨D, n', yc, rfl, ?_, HO.out⟩
  first | rfl | simp [go_sem, *]

set_option maxHeartbeats 3200000 in
set_option maxRecDepth 100000 in
theorem cue_Drop (c : Cue) (A : Option Addr) (k : Nat) (B : Option Addr) (m : Nat) (C : Option Addr) (n : Nat) (ps : List Param) (w : World) (hc : CueAt w c A k B m) (hs : Sl w C 2 (ps.map prm)) (hl : ps.length ≤ maxLen) :
    Calls Try.prog 49 #[.agg (cueV c A k B m).toArray, .slice C ps.length n] w (RetCue w (dropV c ps)) := by
  have HC := Lib.hid hc
  have HL := Lib.hid hl
  have HS := Lib.hid hs
  unfold maxLen at hl
  simp only [cueV]
  by_cases hE : cueE c = 0
  · have hE' : (cueE c != 0) = false := by simpa using hE
    have hmv := (movesE_scan (cueE_ok hE).2.2.1).1
    have hpl := (parts_len hE).2
    have HE := Lib.hid hE
    clear hc hE
    by_cases h4 : 4096 < ps.length
    · have HV := Lib.hid (show dropV c ps = (emptyC, 5) by unfold dropV paramsE; rw [if_neg (by simpa using HE.out), if_pos h4]; rfl)
      clear hs
      go_enter Try.func49, Try.ntmps49
      go_wp2_with (go_at_call 54; refine (cue_Check c A k B m _ (HC.out.mono (by repeat (first | exact Ext.refl _ | assumption | apply Ext.xt | apply Ext.alloc | apply Ext.drew | apply Ext.drewN)))).mono ?_; rintro e w' ⟨rfl, hx⟩; obtain ⟨ya, rfl⟩ := hx.get; clear hx)
      refine bodyPost_ret (v := .tuple #[.agg (cueV emptyC none 0 none 0).toArray, .int .i64 5]) (by simp [results, Try.results49, go_sem, cueV, emptyC]) rfl (RetCue.empty HV.out rfl (by repeat (first | exact Ext.refl _ | assumption | apply Ext.xt | apply Ext.alloc | apply Ext.drew | apply Ext.drewN)))
    · have HP := Lib.hid (show paramsE ps = if ps.all (fun p => decide (paramE p = 0)) then 0 else 2 by unfold paramsE; rw [if_neg h4])
      go_enter Try.func49, Try.ntmps49
      go_wp2_with (go_at_call 54; refine (cue_Check c A k B m _ (HC.out.mono (by repeat (first | exact Ext.refl _ | assumption | apply Ext.xt | apply Ext.alloc | apply Ext.drew | apply Ext.drewN)))).mono ?_; rintro e w' ⟨rfl, hx⟩; obtain ⟨ya, rfl⟩ := hx.get; clear hx)
      go_loopw [24] (fun i wr => ∃ j : Nat, j ≤ ps.length ∧ i = .int .i64 j ∧ Ext (((w.alloc (.cells #[.string c.number, .string c.label, .slice A c.moves.length k, .slice B c.parts.length m, .bool c.block, .bool c.mark, .int .i64 c.follow, .string c.link, .int .i64 c.loops] 38)).alloc (.cells #[.slice C ps.length n] 79)).alloc (.cells #[.string emptyC.number, .string emptyC.label, .slice none emptyC.moves.length 0, .slice none emptyC.parts.length 0, .bool emptyC.block, .bool emptyC.mark, .int .i64 emptyC.follow, .string emptyC.link, .int .i64 emptyC.loops] 38)) wr ∧ Hid ((ps.take j).all (fun p => decide (paramE p = 0)) = true)) (fun i _ => ps.length - (intOf i).toNat)
      case atStart => exact ⟨0, by omega, rfl, by repeat (first | exact Ext.refl _ | assumption | apply Ext.xt | apply Ext.alloc | apply Ext.drew | apply Ext.drewN), Lib.hid (by simp)⟩
      case round =>
        obtain ⟨j, hj, rfl, hx, HA⟩ := hrel
        obtain ⟨y, rfl⟩ := hx.get
        clear hx
        by_cases hlt : j < ps.length
        · obtain ⟨p, hp⟩ : ∃ p, ps[j]? = some p := ⟨_, List.getElem?_eq_getElem hlt⟩
          have HQ := Lib.hid hp
          obtain ⟨b', o, rfl, hc0, hc1⟩ := hs.row2 (i := j) (by rw [List.getElem?_map, hp]; rfl)
          have hb0 : (0 : Int) ≤ (j : Int) := by omega
          have hb1 : (j : Int) < (ps.length : Int) := by omega
          clear hp hs
          rcases paramE_two p with h0 | h0
          · have H0 := Lib.hid h0
            go_wp2_with (go_at_call 96; refine (cue_param p _).mono ?_; rintro e w' ⟨rfl, hx⟩; obtain ⟨y, rfl⟩ := hx.get; clear hx)
            go_light
            exact ⟨⟨j + 1, by omega, by go_num, by repeat (first | exact Ext.refl _ | assumption | apply Ext.xt | apply Ext.alloc | apply Ext.drew | apply Ext.drewN), Lib.hid (all_step HQ.out (by simpa using H0.out) HA.out)⟩, by simp [intOf]; omega⟩
          · have H0 := Lib.hid h0
            go_wp2_with (go_at_call 96; refine (cue_param p _).mono ?_; rintro e w' ⟨rfl, hx⟩; obtain ⟨y, rfl⟩ := hx.get; clear hx)
            have HV : dropV c ps = (emptyC, 2) := by
              have hn := all_not (p := fun p => decide (paramE p = 0)) HQ.out (by simp [H0.out])
              unfold dropV
              rw [if_neg (by simpa using HE.out), HP.out, hn]; rfl
            refine bodyPost_ret (v := .tuple #[.agg (cueV emptyC none 0 none 0).toArray, .int .i64 2]) (by simp [results, Try.results49, go_sem, cueV, emptyC]) rfl (RetCue.empty HV rfl (by repeat (first | exact Ext.refl _ | assumption | apply Ext.xt | apply Ext.alloc | apply Ext.drew | apply Ext.drewN)))
        · have HF := Lib.hid (all_full (p := fun p => decide (paramE p = 0)) (l := ps) (k := j) (by omega) HA.out)
          have HV := Lib.hid (show dropV c ps = ({ c with moves := dropM c.moves ps }, 0) by unfold dropV; rw [if_neg (by simpa using HE.out), HP.out, HF.out]; rfl)
          clear hs
          go_wp2_with (first
            | (go_at_call 98; refine (Clone_M A k c.moves _ (HC.out.mv.mono (by repeat (first | exact Ext.refl _ | assumption | apply Ext.xt | apply Ext.alloc | apply Ext.drew | apply Ext.drewN))) (by omega)).mono ?_; rintro e w' ⟨D, n1, rfl, hx, hown⟩; have HM := Lib.hid hown; obtain ⟨ym, rfl⟩ := hx.get; clear hx hown)
            | (go_at_call 97; refine (DeleteFunc_Drop _ D n1 c.moves _ C n ps _ (Ext.xt (Ext.refl _) _) HM.out (by omega) (HS.out.mono (by repeat (first | exact Ext.refl _ | assumption | apply Ext.xt | apply Ext.alloc | apply Ext.drew | apply Ext.drewN))) HL.out (by simp [go_sem])).mono ?_; rintro e w' ⟨D2, n2, rfl, hx, hown⟩; have HD := Lib.hid hown; obtain ⟨yd, rfl⟩ := hx.get; clear hx hown)
            | (go_at_call 94; refine (draft_keep _ B m c.parts _ (by simp [go_sem]) (by simp [go_sem]) (HC.out.pt.mono (by repeat (first | exact Ext.refl _ | assumption | apply Ext.xt | apply Ext.alloc | apply Ext.drew | apply Ext.drewN))) (by omega)).mono ?_; rintro e w' ⟨D3, n3, y3, rfl, rfl, hown⟩; have HK := Lib.hid hown; clear hown))
          refine bodyPost_ret (v := .tuple #[.agg (cueV { c with moves := dropM c.moves ps } D2 n2 D3 n3).toArray, .int .i64 0]) (by simp [results, Try.results49, go_sem, cueV, dropM]) rfl ?_
          rw [HV.out]
          exact ⟨D2, n2, D3, n3, rfl, by repeat (first | exact Ext.refl _ | assumption | apply Ext.xt | apply Ext.alloc | apply Ext.drew | apply Ext.drewN), ⟨Sl.upon (by repeat (first | exact Ext.refl _ | assumption | apply Ext.xt | apply Ext.alloc | apply Ext.drew | apply Ext.drewN)) (Own.swapped (w := w) HD.out (by simp [go_sem]) (by repeat (first | exact Ext.refl _ | assumption | apply Ext.xt | apply Ext.alloc | apply Ext.drew | apply Ext.drewN))).sl, (Own.swapped (w := w) HK.out (by simp [go_sem]) (by repeat (first | exact Ext.refl _ | assumption | apply Ext.xt | apply Ext.alloc | apply Ext.drew | apply Ext.drewN))).sl, HD.out.le, HK.out.le, HD.out.cap, HK.out.cap, HC.out.num, HC.out.lab, HC.out.lnk⟩⟩
  · have hE' : (cueE c != 0) = true := by simpa using hE
    have HV := Lib.hid (show dropV c ps = (emptyC, cueE c) by unfold dropV; rw [if_pos hE])
    clear hc hE hs
    go_enter Try.func49, Try.ntmps49
    go_wp2_with (go_at_call 54; refine (cue_Check c A k B m _ (HC.out.mono (by repeat (first | exact Ext.refl _ | assumption | apply Ext.xt | apply Ext.alloc | apply Ext.drew | apply Ext.drewN)))).mono ?_; rintro e w' ⟨rfl, hx⟩; obtain ⟨ya, rfl⟩ := hx.get; clear hx)
    refine bodyPost_ret (v := .tuple #[.agg (cueV emptyC none 0 none 0).toArray, .int .i64 (cueE c)]) (by simp [results, Try.results49, go_sem, cueV, emptyC]) rfl (RetCue.empty HV.out rfl (by repeat (first | exact Ext.refl _ | assumption | apply Ext.xt | apply Ext.alloc | apply Ext.drew | apply Ext.drewN)))

/-- The moves of a part. -/
def splitM (l : List Move) (part : Int) : List Move := l.filter fun m => !(fun m : Move => m.part != part) m
def splitV (c : Cue) (part : Int) : List Move × Int := if cueE c ≠ 0 then ([], cueE c) else if part < 1 ∨ (c.parts.length : Int) < part then ([], 6) else (splitM c.moves part, 0)
set_option maxHeartbeats 1600000 in
set_option maxRecDepth 100000 in
theorem cue_Split (c : Cue) (A : Option Addr) (k : Nat) (B : Option Addr) (m : Nat) (part : Int) (w : World) (hc : CueAt w c A k B m) :
    Calls Try.prog 55 #[.agg (cueV c A k B m).toArray, .int .i64 part] w (RetMoves w (splitV c part)) := by
  have HC := Lib.hid hc
  simp only [cueV]
  by_cases hE : cueE c = 0
  · have hE' : (cueE c != 0) = false := by simpa using hE
    have hmv := (movesE_scan (cueE_ok hE).2.2.1).1
    have HE := Lib.hid hE
    clear hc hE
    rcases (by omega : part < 1 ∨ (1 ≤ part ∧ (c.parts.length : Int) < part) ∨ (1 ≤ part ∧ part ≤ (c.parts.length : Int))) with h1 | ⟨h1, h2⟩ | ⟨h1, h2⟩
    · have HV := Lib.hid (show splitV c part = ([], 6) by unfold splitV; rw [if_neg (by simpa using HE.out), if_pos (by omega)])
      go_enter Try.func55, Try.ntmps55
      go_wp2_with (go_at_call 54; refine (cue_Check c A k B m _ (HC.out.mono (by repeat (first | exact Ext.refl _ | assumption | apply Ext.xt | apply Ext.alloc | apply Ext.drew | apply Ext.drewN)))).mono ?_; rintro e w' ⟨rfl, hx⟩; obtain ⟨ya, rfl⟩ := hx.get; clear hx)
      go_ret2
      exact ret_nil HV.out rfl (by repeat (first | exact Ext.refl _ | assumption | apply Ext.xt | apply Ext.alloc | apply Ext.drew | apply Ext.drewN))
    · have HV := Lib.hid (show splitV c part = ([], 6) by unfold splitV; rw [if_neg (by simpa using HE.out), if_pos (by omega)])
      go_enter Try.func55, Try.ntmps55
      go_wp2_with (go_at_call 54; refine (cue_Check c A k B m _ (HC.out.mono (by repeat (first | exact Ext.refl _ | assumption | apply Ext.xt | apply Ext.alloc | apply Ext.drew | apply Ext.drewN)))).mono ?_; rintro e w' ⟨rfl, hx⟩; obtain ⟨ya, rfl⟩ := hx.get; clear hx)
      go_ret2
      exact ret_nil HV.out rfl (by repeat (first | exact Ext.refl _ | assumption | apply Ext.xt | apply Ext.alloc | apply Ext.drew | apply Ext.drewN))
    · have HV := Lib.hid (show splitV c part = (splitM c.moves part, 0) by unfold splitV; rw [if_neg (by simpa using HE.out), if_neg (by omega)])
      go_enter Try.func55, Try.ntmps55
      go_wp2_with (first
        | (go_at_call 54; refine (cue_Check c A k B m _ (HC.out.mono (by repeat (first | exact Ext.refl _ | assumption | apply Ext.xt | apply Ext.alloc | apply Ext.drew | apply Ext.drewN)))).mono ?_; rintro e w' ⟨rfl, hx⟩; obtain ⟨ya, rfl⟩ := hx.get; clear hx)
        | (go_at_call 98; refine (Clone_M A k c.moves _ (HC.out.mv.mono (by repeat (first | exact Ext.refl _ | assumption | apply Ext.xt | apply Ext.alloc | apply Ext.drew | apply Ext.drewN))) (by omega)).mono ?_; rintro e w' ⟨D, n1, rfl, hx, hown⟩; have HM := Lib.hid hown; obtain ⟨ym, rfl⟩ := hx.get; clear hx hown)
        | (go_at_call 97; refine (DeleteFunc_Split _ D n1 c.moves _ part _ (Ext.xt (Ext.refl _) _) HM.out (by omega) (by simp [go_sem])).mono ?_; rintro e w' ⟨D2, n2, rfl, hx, hown⟩; have HD := Lib.hid hown; obtain ⟨yd, rfl⟩ := hx.get; clear hx hown))
      go_ret2
      rw [HV.out]
      exact ⟨D2, n2, rfl, by repeat (first | exact Ext.refl _ | assumption | apply Ext.xt | apply Ext.alloc | apply Ext.drew | apply Ext.drewN), HD.out.sl.mono (by repeat (first | exact Ext.refl _ | assumption | apply Ext.xt | apply Ext.alloc | apply Ext.drew | apply Ext.drewN)), HD.out.le, HD.out.cap⟩
  · have hE' : (cueE c != 0) = true := by simpa using hE
    have HV := Lib.hid (show splitV c part = ([], cueE c) by unfold splitV; rw [if_pos hE])
    clear hc hE
    go_enter Try.func55, Try.ntmps55
    go_wp2_with (go_at_call 54; refine (cue_Check c A k B m _ (HC.out.mono (by repeat (first | exact Ext.refl _ | assumption | apply Ext.xt | apply Ext.alloc | apply Ext.drew | apply Ext.drewN)))).mono ?_; rintro e w' ⟨rfl, hx⟩; obtain ⟨ya, rfl⟩ := hx.get; clear hx)
    go_ret2
    exact ret_nil HV.out rfl (by repeat (first | exact Ext.refl _ | assumption | apply Ext.xt | apply Ext.alloc | apply Ext.drew | apply Ext.drewN))
end Go.Proofs.Ytgmicckeefoghaa
