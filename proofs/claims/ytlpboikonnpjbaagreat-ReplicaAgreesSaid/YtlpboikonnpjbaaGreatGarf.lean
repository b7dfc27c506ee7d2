/-
  The reference's comparison of edits and of actions.
-/
import Derived.Test.YtlpboikonnpjbaaGreatGcmp
import Derived.Test.YtlpboikonnpjbaaGreatGsam
import Derived.Test.YtlpboikonnpjbaaGreatGlev
import Derived.Test.YtlpboikonnpjbaaGreatGlog
namespace Go.Proofs.YtlpboikonnpjbaaGreat
open Go.RowKit

theorem sameE_cue {a b : Edit} (h : (!decide (a.cue = b.cue)) = true) (g : a.cue = b.cue) : False := by simp [g] at h
theorem sameE_all {a b : Edit} (h1 : a.kind = b.kind) (h2 : a.number = b.number) (h3 : a.ch = b.ch) (h4 : a.prio = b.prio) (h5 : a.key.toList = b.key.toList) (h6 : (!decide (a.cue = b.cue)) = false) (h7 : samePl a.pn a.hues.l b.pn b.hues.l = true) (h8 : sameGr a.gn a.chans.l b.gn b.chans.l = true) (h9 : sameS a.sub b.sub = true) (h10 : sameX a.eff b.eff = true) :
    eqF ⟨a.fix.ch, a.fix.part, a.fix.profile, a.fix.univ, a.fix.addr, a.fix.phase, a.fix.cable⟩ ⟨b.fix.ch, b.fix.part, b.fix.profile, b.fix.univ, b.fix.addr, b.fix.phase, b.fix.cable⟩ = sameE a b := by
  obtain ⟨p1, p2⟩ := of_decide_eq_true h7
  obtain ⟨g1, g2⟩ := of_decide_eq_true h8
  obtain ⟨s1, s2, s3, s4⟩ := of_decide_eq_true h9
  obtain ⟨x1, x2, x3, x4, x5, x6⟩ := of_decide_eq_true h10
  exact sameE_yes fun hf => ⟨h1, h2, h3, h4, bytes_ext h5, by simpa using h6, p1, p2, g1, g2, s1, s2, s3, s4, x1, x2, x3, x4, x5, x6, hf⟩
set_option maxHeartbeats 6400000 in
set_option maxRecDepth 100000 in
theorem r32_SameEdit (a b : Edit) (w : World) (ha : EditAt w a) (hb : EditAt w b) : Calls Tryz.prog 100 #[.agg (editR a).toArray, .agg (editR b).toArray] w fun r w' => r = .returned (.bool (sameE a b)) ∧ Ext w w' := by
  have HA := Lib.hid ha
  have HB := Lib.hid hb
  clear ha hb
  go_enter Tryz.func100, Tryz.ntmps100
  go_upto_region 1 with fail
  refine wp_region_strip (l' := ?l2) ?hl ?_
  case hl =>
    simp only [List.map_cons, List.map_nil, stripO]
    rfl
  go_wp2_with (first
    | (go_at_call 147; refine (r16_Same a.cue a.cA a.ck a.cB a.cm b.cue b.cA b.ck b.cB b.cm _ (HA.out.cue.mono (by repeat (first | exact Ext.refl _ | assumption | apply Ext.xt | apply Ext.alloc | apply Ext.drew | apply Ext.drewN))) (HB.out.cue.mono (by repeat (first | exact Ext.refl _ | assumption | apply Ext.xt | apply Ext.alloc | apply Ext.drew | apply Ext.drewN)))).mono ?_; rintro e w' ⟨rfl, hx⟩; obtain ⟨y, rfl⟩ := hx.get; clear hx)
    | (go_at_call 148; refine (r15_Same1 _ _ a.pn b.pn a.hues b.hues _ ⟨by simp [go_sem], by simp [go_sem], HA.out.hues.mono (by repeat (first | exact Ext.refl _ | assumption | apply Ext.xt | apply Ext.alloc | apply Ext.drew | apply Ext.drewN))⟩ ⟨by simp [go_sem], by simp [go_sem], HB.out.hues.mono (by repeat (first | exact Ext.refl _ | assumption | apply Ext.xt | apply Ext.alloc | apply Ext.drew | apply Ext.drewN))⟩).mono ?_; rintro e w' ⟨rfl, hx⟩; obtain ⟨y, rfl⟩ := hx.get; clear hx)
    | (go_at_call 149; refine (r14_Same a.gn a.chans b.gn b.chans _ (HA.out.chans.mono (by repeat (first | exact Ext.refl _ | assumption | apply Ext.xt | apply Ext.alloc | apply Ext.drew | apply Ext.drewN))) (HB.out.chans.mono (by repeat (first | exact Ext.refl _ | assumption | apply Ext.xt | apply Ext.alloc | apply Ext.drew | apply Ext.drewN)))).mono ?_; rintro e w' ⟨rfl, hx⟩; obtain ⟨y, rfl⟩ := hx.get; clear hx)
    | (go_at_call 150; refine (r26_Same a.sub b.sub _ (HA.out.gains.mono (by repeat (first | exact Ext.refl _ | assumption | apply Ext.xt | apply Ext.alloc | apply Ext.drew | apply Ext.drewN))) (HB.out.gains.mono (by repeat (first | exact Ext.refl _ | assumption | apply Ext.xt | apply Ext.alloc | apply Ext.drew | apply Ext.drewN)))).mono ?_; rintro e w' ⟨rfl, hx⟩; obtain ⟨y, rfl⟩ := hx.get; clear hx)
    | (go_at_call 151; refine (r28_SameEffect a.eff b.eff _ (HA.out.wave.mono (by repeat (first | exact Ext.refl _ | assumption | apply Ext.xt | apply Ext.alloc | apply Ext.drew | apply Ext.drewN))) (HB.out.wave.mono (by repeat (first | exact Ext.refl _ | assumption | apply Ext.xt | apply Ext.alloc | apply Ext.drew | apply Ext.drewN)))).mono ?_; rintro e w' ⟨rfl, hx⟩; obtain ⟨y, rfl⟩ := hx.get; clear hx))
  all_goals
    go_ret
    refine ⟨ret_b ?_, by repeat (first | exact Ext.refl _ | assumption | apply Ext.xt | apply Ext.alloc | apply Ext.drew | apply Ext.drewN)⟩
    go_light
    first
      | exact sameE_no fun h => ‹¬a.kind = b.kind› h.kind
      | exact sameE_no fun h => ‹¬a.number = b.number› h.number
      | exact sameE_no fun h => ‹¬a.ch = b.ch› h.ch
      | exact sameE_no fun h => ‹¬a.prio = b.prio› h.prio
      | exact sameE_no fun h => ‹¬a.key.toList = b.key.toList› (by rw [h.key])
      | exact sameE_no fun h => sameE_cue ‹(!decide (a.cue = b.cue)) = true› h.cue
      | exact sameE_no fun h => ‹¬samePl a.pn a.hues.l b.pn b.hues.l = true› (decide_eq_true ⟨h.pn, h.hues⟩)
      | exact sameE_no fun h => ‹¬sameGr a.gn a.chans.l b.gn b.chans.l = true› (decide_eq_true ⟨h.gn, h.chans⟩)
      | exact sameE_no fun h => ‹¬sameS a.sub b.sub = true› (decide_eq_true ⟨h.sn, h.sp, h.si, h.sg⟩)
      | exact sameE_no fun h => ‹¬sameX a.eff b.eff = true› (decide_eq_true ⟨h.xn, h.xa, h.xw, h.xp, h.xs, h.xz⟩)
      | exact sameE_all ‹a.kind = b.kind› ‹a.number = b.number› ‹a.ch = b.ch› ‹a.prio = b.prio› ‹a.key.toList = b.key.toList› ‹(!decide (a.cue = b.cue)) = false› ‹samePl a.pn a.hues.l b.pn b.hues.l = true› ‹sameGr a.gn a.chans.l b.gn b.chans.l = true› ‹sameS a.sub b.sub = true› ‹sameX a.eff b.eff = true›

set_option maxHeartbeats 6400000 in
set_option maxRecDepth 100000 in
theorem r33_Same (a b : Acn) (w : World) (ha : AcnAt w a) (hb : AcnAt w b) : Calls Tryz.prog 79 #[.agg (acnR a).toArray, .agg (acnR b).toArray] w fun r w' => r = .returned (.bool (sameA a b)) ∧ Ext w w' := by
  have HA := Lib.hid ha
  have HB := Lib.hid hb
  clear ha hb
  have HR1 := Lib.hid (rangeAt_mono (rangeAt_new w rfl (acnR a) 45) ((Ext.refl _).alloc (.cells (acnR b).toArray 45)))
  have HR2 := Lib.hid (rangeAt_new (w.alloc (.cells (acnR a).toArray 45)) (b := w.heap.size + 1) (by simp) (acnR b) 45)
  go_enter Tryz.func79, Tryz.ntmps79
  go_upto_region 1 with fail
  refine wp_region_strip (l' := ?l2) ?hl ?_
  case hl =>
    simp only [List.map_cons, List.map_nil, stripO]
    rfl
  go_wp2_with (first
    | (refine wpList_load_row rfl 43 (.tmp 65) rfl w.heap.size 9 rfl (editR a.edit) _ (rangeAt_mono (rangeAt_end HR1.out rfl) (by repeat (first | exact Ext.refl _ | assumption | apply Ext.xt | apply Ext.alloc | apply Ext.drew | apply Ext.drewN))) Tryz.underlying43 rfl (by kernel_rfl) ?_)
    | (refine wpList_load_row rfl 43 (.tmp 67) rfl (w.heap.size + 1) 9 rfl (editR b.edit) _ (rangeAt_mono (rangeAt_end HR2.out rfl) (by repeat (first | exact Ext.refl _ | assumption | apply Ext.xt | apply Ext.alloc | apply Ext.drew | apply Ext.drewN))) Tryz.underlying43 rfl (by kernel_rfl) ?_)
    | (go_at_call 131; refine (r15_SameEntries a.entries.at_ a.entries.cap a.entries.l b.entries.at_ b.entries.cap b.entries.l _ (HA.out.entries.sl.mono (by repeat (first | exact Ext.refl _ | assumption | apply Ext.xt | apply Ext.alloc | apply Ext.drew | apply Ext.drewN))) HA.out.entries.len (HB.out.entries.sl.mono (by repeat (first | exact Ext.refl _ | assumption | apply Ext.xt | apply Ext.alloc | apply Ext.drew | apply Ext.drewN))) HB.out.entries.len).mono ?_; rintro e w' ⟨rfl, hx⟩; obtain ⟨y, rfl⟩ := hx.get; clear hx)
    | (go_at_call 132; refine (r15_SameParams a.params.at_ a.params.cap a.params.l b.params.at_ b.params.cap b.params.l _ (HA.out.params.sl.mono (by repeat (first | exact Ext.refl _ | assumption | apply Ext.xt | apply Ext.alloc | apply Ext.drew | apply Ext.drewN))) HA.out.params.len (HB.out.params.sl.mono (by repeat (first | exact Ext.refl _ | assumption | apply Ext.xt | apply Ext.alloc | apply Ext.drew | apply Ext.drewN))) HB.out.params.len).mono ?_; rintro e w' ⟨rfl, hx⟩; obtain ⟨y, rfl⟩ := hx.get; clear hx)
    | (go_at_call 133; refine (r15_SameInts a.chans.at_ a.chans.cap a.chans.l b.chans.at_ b.chans.cap b.chans.l _ (HA.out.chans.sl.mono (by repeat (first | exact Ext.refl _ | assumption | apply Ext.xt | apply Ext.alloc | apply Ext.drew | apply Ext.drewN))) HA.out.chans.len (HB.out.chans.sl.mono (by repeat (first | exact Ext.refl _ | assumption | apply Ext.xt | apply Ext.alloc | apply Ext.drew | apply Ext.drewN))) HB.out.chans.len).mono ?_; rintro e w' ⟨rfl, hx⟩; obtain ⟨y, rfl⟩ := hx.get; clear hx)
    | (go_at_call 100; refine (r32_SameEdit a.edit b.edit _ (HA.out.edit.mono (by repeat (first | exact Ext.refl _ | assumption | apply Ext.xt | apply Ext.alloc | apply Ext.drew | apply Ext.drewN))) (HB.out.edit.mono (by repeat (first | exact Ext.refl _ | assumption | apply Ext.xt | apply Ext.alloc | apply Ext.drew | apply Ext.drewN)))).mono ?_; rintro e w' ⟨rfl, hx⟩; obtain ⟨y, rfl⟩ := hx.get; clear hx))
  all_goals
    go_ret
    refine ⟨ret_b ?_, by repeat (first | exact Ext.refl _ | assumption | apply Ext.xt | apply Ext.alloc | apply Ext.drew | apply Ext.drewN)⟩
    go_light
    first
      | exact sameA_no fun h => ‹¬a.at_ = b.at_› h.at_
      | exact sameA_no fun h => ‹¬a.kind = b.kind› h.kind
      | exact sameA_no fun h => ‹¬a.target = b.target› h.target
      | exact sameA_no fun h => ‹¬a.cue.toList = b.cue.toList› (by rw [h.cue])
      | exact sameA_no fun h => ‹¬a.level = b.level› h.level
      | exact sameA_no fun h => absurd h.time (by simpa using ‹(a.time != b.time) = true›)
      | exact sameA_no fun h => ‹¬a.entries.l = b.entries.l› h.entries
      | exact sameA_no fun h => ‹¬a.params.l = b.params.l› h.params
      | exact sameA_no fun h => ‹¬a.chans.l = b.chans.l› h.chans
      | exact sameA_yes fun hf => ⟨‹a.at_ = b.at_›, ‹a.kind = b.kind›, ‹a.target = b.target›, bytes_ext ‹a.cue.toList = b.cue.toList›, ‹a.level = b.level›, by simpa using ‹(a.time != b.time) = false›, ‹a.entries.l = b.entries.l›, ‹a.params.l = b.params.l›, ‹a.chans.l = b.chans.l›, hf⟩
end Go.Proofs.YtlpboikonnpjbaaGreat

/-
  The reference's check of an action: the kinds, the levels, the lists.
-/
namespace Go.Proofs.YtlpboikonnpjbaaGreat
open Go.RowKit

def tgB (k : Int) : Bool := decide ((0 ≤ k ∧ k ≤ 9) ∨ k = 14 ∨ k = 15 ∨ k = 16)
def lvB (k : Int) : Bool := decide (k = 6 ∨ k = 7 ∨ k = 9 ∨ k = 10 ∨ k = 11 ∨ k = 15)
def tmB (k : Int) : Bool := decide (k = 7 ∨ k = 8 ∨ k = 9 ∨ k = 10 ∨ k = 12)
set_option maxHeartbeats 400000 in
set_option maxRecDepth 100000 in
theorem r33_target (k : Int) (w : World) : Calls Tryz.prog 91 #[.int .i64 k] w fun e w' => e = .returned (.bool (tgB k)) ∧ w = w' := by
  go_enter Tryz.func91, Tryz.ntmps91
  go_wp2
  all_goals
    go_ret
    refine ⟨ret_b ?_, rfl⟩
    unfold tgB
    grind
set_option maxHeartbeats 400000 in
set_option maxRecDepth 100000 in
theorem r33_level (k : Int) (w : World) : Calls Tryz.prog 93 #[.int .i64 k] w fun e w' => e = .returned (.bool (lvB k)) ∧ w = w' := by
  go_enter Tryz.func93, Tryz.ntmps93
  go_wp2
  all_goals
    go_ret
    refine ⟨ret_b ?_, rfl⟩
    unfold lvB
    grind
set_option maxHeartbeats 400000 in
set_option maxRecDepth 100000 in
theorem r33_time (k : Int) (w : World) : Calls Tryz.prog 95 #[.int .i64 k] w fun e w' => e = .returned (.bool (tmB k)) ∧ w = w' := by
  go_enter Tryz.func95, Tryz.ntmps95
  go_wp2
  all_goals
    go_ret
    refine ⟨ret_b ?_, rfl⟩
    unfold tmB
    grind
set_option maxHeartbeats 400000 in
set_option maxRecDepth 100000 in
theorem r33_levels (k v : Int) (w : World) : Calls Tryz.prog 94 #[.int .i64 k, .int .i64 v] w fun e w' => e = .returned (.int .i64 (levelsE k v)) ∧ w = w' := by
  go_enter Tryz.func94, Tryz.ntmps94
  go_wp2
  all_goals
    go_ret
    refine ⟨ret_i ?_, rfl⟩
    grind [levelsE, inE]

set_option maxHeartbeats 1600000 in
set_option maxRecDepth 100000 in
theorem r33_Params (A : Option Addr) (cap : Nat) (l : List Param) (w : World) (hs : Sl w A 2 (l.map prm)) (hl : l.length ≤ maxLen) : Calls Tryz.prog 97 #[.slice A l.length cap] w fun e w' => e = .returned (.int .i64 (parsE l)) ∧ Ext w w' := by
  unfold maxLen at hl
  by_cases h1 : 4096 < l.length
  · have HV := Lib.hid (show parsE l = 5 by unfold parsE; rw [if_pos h1])
    clear hs
    go_enter Tryz.func97, Tryz.ntmps97
    go_wp2
    go_ret
    exact ⟨ret_i HV.out.symm, Ext.refl _⟩
  · have HM := Lib.hid (show parsE l = scan parE none l by unfold parsE; rw [if_neg h1])
    go_enter Tryz.func97, Tryz.ntmps97
    go_wp2
    go_loopw [3] (fun i wr => ∃ k : Nat, k ≤ l.length ∧ i = .int .i64 k ∧ Ext w wr ∧ Hid (parsE l = scan parE (prv l k) (l.drop k))) (fun i _ => l.length - (intOf i).toNat)
    case atStart => exact ⟨0, by omega, rfl, Ext.refl _, HM⟩
    case round =>
      obtain ⟨k, hk, rfl, hx, HE⟩ := hrel
      obtain ⟨y, rfl⟩ := hx.get
      clear hx HM
      by_cases hlt : k < l.length
      · obtain ⟨m, hm⟩ : ∃ m, l[k]? = some m := ⟨_, List.getElem?_eq_getElem hlt⟩
        obtain ⟨b, o, rfl, hc0, hc1⟩ := hs.row2 (i := k) (by rw [List.getElem?_map, hm]; rfl)
        have HS := Lib.hid (HE.out.trans (scan_at parE l k m hm))
        have hb0 : (0 : Int) ≤ (k : Int) := by omega
        have hb1 : (k : Int) < (l.length : Int) := by omega
        clear HE
        by_cases hp : paramE m = 0
        · have hz : (paramE m != 0) = false := by simpa using hp
          have HP0 := Lib.hid hp
          clear hp
          by_cases hk0 : 0 < k
          · obtain ⟨m', hm'⟩ : ∃ m', l[k - 1]? = some m' := ⟨_, List.getElem?_eq_getElem (by omega)⟩
            obtain ⟨b', o', hA, hp0, hp1⟩ := hs.row2 (i := k - 1) (by rw [List.getElem?_map, hm']; rfl)
            injection hA with hA
            injection hA with e1 e2
            subst e1 e2
            have HP := Lib.hid (show prv l k = some m' by unfold prv; rw [if_neg (by omega), hm'])
            clear hm hm' hs
            go_wp2_with (go_at_call 142; refine (r15_Param m _).mono ?_; rintro e w' ⟨rfl, hx⟩; obtain ⟨y, rfl⟩ := hx.get; clear hx)
            (refine wp_region_grows (by kernel_rfl) (by kernel_rfl) ?_; (repeat (go_big_quiet_step ((go_at_call 144; exact Calls.grows (r15_Before m' m _))))); refine wpQuiet_nil ?_; rintro _ ⟨y, rfl⟩)
            cases hB : before m' m
            · have HB := Lib.hid hB
              clear hB
              go_wp2
              go_ret
              go_light
              refine ⟨ret_i ?_, by repeat (first | exact Ext.refl _ | assumption | apply Ext.xt | apply Ext.alloc | apply Ext.drew | apply Ext.drewN)⟩
              have hS := HS.out
              have hB := HB.out
              have h1 := HP0.out
              rw [HP.out] at hS
              grind [parE]
            · have HB := Lib.hid hB
              clear hB
              go_wp2
              go_light
              have hS := HS.out
              have hB := HB.out
              have h1 := HP0.out
              refine ⟨⟨k + 1, by omega, by go_num, by repeat (first | exact Ext.refl _ | assumption | apply Ext.xt | apply Ext.alloc | apply Ext.drew | apply Ext.drewN), Lib.hid ?_⟩, by simp [intOf]; omega⟩
              rw [HP.out] at hS
              grind [parE]
          · have HP : Hid (prv l k = none) := Lib.hid (by unfold prv; rw [if_pos (by omega)])
            obtain rfl : k = 0 := by omega
            simp only [Nat.zero_mul, Nat.add_zero] at hc0 hc1
            clear hm hs hk0
            go_wp2_with (go_at_call 142; refine (r15_Param m _).mono ?_; rintro e w' ⟨rfl, hx⟩; obtain ⟨y, rfl⟩ := hx.get; clear hx)
            (refine wp_region_grows (by kernel_rfl) (by kernel_rfl) ?_; (repeat (go_big_quiet_step (fail))); refine wpQuiet_nil ?_; rintro _ ⟨y, rfl⟩)
            go_wp2
            go_light
            have hS := HS.out
            have h1 := HP0.out
            refine ⟨⟨1, by omega, by rfl, by repeat (first | exact Ext.refl _ | assumption | apply Ext.xt | apply Ext.alloc | apply Ext.drew | apply Ext.drewN), Lib.hid ?_⟩, by simp [intOf]; omega⟩
            rw [HP.out] at hS
            grind [parE]
        · have hz : (paramE m != 0) = true := by simpa using hp
          have HV := Lib.hid (show paramE m = parsE l by
            rw [HS.out]
            have h2 : parE (prv l k) m = paramE m := by unfold parE; rw [if_pos hp]
            rw [h2, if_pos hp])
          clear hp hm hs
          go_wp2_with (go_at_call 142; refine (r15_Param m _).mono ?_; rintro e w' ⟨rfl, hx⟩; obtain ⟨y, rfl⟩ := hx.get; clear hx)
          go_ret
          exact ⟨ret_i HV.out, by repeat (first | exact Ext.refl _ | assumption | apply Ext.xt | apply Ext.alloc | apply Ext.drew | apply Ext.drewN)⟩
      · have HS := Lib.hid (HE.out.trans (scan_end parE l k _ (by omega)))
        go_wp2
        go_ret
        exact ⟨ret_i HS.out.symm, by repeat (first | exact Ext.refl _ | assumption | apply Ext.xt | apply Ext.alloc | apply Ext.drew | apply Ext.drewN)⟩

set_option maxHeartbeats 1600000 in
set_option maxRecDepth 100000 in
theorem r33_Channels (A : Option Addr) (cap : Nat) (l : List Int) (w : World) (hs : Sl w A 1 (l.map intR)) (hl : l.length ≤ maxLen) : Calls Tryz.prog 98 #[.slice A l.length cap] w fun e w' => e = .returned (.int .i64 (chansE l)) ∧ Ext w w' := by
  unfold maxLen at hl
  by_cases h0 : l.length = 0
  · have hz : ((l.length : Int) == 0) = true := by simp [h0]
    have HV := Lib.hid (show chansE l = 12 by unfold chansE; rw [if_pos h0])
    clear h0 hs
    go_enter Tryz.func98, Tryz.ntmps98
    go_wp2
    go_ret
    exact ⟨ret_i HV.out.symm, Ext.refl _⟩
  · have hz : ((l.length : Int) == 0) = false := by simp; intro h; exact h0 (by simp [h])
    by_cases h1 : 256 < l.length
    · have HV := Lib.hid (show chansE l = 5 by unfold chansE; rw [if_neg h0, if_pos h1])
      clear h0 hs
      go_enter Tryz.func98, Tryz.ntmps98
      go_wp2
      go_ret
      exact ⟨ret_i HV.out.symm, Ext.refl _⟩
    · have HM := Lib.hid (show chansE l = chansS [] l by unfold chansE; rw [if_neg h0, if_neg h1])
      obtain ⟨b, o, rfl, -⟩ := hs.row1 (i := 0) (by rw [List.getElem?_map, List.getElem?_eq_getElem (by omega)]; rfl)
      clear h0
      go_enter Tryz.func98, Tryz.ntmps98
      go_wp2
      go_loopw [3, 4] (fun i _ wr => ∃ k : Nat, k ≤ l.length ∧ i = .int .i64 k ∧ Ext w wr ∧ Hid (chansE l = chansS (l.take k) (l.drop k))) (fun i _ _ => l.length - (intOf i).toNat)
      case atStart => exact ⟨0, by omega, rfl, Ext.refl _, by simpa using HM⟩
      case round =>
        obtain ⟨k, hk, rfl, hx, HE⟩ := hrel
        obtain ⟨y, rfl⟩ := hx.get
        clear hx HM
        by_cases hlt : k < l.length
        · obtain ⟨m, hm⟩ : ∃ m, l[k]? = some m := ⟨_, List.getElem?_eq_getElem hlt⟩
          obtain ⟨b', o', hA, hc0⟩ := hs.row1 (i := k) (by rw [List.getElem?_map, hm]; rfl)
          injection hA with hA
          injection hA with e1 e2
          subst e1 e2
          have HS := Lib.hid (HE.out.trans (chansS_at l k m hm))
          have HSl := Lib.hid hs
          have HM := Lib.hid hm
          have hb0 : (0 : Int) ≤ (k : Int) := by omega
          have hb1 : (k : Int) < (l.length : Int) := by omega
          clear HE hm hs
          rcases inE_two m 1 999 with hi | hi
          · have hi1 : 1 ≤ m := by unfold inE at hi; split at hi <;> omega
            have hi2 : m ≤ 999 := by unfold inE at hi; split at hi <;> omega
            have HI := Lib.hid hi
            clear hi
            go_wp2
            go_loopw [4] (fun i wr => ∃ j : Nat, j ≤ k ∧ i = .int .i64 j ∧ Ext w wr ∧ Hid (∀ x ∈ l.take j, x ≠ m)) (fun i _ => k - (intOf i).toNat)
            case atStart => exact ⟨0, by omega, rfl, by repeat (first | exact Ext.refl _ | assumption | apply Ext.xt | apply Ext.alloc | apply Ext.drew | apply Ext.drewN), Lib.hid (by simp)⟩
            case round =>
              obtain ⟨j, hj, rfl, hx, HN⟩ := hrel
              obtain ⟨y2, rfl⟩ := hx.get
              clear hx
              by_cases hjk : j < k
              · obtain ⟨x, hx⟩ : ∃ x, l[j]? = some x := ⟨_, List.getElem?_eq_getElem (by omega)⟩
                obtain ⟨b', o', hA, hd0⟩ := HSl.out.row1 (i := j) (by rw [List.getElem?_map, hx]; rfl)
                injection hA with hA
                injection hA with e1 e2
                subst e1 e2
                have HX := Lib.hid hx
                have hb2 : (0 : Int) ≤ (j : Int) := by omega
                have hb3 : (j : Int) < (l.length : Int) := by omega
                clear hx
                by_cases he : x = m
                · have hz2 : (x == m) = true := by simpa using he
                  have HV := Lib.hid (show chansE l = 7 by
                    rw [HS.out, if_neg (by simpa using HI.out), if_pos]
                    rw [← he]
                    exact List.mem_of_getElem? (i := j) (by rw [List.getElem?_take, if_pos hjk]; exact HX.out))
                  clear he
                  go_wp2
                  (refine wp_region_grows (by kernel_rfl) (by kernel_rfl) ?_; (repeat (go_big_quiet_step (fail))); refine wpQuiet_nil ?_; rintro _ ⟨y, rfl⟩)
                  go_wp2
                  go_ret
                  exact ⟨ret_i HV.out.symm, by repeat (first | exact Ext.refl _ | assumption | apply Ext.xt | apply Ext.alloc | apply Ext.drew | apply Ext.drewN)⟩
                · have hz2 : (x == m) = false := by simpa using he
                  have HK := Lib.hid (show ∀ x ∈ l.take (j + 1), x ≠ m by
                    intro z hzz
                    obtain ⟨g1, g2⟩ := List.getElem?_eq_some_iff.1 HX.out
                    rw [List.take_succ_eq_append_getElem g1, g2] at hzz
                    rcases List.mem_append.1 hzz with hzz | hzz
                    · exact HN.out z hzz
                    · simp at hzz; subst hzz; exact he)
                  clear he
                  go_wp2
                  (refine wp_region_grows (by kernel_rfl) (by kernel_rfl) ?_; (repeat (go_big_quiet_step (fail))); refine wpQuiet_nil ?_; rintro _ ⟨y, rfl⟩)
                  go_wp2
                  go_light
                  exact ⟨⟨j + 1, by omega, by go_num, by repeat (first | exact Ext.refl _ | assumption | apply Ext.xt | apply Ext.alloc | apply Ext.drew | apply Ext.drewN), HK⟩, by simp [intOf]; omega⟩
              · have HV := Lib.hid (show chansE l = chansS (l.take (k + 1)) (l.drop (k + 1)) by
                  obtain rfl : j = k := by omega
                  rw [HS.out, if_neg (by simpa using HI.out), if_neg (fun h => HN.out m h rfl)])
                go_wp2
                go_light
                exact ⟨⟨k + 1, by omega, by go_num, by repeat (first | exact Ext.refl _ | assumption | apply Ext.xt | apply Ext.alloc | apply Ext.drew | apply Ext.drewN), HV⟩, by simp [intOf]; omega⟩
          · have HV := Lib.hid (show chansE l = 2 by rw [HS.out, if_pos (by rw [hi]; decide)])
            rcases (by unfold inE at hi; split at hi <;> omega : m < 1 ∨ (1 ≤ m ∧ 999 < m)) with hi1 | ⟨hi1, hi2⟩
            · clear hi
              go_wp2
              go_ret
              exact ⟨ret_i HV.out.symm, by repeat (first | exact Ext.refl _ | assumption | apply Ext.xt | apply Ext.alloc | apply Ext.drew | apply Ext.drewN)⟩
            · clear hi
              go_wp2
              go_ret
              exact ⟨ret_i HV.out.symm, by repeat (first | exact Ext.refl _ | assumption | apply Ext.xt | apply Ext.alloc | apply Ext.drew | apply Ext.drewN)⟩
        · have HS := Lib.hid (show chansE l = 0 by rw [HE.out, List.drop_eq_nil_of_le (by omega)]; rfl)
          go_wp2
          go_ret
          exact ⟨ret_i HS.out.symm, by repeat (first | exact Ext.refl _ | assumption | apply Ext.xt | apply Ext.alloc | apply Ext.drew | apply Ext.drewN)⟩
end Go.Proofs.YtlpboikonnpjbaaGreat

/-
  The reference's check of an action: numbers, lists, what must be zero, and all.
-/
namespace Go.Proofs.YtlpboikonnpjbaaGreat
open Go.RowKit

def n1B (a : Acn) : Bool := tgB a.kind && (inE a.target 1 1048576 != 0)
def n3B (a : Acn) : Bool := tmB a.kind && (inE a.time 0 10000000 != 0)
noncomputable def numsR (a : Acn) : Int := if n1B a = true then 2 else if a.kind = 1 ∧ numE a.cue ≠ 0 then numE a.cue else if lvB a.kind = true ∧ levelsE a.kind a.level ≠ 0 then levelsE a.kind a.level else if n3B a = true then 2 else 0
theorem inE_ne (n a b : Int) : (inE n a b != 0) = decide (n < a ∨ b < n) := by unfold inE; split <;> simp [*]
set_option maxHeartbeats 3200000 in
set_option maxRecDepth 100000 in
theorem r33_numbers (a : Acn) (w : World) (ha : a.cue.size ≤ maxLen) : Calls Tryz.prog 52 #[.agg (acnR a).toArray] w fun e w' => e = .returned (.int .i64 (numsR a)) ∧ Ext w w' := by
  have HA := Lib.hid ha
  clear ha
  go_enter Tryz.func52, Tryz.ntmps52
  go_upto_region 1 with fail
  go_cut [17] (fun s wx => s = .bool (n1B a) ∧ w.alloc (.cells (acnR a).toArray 45) = wx)
  case first =>
    go_wp2_with (go_at_call 91; refine (r33_target _ _).mono ?_; rintro e w' ⟨rfl, rfl⟩)
    all_goals
      go_meet
      refine ⟨?_, rfl⟩
      go_light
      as_aux_lemma =>
        congr 1
        unfold n1B
        rw [inE_ne]
        grind
  case rest =>
    obtain ⟨rfl, rfl⟩ := hcut
    cases ht : n1B a
    · have HT := Lib.hid ht
      clear ht
      by_cases hk : a.kind = 1 ∧ numE a.cue ≠ 0
      · obtain ⟨k1, k2⟩ := hk
        have q1 : (a.kind == 1) = true := by simpa using k1
        have q2 : (numE a.cue != 0) = true := by simpa using k2
        have HV := Lib.hid (show numsR a = numE a.cue by unfold numsR; rw [HT.out, if_neg (by decide), if_pos ⟨k1, k2⟩])
        clear k1 k2
        go_wp2_with (go_at_call 92; refine (r05_Check a.cue _ HA.out).mono ?_; rintro e w' ⟨rfl, hx⟩; obtain ⟨y, rfl⟩ := hx.get; clear hx)
        go_ret
        exact ⟨ret_i HV.out.symm, by repeat (first | exact Ext.refl _ | assumption | apply Ext.xt | apply Ext.alloc | apply Ext.drew | apply Ext.drewN)⟩
      · have HK := Lib.hid hk
        by_cases hl : lvB a.kind = true ∧ levelsE a.kind a.level ≠ 0
        · obtain ⟨k1, k2⟩ := hl
          have q2 : (levelsE a.kind a.level != 0) = true := by simpa using k2
          have q1 : (a.kind == 1) = false := by unfold lvB at k1; simp at k1 ⊢; omega
          have HV := Lib.hid (show numsR a = levelsE a.kind a.level by unfold numsR; rw [HT.out, if_neg (by decide), if_neg HK.out, if_pos ⟨k1, k2⟩])
          clear k2 hk
          go_wp2_with (first | (go_at_call 93; refine (r33_level _ _).mono ?_; rintro e w' ⟨rfl, rfl⟩) | (go_at_call 94; refine (r33_levels _ _ _).mono ?_; rintro e w' ⟨rfl, rfl⟩))
          go_ret
          exact ⟨ret_i HV.out.symm, by repeat (first | exact Ext.refl _ | assumption | apply Ext.xt | apply Ext.alloc | apply Ext.drew | apply Ext.drewN)⟩
        · have HL := Lib.hid hl
          have hV : numsR a = if n3B a = true then 2 else 0 := by unfold numsR; rw [HT.out, if_neg (by decide), if_neg HK.out, if_neg HL.out]
          have HV := Lib.hid hV
          clear hV
          by_cases k1 : a.kind = 1
          · have q1 : (a.kind == 1) = true := by simpa using k1
            have q2 : (numE a.cue != 0) = false := by
              have := HK.out; simp only [k1, true_and, ne_eq, Decidable.not_not] at this; simpa using this
            have q3 : lvB a.kind = false := by rw [k1]; rfl
            clear k1 hk hl
            go_wp2_with (first | (go_at_call 92; refine (r05_Check a.cue _ HA.out).mono ?_; rintro e w' ⟨rfl, hx⟩; obtain ⟨y, rfl⟩ := hx.get; clear hx) | (go_at_call 93; refine (r33_level _ _).mono ?_; rintro e w' ⟨rfl, rfl⟩) | (go_at_call 94; refine (r33_levels _ _ _).mono ?_; rintro e w' ⟨rfl, rfl⟩) | (go_at_call 95; refine (r33_time _ _).mono ?_; rintro e w' ⟨rfl, rfl⟩))
            all_goals
              go_ret
              refine ⟨ret_i ?_, by repeat (first | exact Ext.refl _ | assumption | apply Ext.xt | apply Ext.alloc | apply Ext.drew | apply Ext.drewN)⟩
              rw [HV.out]
              go_light
              as_aux_lemma =>
                unfold n3B
                rw [inE_ne]
                grind
          · have q1 : (a.kind == 1) = false := by simpa using k1
            clear k1 hk
            cases hlv : lvB a.kind
            · clear hl
              go_wp2_with (first | (go_at_call 92; refine (r05_Check a.cue _ HA.out).mono ?_; rintro e w' ⟨rfl, hx⟩; obtain ⟨y, rfl⟩ := hx.get; clear hx) | (go_at_call 93; refine (r33_level _ _).mono ?_; rintro e w' ⟨rfl, rfl⟩) | (go_at_call 94; refine (r33_levels _ _ _).mono ?_; rintro e w' ⟨rfl, rfl⟩) | (go_at_call 95; refine (r33_time _ _).mono ?_; rintro e w' ⟨rfl, rfl⟩))
              all_goals
                go_ret
                refine ⟨ret_i ?_, by repeat (first | exact Ext.refl _ | assumption | apply Ext.xt | apply Ext.alloc | apply Ext.drew | apply Ext.drewN)⟩
                rw [HV.out]
                go_light
                as_aux_lemma =>
                  unfold n3B
                  rw [inE_ne]
                  grind
            · have q2 : (levelsE a.kind a.level != 0) = false := by
                have := HL.out; simp only [hlv, true_and, ne_eq, Decidable.not_not] at this; simpa using this
              clear hl
              go_wp2_with (first | (go_at_call 92; refine (r05_Check a.cue _ HA.out).mono ?_; rintro e w' ⟨rfl, hx⟩; obtain ⟨y, rfl⟩ := hx.get; clear hx) | (go_at_call 93; refine (r33_level _ _).mono ?_; rintro e w' ⟨rfl, rfl⟩) | (go_at_call 94; refine (r33_levels _ _ _).mono ?_; rintro e w' ⟨rfl, rfl⟩) | (go_at_call 95; refine (r33_time _ _).mono ?_; rintro e w' ⟨rfl, rfl⟩))
              all_goals
                go_ret
                refine ⟨ret_i ?_, by repeat (first | exact Ext.refl _ | assumption | apply Ext.xt | apply Ext.alloc | apply Ext.drew | apply Ext.drewN)⟩
                rw [HV.out]
                go_light
                as_aux_lemma =>
                  unfold n3B
                  rw [inE_ne]
                  grind
    · have HV := Lib.hid (show numsR a = 2 by unfold numsR; rw [ht, if_pos rfl])
      clear ht
      go_wp2
      go_ret
      exact ⟨ret_i HV.out.symm, by repeat (first | exact Ext.refl _ | assumption | apply Ext.xt | apply Ext.alloc | apply Ext.drew | apply Ext.drewN)⟩

noncomputable def listsR (a : Acn) : Int := if a.kind = 12 then setE a.entries.l else if a.kind = 13 then parsE a.params.l else if a.kind = 14 then chansE a.chans.l else if a.kind = 17 then editE a.edit else 0
set_option maxHeartbeats 3200000 in
set_option maxRecDepth 100000 in
theorem r33_lists (a : Acn) (w : World) (ha : AcnAt w a) : Calls Tryz.prog 53 #[.agg (acnR a).toArray] w fun e w' => e = .returned (.int .i64 (listsR a)) ∧ Ext w w' := by
  have HA := Lib.hid ha
  have HR := Lib.hid (rangeAt_new w rfl (acnR a) 45)
  clear ha
  go_enter Tryz.func53, Tryz.ntmps53
  go_wp2_with (first
    | (refine wpList_load_row rfl 43 _ rfl w.heap.size 9 rfl (editR a.edit) _ (rangeAt_end HR.out rfl) Tryz.underlying43 rfl (by kernel_rfl) ?_)
    | (go_at_call 96; refine (r15_Entries a.entries.at_ a.entries.cap a.entries.l _ (HA.out.entries.sl.mono (by repeat (first | exact Ext.refl _ | assumption | apply Ext.xt | apply Ext.alloc | apply Ext.drew | apply Ext.drewN))) HA.out.entries.len).mono ?_; rintro e w' ⟨rfl, hx⟩; obtain ⟨y, rfl⟩ := hx.get; clear hx)
    | (go_at_call 97; refine (r33_Params a.params.at_ a.params.cap a.params.l _ (HA.out.params.sl.mono (by repeat (first | exact Ext.refl _ | assumption | apply Ext.xt | apply Ext.alloc | apply Ext.drew | apply Ext.drewN))) HA.out.params.len).mono ?_; rintro e w' ⟨rfl, hx⟩; obtain ⟨y, rfl⟩ := hx.get; clear hx)
    | (go_at_call 98; refine (r33_Channels a.chans.at_ a.chans.cap a.chans.l _ (HA.out.chans.sl.mono (by repeat (first | exact Ext.refl _ | assumption | apply Ext.xt | apply Ext.alloc | apply Ext.drew | apply Ext.drewN))) HA.out.chans.len).mono ?_; rintro e w' ⟨rfl, hx⟩; obtain ⟨y, rfl⟩ := hx.get; clear hx)
    | (go_at_call 99; refine (r32_Check a.edit _ (HA.out.edit.mono (by repeat (first | exact Ext.refl _ | assumption | apply Ext.xt | apply Ext.alloc | apply Ext.drew | apply Ext.drewN)))).mono ?_; rintro e w' ⟨rfl, hx⟩; obtain ⟨y, rfl⟩ := hx.get; clear hx))
  all_goals
    go_ret
    refine ⟨ret_i ?_, by repeat (first | exact Ext.refl _ | assumption | apply Ext.xt | apply Ext.alloc | apply Ext.drew | apply Ext.drewN)⟩
    go_light
    unfold listsR setE
    grind
end Go.Proofs.YtlpboikonnpjbaaGreat
