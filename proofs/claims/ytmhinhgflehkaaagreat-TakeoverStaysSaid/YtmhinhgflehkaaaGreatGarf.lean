/-
 The reference's comparison of edits and of actions.
-/
import Derived.Test.YtmhinhgflehkaaaGreatGcmp
import Derived.Test.YtmhinhgflehkaaaGreatGsam
import Derived.Test.YtmhinhgflehkaaaGreatGlev
import Derived.Test.YtmhinhgflehkaaaGreatGlog
namespace Go.Proofs.YtmhinhgflehkaaaGreat
open Go.RowKit

theorem sameE_cue {a b : Edit} (h : (!decide (a.cue = b.cue)) = true) (g : a.cue = b.cue) : False := by simp [g] at h
theorem sameE_all {a b : Edit} (h1 : a.kind = b.kind) (h2 : a.number = b.number) (h3 : a.ch = b.ch) (h4 : a.prio = b.prio) (h5 : a.key.toList = b.key.toList) (h6 : (!decide (a.cue = b.cue)) = false) (h7 : samePl a.pn a.hues.l b.pn b.hues.l = true) (h8 : sameGr a.gn a.chans.l b.gn b.chans.l = true) (h9 : sameS a.sub b.sub = true) (h10 : sameX a.eff b.eff = true) :
  eqF ⟨a.fix.ch, a.fix.part, a.fix.profile, a.fix.univ, a.fix.addr, a.fix.phase, a.fix.cable⟩ ⟨b.fix.ch, b.fix.part, b.fix.profile, b.fix.univ, b.fix.addr, b.fix.phase, b.fix.cable⟩ = sameE a b := by
 obtain ⟨p1, p2⟩ := of_decide_eq_true h7
 obtain ⟨g1, g2⟩ := of_decide_eq_true h8
 obtain ⟨s1, s2, s3, s4⟩ := of_decide_eq_true h9
 obtain ⟨x1, x2, x3, x4, x5, x6⟩ := of_decide_eq_true h10
 exact sameE_yes fun hf => ⟨h1, h2, h3, h4, bytes_ext h5, by simpa using h6, p1, p2, g1, g2, s1, s2, s3, s4, x1, x2, x3, x4, x5, x6, hf⟩
set_option maxHeartbeats 6400000 in
set_option maxRecDepth 100000 in
theorem r32_SameEdit (a b : Edit) (w : World) (ha : EditAt w a) (hb : EditAt w b) : Calls Tryz.prog 119 #[.agg (editR a).toArray, .agg (editR b).toArray] w fun r w' => r = .returned (.bool (sameE a b)) ∧ Ext w w' := by
 have HA := Lib.hid ha
 have HB := Lib.hid hb
 clear ha hb
 go_enter Tryz.func119, Tryz.ntmps119
 go_upto_region 1 with fail
 refine wp_region_strip (l' := ?l2) ?hl ?_
 case hl =>
  simp only [List.map_cons, List.map_nil, stripO]
  rfl
 go_wp2_with (first
  | (go_at_call 149; refine (r16_Same a.cue a.cA a.ck a.cB a.cm b.cue b.cA b.ck b.cB b.cm _ (HA.out.cue.mono (ex)) (HB.out.cue.mono (ex))).mono ?_; rintro e w' ⟨rfl, hx⟩; obtain ⟨y, rfl⟩ := hx.get; clear hx)
  | (go_at_call 150; refine (r15_Same1 _ _ a.pn b.pn a.hues b.hues _ ⟨by simp [go_sem], by simp [go_sem], HA.out.hues.mono (ex)⟩ ⟨by simp [go_sem], by simp [go_sem], HB.out.hues.mono (ex)⟩).mono ?_; rintro e w' ⟨rfl, hx⟩; obtain ⟨y, rfl⟩ := hx.get; clear hx)
  | (go_at_call 151; refine (r14_Same a.gn a.chans b.gn b.chans _ (HA.out.chans.mono (ex)) (HB.out.chans.mono (ex))).mono ?_; rintro e w' ⟨rfl, hx⟩; obtain ⟨y, rfl⟩ := hx.get; clear hx)
  | (go_at_call 152; refine (r26_Same a.sub b.sub _ (HA.out.gains.mono (ex)) (HB.out.gains.mono (ex))).mono ?_; rintro e w' ⟨rfl, hx⟩; obtain ⟨y, rfl⟩ := hx.get; clear hx)
  | (go_at_call 153; refine (r28_SameEffect a.eff b.eff _ (HA.out.wave.mono (ex)) (HB.out.wave.mono (ex))).mono ?_; rintro e w' ⟨rfl, hx⟩; obtain ⟨y, rfl⟩ := hx.get; clear hx))
 all_goals
  go_ret
  refine ⟨ret_b ?_, ex⟩
  go_light
  first
   | exact sameE_no fun h => ‹¬a.kind = b.kind› h.kind
   | exact sameE_no fun h => ‹¬a.number = b.number› h.number
   | exact sameE_no fun h => ‹¬a.ch = b.ch› h.ch
   | exact sameE_no fun h => ‹¬a.prio = b.prio› h.prio
   | exact sameE_no fun h => ‹¬a.key.toList = b.key.toList› (by rw [h.key])
   | exact sameE_no fun h => sameE_cue ‹(!decide (a.cue = b.cue)) = true› h.cue
   | exact sameE_no fun h => ‹¬samePl a.pn a.hues.l b.pn b.hues.l = true› (decide_eq_true ⟨h.pn, h.hues⟩)
   | exact sameE_no fun h => ‹¬sameGr a.gn a.chans.l b.gn b.chans.l = true› (decide_eq_true ⟨h.gn, h.chans⟩)
   | exact sameE_no fun h => ‹¬sameS a.sub b.sub = true› (decide_eq_true ⟨h.sn, h.sp, h.si, h.sg⟩)
   | exact sameE_no fun h => ‹¬sameX a.eff b.eff = true› (decide_eq_true ⟨h.xn, h.xa, h.xw, h.xp, h.xs, h.xz⟩)
   | exact sameE_all ‹a.kind = b.kind› ‹a.number = b.number› ‹a.ch = b.ch› ‹a.prio = b.prio› ‹a.key.toList = b.key.toList› ‹(!decide (a.cue = b.cue)) = false› ‹samePl a.pn a.hues.l b.pn b.hues.l = true› ‹sameGr a.gn a.chans.l b.gn b.chans.l = true› ‹sameS a.sub b.sub = true› ‹sameX a.eff b.eff = true›

set_option maxHeartbeats 6400000 in
set_option maxRecDepth 100000 in
theorem r33_Same (a b : Acn) (w : World) (ha : AcnAt w a) (hb : AcnAt w b) : Calls Tryz.prog 83 #[.agg (acnR a).toArray, .agg (acnR b).toArray] w fun r w' => r = .returned (.bool (sameA a b)) ∧ Ext w w' := by
 have HA := Lib.hid ha
 have HB := Lib.hid hb
 clear ha hb
 have HR1 := Lib.hid (rangeAt_mono (rangeAt_new w rfl (acnR a) 87) ((Ext.refl _).alloc (.cells (acnR b).toArray 87)))
 have HR2 := Lib.hid (rangeAt_new (w.alloc (.cells (acnR a).toArray 87)) (b := w.heap.size + 1) (by simp) (acnR b) 87)
 go_enter Tryz.func83, Tryz.ntmps83
 go_upto_region 1 with fail
 refine wp_region_strip (l' := ?l2) ?hl ?_
 case hl =>
  simp only [List.map_cons, List.map_nil, stripO]
  rfl
 go_wp2_with (first
  | (refine wpList_load_row rfl 85 (.tmp 65) rfl w.heap.size 9 rfl (editR a.edit) _ (rangeAt_mono (rangeAt_end HR1.out rfl) (ex)) Tryz.underlying85 rfl (by kernel_rfl) ?_)
  | (refine wpList_load_row rfl 85 (.tmp 67) rfl (w.heap.size + 1) 9 rfl (editR b.edit) _ (rangeAt_mono (rangeAt_end HR2.out rfl) (ex)) Tryz.underlying85 rfl (by kernel_rfl) ?_)
  | (go_at_call 116; refine (r15_SameEntries a.entries.at_ a.entries.cap a.entries.l b.entries.at_ b.entries.cap b.entries.l _ (HA.out.entries.sl.mono (ex)) HA.out.entries.len (HB.out.entries.sl.mono (ex)) HB.out.entries.len).mono ?_; rintro e w' ⟨rfl, hx⟩; obtain ⟨y, rfl⟩ := hx.get; clear hx)
  | (go_at_call 117; refine (r15_SameParams a.params.at_ a.params.cap a.params.l b.params.at_ b.params.cap b.params.l _ (HA.out.params.sl.mono (ex)) HA.out.params.len (HB.out.params.sl.mono (ex)) HB.out.params.len).mono ?_; rintro e w' ⟨rfl, hx⟩; obtain ⟨y, rfl⟩ := hx.get; clear hx)
  | (go_at_call 118; refine (r15_SameInts a.chans.at_ a.chans.cap a.chans.l b.chans.at_ b.chans.cap b.chans.l _ (HA.out.chans.sl.mono (ex)) HA.out.chans.len (HB.out.chans.sl.mono (ex)) HB.out.chans.len).mono ?_; rintro e w' ⟨rfl, hx⟩; obtain ⟨y, rfl⟩ := hx.get; clear hx)
  | (go_at_call 119; refine (r32_SameEdit a.edit b.edit _ (HA.out.edit.mono (ex)) (HB.out.edit.mono (ex))).mono ?_; rintro e w' ⟨rfl, hx⟩; obtain ⟨y, rfl⟩ := hx.get; clear hx))
 all_goals
  go_ret
  refine ⟨ret_b ?_, ex⟩
  go_light
  first
   | exact sameA_no fun h => ‹¬a.at_ = b.at_› h.at_
   | exact sameA_no fun h => ‹¬a.kind = b.kind› h.kind
   | exact sameA_no fun h => ‹¬a.target = b.target› h.target
   | exact sameA_no fun h => ‹¬a.cue.toList = b.cue.toList› (by rw [h.cue])
   | exact sameA_no fun h => ‹¬a.level = b.level› h.level
   | exact sameA_no fun h => absurd h.time (by simpa using ‹(a.time != b.time) = true›)
   | exact sameA_no fun h => ‹¬a.entries.l = b.entries.l› h.entries
   | exact sameA_no fun h => ‹¬a.params.l = b.params.l› h.params
   | exact sameA_no fun h => ‹¬a.chans.l = b.chans.l› h.chans
   | exact sameA_yes fun hf => ⟨‹a.at_ = b.at_›, ‹a.kind = b.kind›, ‹a.target = b.target›, bytes_ext ‹a.cue.toList = b.cue.toList›, ‹a.level = b.level›, by simpa using ‹(a.time != b.time) = false›, ‹a.entries.l = b.entries.l›, ‹a.params.l = b.params.l›, ‹a.chans.l = b.chans.l›, hf⟩
end Go.Proofs.YtmhinhgflehkaaaGreat

/-
 The reference's check of an action: the kinds, the levels, the lists.
-/
namespace Go.Proofs.YtmhinhgflehkaaaGreat
open Go.RowKit

def tgB (k : Int) : Bool := decide ((0 ≤ k ∧ k ≤ 9) ∨ k = 14 ∨ k = 15 ∨ k = 16)
def lvB (k : Int) : Bool := decide (k = 6 ∨ k = 7 ∨ k = 9 ∨ k = 10 ∨ k = 11 ∨ k = 15)
def tmB (k : Int) : Bool := decide (k = 7 ∨ k = 8 ∨ k = 9 ∨ k = 10 ∨ k = 12)
end Go.Proofs.YtmhinhgflehkaaaGreat

/-
 The reference's check of an action: numbers, lists, what must be zero, and all.
-/
namespace Go.Proofs.YtmhinhgflehkaaaGreat
open Go.RowKit

def n1B (a : Acn) : Bool := tgB a.kind && (inE a.target 1 1048576 != 0)
def n3B (a : Acn) : Bool := tmB a.kind && (inE a.time 0 10000000 != 0)
noncomputable def numsR (a : Acn) : Int := if n1B a = true then 2 else if a.kind = 1 ∧ numE a.cue ≠ 0 then numE a.cue else if lvB a.kind = true ∧ levelsE a.kind a.level ≠ 0 then levelsE a.kind a.level else if n3B a = true then 2 else 0
noncomputable def listsR (a : Acn) : Int := if a.kind = 12 then setE a.entries.l else if a.kind = 13 then parsE a.params.l else if a.kind = 14 then chansE a.chans.l else if a.kind = 17 then editE a.edit else 0
end Go.Proofs.YtmhinhgflehkaaaGreat
