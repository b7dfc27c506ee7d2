import Derived.Test.YtnpdghjpcnjokaaGreatGcmp
import Derived.Test.YtnpdghjpcnjokaaGreatGlog
set_option maxHeartbeats 6400000
set_option maxRecDepth 100000
namespace Go.Proofs.YtnpdghjpcnjokaaGreat
open Go.RowKit

theorem zF4 {a b : Edit} (h : (!decide (a.cue = b.cue)) = true) (g : a.cue = b.cue) : False:=by simp [g] at h
theorem zF3 {a b : Edit} (h1 : a.kind = b.kind) (h2 : a.number = b.number) (h3 : a.ch = b.ch) (h4 : a.prio = b.prio) (h5 : a.key.toList = b.key.toList) (h6 : (!decide (a.cue = b.cue)) = false) (h7 : zqd a.pn a.hues.l b.pn b.hues.l = true) (h8 : zwK a.gn a.chans.l b.gn b.chans.l = true) (h9 : sameS a.sub b.sub = true) (h10 : sameX a.eff b.eff = true) :
  eqF ⟨a.fix.ch,a.fix.part,a.fix.profile,a.fix.univ,a.fix.addr,a.fix.phase,a.fix.cable⟩ ⟨b.fix.ch,b.fix.part,b.fix.profile,b.fix.univ,b.fix.addr,b.fix.phase,b.fix.cable⟩ = sameE a b:=by
 obtain ⟨p1,p2⟩:=of_decide_eq_true h7
 obtain ⟨g1,g2⟩:=of_decide_eq_true h8
 obtain ⟨s1,s2,s3,s4⟩:=of_decide_eq_true h9
 obtain ⟨x1,x2,x3,x4,x5,x6⟩:=of_decide_eq_true h10
 exact zwJ fun hf => ⟨h1,h2,h3,h4,zdL h5,by simpa using h6,p1,p2,g1,g2,s1,s2,s3,s4,x1,x2,x3,x4,x5,x6,hf⟩
theorem zib (a b : Edit) (w : World) (ha : zeT w a) (hb : zeT w b) : Calls Tryz.prog 124 #[.agg (editR a).toArray,.agg (editR b).toArray] w fun r w' => r = .returned (.bool (sameE a b)) ∧ Ext w w':=by
 have HA:=zh ha
 have HB:=zh hb
 clear ha hb
 go_enter Tryz.func124,Tryz.ntmps124
 go_upto_region 1 with fail
 refine zbf (l':=?l2) ?hl ?_
 case hl =>
  simp only [List.map_cons,List.map_nil,zf6]
  rfl
 go_wp2_with (first
  | (go_at_call 179;refine (zeL a.cue a.cA a.ck a.cB a.cm b.cue b.cA b.ck b.cB b.cm _ (HA.out.cue.mono ex) (HB.out.cue.mono ex)).mono ?_;rintro e w' ⟨rfl,hx⟩;obtain ⟨y,rfl⟩:=hx.get;clear hx)
  | (go_at_call 180;refine (zEl _ _ a.pn b.pn a.hues b.hues _ ⟨by simp [go_sem],by simp [go_sem],HA.out.hues.mono ex⟩ ⟨by simp [go_sem],by simp [go_sem],HB.out.hues.mono ex⟩).mono ?_;rintro e w' ⟨rfl,hx⟩;obtain ⟨y,rfl⟩:=hx.get;clear hx)
  | (go_at_call 181;refine (r14_Same a.gn a.chans b.gn b.chans _ (HA.out.chans.mono ex) (HB.out.chans.mono ex)).mono ?_;rintro e w' ⟨rfl,hx⟩;obtain ⟨y,rfl⟩:=hx.get;clear hx)
  | (go_at_call 182;refine (ztM a.sub b.sub _ (HA.out.gains.mono ex) (HB.out.gains.mono ex)).mono ?_;rintro e w' ⟨rfl,hx⟩;obtain ⟨y,rfl⟩:=hx.get;clear hx)
  | (go_at_call 183;refine (zgj a.eff b.eff _ (HA.out.wave.mono ex) (HB.out.wave.mono ex)).mono ?_;rintro e w' ⟨rfl,hx⟩;obtain ⟨y,rfl⟩:=hx.get;clear hx))
 all_goals
  go_ret
  refine ⟨ret_b ?_,ex⟩
  go_light
  first
   | exact zb1 fun h => ‹¬a.kind = b.kind› h.kind
   | exact zb1 fun h => ‹¬a.number = b.number› h.number
   | exact zb1 fun h => ‹¬a.ch = b.ch› h.ch
   | exact zb1 fun h => ‹¬a.prio = b.prio› h.prio
   | exact zb1 fun h => ‹¬a.key.toList = b.key.toList› (by rw [h.key])
   | exact zb1 fun h => zF4 ‹(!decide (a.cue = b.cue)) = true› h.cue
   | exact zb1 fun h => ‹¬zqd a.pn a.hues.l b.pn b.hues.l = true› (decide_eq_true ⟨h.pn,h.hues⟩)
   | exact zb1 fun h => ‹¬zwK a.gn a.chans.l b.gn b.chans.l = true› (decide_eq_true ⟨h.gn,h.chans⟩)
   | exact zb1 fun h => ‹¬sameS a.sub b.sub = true› (decide_eq_true ⟨h.sn,h.sp,h.si,h.sg⟩)
   | exact zb1 fun h => ‹¬sameX a.eff b.eff = true› (decide_eq_true ⟨h.xn,h.xa,h.xw,h.xp,h.xs,h.xz⟩)
   | exact zF3 ‹a.kind = b.kind› ‹a.number = b.number› ‹a.ch = b.ch› ‹a.prio = b.prio› ‹a.key.toList = b.key.toList› ‹(!decide (a.cue = b.cue)) = false› ‹zqd a.pn a.hues.l b.pn b.hues.l = true› ‹zwK a.gn a.chans.l b.gn b.chans.l = true› ‹sameS a.sub b.sub = true› ‹sameX a.eff b.eff = true›

theorem zcz (a b : Acn) (w : World) (ha : AcnAt w a) (hb : AcnAt w b) : Calls Tryz.prog 88 #[.agg (acnR a).toArray,.agg (acnR b).toArray] w fun r w' => r = .returned (.bool (sameA a b)) ∧ Ext w w':=by
 have HA:=zh ha
 have HB:=zh hb
 clear ha hb
 have HR1:=zh (za4 (zag w rfl (acnR a) 99) ((Ext.refl _).alloc (.cells (acnR b).toArray 99)))
 have HR2:=zh (zag (w.alloc (.cells (acnR a).toArray 99)) (b:=w.heap.size + 1) (by simp) (acnR b) 99)
 go_enter Tryz.func88,Tryz.ntmps88
 go_upto_region 1 with fail
 refine zbf (l':=?l2) ?hl ?_
 case hl =>
  simp only [List.map_cons,List.map_nil,zf6]
  rfl
 go_wp2_with (first
  | (refine wpList_load_row rfl 97 (.tmp 65) rfl w.heap.size 9 rfl (editR a.edit) _ (za4 (zbq HR1.out rfl) ex) Tryz.underlying97 rfl kr ?_)
  | (refine wpList_load_row rfl 97 (.tmp 67) rfl (w.heap.size + 1) 9 rfl (editR b.edit) _ (za4 (zbq HR2.out rfl) ex) Tryz.underlying97 rfl kr ?_)
  | (go_at_call 121;refine (zia a.entries.at_ a.entries.cap a.entries.l b.entries.at_ b.entries.cap b.entries.l _ (HA.out.entries.sl.mono ex) HA.out.entries.len (HB.out.entries.sl.mono ex) HB.out.entries.len).mono ?_;rintro e w' ⟨rfl,hx⟩;obtain ⟨y,rfl⟩:=hx.get;clear hx)
  | (go_at_call 122;refine (zrv a.params.at_ a.params.cap a.params.l b.params.at_ b.params.cap b.params.l _ (HA.out.params.sl.mono ex) HA.out.params.len (HB.out.params.sl.mono ex) HB.out.params.len).mono ?_;rintro e w' ⟨rfl,hx⟩;obtain ⟨y,rfl⟩:=hx.get;clear hx)
  | (go_at_call 123;refine (zvV a.chans.at_ a.chans.cap a.chans.l b.chans.at_ b.chans.cap b.chans.l _ (HA.out.chans.sl.mono ex) HA.out.chans.len (HB.out.chans.sl.mono ex) HB.out.chans.len).mono ?_;rintro e w' ⟨rfl,hx⟩;obtain ⟨y,rfl⟩:=hx.get;clear hx)
  | (go_at_call 124;refine (zib a.edit b.edit _ (HA.out.edit.mono ex) (HB.out.edit.mono ex)).mono ?_;rintro e w' ⟨rfl,hx⟩;obtain ⟨y,rfl⟩:=hx.get;clear hx))
 all_goals
  go_ret
  refine ⟨ret_b ?_,ex⟩
  go_light
  first
   | exact zcd fun h => ‹¬a.at_ = b.at_› h.at_
   | exact zcd fun h => ‹¬a.kind = b.kind› h.kind
   | exact zcd fun h => ‹¬a.target = b.target› h.target
   | exact zcd fun h => ‹¬a.cue.toList = b.cue.toList› (by rw [h.cue])
   | exact zcd fun h => ‹¬a.level = b.level› h.level
   | exact zcd fun h => absurd h.time (by simpa using ‹(a.time != b.time) = true›)
   | exact zcd fun h => ‹¬a.entries.l = b.entries.l› h.entries
   | exact zcd fun h => ‹¬a.params.l = b.params.l› h.params
   | exact zcd fun h => ‹¬a.chans.l = b.chans.l› h.chans
   | exact zwI fun hf => ⟨‹a.at_ = b.at_›,‹a.kind = b.kind›,‹a.target = b.target›,zdL ‹a.cue.toList = b.cue.toList›,‹a.level = b.level›,by simpa using ‹(a.time != b.time) = false›,‹a.entries.l = b.entries.l›,‹a.params.l = b.params.l›,‹a.chans.l = b.chans.l›,hf⟩
end Go.Proofs.YtnpdghjpcnjokaaGreat

namespace Go.Proofs.YtnpdghjpcnjokaaGreat
open Go.RowKit

def tgB (k : Int) : Bool:=decide ((0 ≤ k ∧ k ≤ 9) ∨ k = 14 ∨ k = 15 ∨ k = 16)
def lvB (k : Int) : Bool:=decide (k = 6 ∨ k = 7 ∨ k = 9 ∨ k = 10 ∨ k = 11 ∨ k = 15)
def tmB (k : Int) : Bool:=decide (k = 7 ∨ k = 8 ∨ k = 9 ∨ k = 10 ∨ k = 12)
end Go.Proofs.YtnpdghjpcnjokaaGreat

namespace Go.Proofs.YtnpdghjpcnjokaaGreat
open Go.RowKit

def n1B (a : Acn) : Bool:=tgB a.kind && (inE a.target 1 1048576 != 0)
def n3B (a : Acn) : Bool:=tmB a.kind && (inE a.time 0 10000000 != 0)
noncomputable def numsR (a : Acn) : Int:=if n1B a = true then 2 else if a.kind = 1 ∧ numE a.cue ≠ 0 then numE a.cue else if lvB a.kind = true ∧ zbo a.kind a.level ≠ 0 then zbo a.kind a.level else if n3B a = true then 2 else 0
noncomputable def zjl (a : Acn) : Int:=if a.kind = 12 then setE a.entries.l else if a.kind = 13 then parsE a.params.l else if a.kind = 14 then zb3 a.chans.l else if a.kind = 17 then editE a.edit else 0
end Go.Proofs.YtnpdghjpcnjokaaGreat
