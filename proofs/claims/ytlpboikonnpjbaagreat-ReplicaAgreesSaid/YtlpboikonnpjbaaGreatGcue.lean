import Derived.Test.YtlpboikonnpjbaaGreatStr
namespace Go.Proofs.YtlpboikonnpjbaaGreat
open Go.RowKit

set_option maxHeartbeats 400000 in
theorem r15_Param (p : Param) (w : World) : Calls Tryz.prog 142 #[.agg (prm p).toArray] w fun e w' => e = .returned (.int .i64 (paramE p)) ∧ Ext w w' := by
  obtain ⟨ch, at_⟩ := p
  simp only [prm]
  go_enter Tryz.func142, Tryz.ntmps142
  go_wp2
  all_goals go_ret
  all_goals refine ⟨ret_i ?_, by repeat (first | exact Ext.refl _ | assumption | apply Ext.xt | apply Ext.alloc | apply Ext.drew | apply Ext.drewN)⟩
  all_goals (simp only [paramE]; split <;> omega)
set_option maxHeartbeats 400000 in
theorem r15_Value (v : Val) (w : World) : Calls Tryz.prog 143 #[.agg (vl v).toArray] w fun e w' => e = .returned (.int .i64 (valueE v)) ∧ Ext w w' := by
  obtain ⟨ch, at_⟩ := v
  simp only [vl]
  go_enter Tryz.func143, Tryz.ntmps143
  go_wp2
  all_goals go_ret
  all_goals refine ⟨ret_i ?_, by repeat (first | exact Ext.refl _ | assumption | apply Ext.xt | apply Ext.alloc | apply Ext.drew | apply Ext.drewN)⟩
  all_goals grind [valueE]
set_option maxHeartbeats 400000 in
theorem pal_Value (v : Val) (w : World) : Calls Tryz.prog 194 #[.agg (vl v).toArray] w fun e w' => e = .returned (.int .i64 (valueE v)) ∧ Ext w w' := by
  obtain ⟨ch, at_⟩ := v
  simp only [vl]
  go_enter Tryz.func194, Tryz.ntmps194
  go_wp2
  all_goals go_ret
  all_goals refine ⟨ret_i ?_, by repeat (first | exact Ext.refl _ | assumption | apply Ext.xt | apply Ext.alloc | apply Ext.drew | apply Ext.drewN)⟩
  all_goals grind [valueE]
set_option maxHeartbeats 400000 in
theorem r15_Before (p q : Param) (w : World) : Calls Tryz.prog 144 #[.agg (prm p).toArray, .agg (prm q).toArray] w fun e w' => e = .returned (.bool (before p q)) ∧ Ext w w' := by
  obtain ⟨ch, at_⟩ := p
  obtain ⟨ch', at'⟩ := q
  simp only [prm]
  go_enter Tryz.func144, Tryz.ntmps144
  go_wp2
  all_goals go_ret
  all_goals refine ⟨ret_b ?_, by repeat (first | exact Ext.refl _ | assumption | apply Ext.xt | apply Ext.alloc | apply Ext.drew | apply Ext.drewN)⟩
  all_goals grind [before]
end Go.Proofs.YtlpboikonnpjbaaGreat

namespace Go.Proofs.YtlpboikonnpjbaaGreat
open Go.RowKit
end Go.Proofs.YtlpboikonnpjbaaGreat

namespace Go.Proofs.YtlpboikonnpjbaaGreat
open Go.RowKit

/-- The error of what comes behind a cue. -/
def nextE (c : Cue) : Int :=
  if c.follow ≠ -1 ∧ (c.follow < 25 ∨ 10000000 < c.follow) then 2 else if ¬ c.link.toList = [] ∧ numE c.link ≠ 0 then numE c.link
  else if c.loops < 0 ∨ 100 < c.loops then 2 else if 0 < c.loops ∧ c.link.toList = [] then 11 else 0
/-- The error of a cue. -/
def cueE (c : Cue) : Int :=
  if numE c.number ≠ 0 then numE c.number else if labelE c.label ≠ 0 then labelE c.label else if movesE c.moves ≠ 0 then movesE c.moves
  else if partsE c ≠ 0 then partsE c else nextE c

/-- The cells of a cue. -/
def cueV (c : Cue) (A : Option Addr) (k : Nat) (B : Option Addr) (m : Nat) : List Value :=
  [.string c.number, .string c.label, .slice A c.moves.length k, .slice B c.parts.length m, .bool c.block, .bool c.mark, .int .i64 c.follow, .string c.link, .int .i64 c.loops]
/-- What lies behind the cells of a cue. -/
structure CueAt (w : World) (c : Cue) (A : Option Addr) (k : Nat) (B : Option Addr) (m : Nat) : Prop where
  mv : Sl w A 5 (c.moves.map mv)
  pt : Sl w B 6 (c.parts.map tmg)
  hk : c.moves.length ≤ k
  hm : c.parts.length ≤ m
  hk' : k ≤ maxLen
  hm' : m ≤ maxLen
  num : c.number.size ≤ maxLen
  lab : c.label.size ≤ maxLen
  lnk : c.link.size ≤ maxLen
theorem CueAt.mono {w w' : World} {c : Cue} {A : Option Addr} {k : Nat} {B : Option Addr} {m : Nat} (h : CueAt w c A k B m) (hx : Ext w w') : CueAt w' c A k B m :=
  ⟨h.mv.mono hx, h.pt.mono hx, h.hk, h.hm, h.hk', h.hm', h.num, h.lab, h.lnk⟩

end Go.Proofs.YtlpboikonnpjbaaGreat
