/-
  Actions: the field of the edit.
-/
import Derived.Test.YtmhinhgflehkaaaGreatGedit
import Derived.Test.YtmhinhgflehkaaaGreatGsam
namespace Go.Proofs.YtmhinhgflehkaaaGreat
open Go.RowKit

def noEdit : Edit := ⟨0, 0, 0, 0, ⟨#[]⟩, emptyC, none, 0, none, 0, 0, ⟨[], none, 0⟩, 0, ⟨[], none, 0⟩, ⟨0, 0, false, ⟨[], none, 0⟩⟩, ⟨0, 0, ⟨[], none, 0⟩, 0, 0, 0⟩, noFix⟩
theorem noEdit_at (w : World) : EditAt w noEdit := ⟨by decide, ⟨Sl.nil _ _ _, Sl.nil _ _ _, by decide, by decide, by decide, by decide, by decide, by decide, by decide⟩, LstAt.nil, LstAt.nil, LstAt.nil, LstAt.nil, by decide, by decide⟩
set_option maxHeartbeats 800000 in
set_option maxRecDepth 100000 in
theorem act_check11 (a : Acn) (w : World) (ha : AcnAt w a) : Calls Tryz.prog 193 #[.agg (acnR a).toArray] w fun e w' => e = .returned (.int .i64 (editE a.edit)) ∧ Ext w w' := by
  have HE := Lib.hid ha.edit
  clear ha
  go_enter Tryz.func193, Tryz.ntmps193
  go_wp2_with (first
    | (refine wpList_load_row rfl 85 _ rfl w.heap.size 9 rfl (editR a.edit) _ (rangeAt_end (rangeAt_new w rfl (acnR a) 87) rfl) Tryz.underlying85 rfl (by kernel_rfl) ?_)
    | (go_at_call 194; refine (edit_Check a.edit _ (HE.out.mono (ex))).mono ?_; rintro e w' ⟨rfl, hx⟩; obtain ⟨y, rfl⟩ := hx.get; clear hx))
  go_ret
  exact ⟨rfl, ex⟩
set_option maxHeartbeats 800000 in
set_option maxRecDepth 100000 in
theorem act_zero12 (a : Acn) (w : World) (ha : AcnAt w a) : Calls Tryz.prog 195 #[.agg (acnR a).toArray] w fun e w' => e = .returned (.bool (sameE a.edit noEdit)) ∧ Ext w w' := by
  have HE := Lib.hid ha.edit
  clear ha
  go_enter Tryz.func195, Tryz.ntmps195
  go_wp2_with (first
    | (refine wpList_load_row rfl 85 _ rfl w.heap.size 9 rfl (editR a.edit) _ (rangeAt_end (rangeAt_new w rfl (acnR a) 87) rfl) Tryz.underlying85 rfl (by kernel_rfl) ?_)
    | (go_at_call 145; refine (act_same a.edit noEdit _ (HE.out.mono (ex)) (noEdit_at _)).mono ?_; rintro e w' ⟨rfl, hx⟩; obtain ⟨y, rfl⟩ := hx.get; clear hx))
  go_ret
  exact ⟨rfl, ex⟩
end Go.Proofs.YtmhinhgflehkaaaGreat

/-
  Actions: all fields, and the check of an action.
-/
namespace Go.Proofs.YtmhinhgflehkaaaGreat
open Go.RowKit

def fieldsL : List Value := [(Value.func (Fn.func 178) #[] #[]), (Value.func (Fn.func 179) #[] #[]), (Value.func (Fn.func 180) #[] #[]), (Value.func (Fn.func 182) #[] #[]), (Value.func (Fn.func 183) #[] #[]), (Value.func (Fn.func 184) #[] #[]), (Value.func (Fn.func 185) #[] #[]), (Value.func (Fn.func 186) #[] #[]), (Value.func (Fn.func 187) #[] #[]), (Value.func (Fn.func 188) #[] #[]), (Value.func (Fn.func 189) #[] #[]), (Value.func (Fn.func 190) #[] #[]), (Value.func (Fn.func 191) #[] #[]), (Value.func (Fn.func 192) #[] #[]), (Value.func (Fn.func 193) #[] #[]), (Value.func (Fn.func 195) #[] #[])]
set_option maxHeartbeats 1600000 in
set_option maxRecDepth 100000 in
theorem act_fields (w : World) : Calls Tryz.prog 142 #[] w fun e w' => e = .returned (.agg fieldsL.toArray) ∧ Ext w w' := by
  go_enter Tryz.func142, Tryz.ntmps142
  go_wp2_with (first
    | (refine wpList_built rfl 230 _ rfl [(0, .agg #[(Value.func (Fn.func 178) #[] #[]), (Value.func (Fn.func 179) #[] #[])]), (1, .agg #[(Value.func (Fn.func 180) #[] #[]), (Value.func (Fn.func 182) #[] #[])]), (2, .agg #[(Value.func (Fn.func 183) #[] #[]), (Value.func (Fn.func 184) #[] #[])]), (3, .agg #[(Value.func (Fn.func 185) #[] #[]), (Value.func (Fn.func 186) #[] #[])]), (4, .agg #[(Value.func (Fn.func 187) #[] #[]), (Value.func (Fn.func 188) #[] #[])]), (5, .agg #[(Value.func (Fn.func 189) #[] #[]), (Value.func (Fn.func 190) #[] #[])]), (6, .agg #[(Value.func (Fn.func 191) #[] #[]), (Value.func (Fn.func 192) #[] #[])]), (7, .agg #[(Value.func (Fn.func 193) #[] #[]), (Value.func (Fn.func 195) #[] #[])])] rfl #[(Value.func (Fn.func 178) #[] #[]), (Value.func (Fn.func 179) #[] #[]), (Value.func (Fn.func 180) #[] #[]), (Value.func (Fn.func 182) #[] #[]), (Value.func (Fn.func 183) #[] #[]), (Value.func (Fn.func 184) #[] #[]), (Value.func (Fn.func 185) #[] #[]), (Value.func (Fn.func 186) #[] #[]), (Value.func (Fn.func 187) #[] #[]), (Value.func (Fn.func 188) #[] #[]), (Value.func (Fn.func 189) #[] #[]), (Value.func (Fn.func 190) #[] #[]), (Value.func (Fn.func 191) #[] #[]), (Value.func (Fn.func 192) #[] #[]), (Value.func (Fn.func 193) #[] #[]), (Value.func (Fn.func 195) #[] #[])] (by kernel_rfl) ?_)
    | (refine wpList_store_top rfl 230 (.tmp 0) (.tmp 9) rfl rfl rfl [(Value.func (Fn.func 178) #[] #[]), (Value.func (Fn.func 179) #[] #[]), (Value.func (Fn.func 180) #[] #[]), (Value.func (Fn.func 182) #[] #[]), (Value.func (Fn.func 183) #[] #[]), (Value.func (Fn.func 184) #[] #[]), (Value.func (Fn.func 185) #[] #[]), (Value.func (Fn.func 186) #[] #[]), (Value.func (Fn.func 187) #[] #[]), (Value.func (Fn.func 188) #[] #[]), (Value.func (Fn.func 189) #[] #[]), (Value.func (Fn.func 190) #[] #[]), (Value.func (Fn.func 191) #[] #[]), (Value.func (Fn.func 192) #[] #[]), (Value.func (Fn.func 193) #[] #[]), (Value.func (Fn.func 195) #[] #[])] rfl rfl (by kernel_rfl) (by simp [Value.oneCell']) ?_))
  refine bodyPost_ret (v := .agg fieldsL.toArray) ?_ rfl ⟨rfl, ex⟩
  simp [results, Tryz.results142, Act.put, asAddr]
  exact run_loadVar_mid _ _ _ _ fieldsL _ (rangeAt_new w rfl fieldsL 230) Tryz.underlying230 rfl (by kernel_rfl)

/-! ### The check, plain -/
def usesV (k : Int) : Int := usesL.getD k.toNat 0
def useB (k : Int) (i : Nat) : Bool := !(bits BinOp.and IntKind.i64 (usesV k / 2 ^ i) 1 == 0)
def fieldE (a : Acn) : List Int := [inE a.target 1 1048576, numE a.cue, levelsE a.kind a.level, inE a.time 0 10000000, setE a.entries.l, parsE a.params.l, chansE a.chans.l, editE a.edit]
noncomputable def fieldZ (a : Acn) : List Bool := [a.target == 0, a.cue.toList.isEmpty, a.level == 0, a.time == 0, (a.entries.l.length : Int) == 0, (a.params.l.length : Int) == 0, (a.chans.l.length : Int) == 0, sameE a.edit noEdit]
/-- From field i on, n fields: the first error of a field that is used; else whether all that are not used are zero. -/
def chkS (u : Nat → Bool) (e : Nat → Int) (z : Nat → Bool) : Nat → Nat → Bool → Int
  | 0, _, idle => if idle then 0 else 3
  | n + 1, i, idle => if u i then (if e i ≠ 0 then e i else chkS u e z n (i + 1) idle) else chkS u e z n (i + 1) (idle && z i)
noncomputable def acnE (a : Acn) : Int := if a.kind < 0 ∨ 20 ≤ a.kind then 1 else if inE a.at_ 0 10000000 ≠ 0 then 2 else chkS (useB a.kind) (fun i => (fieldE a).getD i 0) (fun i => (fieldZ a).getD i true) 8 0 true
end Go.Proofs.YtmhinhgflehkaaaGreat
