/-
 Actions: the field of the edit.
-/
import Derived.Test.YtmhinhgflehkaaaGreatGedit
import Derived.Test.YtmhinhgflehkaaaGreatGsam
import Derived.Laws.EntriesVeiled
namespace Go.Proofs.YtmhinhgflehkaaaGreat
open Go.RowKit

def noEdit : Edit := ⟨0, 0, 0, 0, ⟨#[]⟩, emptyC, none, 0, none, 0, 0, ⟨[], none, 0⟩, 0, ⟨[], none, 0⟩, ⟨0, 0, false, ⟨[], none, 0⟩⟩, ⟨0, 0, ⟨[], none, 0⟩, 0, 0, 0⟩, noFix⟩
theorem noEdit_at (w : World) : EditAt w noEdit := ⟨by decide, ⟨Sl.nil _ _ _, Sl.nil _ _ _, by decide, by decide, by decide, by decide, by decide, by decide, by decide⟩, LstAt.nil, LstAt.nil, LstAt.nil, LstAt.nil, by decide, by decide⟩
set_option maxHeartbeats 800000 in
set_option maxRecDepth 100000 in
theorem act_check11 (a : Acn) (w : World) (ha : AcnAt w a) : Calls Tryz.prog 193 #[.agg (acnR a).toArray] w fun e w' => e = .returned (.int .i64 (editE a.edit)) ∧ Ext w w' := by
 have HE := Lib.hid ha.edit
 clear ha
 go_enter Tryz.func193, Tryz.ntmps193
 go_wp2_with (first
  | (refine wpList_load_row rfl 85 _ rfl w.heap.size 9 rfl (editR a.edit) _ (rangeAt_end (rangeAt_new w rfl (acnR a) 87) rfl) Tryz.underlying85 rfl (by kernel_rfl) ?_)
  | (go_at_call 194; refine (edit_Check a.edit _ (HE.out.mono (ex))).mono ?_; rintro e w' ⟨rfl, hx⟩; obtain ⟨y, rfl⟩ := hx.get; clear hx))
 go_ret
 exact ⟨rfl, ex⟩
set_option maxHeartbeats 800000 in
set_option maxRecDepth 100000 in
theorem act_zero12 (a : Acn) (w : World) (ha : AcnAt w a) : Calls Tryz.prog 195 #[.agg (acnR a).toArray] w fun e w' => e = .returned (.bool (sameE a.edit noEdit)) ∧ Ext w w' := by
 have HE := Lib.hid ha.edit
 clear ha
 go_enter Tryz.func195, Tryz.ntmps195
 go_wp2_with (first
  | (refine wpList_load_row rfl 85 _ rfl w.heap.size 9 rfl (editR a.edit) _ (rangeAt_end (rangeAt_new w rfl (acnR a) 87) rfl) Tryz.underlying85 rfl (by kernel_rfl) ?_)
  | (go_at_call 145; refine (act_same a.edit noEdit _ (HE.out.mono (ex)) (noEdit_at _)).mono ?_; rintro e w' ⟨rfl, hx⟩; obtain ⟨y, rfl⟩ := hx.get; clear hx))
 go_ret
 exact ⟨rfl, ex⟩
end Go.Proofs.YtmhinhgflehkaaaGreat

/-
 Actions: all fields, and the check of an action.
-/
namespace Go.Proofs.YtmhinhgflehkaaaGreat
open Go.RowKit

def fieldsL : List Value := [(Value.func (Fn.func 178) #[] #[]), (Value.func (Fn.func 179) #[] #[]), (Value.func (Fn.func 180) #[] #[]), (Value.func (Fn.func 182) #[] #[]), (Value.func (Fn.func 183) #[] #[]), (Value.func (Fn.func 184) #[] #[]), (Value.func (Fn.func 185) #[] #[]), (Value.func (Fn.func 186) #[] #[]), (Value.func (Fn.func 187) #[] #[]), (Value.func (Fn.func 188) #[] #[]), (Value.func (Fn.func 189) #[] #[]), (Value.func (Fn.func 190) #[] #[]), (Value.func (Fn.func 191) #[] #[]), (Value.func (Fn.func 192) #[] #[]), (Value.func (Fn.func 193) #[] #[]), (Value.func (Fn.func 195) #[] #[])]
set_option maxHeartbeats 1600000 in
set_option maxRecDepth 100000 in
theorem act_fields (w : World) : Calls Tryz.prog 142 #[] w fun e w' => e = .returned (.agg fieldsL.toArray) ∧ Ext w w' := by
 go_enter Tryz.func142, Tryz.ntmps142
 go_wp2_with (first
  | (refine wpList_built rfl 230 _ rfl [(0, .agg #[(Value.func (Fn.func 178) #[] #[]), (Value.func (Fn.func 179) #[] #[])]), (1, .agg #[(Value.func (Fn.func 180) #[] #[]), (Value.func (Fn.func 182) #[] #[])]), (2, .agg #[(Value.func (Fn.func 183) #[] #[]), (Value.func (Fn.func 184) #[] #[])]), (3, .agg #[(Value.func (Fn.func 185) #[] #[]), (Value.func (Fn.func 186) #[] #[])]), (4, .agg #[(Value.func (Fn.func 187) #[] #[]), (Value.func (Fn.func 188) #[] #[])]), (5, .agg #[(Value.func (Fn.func 189) #[] #[]), (Value.func (Fn.func 190) #[] #[])]), (6, .agg #[(Value.func (Fn.func 191) #[] #[]), (Value.func (Fn.func 192) #[] #[])]), (7, .agg #[(Value.func (Fn.func 193) #[] #[]), (Value.func (Fn.func 195) #[] #[])])] rfl #[(Value.func (Fn.func 178) #[] #[]), (Value.func (Fn.func 179) #[] #[]), (Value.func (Fn.func 180) #[] #[]), (Value.func (Fn.func 182) #[] #[]), (Value.func (Fn.func 183) #[] #[]), (Value.func (Fn.func 184) #[] #[]), (Value.func (Fn.func 185) #[] #[]), (Value.func (Fn.func 186) #[] #[]), (Value.func (Fn.func 187) #[] #[]), (Value.func (Fn.func 188) #[] #[]), (Value.func (Fn.func 189) #[] #[]), (Value.func (Fn.func 190) #[] #[]), (Value.func (Fn.func 191) #[] #[]), (Value.func (Fn.func 192) #[] #[]), (Value.func (Fn.func 193) #[] #[]), (Value.func (Fn.func 195) #[] #[])] (by kernel_rfl) ?_)
  | (refine wpList_store_top rfl 230 (.tmp 0) (.tmp 9) rfl rfl rfl [(Value.func (Fn.func 178) #[] #[]), (Value.func (Fn.func 179) #[] #[]), (Value.func (Fn.func 180) #[] #[]), (Value.func (Fn.func 182) #[] #[]), (Value.func (Fn.func 183) #[] #[]), (Value.func (Fn.func 184) #[] #[]), (Value.func (Fn.func 185) #[] #[]), (Value.func (Fn.func 186) #[] #[]), (Value.func (Fn.func 187) #[] #[]), (Value.func (Fn.func 188) #[] #[]), (Value.func (Fn.func 189) #[] #[]), (Value.func (Fn.func 190) #[] #[]), (Value.func (Fn.func 191) #[] #[]), (Value.func (Fn.func 192) #[] #[]), (Value.func (Fn.func 193) #[] #[]), (Value.func (Fn.func 195) #[] #[])] rfl rfl (by kernel_rfl) (by simp [Value.oneCell']) ?_))
 refine bodyPost_ret (v := .agg fieldsL.toArray) ?_ rfl ⟨rfl, ex⟩
 simp [results, Tryz.results142, Act.put, asAddr]
 exact run_loadVar_mid _ _ _ _ fieldsL _ (rangeAt_new w rfl fieldsL 230) Tryz.underlying230 rfl (by kernel_rfl)

/-! ### The check, plain -/
def usesV (k : Int) : Int := usesL.getD k.toNat 0
def useB (k : Int) (i : Nat) : Bool := !(bits BinOp.and IntKind.i64 (usesV k / 2 ^ i) 1 == 0)
def fieldE (a : Acn) : List Int := [inE a.target 1 1048576, numE a.cue, levelsE a.kind a.level, inE a.time 0 10000000, setE a.entries.l, parsE a.params.l, chansE a.chans.l, editE a.edit]
noncomputable def fieldZ (a : Acn) : List Bool := [a.target == 0, a.cue.toList.isEmpty, a.level == 0, a.time == 0, (a.entries.l.length : Int) == 0, (a.params.l.length : Int) == 0, (a.chans.l.length : Int) == 0, sameE a.edit noEdit]
def chkS (u : Nat → Bool) (e : Nat → Int) (z : Nat → Bool) : Nat → Nat → Bool → Int
 | 0, _, idle => if idle then 0 else 3
 | n + 1, i, idle => if u i then (if e i ≠ 0 then e i else chkS u e z n (i + 1) idle) else chkS u e z n (i + 1) (idle && z i)
noncomputable def acnE (a : Acn) : Int := if a.kind < 0 ∨ 20 ≤ a.kind then 1 else if inE a.at_ 0 10000000 ≠ 0 then 2 else chkS (useB a.kind) (fun i => (fieldE a).getD i 0) (fun i => (fieldZ a).getD i true) 8 0 true
end Go.Proofs.YtmhinhgflehkaaaGreat

/-
 Actions: the check.
-/
namespace Go.Proofs.YtmhinhgflehkaaaGreat
open Go.RowKit

theorem chkS_use {u : Nat → Bool} {e : Nat → Int} {z : Nat → Bool} {n i : Nat} {b : Bool} (h : u i = true) (he : e i = 0) : chkS u e z (n + 1) i b = chkS u e z n (i + 1) b := by rw [chkS, if_pos h, if_neg (by simpa using he)]
theorem chkS_err {u : Nat → Bool} {e : Nat → Int} {z : Nat → Bool} {n i : Nat} {b : Bool} (h : u i = true) (he : e i ≠ 0) : chkS u e z (n + 1) i b = e i := by rw [chkS, if_pos h, if_pos he]
noncomputable def chkA (a : Acn) (m k : Nat) (b : Bool) : Int := chkS (useB a.kind) (fun i => (fieldE a).getD i 0) (fun i => (fieldZ a).getD i true) m k b
theorem chk_no {a : Acn} {m k : Nat} {b z : Bool} (h : useB a.kind k = false) (hz : (fieldZ a).getD k true = z) : chkA a (m + 1) k b = chkA a m (k + 1) (b && z) := by subst hz; unfold chkA; rw [chkS, h]; rfl
theorem chk_yes {a : Acn} {m k : Nat} {b : Bool} (h : useB a.kind k = true) (he : (fieldE a).getD k 0 = 0) : chkA a (m + 1) k b = chkA a m (k + 1) b := chkS_use h he
theorem chk_err {a : Acn} {m k : Nat} {b : Bool} {e : Int} (h : useB a.kind k = true) (he : (fieldE a).getD k 0 = e) (h0 : e ≠ 0) : chkA a (m + 1) k b = e := by subst he; exact chkS_err h h0
theorem usesV_get {k : Int} (h0 : 0 ≤ k) (h1 : k < 20) : (usesL.map (Value.int .i64))[k.toNat]? = some (.int .i64 (usesV k)) := by
 unfold usesV
 rw [List.getElem?_map, List.getD_eq_getElem?_getD]
 have h : k.toNat < usesL.length := by show k.toNat < 20; omega
 rw [List.getElem?_eq_getElem h]
 rfl
set_option maxHeartbeats 800000 in
set_option maxRecDepth 100000 in
theorem act_Check_kind (a : Acn) (w : World) (h : a.kind < 0 ∨ 20 ≤ a.kind) : Calls Tryz.prog 111 #[.agg (acnR a).toArray] w fun e w' => e = .returned (.int .i64 (acnE a)) ∧ Ext w w' := by
 have HV := Lib.hid (show acnE a = 1 by unfold acnE; rw [if_pos h])
 rcases (by omega : a.kind < 0 ∨ (0 ≤ a.kind ∧ 20 ≤ a.kind)) with h' | ⟨h', h''⟩
 all_goals
  clear h
  go_enter Tryz.func111, Tryz.ntmps111
  go_wp2_with (first | (go_at_call 140; refine (act_uses _).mono ?_; rintro e w' ⟨rfl, hx⟩; obtain ⟨y, rfl⟩ := hx.get; clear hx) | (refine wpList_store_top rfl 225 (.tmp 3) (.tmp 9) rfl rfl (by simp [go_sem]) [.int .i64 1, .int .i64 3, .int .i64 1, .int .i64 1, .int .i64 1, .int .i64 1, .int .i64 5, .int .i64 13, .int .i64 9, .int .i64 13, .int .i64 12, .int .i64 4, .int .i64 24, .int .i64 32, .int .i64 65, .int .i64 5, .int .i64 1, .int .i64 128, .int .i64 0, .int .i64 0] rfl rfl (by kernel_rfl) (by simp [Value.oneCell']) ?_))
  go_ret
  exact ⟨ret_i HV.out.symm, ex⟩
set_option maxHeartbeats 800000 in
set_option maxRecDepth 100000 in
theorem act_Check_at (a : Acn) (w : World) (h0 : 0 ≤ a.kind) (h1 : a.kind < 20) (h : inE a.at_ 0 10000000 ≠ 0) : Calls Tryz.prog 111 #[.agg (acnR a).toArray] w fun e w' => e = .returned (.int .i64 (acnE a)) ∧ Ext w w' := by
 have hz : (inE a.at_ 0 10000000 != 0) = true := by simpa using h
 have HV := Lib.hid (show acnE a = inE a.at_ 0 10000000 by
  have := inE_two a.at_ 0 10000000
  unfold acnE; rw [if_neg (by omega), if_pos h]; omega)
 clear h
 go_enter Tryz.func111, Tryz.ntmps111
 go_wp2_with (first | (go_at_call 140; refine (act_uses _).mono ?_; rintro e w' ⟨rfl, hx⟩; obtain ⟨y, rfl⟩ := hx.get; clear hx) | (go_at_call 141; refine (act_in _ _ _ _).mono ?_; rintro e w' ⟨rfl, rfl⟩) | (refine wpList_store_top rfl 225 (.tmp 3) (.tmp 9) rfl rfl (by simp [go_sem]) [.int .i64 1, .int .i64 3, .int .i64 1, .int .i64 1, .int .i64 1, .int .i64 1, .int .i64 5, .int .i64 13, .int .i64 9, .int .i64 13, .int .i64 12, .int .i64 4, .int .i64 24, .int .i64 32, .int .i64 65, .int .i64 5, .int .i64 1, .int .i64 128, .int .i64 0, .int .i64 0] rfl rfl (by kernel_rfl) (by simp [Value.oneCell']) ?_))
 go_ret
 exact ⟨ret_i HV.out.symm, ex⟩
set_option maxHeartbeats 12800000 in
set_option maxRecDepth 100000 in
theorem act_Check_in (a : Acn) (w : World) (ha : AcnAt w a) (h0 : 0 ≤ a.kind) (h1 : a.kind < 20) (h : inE a.at_ 0 10000000 = 0) : Calls Tryz.prog 111 #[.agg (acnR a).toArray] w fun e w' => e = .returned (.int .i64 (acnE a)) ∧ Ext w w' := by
 have HA := Lib.hid ha
 have hz : (inE a.at_ 0 10000000 != 0) = false := by simpa using h
 have HV := Lib.hid (show acnE a = chkA a 8 0 true by unfold acnE; rw [if_neg (by omega), if_neg (by simpa using h)]; rfl)
 have HU := Lib.hid (usesV_get h0 h1)
 clear h ha
 obtain ⟨v, hv⟩ : ∃ v, usesV a.kind = v := ⟨_, rfl⟩
 have HUV := Lib.hid hv
 clear hv
 go_enter Tryz.func111, Tryz.ntmps111
 go_wp2_with (first
  | (go_at_call 140; refine (act_uses _).mono ?_; rintro e w' ⟨rfl, hx⟩; obtain ⟨yu, rfl⟩ := hx.get; clear hx)
  | (go_at_call 141; refine (act_in _ _ _ _).mono ?_; rintro e w' ⟨rfl, rfl⟩)
  | (refine wpList_store_top rfl 225 (.tmp 3) (.tmp 9) rfl rfl (by simp [go_sem]) [.int .i64 1, .int .i64 3, .int .i64 1, .int .i64 1, .int .i64 1, .int .i64 1, .int .i64 5, .int .i64 13, .int .i64 9, .int .i64 13, .int .i64 12, .int .i64 4, .int .i64 24, .int .i64 32, .int .i64 65, .int .i64 5, .int .i64 1, .int .i64 128, .int .i64 0, .int .i64 0] rfl rfl (by kernel_rfl) (by simp [Value.oneCell']) ?_)
  | (go_at_call 142; refine (act_fields _).mono ?_; rintro r w1 ⟨rfl, hx⟩; have HX := Lib.hid hx; have HR := Lib.hid (rangeAt_mono (rangeAt_new w rfl (acnR a) 87) (Ext.trans (ex) hx)); have c1 : w1.cell? ⟨w.heap.size, 1, none⟩ = some (.int .i64 a.kind) := hx.cell (by simp [go_sem]); have cu : w1.cell? ⟨w.heap.size + 1 + yu.n, a.kind.toNat, none⟩ = some (.int .i64 v) := (by rw [← HUV.out]; have hr := rangeAt_mono (rangeAt_new (xt (w.alloc (.cells (acnR a).toArray 87)) yu) (b := w.heap.size + 1 + yu.n) (by simp [go_sem]) (usesL.map (Value.int .i64)) 225) hx; have hg := hr _ _ HU.out; rwa [Nat.zero_add] at hg); clear hx))
 have hxw : Ext w w1 := Ext.trans (ex) HX.out
 clear HX
 go_loopw [5, 25] (fun s i wr => ∃ (k m : Nat) (b : Bool), k + m = 8 ∧ i = .int .i64 k ∧ s = .bool b ∧ Ext w1 wr ∧ Hid (acnE a = chkA a m k b)) (fun _ i _ => 8 - (intOf i).toNat)
 case atStart => exact ⟨0, 8, true, rfl, rfl, rfl, Ext.refl _, HV⟩
 case round =>
  obtain ⟨k, m, b, hk, rfl, rfl, hx, HB⟩ := hrel
  obtain ⟨y, rfl⟩ := hx.get
  clear hx HV
  match k, hk with
  | 0, hk =>
   obtain rfl : m = 8 := by omega
   clear hk
   have i0 : ∀ w, (Instr.index 230 (.agg fieldsL.toArray) (.int .i64 0)).run Tryz.prog w = .ok (.agg #[(Value.func (Fn.func 178) #[] #[]), (Value.func (Fn.func 179) #[] #[])]) w := fun _ => by kernel_rfl
   have hT : (bits BinOp.and IntKind.i64 (v) 1 == 0) = !useB a.kind 0 := by unfold useB; rw [HUV.out, Bool.not_not]; first | rfl | simp
   cases hu : useB a.kind 0
   ·rw [hu] at hT
    simp only [Bool.not_false] at hT
    have HN := Lib.hid (chk_no (m := 7) (b := b) hu (show (fieldZ a).getD 0 true = (a.target == 0) from rfl))
    clear hu
    cases b
    ·go_wp2
     go_light
     exact ⟨⟨1, 7, false, rfl, by rfl, rfl, ex, Lib.hid (HB.out.trans HN.out)⟩, by simp [intOf]⟩
    ·go_wp2_with (first | (refine wpList_load_row rfl 87 _ rfl w.heap.size 0 rfl (acnR a) _ (rangeAt_mono HR.out (ex)) Tryz.underlying87 rfl (by kernel_rfl) ?_) | (go_at_call 179; refine (act_zero2 a _).mono ?_; rintro e w' ⟨rfl, hx⟩; obtain ⟨y, rfl⟩ := hx.get; clear hx))
     go_light
     exact ⟨⟨1, 7, _, rfl, by rfl, rfl, ex, Lib.hid (HB.out.trans HN.out)⟩, by simp [intOf]⟩
   ·rw [hu] at hT
    simp only [Bool.not_true] at hT
    by_cases he : inE a.target 1 1048576 = 0
    ·have hz1 : (inE a.target 1 1048576 != 0) = false := by simpa using he
     have HN := Lib.hid (chk_yes (m := 7) (b := b) hu (show (fieldE a).getD 0 0 = 0 from he))
     clear he hu
     go_wp2_with (first | (refine wpList_load_row rfl 87 _ rfl w.heap.size 0 rfl (acnR a) _ (rangeAt_mono HR.out (ex)) Tryz.underlying87 rfl (by kernel_rfl) ?_) | (go_at_call 178; refine (act_check1 a _).mono ?_; rintro e w' ⟨rfl, hx⟩; obtain ⟨y, rfl⟩ := hx.get; clear hx))
     go_light
     exact ⟨⟨1, 7, b, rfl, by rfl, rfl, ex, Lib.hid (HB.out.trans HN.out)⟩, by simp [intOf]⟩
    ·have hz1 : (inE a.target 1 1048576 != 0) = true := by simpa using he
     have HN := Lib.hid (HB.out.trans (chk_err (m := 7) (b := b) hu (show (fieldE a).getD 0 0 = inE a.target 1 1048576 from rfl) he))
     clear he hu
     go_wp2_with (first | (refine wpList_load_row rfl 87 _ rfl w.heap.size 0 rfl (acnR a) _ (rangeAt_mono HR.out (ex)) Tryz.underlying87 rfl (by kernel_rfl) ?_) | (go_at_call 178; refine (act_check1 a _).mono ?_; rintro e w' ⟨rfl, hx⟩; obtain ⟨y, rfl⟩ := hx.get; clear hx))
     go_ret
     exact ⟨ret_i HN.out.symm, ex⟩
  | 1, hk =>
   obtain rfl : m = 7 := by omega
   clear hk
   have i0 : ∀ w, (Instr.index 230 (.agg fieldsL.toArray) (.int .i64 1)).run Tryz.prog w = .ok (.agg #[(Value.func (Fn.func 180) #[] #[]), (Value.func (Fn.func 182) #[] #[])]) w := fun _ => by kernel_rfl
   have hT : (bits BinOp.and IntKind.i64 (v / 2) 1 == 0) = !useB a.kind 1 := by unfold useB; rw [HUV.out, Bool.not_not]; rfl
   cases hu : useB a.kind 1
   ·rw [hu] at hT
    simp only [Bool.not_false] at hT
    have HN := Lib.hid (chk_no (m := 6) (b := b) hu (show (fieldZ a).getD 1 true = a.cue.toList.isEmpty from rfl))
    clear hu
    cases b
    ·go_wp2
     go_light
     exact ⟨⟨2, 6, false, rfl, by rfl, rfl, ex, Lib.hid (HB.out.trans HN.out)⟩, by simp [intOf]⟩
    ·go_wp2_with (first | (refine wpList_load_row rfl 87 _ rfl w.heap.size 0 rfl (acnR a) _ (rangeAt_mono HR.out (ex)) Tryz.underlying87 rfl (by kernel_rfl) ?_) | (go_at_call 182; refine (act_zero4 a _).mono ?_; rintro e w' ⟨rfl, hx⟩; obtain ⟨y, rfl⟩ := hx.get; clear hx))
     go_light
     exact ⟨⟨2, 6, _, rfl, by rfl, rfl, ex, Lib.hid (HB.out.trans HN.out)⟩, by simp [intOf]⟩
   ·rw [hu] at hT
    simp only [Bool.not_true] at hT
    by_cases he : numE a.cue = 0
    ·have hz1 : (numE a.cue != 0) = false := by simpa using he
     have HN := Lib.hid (chk_yes (m := 6) (b := b) hu (show (fieldE a).getD 1 0 = 0 from he))
     clear he hu
     go_wp2_with (first | (refine wpList_load_row rfl 87 _ rfl w.heap.size 0 rfl (acnR a) _ (rangeAt_mono HR.out (ex)) Tryz.underlying87 rfl (by kernel_rfl) ?_) | (go_at_call 180; refine (act_check3 a _ HA.out.cue).mono ?_; rintro e w' ⟨rfl, hx⟩; obtain ⟨y, rfl⟩ := hx.get; clear hx))
     go_light
     exact ⟨⟨2, 6, b, rfl, by rfl, rfl, ex, Lib.hid (HB.out.trans HN.out)⟩, by simp [intOf]⟩
    ·have hz1 : (numE a.cue != 0) = true := by simpa using he
     have HN := Lib.hid (HB.out.trans (chk_err (m := 6) (b := b) hu (show (fieldE a).getD 1 0 = numE a.cue from rfl) he))
     clear he hu
     go_wp2_with (first | (refine wpList_load_row rfl 87 _ rfl w.heap.size 0 rfl (acnR a) _ (rangeAt_mono HR.out (ex)) Tryz.underlying87 rfl (by kernel_rfl) ?_) | (go_at_call 180; refine (act_check3 a _ HA.out.cue).mono ?_; rintro e w' ⟨rfl, hx⟩; obtain ⟨y, rfl⟩ := hx.get; clear hx))
     go_ret
     exact ⟨ret_i HN.out.symm, ex⟩
  | 2, hk =>
   obtain rfl : m = 6 := by omega
   clear hk
   have i0 : ∀ w, (Instr.index 230 (.agg fieldsL.toArray) (.int .i64 2)).run Tryz.prog w = .ok (.agg #[(Value.func (Fn.func 183) #[] #[]), (Value.func (Fn.func 184) #[] #[])]) w := fun _ => by kernel_rfl
   have hT : (bits BinOp.and IntKind.i64 (v / 4) 1 == 0) = !useB a.kind 2 := by unfold useB; rw [HUV.out, Bool.not_not]; rfl
   cases hu : useB a.kind 2
   ·rw [hu] at hT
    simp only [Bool.not_false] at hT
    have HN := Lib.hid (chk_no (m := 5) (b := b) hu (show (fieldZ a).getD 2 true = (a.level == 0) from rfl))
    clear hu
    cases b
    ·go_wp2
     go_light
     exact ⟨⟨3, 5, false, rfl, by rfl, rfl, ex, Lib.hid (HB.out.trans HN.out)⟩, by simp [intOf]⟩
    ·go_wp2_with (first | (refine wpList_load_row rfl 87 _ rfl w.heap.size 0 rfl (acnR a) _ (rangeAt_mono HR.out (ex)) Tryz.underlying87 rfl (by kernel_rfl) ?_) | (go_at_call 184; refine (act_zero5 a _).mono ?_; rintro e w' ⟨rfl, hx⟩; obtain ⟨y, rfl⟩ := hx.get; clear hx))
     go_light
     exact ⟨⟨3, 5, _, rfl, by rfl, rfl, ex, Lib.hid (HB.out.trans HN.out)⟩, by simp [intOf]⟩
   ·rw [hu] at hT
    simp only [Bool.not_true] at hT
    by_cases he : levelsE a.kind a.level = 0
    ·have hz1 : (levelsE a.kind a.level != 0) = false := by simpa using he
     have HN := Lib.hid (chk_yes (m := 5) (b := b) hu (show (fieldE a).getD 2 0 = 0 from he))
     clear he hu
     go_wp2_with (first | (refine wpList_load_row rfl 87 _ rfl w.heap.size 0 rfl (acnR a) _ (rangeAt_mono HR.out (ex)) Tryz.underlying87 rfl (by kernel_rfl) ?_) | (go_at_call 183; refine (act_levels a _).mono ?_; rintro e w' ⟨rfl, hx⟩; obtain ⟨y, rfl⟩ := hx.get; clear hx))
     go_light
     exact ⟨⟨3, 5, b, rfl, by rfl, rfl, ex, Lib.hid (HB.out.trans HN.out)⟩, by simp [intOf]⟩
    ·have hz1 : (levelsE a.kind a.level != 0) = true := by simpa using he
     have HN := Lib.hid (HB.out.trans (chk_err (m := 5) (b := b) hu (show (fieldE a).getD 2 0 = levelsE a.kind a.level from rfl) he))
     clear he hu
     go_wp2_with (first | (refine wpList_load_row rfl 87 _ rfl w.heap.size 0 rfl (acnR a) _ (rangeAt_mono HR.out (ex)) Tryz.underlying87 rfl (by kernel_rfl) ?_) | (go_at_call 183; refine (act_levels a _).mono ?_; rintro e w' ⟨rfl, hx⟩; obtain ⟨y, rfl⟩ := hx.get; clear hx))
     go_ret
     exact ⟨ret_i HN.out.symm, ex⟩
  | 3, hk =>
   obtain rfl : m = 5 := by omega
   clear hk
   have i0 : ∀ w, (Instr.index 230 (.agg fieldsL.toArray) (.int .i64 3)).run Tryz.prog w = .ok (.agg #[(Value.func (Fn.func 185) #[] #[]), (Value.func (Fn.func 186) #[] #[])]) w := fun _ => by kernel_rfl
   have hT : (bits BinOp.and IntKind.i64 (v / 8) 1 == 0) = !useB a.kind 3 := by unfold useB; rw [HUV.out, Bool.not_not]; rfl
   cases hu : useB a.kind 3
   ·rw [hu] at hT
    simp only [Bool.not_false] at hT
    have HN := Lib.hid (chk_no (m := 4) (b := b) hu (show (fieldZ a).getD 3 true = (a.time == 0) from rfl))
    clear hu
    cases b
    ·go_wp2
     go_light
     exact ⟨⟨4, 4, false, rfl, by rfl, rfl, ex, Lib.hid (HB.out.trans HN.out)⟩, by simp [intOf]⟩
    ·go_wp2_with (first | (refine wpList_load_row rfl 87 _ rfl w.heap.size 0 rfl (acnR a) _ (rangeAt_mono HR.out (ex)) Tryz.underlying87 rfl (by kernel_rfl) ?_) | (go_at_call 186; refine (act_zero7 a _).mono ?_; rintro e w' ⟨rfl, hx⟩; obtain ⟨y, rfl⟩ := hx.get; clear hx))
     go_light
     exact ⟨⟨4, 4, _, rfl, by rfl, rfl, ex, Lib.hid (HB.out.trans HN.out)⟩, by simp [intOf]⟩
   ·rw [hu] at hT
    simp only [Bool.not_true] at hT
    by_cases he : inE a.time 0 10000000 = 0
    ·have hz1 : (inE a.time 0 10000000 != 0) = false := by simpa using he
     have HN := Lib.hid (chk_yes (m := 4) (b := b) hu (show (fieldE a).getD 3 0 = 0 from he))
     clear he hu
     go_wp2_with (first | (refine wpList_load_row rfl 87 _ rfl w.heap.size 0 rfl (acnR a) _ (rangeAt_mono HR.out (ex)) Tryz.underlying87 rfl (by kernel_rfl) ?_) | (go_at_call 185; refine (act_check6 a _).mono ?_; rintro e w' ⟨rfl, hx⟩; obtain ⟨y, rfl⟩ := hx.get; clear hx))
     go_light
     exact ⟨⟨4, 4, b, rfl, by rfl, rfl, ex, Lib.hid (HB.out.trans HN.out)⟩, by simp [intOf]⟩
    ·have hz1 : (inE a.time 0 10000000 != 0) = true := by simpa using he
     have HN := Lib.hid (HB.out.trans (chk_err (m := 4) (b := b) hu (show (fieldE a).getD 3 0 = inE a.time 0 10000000 from rfl) he))
     clear he hu
     go_wp2_with (first | (refine wpList_load_row rfl 87 _ rfl w.heap.size 0 rfl (acnR a) _ (rangeAt_mono HR.out (ex)) Tryz.underlying87 rfl (by kernel_rfl) ?_) | (go_at_call 185; refine (act_check6 a _).mono ?_; rintro e w' ⟨rfl, hx⟩; obtain ⟨y, rfl⟩ := hx.get; clear hx))
     go_ret
     exact ⟨ret_i HN.out.symm, ex⟩
  | 4, hk =>
   obtain rfl : m = 4 := by omega
   clear hk
   have i0 : ∀ w, (Instr.index 230 (.agg fieldsL.toArray) (.int .i64 4)).run Tryz.prog w = .ok (.agg #[(Value.func (Fn.func 187) #[] #[]), (Value.func (Fn.func 188) #[] #[])]) w := fun _ => by kernel_rfl
   have hT : (bits BinOp.and IntKind.i64 (v / 16) 1 == 0) = !useB a.kind 4 := by unfold useB; rw [HUV.out, Bool.not_not]; rfl
   cases hu : useB a.kind 4
   ·rw [hu] at hT
    simp only [Bool.not_false] at hT
    have HN := Lib.hid (chk_no (m := 3) (b := b) hu (show (fieldZ a).getD 4 true = ((a.entries.l.length : Int) == 0) from rfl))
    clear hu
    cases b
    ·go_wp2
     go_light
     exact ⟨⟨5, 3, false, rfl, by rfl, rfl, ex, Lib.hid (HB.out.trans HN.out)⟩, by simp [intOf]⟩
    ·go_wp2_with (first | (refine wpList_load_row rfl 87 _ rfl w.heap.size 0 rfl (acnR a) _ (rangeAt_mono HR.out (ex)) Tryz.underlying87 rfl (by kernel_rfl) ?_) | (go_at_call 188; refine (act_zero8 a _).mono ?_; rintro e w' ⟨rfl, hx⟩; obtain ⟨y, rfl⟩ := hx.get; clear hx))
     go_light
     exact ⟨⟨5, 3, _, rfl, by rfl, rfl, ex, Lib.hid (HB.out.trans HN.out)⟩, by simp [intOf]⟩
   ·rw [hu] at hT
    simp only [Bool.not_true] at hT
    by_cases he : setE a.entries.l = 0
    ·have hz1 : (setE a.entries.l != 0) = false := by simpa using he
     have HN := Lib.hid (chk_yes (m := 3) (b := b) hu (show (fieldE a).getD 4 0 = 0 from he))
     clear he hu
     go_wp2_with (first | (refine wpList_load_row rfl 87 _ rfl w.heap.size 0 rfl (acnR a) _ (rangeAt_mono HR.out (ex)) Tryz.underlying87 rfl (by kernel_rfl) ?_) | (go_at_call 187; refine (act_set a _ (HA.out.mono (ex))).mono ?_; rintro e w' ⟨rfl, hx⟩; obtain ⟨y, rfl⟩ := hx.get; clear hx))
     go_light
     exact ⟨⟨5, 3, b, rfl, by rfl, rfl, ex, Lib.hid (HB.out.trans HN.out)⟩, by simp [intOf]⟩
    ·have hz1 : (setE a.entries.l != 0) = true := by simpa using he
     have HN := Lib.hid (HB.out.trans (chk_err (m := 3) (b := b) hu (show (fieldE a).getD 4 0 = setE a.entries.l from rfl) he))
     clear he hu
     go_wp2_with (first | (refine wpList_load_row rfl 87 _ rfl w.heap.size 0 rfl (acnR a) _ (rangeAt_mono HR.out (ex)) Tryz.underlying87 rfl (by kernel_rfl) ?_) | (go_at_call 187; refine (act_set a _ (HA.out.mono (ex))).mono ?_; rintro e w' ⟨rfl, hx⟩; obtain ⟨y, rfl⟩ := hx.get; clear hx))
     go_ret
     exact ⟨ret_i HN.out.symm, ex⟩
  | 5, hk =>
   obtain rfl : m = 3 := by omega
   clear hk
   have i0 : ∀ w, (Instr.index 230 (.agg fieldsL.toArray) (.int .i64 5)).run Tryz.prog w = .ok (.agg #[(Value.func (Fn.func 189) #[] #[]), (Value.func (Fn.func 190) #[] #[])]) w := fun _ => by kernel_rfl
   have hT : (bits BinOp.and IntKind.i64 (v / 32) 1 == 0) = !useB a.kind 5 := by unfold useB; rw [HUV.out, Bool.not_not]; rfl
   cases hu : useB a.kind 5
   ·rw [hu] at hT
    simp only [Bool.not_false] at hT
    have HN := Lib.hid (chk_no (m := 2) (b := b) hu (show (fieldZ a).getD 5 true = ((a.params.l.length : Int) == 0) from rfl))
    clear hu
    cases b
    ·go_wp2
     go_light
     exact ⟨⟨6, 2, false, rfl, by rfl, rfl, ex, Lib.hid (HB.out.trans HN.out)⟩, by simp [intOf]⟩
    ·go_wp2_with (first | (refine wpList_load_row rfl 87 _ rfl w.heap.size 0 rfl (acnR a) _ (rangeAt_mono HR.out (ex)) Tryz.underlying87 rfl (by kernel_rfl) ?_) | (go_at_call 190; refine (act_zero9 a _).mono ?_; rintro e w' ⟨rfl, hx⟩; obtain ⟨y, rfl⟩ := hx.get; clear hx))
     go_light
     exact ⟨⟨6, 2, _, rfl, by rfl, rfl, ex, Lib.hid (HB.out.trans HN.out)⟩, by simp [intOf]⟩
   ·rw [hu] at hT
    simp only [Bool.not_true] at hT
    by_cases he : parsE a.params.l = 0
    ·have hz1 : (parsE a.params.l != 0) = false := by simpa using he
     have HN := Lib.hid (chk_yes (m := 2) (b := b) hu (show (fieldE a).getD 5 0 = 0 from he))
     clear he hu
     go_wp2_with (first | (refine wpList_load_row rfl 87 _ rfl w.heap.size 0 rfl (acnR a) _ (rangeAt_mono HR.out (ex)) Tryz.underlying87 rfl (by kernel_rfl) ?_) | (go_at_call 189; refine (act_cleared a _ (HA.out.mono (ex))).mono ?_; rintro e w' ⟨rfl, hx⟩; obtain ⟨y, rfl⟩ := hx.get; clear hx))
     go_light
     exact ⟨⟨6, 2, b, rfl, by rfl, rfl, ex, Lib.hid (HB.out.trans HN.out)⟩, by simp [intOf]⟩
    ·have hz1 : (parsE a.params.l != 0) = true := by simpa using he
     have HN := Lib.hid (HB.out.trans (chk_err (m := 2) (b := b) hu (show (fieldE a).getD 5 0 = parsE a.params.l from rfl) he))
     clear he hu
     go_wp2_with (first | (refine wpList_load_row rfl 87 _ rfl w.heap.size 0 rfl (acnR a) _ (rangeAt_mono HR.out (ex)) Tryz.underlying87 rfl (by kernel_rfl) ?_) | (go_at_call 189; refine (act_cleared a _ (HA.out.mono (ex))).mono ?_; rintro e w' ⟨rfl, hx⟩; obtain ⟨y, rfl⟩ := hx.get; clear hx))
     go_ret
     exact ⟨ret_i HN.out.symm, ex⟩
  | 6, hk =>
   obtain rfl : m = 2 := by omega
   clear hk
   have i0 : ∀ w, (Instr.index 230 (.agg fieldsL.toArray) (.int .i64 6)).run Tryz.prog w = .ok (.agg #[(Value.func (Fn.func 191) #[] #[]), (Value.func (Fn.func 192) #[] #[])]) w := fun _ => by kernel_rfl
   have hT : (bits BinOp.and IntKind.i64 (v / 64) 1 == 0) = !useB a.kind 6 := by unfold useB; rw [HUV.out, Bool.not_not]; rfl
   cases hu : useB a.kind 6
   ·rw [hu] at hT
    simp only [Bool.not_false] at hT
    have HN := Lib.hid (chk_no (m := 1) (b := b) hu (show (fieldZ a).getD 6 true = ((a.chans.l.length : Int) == 0) from rfl))
    clear hu
    cases b
    ·go_wp2
     go_light
     exact ⟨⟨7, 1, false, rfl, by rfl, rfl, ex, Lib.hid (HB.out.trans HN.out)⟩, by simp [intOf]⟩
    ·go_wp2_with (first | (refine wpList_load_row rfl 87 _ rfl w.heap.size 0 rfl (acnR a) _ (rangeAt_mono HR.out (ex)) Tryz.underlying87 rfl (by kernel_rfl) ?_) | (go_at_call 192; refine (act_zero10 a _).mono ?_; rintro e w' ⟨rfl, hx⟩; obtain ⟨y, rfl⟩ := hx.get; clear hx))
     go_light
     exact ⟨⟨7, 1, _, rfl, by rfl, rfl, ex, Lib.hid (HB.out.trans HN.out)⟩, by simp [intOf]⟩
   ·rw [hu] at hT
    simp only [Bool.not_true] at hT
    by_cases he : chansE a.chans.l = 0
    ·have hz1 : (chansE a.chans.l != 0) = false := by simpa using he
     have HN := Lib.hid (chk_yes (m := 1) (b := b) hu (show (fieldE a).getD 6 0 = 0 from he))
     clear he hu
     go_wp2_with (first | (refine wpList_load_row rfl 87 _ rfl w.heap.size 0 rfl (acnR a) _ (rangeAt_mono HR.out (ex)) Tryz.underlying87 rfl (by kernel_rfl) ?_) | (go_at_call 191; refine (act_run a _ (HA.out.mono (ex))).mono ?_; rintro e w' ⟨rfl, hx⟩; obtain ⟨y, rfl⟩ := hx.get; clear hx))
     go_light
     exact ⟨⟨7, 1, b, rfl, by rfl, rfl, ex, Lib.hid (HB.out.trans HN.out)⟩, by simp [intOf]⟩
    ·have hz1 : (chansE a.chans.l != 0) = true := by simpa using he
     have HN := Lib.hid (HB.out.trans (chk_err (m := 1) (b := b) hu (show (fieldE a).getD 6 0 = chansE a.chans.l from rfl) he))
     clear he hu
     go_wp2_with (first | (refine wpList_load_row rfl 87 _ rfl w.heap.size 0 rfl (acnR a) _ (rangeAt_mono HR.out (ex)) Tryz.underlying87 rfl (by kernel_rfl) ?_) | (go_at_call 191; refine (act_run a _ (HA.out.mono (ex))).mono ?_; rintro e w' ⟨rfl, hx⟩; obtain ⟨y, rfl⟩ := hx.get; clear hx))
     go_ret
     exact ⟨ret_i HN.out.symm, ex⟩
  | 7, hk =>
   obtain rfl : m = 1 := by omega
   clear hk
   have i0 : ∀ w, (Instr.index 230 (.agg fieldsL.toArray) (.int .i64 7)).run Tryz.prog w = .ok (.agg #[(Value.func (Fn.func 193) #[] #[]), (Value.func (Fn.func 195) #[] #[])]) w := fun _ => by kernel_rfl
   have hT : (bits BinOp.and IntKind.i64 (v / 128) 1 == 0) = !useB a.kind 7 := by unfold useB; rw [HUV.out, Bool.not_not]; rfl
   cases hu : useB a.kind 7
   ·rw [hu] at hT
    simp only [Bool.not_false] at hT
    have HN := Lib.hid (chk_no (m := 0) (b := b) hu (show (fieldZ a).getD 7 true = sameE a.edit noEdit from rfl))
    clear hu
    cases b
    ·go_wp2
     go_light
     exact ⟨⟨8, 0, false, rfl, by rfl, rfl, ex, Lib.hid (HB.out.trans HN.out)⟩, by simp [intOf]⟩
    ·go_wp2_with (first | (refine wpList_load_row rfl 87 _ rfl w.heap.size 0 rfl (acnR a) _ (rangeAt_mono HR.out (ex)) Tryz.underlying87 rfl (by kernel_rfl) ?_) | (go_at_call 195; refine (act_zero12 a _ (HA.out.mono (ex))).mono ?_; rintro e w' ⟨rfl, hx⟩; obtain ⟨y, rfl⟩ := hx.get; clear hx))
     go_light
     exact ⟨⟨8, 0, _, rfl, by rfl, rfl, ex, Lib.hid (HB.out.trans HN.out)⟩, by simp [intOf]⟩
   ·rw [hu] at hT
    simp only [Bool.not_true] at hT
    by_cases he : editE a.edit = 0
    ·have hz1 : (editE a.edit != 0) = false := by simpa using he
     have HN := Lib.hid (chk_yes (m := 0) (b := b) hu (show (fieldE a).getD 7 0 = 0 from he))
     clear he hu
     go_wp2_with (first | (refine wpList_load_row rfl 87 _ rfl w.heap.size 0 rfl (acnR a) _ (rangeAt_mono HR.out (ex)) Tryz.underlying87 rfl (by kernel_rfl) ?_) | (go_at_call 193; refine (act_check11 a _ (HA.out.mono (ex))).mono ?_; rintro e w' ⟨rfl, hx⟩; obtain ⟨y, rfl⟩ := hx.get; clear hx))
     go_light
     exact ⟨⟨8, 0, b, rfl, by rfl, rfl, ex, Lib.hid (HB.out.trans HN.out)⟩, by simp [intOf]⟩
    ·have hz1 : (editE a.edit != 0) = true := by simpa using he
     have HN := Lib.hid (HB.out.trans (chk_err (m := 0) (b := b) hu (show (fieldE a).getD 7 0 = editE a.edit from rfl) he))
     clear he hu
     go_wp2_with (first | (refine wpList_load_row rfl 87 _ rfl w.heap.size 0 rfl (acnR a) _ (rangeAt_mono HR.out (ex)) Tryz.underlying87 rfl (by kernel_rfl) ?_) | (go_at_call 193; refine (act_check11 a _ (HA.out.mono (ex))).mono ?_; rintro e w' ⟨rfl, hx⟩; obtain ⟨y, rfl⟩ := hx.get; clear hx))
     go_ret
     exact ⟨ret_i HN.out.symm, ex⟩
  | 8, hk =>
   obtain rfl : m = 0 := by omega
   clear hk
   cases b
   ·have HN := Lib.hid (show acnE a = 3 from HB.out)
    go_wp2
    go_ret
    exact ⟨ret_i HN.out.symm, ex⟩
   ·have HN := Lib.hid (show acnE a = 0 from HB.out)
    go_wp2
    go_ret
    exact ⟨ret_i HN.out.symm, ex⟩
  | k + 9, hk => exact absurd hk (by omega)
theorem act_Check (a : Acn) (w : World) (ha : AcnAt w a) : Calls Tryz.prog 111 #[.agg (acnR a).toArray] w fun e w' => e = .returned (.int .i64 (acnE a)) ∧ Ext w w' := by
 by_cases h : a.kind < 0 ∨ 20 ≤ a.kind
 ·exact act_Check_kind a w h
 ·by_cases h2 : inE a.at_ 0 10000000 = 0
  ·exact act_Check_in a w ha (by omega) (by omega) h2
  ·exact act_Check_at a w (by omega) (by omega) h2
end Go.Proofs.YtmhinhgflehkaaaGreat

/-
 Logs of actions: the check, and how many actions are up to a time.
-/
namespace Go.Proofs.YtmhinhgflehkaaaGreat
open Go.RowKit

structure LogAt (w : World) (A : Option Addr) (c : Nat) (l : List Acn) : Prop where
 sl : Sl w A 44 (l.map acnR)
 le : l.length ≤ c
 cap : c ≤ maxLen
 el : ∀ a ∈ l, AcnAt w a
theorem LogAt.mono {w w' : World} {A : Option Addr} {c : Nat} {l : List Acn} (h : LogAt w A c l) (hx : Ext w w') : LogAt w' A c l := ⟨h.sl.mono hx, h.le, h.cap, fun a ha => (h.el a ha).mono hx⟩
theorem LogAt.get {w : World} {A : Option Addr} {c : Nat} {l : List Acn} (h : LogAt w A c l) {k : Nat} {a : Acn} (hk : l[k]? = some a) : (∃ b o, A = some ⟨b, o, none⟩ ∧ w.rangeAt b (o + k * 44) (acnR a)) ∧ AcnAt w a :=
 ⟨h.sl.range (by rw [List.getElem?_map, hk]; rfl), h.el a (List.mem_of_getElem? hk)⟩
noncomputable def acnS (q : Option Acn) (a : Acn) : Int := if acnE a ≠ 0 then acnE a else match q with | some p => if a.at_ < p.at_ then 9 else 0 | none => 0
noncomputable def logE (l : List Acn) : Int := if 256 < l.length then 5 else scan acnS none l
/-! ### How many are up to a time -/
def untilL (l : List Acn) (t : Int) : Nat := (l.takeWhile fun a => decide (a.at_ ≤ t)).length
def idxF (l : List Acn) (t : Int) : Int := if untilL l t = l.length then -1 else (untilL l t : Int)

end Go.Proofs.YtmhinhgflehkaaaGreat
