/-
  The reference's logs: the check, counts, parts.
-/
import Derived.Test.YtlpboikonnpjbaaGreatGidl
import Derived.Test.YtlpboikonnpjbaaGreatGshf
import Derived.Test.YtlpboikonnpjbaaGreatGwl
import Derived.Test.YtlpboikonnpjbaaGreatGten
namespace Go.Proofs.YtlpboikonnpjbaaGreat
open Go.RowKit

theorem r33_Check (a : Acn) (w : World) (ha : AcnAt w a) : Calls Tryz.prog 14 #[.agg (acnR a).toArray] w fun e w' => e = .returned (.int .i64 (acnE a)) ∧ Ext w w' := by
  rw [← r33E_acn]
  exact r33_Check0 a w ha
end Go.Proofs.YtlpboikonnpjbaaGreat

/-
  Small edits, actions and logs: whether they are is some answer.
-/
namespace Go.Proofs.YtlpboikonnpjbaaGreat
open Go.RowKit

set_option maxHeartbeats 800000 in
set_option maxRecDepth 100000 in
theorem r15_Few1 (b n c : Nat) (A : Option Addr) (w : World) (h : w.cell? ⟨b, 1, none⟩ = some (.slice A n c)) : Calls Tryz.prog 87 #[.slice (some ⟨b, 0, none⟩) 1 1] w fun e w' => e = .returned (.bool (decide (n ≤ 512))) ∧ Ext w w' := by
  go_enter Tryz.func87, Tryz.ntmps87
  go_wp2
  go_loopw [3] (fun q wr => ∃ k : Nat, k ≤ 1 ∧ q = .int .i64 k ∧ Ext w wr ∧ Hid (k = 1 → n ≤ 512)) (fun q _ => 1 - (intOf q).toNat)
  case atStart => exact ⟨0, by omega, rfl, Ext.refl _, Lib.hid (by omega)⟩
  case round =>
    obtain ⟨k, hk, rfl, hx, HE⟩ := hrel
    obtain ⟨y, rfl⟩ := hx.get
    clear hx
    match k, hk with
    | 0, _ =>
      by_cases hn : 512 < n
      · go_wp2
        go_ret
        exact ⟨ret_b (decide_eq_false (by omega)).symm, by repeat (first | exact Ext.refl _ | assumption | apply Ext.xt | apply Ext.alloc | apply Ext.drew | apply Ext.drewN)⟩
      · go_wp2
        go_light
        exact ⟨⟨1, by omega, by rfl, by repeat (first | exact Ext.refl _ | assumption | apply Ext.xt | apply Ext.alloc | apply Ext.drew | apply Ext.drewN), Lib.hid fun _ => by omega⟩, by simp [intOf]⟩
    | 1, _ =>
      have HV := Lib.hid (HE.out rfl)
      go_wp2
      go_ret
      exact ⟨ret_b (by have h := HV.out; symm; simpa using h), by repeat (first | exact Ext.refl _ | assumption | apply Ext.xt | apply Ext.alloc | apply Ext.drew | apply Ext.drewN)⟩
    | k + 2, hk => exact absurd hk (by omega)
set_option maxHeartbeats 800000 in
set_option maxRecDepth 100000 in
theorem r14_Few1 (b n c : Nat) (A : Option Addr) (w : World) (h : w.cell? ⟨b, 1, none⟩ = some (.slice A n c)) : Calls Tryz.prog 88 #[.slice (some ⟨b, 0, none⟩) 1 1] w fun e w' => e = .returned (.bool (decide (n ≤ 40 ∨ 256 < n))) ∧ Ext w w' := by
  go_enter Tryz.func88, Tryz.ntmps88
  go_wp2
  go_loopw [3] (fun q wr => ∃ k : Nat, k ≤ 1 ∧ q = .int .i64 k ∧ Ext w wr ∧ Hid (k = 1 → n ≤ 40 ∨ 256 < n)) (fun q _ => 1 - (intOf q).toNat)
  case atStart => exact ⟨0, by omega, rfl, Ext.refl _, Lib.hid (by omega)⟩
  case round =>
    obtain ⟨k, hk, rfl, hx, HE⟩ := hrel
    obtain ⟨y, rfl⟩ := hx.get
    clear hx
    match k, hk with
    | 0, _ =>
      by_cases h1 : 40 < n
      · by_cases h2 : n ≤ 256
        · go_wp2
          go_ret
          exact ⟨ret_b (decide_eq_false (by omega)).symm, by repeat (first | exact Ext.refl _ | assumption | apply Ext.xt | apply Ext.alloc | apply Ext.drew | apply Ext.drewN)⟩
        · go_wp2
          go_light
          exact ⟨⟨1, by omega, by rfl, by repeat (first | exact Ext.refl _ | assumption | apply Ext.xt | apply Ext.alloc | apply Ext.drew | apply Ext.drewN), Lib.hid fun _ => by omega⟩, by simp [intOf]⟩
      · go_wp2
        go_light
        exact ⟨⟨1, by omega, by rfl, by repeat (first | exact Ext.refl _ | assumption | apply Ext.xt | apply Ext.alloc | apply Ext.drew | apply Ext.drewN), Lib.hid fun _ => by omega⟩, by simp [intOf]⟩
    | 1, _ =>
      have HV := Lib.hid (HE.out rfl)
      go_wp2
      go_ret
      exact ⟨ret_b (by have h := HV.out; symm; simpa using h), by repeat (first | exact Ext.refl _ | assumption | apply Ext.xt | apply Ext.alloc | apply Ext.drew | apply Ext.drewN)⟩
    | k + 2, hk => exact absurd hk (by omega)
set_option maxHeartbeats 800000 in
set_option maxRecDepth 100000 in
theorem r26_Few1 (b n c : Nat) (A : Option Addr) (w : World) (h : w.cell? ⟨b, 3, none⟩ = some (.slice A n c)) : Calls Tryz.prog 89 #[.slice (some ⟨b, 0, none⟩) 1 1] w fun e w' => e = .returned (.bool (decide (n ≤ 30 ∨ 128 < n))) ∧ Ext w w' := by
  go_enter Tryz.func89, Tryz.ntmps89
  go_wp2
  go_loopw [3] (fun q wr => ∃ k : Nat, k ≤ 1 ∧ q = .int .i64 k ∧ Ext w wr ∧ Hid (k = 1 → n ≤ 30 ∨ 128 < n)) (fun q _ => 1 - (intOf q).toNat)
  case atStart => exact ⟨0, by omega, rfl, Ext.refl _, Lib.hid (by omega)⟩
  case round =>
    obtain ⟨k, hk, rfl, hx, HE⟩ := hrel
    obtain ⟨y, rfl⟩ := hx.get
    clear hx
    match k, hk with
    | 0, _ =>
      by_cases h1 : 30 < n
      · by_cases h2 : n ≤ 128
        · go_wp2
          go_ret
          exact ⟨ret_b (decide_eq_false (by omega)).symm, by repeat (first | exact Ext.refl _ | assumption | apply Ext.xt | apply Ext.alloc | apply Ext.drew | apply Ext.drewN)⟩
        · go_wp2
          go_light
          exact ⟨⟨1, by omega, by rfl, by repeat (first | exact Ext.refl _ | assumption | apply Ext.xt | apply Ext.alloc | apply Ext.drew | apply Ext.drewN), Lib.hid fun _ => by omega⟩, by simp [intOf]⟩
      · go_wp2
        go_light
        exact ⟨⟨1, by omega, by rfl, by repeat (first | exact Ext.refl _ | assumption | apply Ext.xt | apply Ext.alloc | apply Ext.drew | apply Ext.drewN), Lib.hid fun _ => by omega⟩, by simp [intOf]⟩
    | 1, _ =>
      have HV := Lib.hid (HE.out rfl)
      go_wp2
      go_ret
      exact ⟨ret_b (by have h := HV.out; symm; simpa using h), by repeat (first | exact Ext.refl _ | assumption | apply Ext.xt | apply Ext.alloc | apply Ext.drew | apply Ext.drewN)⟩
    | k + 2, hk => exact absurd hk (by omega)
set_option maxHeartbeats 800000 in
set_option maxRecDepth 100000 in
theorem r28_Few1 (b : Nat) (w : World) : Calls Tryz.prog 90 #[.slice (some ⟨b, 0, none⟩) 1 1, .slice none 0 0] w fun e w' => e = .returned (.bool true) ∧ Ext w w' := by
  go_enter Tryz.func90, Tryz.ntmps90
  go_wp2
  refine wp_loop_rounds 1 ?_
  rw [rounds_succ]
  go_wp2
  go_ret
  exact ⟨rfl, by repeat (first | exact Ext.refl _ | assumption | apply Ext.xt | apply Ext.alloc | apply Ext.drew | apply Ext.drewN)⟩
set_option maxHeartbeats 400000 in
set_option maxRecDepth 100000 in
theorem r15_FewEnts (A : Option Addr) (n c : Nat) (w : World) : Calls Tryz.prog 50 #[.slice A n c] w fun e w' => e = .returned (.bool (decide (n ≤ 200 ∨ 4096 < n))) ∧ w = w' := by
  go_enter Tryz.func50, Tryz.ntmps50
  go_wp2
  all_goals
    go_ret
    refine ⟨ret_b ?_, rfl⟩
    go_light
    grind
def SomeB (w : World) (e : Ending) (w' : World) : Prop := (∃ b : Bool, e = .returned (.bool b)) ∧ Ext w w'
set_option maxHeartbeats 3200000 in
set_option maxRecDepth 100000 in
theorem r32_FewEdit (e : Edit) (w : World) : Calls Tryz.prog 51 #[.agg (editR e).toArray] w (SomeB w) := by
  go_enter Tryz.func51, Tryz.ntmps51
  go_upto_region 1 with fail
  refine wp_region_strip (l' := ?l2) ?hl ?_
  case hl =>
    simp only [List.map_cons, List.map_nil, stripO]
    rfl
  go_wp2_with (first
    | (go_at_call 86; refine (r16_Few e.cue e.cA e.ck e.cB e.cm _).mono ?_; rintro e w' ⟨rfl, hx⟩; obtain ⟨y, rfl⟩ := hx.get; clear hx)
    | (go_at_call 87; refine (r15_Few1 _ e.hues.l.length e.hues.cap e.hues.at_ _ (by simp [go_sem])).mono ?_; rintro e w' ⟨rfl, hx⟩; obtain ⟨y, rfl⟩ := hx.get; clear hx)
    | (go_at_call 88; refine (r14_Few1 _ e.chans.l.length e.chans.cap e.chans.at_ _ (by simp [go_sem])).mono ?_; rintro e w' ⟨rfl, hx⟩; obtain ⟨y, rfl⟩ := hx.get; clear hx)
    | (go_at_call 89; refine (r26_Few1 _ e.sub.gains.l.length e.sub.gains.cap e.sub.gains.at_ _ (by simp [go_sem])).mono ?_; rintro e w' ⟨rfl, hx⟩; obtain ⟨y, rfl⟩ := hx.get; clear hx)
    | (go_at_call 90; refine (r28_Few1 _ _).mono ?_; rintro e w' ⟨rfl, hx⟩; obtain ⟨y, rfl⟩ := hx.get; clear hx))
  all_goals
    go_ret
    exact ⟨⟨_, rfl⟩, by repeat (first | exact Ext.refl _ | assumption | apply Ext.xt | apply Ext.alloc | apply Ext.drew | apply Ext.drewN)⟩
section
variable (a : Acn) (w : World)
set_option maxHeartbeats 1600000 in
set_option maxRecDepth 100000 in
theorem Few_1 (h1 : 40 < a.cue.size) : Calls Tryz.prog 13 #[.agg (acnR a).toArray] w (SomeB w) := by
  go_enter Tryz.func13, Tryz.ntmps13
  go_wp2
  go_ret
  exact ⟨⟨_, rfl⟩, by repeat (first | exact Ext.refl _ | assumption | apply Ext.xt | apply Ext.alloc | apply Ext.drew | apply Ext.drewN)⟩
set_option maxHeartbeats 1600000 in
set_option maxRecDepth 100000 in
theorem Few_2 (h1 : ¬ 40 < a.cue.size) (h2 : decide (a.entries.l.length ≤ 200 ∨ 4096 < a.entries.l.length) = false) : Calls Tryz.prog 13 #[.agg (acnR a).toArray] w (SomeB w) := by
  have HE := Lib.hid h2
  clear h2
  go_enter Tryz.func13, Tryz.ntmps13
  go_wp2_with (go_at_call 50; refine (r15_FewEnts _ _ _ _).mono ?_; rintro e w' ⟨he, rfl⟩; rw [HE.out] at he; subst he)
  go_ret
  exact ⟨⟨_, rfl⟩, by repeat (first | exact Ext.refl _ | assumption | apply Ext.xt | apply Ext.alloc | apply Ext.drew | apply Ext.drewN)⟩
set_option maxHeartbeats 1600000 in
set_option maxRecDepth 100000 in
theorem Few_3 (h1 : ¬ 40 < a.cue.size) (h2 : decide (a.entries.l.length ≤ 200 ∨ 4096 < a.entries.l.length) = true) (h3 : 200 < a.params.l.length) (h4 : a.params.l.length ≤ 4096) : Calls Tryz.prog 13 #[.agg (acnR a).toArray] w (SomeB w) := by
  have HE := Lib.hid h2
  clear h2
  go_enter Tryz.func13, Tryz.ntmps13
  go_wp2_with (go_at_call 50; refine (r15_FewEnts _ _ _ _).mono ?_; rintro e w' ⟨he, rfl⟩; rw [HE.out] at he; subst he)
  go_ret
  exact ⟨⟨_, rfl⟩, by repeat (first | exact Ext.refl _ | assumption | apply Ext.xt | apply Ext.alloc | apply Ext.drew | apply Ext.drewN)⟩
set_option maxHeartbeats 1600000 in
set_option maxRecDepth 100000 in
theorem Few_4 (h1 : ¬ 40 < a.cue.size) (h2 : decide (a.entries.l.length ≤ 200 ∨ 4096 < a.entries.l.length) = true) (h3 : ¬ 200 < a.params.l.length) : Calls Tryz.prog 13 #[.agg (acnR a).toArray] w (SomeB w) := by
  have HE := Lib.hid h2
  have HR := Lib.hid (rangeAt_new w rfl (acnR a) 45)
  clear h2
  by_cases h5 : 512 < a.chans.l.length
  all_goals
    go_enter Tryz.func13, Tryz.ntmps13
    go_wp2_with (first
      | (refine wpList_load_row rfl 43 (.tmp 31) rfl w.heap.size 9 rfl (editR a.edit) _ (rangeAt_mono (rangeAt_end HR.out rfl) (by repeat (first | exact Ext.refl _ | assumption | apply Ext.xt | apply Ext.alloc | apply Ext.drew | apply Ext.drewN))) Tryz.underlying43 rfl (by kernel_rfl) ?_)
      | (go_at_call 50; refine (r15_FewEnts _ _ _ _).mono ?_; rintro e w' ⟨he, rfl⟩; rw [HE.out] at he; subst he)
      | (go_at_call 51; refine (r32_FewEdit a.edit _).mono ?_; rintro e w' ⟨⟨fe, rfl⟩, hx⟩; obtain ⟨y, rfl⟩ := hx.get; clear hx))
    go_ret
    exact ⟨⟨_, rfl⟩, by repeat (first | exact Ext.refl _ | assumption | apply Ext.xt | apply Ext.alloc | apply Ext.drew | apply Ext.drewN)⟩
set_option maxHeartbeats 1600000 in
set_option maxRecDepth 100000 in
theorem Few_5 (h1 : ¬ 40 < a.cue.size) (h2 : decide (a.entries.l.length ≤ 200 ∨ 4096 < a.entries.l.length) = true) (h4 : ¬ a.params.l.length ≤ 4096) : Calls Tryz.prog 13 #[.agg (acnR a).toArray] w (SomeB w) := by
  have HE := Lib.hid h2
  have HR := Lib.hid (rangeAt_new w rfl (acnR a) 45)
  clear h2
  by_cases h5 : 512 < a.chans.l.length
  all_goals
    go_enter Tryz.func13, Tryz.ntmps13
    go_wp2_with (first
      | (refine wpList_load_row rfl 43 (.tmp 31) rfl w.heap.size 9 rfl (editR a.edit) _ (rangeAt_mono (rangeAt_end HR.out rfl) (by repeat (first | exact Ext.refl _ | assumption | apply Ext.xt | apply Ext.alloc | apply Ext.drew | apply Ext.drewN))) Tryz.underlying43 rfl (by kernel_rfl) ?_)
      | (go_at_call 50; refine (r15_FewEnts _ _ _ _).mono ?_; rintro e w' ⟨he, rfl⟩; rw [HE.out] at he; subst he)
      | (go_at_call 51; refine (r32_FewEdit a.edit _).mono ?_; rintro e w' ⟨⟨fe, rfl⟩, hx⟩; obtain ⟨y, rfl⟩ := hx.get; clear hx))
    go_ret
    exact ⟨⟨_, rfl⟩, by repeat (first | exact Ext.refl _ | assumption | apply Ext.xt | apply Ext.alloc | apply Ext.drew | apply Ext.drewN)⟩
theorem r33_Few : Calls Tryz.prog 13 #[.agg (acnR a).toArray] w (SomeB w) := by
  by_cases h1 : 40 < a.cue.size
  · exact Few_1 a w h1
  · cases h2 : decide (a.entries.l.length ≤ 200 ∨ 4096 < a.entries.l.length)
    · exact Few_2 a w h1 h2
    · by_cases h3 : 200 < a.params.l.length
      · by_cases h4 : a.params.l.length ≤ 4096
        · exact Few_3 a w h1 h2 h3 h4
        · exact Few_5 a w h1 h2 h4
      · exact Few_4 a w h1 h2 h3
end
def GoodB (w : World) (l : List Acn) (e : Ending) (w' : World) : Prop := (∃ b : Bool, e = .returned (.bool b) ∧ (b = true → l.length ≤ 40 ∧ logE l = 0)) ∧ Ext w w'
end Go.Proofs.YtlpboikonnpjbaaGreat
