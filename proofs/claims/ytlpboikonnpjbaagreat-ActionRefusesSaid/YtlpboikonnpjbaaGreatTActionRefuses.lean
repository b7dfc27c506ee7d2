/-
  Rows.ActionRefusesSaid: ActionRefuses returns true, whatever the input, and the input reads as it did.
-/
import Derived.Test.YtlpboikonnpjbaaGreatRow2
import Derived.Test.YtlpboikonnpjbaaGreatKActionRefuses
import Derived.Test.YtlpboikonnpjbaaGreatL33d
import Derived.Test.YtlpboikonnpjbaaGreatRowA
namespace Go.Proofs.YtlpboikonnpjbaaGreat
open Go.ChangeShapes Go.WideShapes Go.ChangeAt Go.RowKit Go.Joins Go.Deep

set_option maxRecDepth 100000 in
theorem ActionRefuses_lifted (os : Os) (started : os.Started) (H : Type) (enc : TypeId × Value → H) :
    ReturnsInHanded {} Tryz.checked os 3 .any (Rows.actionRefusesSpec.pre6 enc Tryz.prog Tryz.f3 Rows.actionRefusesRow.domain false) (Rows.actionRefusesSpec.post enc Tryz.prog Tryz.f3 false true false false) := by
  refine returnsInHanded_of_change (C := Tryz.checked) own started (by kernel_rfl) Tryz.func3
    (ChangeSpec.witness6 (enc := enc) (C := Tryz.checked) false ⟨#[], #[.agg (acnR acn0).toArray], []⟩ 8 (by kernel_rfl) (by kernel_rfl) (by kernel_rfl) (by kernel_rfl)) ?_
  intro W base args ds gs before hval0 hW hcnd _
  have hval : ∀ (j : Nat) t v, Tryz.f3.params[j]? = some t → args[j]? = some v → Value.okWide Tryz.prog W .any base t v := hval0
  have hW' := hW
  obtain ⟨p, q, hA0, hV, rfl, hfz, hnd⟩ := hW
  have hA : DataW.TrodAll enc Tryz.prog W 0 (fun _ => true) true Tryz.f3.params.toList args.toList ds p := hA0
  rw [Tryz.params3] at hA hval
  obtain ⟨v0, vs0, d0, ds0, p0, q0, hargs, rfl, rfl, h0, r0⟩ := trodAll_cons hA
  obtain ⟨rfl, rfl, rfl⟩ := trodAll_nil r0
  obtain rfl : args = #[v0] := by cases args; simp_all
  obtain ⟨x0, rfl, c0⟩ := open_action (hval 0 45 v0 rfl rfl) h0
  obtain ⟨rfl, rfl⟩ := trodVars_none hV
  refine (l33_ActionRefuses x0 W c0).mono fun e W' ⟨he, hx⟩ => ?_
  subst he
  exact ⟨_, rfl, post_ext laid (by kernel_rfl) hW' rfl (fun l hl => by
    match l, hl with
    | [y0], _ => exact ⟨rfl, rfl⟩) (fun _ _ _ => (trodAll_cons_mk (shut_bool Tryz.underlying4 _) trodAll_mk0)) hx (ok_one (by kernel_rfl) rfl (okWide_bool_mk Tryz.underlying4 _))⟩

theorem ActionRefuses_over : Rows.actionRefusesRow.holds Tryz.pinned (OpenSpec.ofChange Rows.actionRefusesSpec) :=
  OpenClaim.holds_of_wide 3 Tryz.f3 rfl rfl rfl rfl rfl rfl rfl ⟨rfl, rfl, rfl, rfl, rfl⟩ rfl rfl rfl rfl rfl (by kernel_rfl) Tryz.func3 ActionRefuses_all
    (of_decide_eq_true (by kernel_rfl)) (by unfold Func.isWrapper; first | (rw [if_pos (by decide +kernel)]; kernel_rfl) | (rw [if_neg (by decide +kernel)]; exact ⟨rfl, rfl⟩))
    (fun os started H enc _ => ActionRefuses_lifted os started H enc)

/-- The statement. -/
theorem ActionRefuses_proved : Rows.ActionRefusesSaid := ActionRefuses_over
#print axioms ActionRefuses_proved
end Go.Proofs.YtlpboikonnpjbaaGreat
