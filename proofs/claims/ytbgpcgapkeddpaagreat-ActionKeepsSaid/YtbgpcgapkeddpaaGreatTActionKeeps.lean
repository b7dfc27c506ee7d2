/-
  Rows.ActionKeepsSaid: ActionKeeps returns true, whatever the input, and the input reads as it did.
-/
import Derived.Test.YtbgpcgapkeddpaaGreatRow2
import Derived.Test.YtbgpcgapkeddpaaGreatKActionKeeps
import Derived.Test.YtbgpcgapkeddpaaGreatL33c
import Derived.Test.YtbgpcgapkeddpaaGreatRowA
namespace Go.Proofs.YtbgpcgapkeddpaaGreat
open Go.ChangeShapes Go.WideShapes Go.ChangeAt Go.RowKit Go.Joins Go.Deep

set_option maxRecDepth 100000 in
theorem ActionKeeps_lifted (os : Os) (started : os.Started) (H : Type) (enc : TypeId × Value → H) :
    ReturnsInHanded {} Tryz.checked os 9 .any (Rows.actionKeepsSpec.pre6 enc Tryz.prog Tryz.f9 Rows.actionKeepsRow.domain false) (Rows.actionKeepsSpec.post enc Tryz.prog Tryz.f9 false true false false) := by
  refine returnsInHanded_of_change (C := Tryz.checked) own started (by kernel_rfl) Tryz.func9
    (ChangeSpec.witness6 (enc := enc) (C := Tryz.checked) false ⟨#[], #[.slice none 0 0, .agg (acnR acn0).toArray], []⟩ 8 (by kernel_rfl) (by kernel_rfl) (by kernel_rfl) (by kernel_rfl)) ?_
  intro W base args ds gs before hval0 hW hcnd _
  have hval : ∀ (j : Nat) t v, Tryz.f9.params[j]? = some t → args[j]? = some v → Value.okWide Tryz.prog W .any base t v := hval0
  have hW' := hW
  obtain ⟨p, q, hA0, hV, rfl, hfz, hnd⟩ := hW
  have hA : DataW.TrodAll enc Tryz.prog W 0 (fun _ => true) true Tryz.f9.params.toList args.toList ds p := hA0
  rw [Tryz.params9] at hA hval
  obtain ⟨v0, vs0, d0, ds0, p0, q0, hargs, rfl, rfl, h0, r0⟩ := trodAll_cons hA
  obtain ⟨v1, vs1, d1, ds1, p1, q1, rfl, rfl, rfl, h1, r1⟩ := trodAll_cons r0
  obtain ⟨rfl, rfl, rfl⟩ := trodAll_nil r1
  obtain rfl : args = #[v0, v1] := by cases args; simp_all
  obtain ⟨A0, k0, x0, rfl, c0⟩ := open_actions_arg (hval 0 22 v0 rfl rfl) h0
  obtain ⟨x1, rfl, c1⟩ := open_action (hval 1 46 v1 rfl rfl) h1
  obtain ⟨rfl, rfl⟩ := trodVars_none hV
  refine (l33_ActionKeeps A0 k0 x0 x1 W c0 c1).mono fun e W' ⟨he, hx⟩ => ?_
  subst he
  exact ⟨_, rfl, post_ext laid (by kernel_rfl) hW' rfl (fun l hl => by
    match l, hl with
    | [y0, y1], _ => exact ⟨rfl, rfl⟩) (fun _ _ _ => (trodAll_cons_mk (shut_bool Tryz.underlying4 _) trodAll_mk0)) hx (ok_one (by kernel_rfl) rfl (okWide_bool_mk Tryz.underlying4 _))⟩

theorem ActionKeeps_over : Rows.actionKeepsRow.holds Tryz.pinned (OpenSpec.ofChange Rows.actionKeepsSpec) :=
  OpenClaim.holds_of_wide 9 Tryz.f9 rfl rfl rfl rfl rfl rfl rfl ⟨rfl, rfl, rfl, rfl, rfl⟩ rfl rfl rfl rfl rfl (by kernel_rfl) Tryz.func9 ActionKeeps_all
    (of_decide_eq_true (by kernel_rfl)) (by unfold Func.isWrapper; first | (rw [if_pos (by decide +kernel)]; kernel_rfl) | (rw [if_neg (by decide +kernel)]; exact ⟨rfl, rfl⟩))
    (fun os started H enc _ => ActionKeeps_lifted os started H enc)

/-- The statement. -/
theorem ActionKeeps_proved : Rows.ActionKeepsSaid := ActionKeeps_over
#print axioms ActionKeeps_proved
end Go.Proofs.YtbgpcgapkeddpaaGreat
