/-
  Rows.CuePacksSaid: CuePacks returns true, whatever the input, and the input reads as it did.
-/
import Derived.Test.YtgmicckeefoghaaRow2
import Derived.Test.YtgmicckeefoghaaKCuePacks
import Derived.Test.YtgmicckeefoghaaL16c
namespace Go.Proofs.Ytgmicckeefoghaa
open Go.ChangeShapes Go.WideShapes Go.ChangeAt Go.RowKit Go.Joins Go.Deep

set_option maxRecDepth 100000 in
theorem CuePacks_lifted (os : Os) (started : os.Started) (H : Type) (enc : TypeId × Value → H) :
    ReturnsInHanded {} Try.checked os 13 .any (Rows.cuePacksSpec.pre6 enc Try.prog Try.f13 Rows.cuePacksRow.domain false) (Rows.cuePacksSpec.post enc Try.prog Try.f13 false true false false) := by
  refine returnsInHanded_of_change (C := Try.checked) own started (by kernel_rfl) Try.func13
    (ChangeSpec.witness6 (enc := enc) (C := Try.checked) false ⟨#[], #[.agg #[.string ⟨#[]⟩, .string ⟨#[]⟩, .slice none 0 0, .slice none 0 0, .bool false, .bool false, .int .i64 0, .string ⟨#[]⟩, .int .i64 0]], []⟩ 8 (by kernel_rfl) (by kernel_rfl) (by kernel_rfl) (by kernel_rfl)) ?_
  intro W base args ds gs before hval0 hW hcnd _
  have hval : ∀ (j : Nat) t v, Try.f13.params[j]? = some t → args[j]? = some v → Value.okWide Try.prog W .any base t v := hval0
  have hW' := hW
  obtain ⟨p, q, hA0, hV, rfl, hfz, hnd⟩ := hW
  have hA : DataW.TrodAll enc Try.prog W 0 (fun _ => true) true Try.f13.params.toList args.toList ds p := hA0
  rw [Try.params13] at hA hval
  obtain ⟨v0, vs0, d0, ds0, p0, q0, hargs, rfl, rfl, h0, r0⟩ := trodAll_cons hA
  obtain ⟨rfl, rfl, rfl⟩ := trodAll_nil r0
  obtain rfl : args = #[v0] := by cases args; simp_all
  obtain ⟨x0, A0, k0, B0, m0, rfl, c0⟩ := open_cue (hval 0 38 v0 rfl rfl) h0
  obtain ⟨rfl, rfl⟩ := trodVars_none hV
  refine (l16_CuePacks x0 A0 k0 B0 m0 W c0).mono fun e W' ⟨he, hx⟩ => ?_
  subst he
  exact ⟨_, rfl, post_ext laid (by kernel_rfl) hW' rfl (fun l hl => by
    match l, hl with
    | [y0], _ => exact ⟨rfl, rfl⟩) (fun _ _ _ => (trodAll_cons_mk (shut_bool Try.underlying4 _) trodAll_mk0)) hx (ok_one (by kernel_rfl) rfl (okWide_bool_mk Try.underlying4 _))⟩

theorem CuePacks_over : Rows.cuePacksRow.holds Try.pinned (OpenSpec.ofChange Rows.cuePacksSpec) :=
  OpenClaim.holds_of_wide 13 Try.f13 rfl rfl rfl rfl rfl rfl rfl ⟨rfl, rfl, rfl, rfl, rfl⟩ rfl rfl rfl rfl rfl (by kernel_rfl) Try.func13 CuePacks_all
    (of_decide_eq_true (by kernel_rfl)) (by unfold Func.isWrapper; first | (rw [if_pos (by decide +kernel)]; kernel_rfl) | (rw [if_neg (by decide +kernel)]; exact ⟨rfl, rfl⟩))
    (fun os started H enc _ => CuePacks_lifted os started H enc)

/-- The statement. -/
theorem CuePacks_proved : Rows.CuePacksSaid := CuePacks_over
#print axioms CuePacks_proved
end Go.Proofs.Ytgmicckeefoghaa
