/-
  Rows.CueAssociatesSaid: CueAssociates returns true, whatever the input, and the input reads as it did.
-/
import Derived.Test.YtgmicckeefoghaaRow2
import Derived.Test.YtgmicckeefoghaaKCueAssociates
import Derived.Test.YtgmicckeefoghaaL16d
namespace Go.Proofs.Ytgmicckeefoghaa
open Go.ChangeShapes Go.WideShapes Go.ChangeAt Go.RowKit Go.Joins Go.Deep

set_option maxRecDepth 100000 in
theorem CueAssociates_lifted (os : Os) (started : os.Started) (H : Type) (enc : TypeId × Value → H) :
    ReturnsInHanded {} Try.checked os 15 .any (Rows.cueAssociatesSpec.pre6 enc Try.prog Try.f15 Rows.cueAssociatesRow.domain false) (Rows.cueAssociatesSpec.post enc Try.prog Try.f15 false true false false) := by
  refine returnsInHanded_of_change (C := Try.checked) own started (by kernel_rfl) Try.func15
    (ChangeSpec.witness6 (enc := enc) (C := Try.checked) false ⟨#[], #[.slice none 0 0, .slice none 0 0, .slice none 0 0], []⟩ 8 (by kernel_rfl) (by kernel_rfl) (by kernel_rfl) (by kernel_rfl)) ?_
  intro W base args ds gs before hval0 hW hcnd _
  have hval : ∀ (j : Nat) t v, Try.f15.params[j]? = some t → args[j]? = some v → Value.okWide Try.prog W .any base t v := hval0
  have hW' := hW
  obtain ⟨p, q, hA0, hV, rfl, hfz, hnd⟩ := hW
  have hA : DataW.TrodAll enc Try.prog W 0 (fun _ => true) true Try.f15.params.toList args.toList ds p := hA0
  rw [Try.params15] at hA hval
  obtain ⟨v0, vs0, d0, ds0, p0, q0, hargs, rfl, rfl, h0, r0⟩ := trodAll_cons hA
  obtain ⟨v1, vs1, d1, ds1, p1, q1, rfl, rfl, rfl, h1, r1⟩ := trodAll_cons r0
  obtain ⟨v2, vs2, d2, ds2, p2, q2, rfl, rfl, rfl, h2, r2⟩ := trodAll_cons r1
  obtain ⟨rfl, rfl, rfl⟩ := trodAll_nil r2
  obtain rfl : args = #[v0, v1, v2] := by cases args; simp_all
  obtain ⟨A0, k0, x0, rfl, l0, m0, s0⟩ := open_moves_arg (hval 0 35 v0 rfl rfl) h0
  obtain ⟨A1, k1, x1, rfl, l1, m1, s1⟩ := open_moves_arg (hval 1 35 v1 rfl rfl) h1
  obtain ⟨A2, k2, x2, rfl, l2, m2, s2⟩ := open_moves_arg (hval 2 35 v2 rfl rfl) h2
  obtain ⟨rfl, rfl⟩ := trodVars_none hV
  refine (l16_CueAssociates A0 k0 x0 A1 k1 x1 A2 k2 x2 W s0 l0 m0 s1 l1 m1 s2 l2 m2).mono fun e W' ⟨he, hx⟩ => ?_
  subst he
  exact ⟨_, rfl, post_ext laid (by kernel_rfl) hW' rfl (fun l hl => by
    match l, hl with
    | [y0, y1, y2], _ => exact ⟨rfl, rfl⟩) (fun _ _ _ => (trodAll_cons_mk (shut_bool Try.underlying4 _) trodAll_mk0)) hx (ok_one (by kernel_rfl) rfl (okWide_bool_mk Try.underlying4 _))⟩

theorem CueAssociates_over : Rows.cueAssociatesRow.holds Try.pinned (OpenSpec.ofChange Rows.cueAssociatesSpec) :=
  OpenClaim.holds_of_wide 15 Try.f15 rfl rfl rfl rfl rfl rfl rfl ⟨rfl, rfl, rfl, rfl, rfl⟩ rfl rfl rfl rfl rfl (by kernel_rfl) Try.func15 CueAssociates_all
    (of_decide_eq_true (by kernel_rfl)) (by unfold Func.isWrapper; first | (rw [if_pos (by decide +kernel)]; kernel_rfl) | (rw [if_neg (by decide +kernel)]; exact ⟨rfl, rfl⟩))
    (fun os started H enc _ => CueAssociates_lifted os started H enc)

/-- The statement. -/
theorem CueAssociates_proved : Rows.CueAssociatesSaid := CueAssociates_over
#print axioms CueAssociates_proved
end Go.Proofs.Ytgmicckeefoghaa
