/-
 Rows.TopReplicasKeepSaid: TopReplicasKeep returns true, whatever the input, and the input reads as it did.
-/
import Derived.Test.YtmhinhgflehkaaaGreatRow2
import Derived.Test.YtmhinhgflehkaaaGreatKTopReplicasKeep
import Derived.Test.YtmhinhgflehkaaaGreatTopK
namespace Go.Proofs.YtmhinhgflehkaaaGreat
open Go.ChangeShapes Go.WideShapes Go.ChangeAt Go.RowKit Go.Joins Go.Deep

set_option maxRecDepth 100000 in
theorem TopReplicasKeep_lifted (os : Os) (started : os.Started) (H : Type) (enc : TypeId × Value → H) :
  ReturnsInHanded {} Tryz.checked os 10 .any (Rows.topReplicasKeepSpec.pre6 enc Tryz.prog Tryz.f10 Rows.topReplicasKeepRow.domain false) (Rows.topReplicasKeepSpec.post enc Tryz.prog Tryz.f10 false true false false) := by
 refine returnsInHanded_of_change (C := Tryz.checked) own started (by kernel_rfl) Tryz.func10
  (ChangeSpec.witness6 (enc := enc) (C := Tryz.checked) false ⟨#[], #[.slice none 0 0], []⟩ 8 (by kernel_rfl) (by kernel_rfl) (by kernel_rfl) (by kernel_rfl)) ?_
 intro W base args ds gs before hval0 hW hcnd _
 have hval : ∀ (j : Nat) t v, Tryz.f10.params[j]? = some t → args[j]? = some v → Value.okWide Tryz.prog W .any base t v := hval0
 have hW' := hW
 obtain ⟨p, q, hA0, hV, rfl, hfz, hnd⟩ := hW
 have hA : DataW.TrodAll enc Tryz.prog W 0 (fun _ => true) true Tryz.f10.params.toList args.toList ds p := hA0
 rw [Tryz.params10] at hA hval
 obtain ⟨v0, vs0, d0, ds0, p0, q0, hargs, rfl, rfl, h0, r0⟩ := trodAll_cons hA
 obtain ⟨rfl, rfl, rfl⟩ := trodAll_nil r0
 obtain rfl : args = #[v0] := by cases args; simp_all
 obtain ⟨A0, k0, x0, rfl, l0, m0, s0, o0⟩ := open_steps_arg (hval 0 111 v0 rfl rfl) h0
 obtain ⟨rfl, rfl⟩ := trodVars_none hV
 refine (top_Keep A0 k0 x0 W s0 l0 m0 o0).mono fun e W' ⟨he, hx⟩ => ?_
 subst he
 exact ⟨_, rfl, post_ext laid (by kernel_rfl) hW' rfl (fun l hl => by
  match l, hl with
  | [y0], _ => exact ⟨rfl, rfl⟩) (fun _ _ _ => (trodAll_cons_mk (shut_bool Tryz.underlying4 _) trodAll_mk0)) hx (ok_one (by kernel_rfl) rfl (okWide_bool_mk Tryz.underlying4 _))⟩

theorem TopReplicasKeep_over : Rows.topReplicasKeepRow.holds Tryz.pinned (OpenSpec.ofChange Rows.topReplicasKeepSpec) :=
 OpenClaim.holds_of_wide 10 Tryz.f10 rfl rfl rfl rfl rfl rfl rfl ⟨rfl, rfl, rfl, rfl, rfl⟩ rfl rfl rfl rfl rfl (by kernel_rfl) Tryz.func10 TopReplicasKeep_all
  (of_decide_eq_true (by kernel_rfl)) (by unfold Func.isWrapper; first | (rw [if_pos (by decide +kernel)]; kernel_rfl) | (rw [if_neg (by decide +kernel)]; exact ⟨rfl, rfl⟩))
  (fun os started H enc _ => TopReplicasKeep_lifted os started H enc)

theorem TopReplicasKeep_proved : Rows.TopReplicasKeepSaid := TopReplicasKeep_over
#print axioms TopReplicasKeep_proved
end Go.Proofs.YtmhinhgflehkaaaGreat
