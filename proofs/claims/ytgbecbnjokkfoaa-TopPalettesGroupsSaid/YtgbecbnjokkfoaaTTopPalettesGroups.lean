/-
  Proved: a fan over the channels of a group that is recorded as a palette, and to which a cue refers for them, gives each channel its level, in the order of the group (Rows.TopPalettesGroupsSaid). Conditions: none besides the statement's own.
-/
import Derived.Test.YtgbecbnjokkfoaaRow2
import Derived.Test.YtgbecbnjokkfoaaKTopPalettesGroups
import Derived.Test.YtgbecbnjokkfoaaPalH
namespace Go.Proofs.Ytgbecbnjokkfoaa
set_option maxRecDepth 100000
open Go.ChangeShapes Go.WideShapes Go.ChangeAt Go.RowKit Go.Joins Go.Deep

theorem TopPalettesGroups_lifted (os : Os) (started : os.Started) (H : Type) (enc : TypeId × Value → H) :
  ReturnsInHanded {} Try.checked os 3 .any (Rows.topPalettesGroupsSpec.pre6 enc Try.prog Try.f3 Rows.topPalettesGroupsRow.domain false) (Rows.topPalettesGroupsSpec.post enc Try.prog Try.f3 false true false false):=by
 refine returnsInHanded_of_change (C:=Try.checked) own started (by kernel_rfl) Try.func3
  (ChangeSpec.witness6 (enc:=enc) (C:=Try.checked) false ⟨#[],#[.agg #[.int .i64 0,.slice none 0 0],.int .u16 0,.int .u16 0],[]⟩ 8 (by kernel_rfl) (by kernel_rfl) (by kernel_rfl) (by kernel_rfl)) ?_
 intro W base args ds gs before hval0 hW hcnd _
 have hval : ∀ (j : Nat) t v,Try.f3.params[j]? = some t → args[j]? = some v → Value.okWide Try.prog W .any base t v:=hval0
 have hW':=hW
 obtain ⟨p,q,hA0,hV,rfl,hfz,hnd⟩:=hW
 have hA : DataW.TrodAll enc Try.prog W 0 (fun _ => true) true Try.f3.params.toList args.toList ds p:=hA0
 rw [Try.params3] at hA hval
 obtain ⟨v0,vs0,d0,ds0,p0,q0,hargs,rfl,rfl,h0,r0⟩:=trodAll_cons hA
 obtain ⟨v1,vs1,d1,ds1,p1,q1,rfl,rfl,rfl,h1,r1⟩:=trodAll_cons r0
 obtain ⟨v2,vs2,d2,ds2,p2,q2,rfl,rfl,rfl,h2,r2⟩:=trodAll_cons r1
 obtain ⟨rfl,rfl,rfl⟩:=trodAll_nil r2
 obtain rfl : args = #[v0,v1,v2]:=by cases args;simp_all
 obtain ⟨x0,A0,k0,l0,rfl,s0,c0,b0⟩:=open_group (hval 0 24 v0 rfl rfl) h0
 obtain ⟨x1,rfl,_,_,w1⟩:=open_int Try.underlying25 (hval 1 25 v1 rfl rfl) h1
 obtain ⟨x2,rfl,_,_,w2⟩:=open_int Try.underlying25 (hval 2 25 v2 rfl rfl) h2
 obtain ⟨rfl,rfl⟩:=trodVars_none hV
 refine (l_Groups x0 A0 k0 l0 x1 x2 W s0 c0 b0 (u16_in w1) (u16_in w2)).mono fun e W' ⟨he,hx⟩ => ?_
 subst he
 exact ⟨_,rfl,post_ext laid (by kernel_rfl) hW' rfl (fun l hl => by
  match l,hl with
  | [y0,y1,y2],_ => exact ⟨rfl,rfl⟩) (fun _ _ _ => (trodAll_cons_mk (shut_bool Try.underlying4 _) trodAll_mk0)) hx (ok_one (by kernel_rfl) rfl (okWide_bool_mk Try.underlying4 _))⟩

theorem TopPalettesGroups_over : Rows.topPalettesGroupsRow.holds Try.pinned (OpenSpec.ofChange Rows.topPalettesGroupsSpec) :=
 OpenClaim.holds_of_wide 3 Try.f3 rfl rfl rfl rfl rfl rfl rfl ⟨rfl,rfl,rfl,rfl,rfl⟩ rfl rfl rfl rfl rfl (by kernel_rfl) Try.func3 TopPalettesGroups_all
  (of_decide_eq_true (by kernel_rfl)) (by unfold Func.isWrapper;first | (rw [if_pos (by decide +kernel)];kernel_rfl) | (rw [if_neg (by decide +kernel)];exact ⟨rfl,rfl⟩))
  (fun os started H enc _ => TopPalettesGroups_lifted os started H enc)

theorem TopPalettesGroups_proved : Rows.TopPalettesGroupsSaid:=TopPalettesGroups_over
#print axioms TopPalettesGroups_proved
end Go.Proofs.Ytgbecbnjokkfoaa
