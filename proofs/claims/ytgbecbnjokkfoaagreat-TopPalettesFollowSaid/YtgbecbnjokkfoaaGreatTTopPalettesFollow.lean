/-
  Proved: when a palette is recorded again, the moves of a cue that refer to it have its new levels, without any change of the cue, and all other moves keep theirs (Rows.TopPalettesFollowSaid). Conditions: none besides the statement's own.
-/
import Derived.Test.YtgbecbnjokkfoaaGreatRow2
import Derived.Test.YtgbecbnjokkfoaaGreatKTopPalettesFollow
import Derived.Test.YtgbecbnjokkfoaaGreatPalF
namespace Go.Proofs.YtgbecbnjokkfoaaGreat
set_option maxRecDepth 100000
open Go.ChangeShapes Go.WideShapes Go.ChangeAt Go.RowKit Go.Joins Go.Deep

theorem TopPalettesFollow_lifted (os : Os) (started : os.Started) (H : Type) (enc : TypeId × Value → H) :
  ReturnsInHanded {} Tryz.checked os 3 .any (Rows.topPalettesFollowSpec.pre6 enc Tryz.prog Tryz.f3 Rows.topPalettesFollowRow.domain false) (Rows.topPalettesFollowSpec.post enc Tryz.prog Tryz.f3 false true false false):=by
 refine returnsInHanded_of_change (C:=Tryz.checked) own started (by kernel_rfl) Tryz.func3
  (ChangeSpec.witness6 (enc:=enc) (C:=Tryz.checked) false ⟨#[],#[.slice none 0 0,.agg #[.int .i64 0,.slice none 0 0],.agg #[.string ⟨#[]⟩,.string ⟨#[]⟩,.slice none 0 0,.slice none 0 0,.bool false,.bool false,.int .i64 0,.string ⟨#[]⟩,.int .i64 0]],[]⟩ 8 (by kernel_rfl) (by kernel_rfl) (by kernel_rfl) (by kernel_rfl)) ?_
 intro W base args ds gs before hval0 hW hcnd _
 have hval : ∀ (j : Nat) t v,Tryz.f3.params[j]? = some t → args[j]? = some v → Value.okWide Tryz.prog W .any base t v:=hval0
 have hW':=hW
 obtain ⟨p,q,hA0,hV,rfl,hfz,hnd⟩:=hW
 have hA : DataW.TrodAll enc Tryz.prog W 0 (fun _ => true) true Tryz.f3.params.toList args.toList ds p:=hA0
 rw [Tryz.params3] at hA hval
 obtain ⟨v0,vs0,d0,ds0,p0,q0,hargs,rfl,rfl,h0,r0⟩:=trodAll_cons hA
 obtain ⟨v1,vs1,d1,ds1,p1,q1,rfl,rfl,rfl,h1,r1⟩:=trodAll_cons r0
 obtain ⟨v2,vs2,d2,ds2,p2,q2,rfl,rfl,rfl,h2,r2⟩:=trodAll_cons r1
 obtain ⟨rfl,rfl,rfl⟩:=trodAll_nil r2
 obtain rfl : args = #[v0,v1,v2]:=by cases args;simp_all
 obtain ⟨A0,k0,x0,rfl,c0,b0⟩:=open_palettes_arg (hval 0 22 v0 rfl rfl) h0
 obtain ⟨x1,rfl,c1,b1⟩:=open_palette (hval 1 25 v1 rfl rfl) h1
 obtain ⟨x2,A2,k2,B2,m2,rfl,c2⟩:=open_cue (hval 2 29 v2 rfl rfl) h2
 obtain ⟨rfl,rfl⟩:=trodVars_none hV
 refine (l_Follow A0 k0 x0 x1 x2 A2 k2 B2 m2 W c0 b0 c1 b1 c2).mono fun e W' ⟨he,hx⟩ => ?_
 subst he
 exact ⟨_,rfl,post_ext laid (by kernel_rfl) hW' rfl (fun l hl => by
  match l,hl with
  | [y0,y1,y2],_ => exact ⟨rfl,rfl⟩) (fun _ _ _ => (trodAll_cons_mk (shut_bool Tryz.underlying4 _) trodAll_mk0)) hx (ok_one (by kernel_rfl) rfl (okWide_bool_mk Tryz.underlying4 _))⟩

theorem TopPalettesFollow_over : Rows.topPalettesFollowRow.holds Tryz.pinned (OpenSpec.ofChange Rows.topPalettesFollowSpec) :=
 OpenClaim.holds_of_wide 3 Tryz.f3 rfl rfl rfl rfl rfl rfl rfl ⟨rfl,rfl,rfl,rfl,rfl⟩ rfl rfl rfl rfl rfl (by kernel_rfl) Tryz.func3 TopPalettesFollow_all
  (of_decide_eq_true (by kernel_rfl)) (by unfold Func.isWrapper;first | (rw [if_pos (by decide +kernel)];kernel_rfl) | (rw [if_neg (by decide +kernel)];exact ⟨rfl,rfl⟩))
  (fun os started H enc _ => TopPalettesFollow_lifted os started H enc)

theorem TopPalettesFollow_proved : Rows.TopPalettesFollowSaid:=TopPalettesFollow_over
#print axioms TopPalettesFollow_proved
end Go.Proofs.YtgbecbnjokkfoaaGreat
