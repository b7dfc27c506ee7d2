import Derived.Test.YtnpdghjpcnjokaaGreatKTopTakeoversKeep
import Derived.Test.YtnpdghjpcnjokaaGreatGcw
namespace Go.Proofs.YtnpdghjpcnjokaaGreat
set_option maxRecDepth 100000
open Go.ChangeShapes Go.WideShapes Go.ChangeAt Go.RowKit Go.Joins Go.Deep

theorem TopTakeoversKeep_lifted (os : Os) (started : os.Started) (H : Type) (enc : TypeId × Value → H) :
  ReturnsInHanded {} Tryz.checked os 6 .any (Rows.topTakeoversKeepSpec.pre6 enc Tryz.prog Tryz.f6 Rows.topTakeoversKeepRow.domain false) (Rows.topTakeoversKeepSpec.post enc Tryz.prog Tryz.f6 false true false false):=by
 refine returnsInHanded_of_change_sized (C:=Tryz.checked) own started kr Tryz.func6
  (ChangeSpec.witness6 (enc:=enc) (C:=Tryz.checked) false ⟨#[],#[.slice none 0 0,.int .u8 0,.int .u8 0],[]⟩ 8 kr kr kr kr) ?_
 intro W base args ds gs before hval0 hW hcnd hsz0 _
 have hsz : (DataW.weightsEach Tryz.prog (Tryz.f6.params.toList ++ Rows.topTakeoversKeepSpec.plain.varTypes Tryz.prog) (ds ++ gs)).all (· ≤ reachBytes) = true:=hsz0
 have hval : ∀ (j : Nat) t v,Tryz.f6.params[j]? = some t → args[j]? = some v → Value.okWide Tryz.prog W .any base t v:=hval0
 have hW':=hW
 obtain ⟨p,q,hA0,hV,rfl,hfz,hnd⟩:=hW
 have hA : DataW.TrodAll enc Tryz.prog W 0 (fun _ => true) true Tryz.f6.params.toList args.toList ds p:=hA0
 rw [Tryz.params6] at hA hval hsz
 obtain ⟨v0,vs0,d0,ds0,p0,q0,hargs,rfl,rfl,h0,r0⟩:=trodAll_cons hA
 obtain ⟨v1,vs1,d1,ds1,p1,q1,rfl,rfl,rfl,h1,r1⟩:=trodAll_cons r0
 obtain ⟨v2,vs2,d2,ds2,p2,q2,rfl,rfl,rfl,h2,r2⟩:=trodAll_cons r1
 obtain ⟨rfl,rfl,rfl⟩:=trodAll_nil r2
 obtain rfl : args = #[v0,v1,v2]:=by cases args;simp_all
 obtain ⟨A0,k0,x0,rfl,c0⟩:=zfR (hval 0 31 v0 rfl rfl) h0
 obtain ⟨x1,rfl,_,_,w1⟩:=open_int Tryz.underlying5 (hval 1 5 v1 rfl rfl) h1
 obtain ⟨x2,rfl,_,_,w2⟩:=open_int Tryz.underlying5 (hval 2 5 v2 rfl rfl) h2
 obtain ⟨rfl,rfl⟩:=trodVars_none hV
 refine (zFx A0 k0 x0 x1 x2 W c0 (u8_in w1) (u8_in w2) (zhQ h0 (fun x hx => by have:=List.all_eq_true.1 hsz x (DataW.weights_mem_each (j:=0) (t:=31) (d:=d0) rfl rfl x hx);simpa using this))).mono fun e W' ⟨he,hx⟩ => ?_
 subst he
 exact ⟨_,rfl,zaL laid kr hW' rfl (fun l hl => by
  match l,hl with
  | [y0,y1,y2],_ => exact ⟨rfl,rfl⟩) (fun _ _ _ => (trodAll_cons_mk (shut_bool Tryz.underlying4 _) trodAll_mk0)) hx (ok_one kr rfl (okWide_bool_mk Tryz.underlying4 _))⟩

theorem zhJ : Rows.topTakeoversKeepRow.holds Tryz.pinned (OpenSpec.ofChange Rows.topTakeoversKeepSpec) :=
 OpenClaim.holds_of_wide 6 Tryz.f6 rfl rfl rfl rfl rfl rfl rfl ⟨rfl,rfl,rfl,rfl,rfl⟩ rfl rfl rfl rfl rfl kr Tryz.func6 zja
  (of_decide_eq_true kr) (by unfold Func.isWrapper;first | (rw [if_pos (by decide +kernel)];kernel_rfl) | (rw [if_neg (by decide +kernel)];exact ⟨rfl,rfl⟩))
  (fun os started H enc _ => TopTakeoversKeep_lifted os started H enc)

theorem TopTakeoversKeep_proved : Rows.TopTakeoversKeepSaid:=zhJ
#print axioms TopTakeoversKeep_proved
end Go.Proofs.YtnpdghjpcnjokaaGreat
