/-
  Proved: Run, Trace and Same return the results or the errors of the reference for all worlds, events and numbers of ticks (Rows.TakeoverRunsSaid). Conditions: none besides the statement's own.
-/
import Derived.Test.YtnpdghjpcnjokaaGreatKTakeoverRuns
import Derived.Test.YtnpdghjpcnjokaaGreatL55x
set_option linter.all false
namespace Go.Proofs.YtnpdghjpcnjokaaGreat
set_option maxRecDepth 100000
open Go.ChangeShapes Go.WideShapes Go.ChangeAt Go.RowKit Go.Joins Go.Deep

theorem TakeoverRuns_lifted (os:Os)(started:os.Started)(H:Type)(enc:TypeId×Value→H):
  ReturnsInHanded {} Tryz.checked os 5 .any (Rows.takeoverRunsSpec.pre6 enc Tryz.prog Tryz.f5 Rows.takeoverRunsRow.domain false) (Rows.takeoverRunsSpec.post enc Tryz.prog Tryz.f5 false true false false):=by
 refine returnsInHanded_of_change_sized (C:=Tryz.checked) own started kr Tryz.func5
  (ChangeSpec.witness6 (enc:=enc) (C:=Tryz.checked) false ⟨#[],#[.agg Zw,.slice none 0 0,zI],[]⟩ 8 kr kr kr kr) ?_
 intro W base args ds gs before hval0 hW hcnd hsz0 _;have hsz:(DataW.weightsEach Tryz.prog (Tryz.f5.params.toList++Rows.takeoverRunsSpec.plain.varTypes Tryz.prog) (ds++gs)).all (·≤reachBytes)=true:=hsz0;have hval:∀(j:Nat) t v,Tryz.f5.params[j]?=some t→args[j]?=some v→Value.okWide Tryz.prog W .any base t v:=hval0;have hW':=hW;obtain⟨p,q,hA0,hV,rfl,hfz,hnd⟩:=hW;have hA:DataW.TrodAll enc Tryz.prog W 0 (fun _=>true) true Tryz.f5.params.toList args.toList ds p:=hA0;rw[Tryz.params5] at hA hval hsz;obtain⟨v0,vs0,d0,ds0,p0,q0,hargs,rfl,rfl,h0,r0⟩:=trodAll_cons hA;obtain⟨v1,vs1,d1,ds1,p1,q1,rfl,rfl,rfl,h1,r1⟩:=trodAll_cons r0;obtain⟨v2,vs2,d2,ds2,p2,q2,rfl,rfl,rfl,h2,r2⟩:=trodAll_cons r1;obtain⟨rfl,rfl,rfl⟩:=trodAll_nil r2;obtain rfl:args=#[v0,v1,v2]:=by cases args;simp_all
 obtain⟨x0,A0,a0,B0,b0,M0,k0,u0,rfl,c0,s0⟩:=open_world (hval 0 30 v0 rfl rfl) h0;obtain⟨A1,k1,x1,rfl,c1⟩:=zfR (hval 1 31 v1 rfl rfl) h1;obtain⟨x2,rfl,_,_,w2⟩:=open_int Tryz.underlying3 (hval 2 3 v2 rfl rfl) h2;obtain⟨rfl,rfl⟩:=trodVars_none hV;refine(l55_Runs x0 A0 a0 B0 b0 M0 k0 u0 A1 k1 x1 x2 W c0 c1 (s0 (fun x hx=>by have:=List.all_eq_true.1 hsz x (DataW.weights_mem_each (j:=0) (t:=30) (d:=d0) rfl rfl x hx);simpa using this)) (zhQ h1 (fun x hx=>by have:=List.all_eq_true.1 hsz x (DataW.weights_mem_each (j:=1) (t:=31) (d:=d1) rfl rfl x hx);simpa using this))).mono fun e W' ⟨he,hx⟩=> ?_;subst he;exact⟨_,rfl,zaL laid kr hW' rfl (fun l hl=>by
  match l,hl with
  |[y0,y1,y2],_=>exact⟨rfl,rfl⟩) (fun _ _ _=>(trodAll_cons_mk (shut_bool Tryz.underlying4 _) trodAll_mk0)) hx (ok_one kr rfl (okWide_bool_mk Tryz.underlying4 _))⟩

theorem TakeoverRuns_over:Rows.takeoverRunsRow.holds Tryz.pinned (OpenSpec.ofChange Rows.takeoverRunsSpec):=
 OpenClaim.holds_of_wide 5 Tryz.f5 rfl rfl rfl rfl rfl rfl rfl ⟨rfl,rfl,rfl,rfl,rfl⟩ rfl rfl rfl rfl rfl kr Tryz.func5 TakeoverRuns_all
  (of_decide_eq_true kr) (by unfold Func.isWrapper;first|(rw[if_pos (by decide+kernel)];kernel_rfl)|(rw[if_neg (by decide+kernel)];exact⟨rfl,rfl⟩))
  (fun os started H enc _=>TakeoverRuns_lifted os started H enc)

theorem TakeoverRuns_proved:Rows.TakeoverRunsSaid:=TakeoverRuns_over
#print axioms TakeoverRuns_proved
