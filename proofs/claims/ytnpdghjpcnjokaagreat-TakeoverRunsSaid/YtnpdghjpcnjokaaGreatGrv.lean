import Derived.Test.YtnpdghjpcnjokaaGreatGwka
import Derived.Test.YtnpdghjpcnjokaaGreatDdq
set_option maxHeartbeats 3200000
set_option maxRecDepth 100000
set_option linter.all false
namespace Go.Proofs.YtnpdghjpcnjokaaGreat
open Go.RowKit Go.Proofs.Tryz

def loadV (v:Value):Sem Value:=Instr.loadAt 133 v
def loadV' (v:Value):Sem Value:=Instr.loadAt 133 v
@[go_sem ↓ high] theorem loadV_at (v : Value) : Instr.loadAt 133 v = loadV v:=rfl
@[go_sem] theorem loadV_run (w : World) (b o : Nat) : (loadV (.pointer (some ⟨b,o,none⟩))).run prog w = match rowQ w b o 48 with | some cs => .ok (.agg cs.toArray) w | none => (loadV' (.pointer (some ⟨b,o,none⟩))).run prog w:=by
 split
 ·rename_i cs h;obtain⟨h1,h2⟩:=zfr h;exact run_loadAt_mid w b o _ cs _ h1 underlying133 rfl (by rw[h2];kernel_rfl)
 ·rfl
theorem zbp (a lo hi:Int)(w:World):Calls prog 36 #[a,lo,hi] w fun e w'=>e=.returned (.bool (za5 a lo hi))∧w=w':=by
 by_cases h1:lo≤a
 ·by_cases h2:a≤hi
  ·have HV:=zh (show true=za5 a lo hi from(decide_eq_true ⟨h1,h2⟩).symm);go_enter func36,ntmps36;go_wp2;go_ret;exact⟨ret_b HV.out,rfl⟩
  ·have HV:=zh (show false=za5 a lo hi from(decide_eq_false om).symm);go_enter func36,ntmps36;go_wp2;go_ret;exact⟨ret_b HV.out,rfl⟩
 ·have HV:=zh (show false=za5 a lo hi from(decide_eq_false om).symm);go_enter func36,ntmps36;go_wp2;go_ret;exact⟨ret_b HV.out,rfl⟩
theorem zyO (x:Evt)(w:World)(ha:AcnAt w x.act)(h:za5 x.kind 0 5=false):Calls prog 54 #[.agg (evtR x).toArray] w fun e w'=>e=.returned (.int .i64 (evtE x))∧Ext w w':=by
 have HV:=zh (show evtE x=1 by unfold evtE;have:=zaF h;rw[if_pos om]);have HA:=zh ha;have WK:=Lib.hid h;clear ha h;rw[HV.out];clear HV;go_enter func54,ntmps54
 go_wp2_with (first
  |(go_at_call 36;refine(zbp _ _ _ _).mono ?_;rintro e w' ⟨he,rfl⟩;simp only[WK.out] at he;subst he)
  |(go_at_call 87;refine zzg (zaj x.act _ (HA.out.mono ex)) fun y=>?_))
 go_ret;exact⟨rfl,ex⟩
theorem zwf (x:Evt)(w:World)(ha:AcnAt w x.act)(hk:x.kind=0)(h_s:za5 x.station 1 2=false):Calls prog 54 #[.agg (evtR x).toArray] w fun e w'=>e=.returned (.int .i64 (evtE x))∧Ext w w':=by
 have HV:=zh (show evtE x=2 by unfold evtE;have:=zaF h_s;rw[if_neg om,if_pos om]);have HA:=zh ha;have WK:=zh (show za5 x.kind 0 5=true from decide_eq_true om);have hk1:decide (x.kind≤2)=true:=decide_eq_true om;have hk2:(x.kind==0)=true:=by simp;omega
 have hk4:(x.kind !=0)=false:=by simp;omega
 have hk3:(x.kind==5)=false:=by simp;omega
 have WS:=zh (show za5 x.station 1 2=false from h_s);clear ha hk h_s;rw[HV.out];clear HV;go_enter func54,ntmps54
 go_wp2_with (first
  |(go_at_call 36;refine(zbp _ _ _ _).mono ?_;rintro e w' ⟨he,rfl⟩;simp only[WK.out] at he;subst he)
  |(go_at_call 87;refine zzg (zaj x.act _ (HA.out.mono ex)) fun y=>?_))
 (refine zcL kr kr ?_;(repeat(go_big_quiet_step (fail)));refine wqN fun y=>?_)
 go_wp2_with (first
  |(go_at_call 36;refine(zbp _ _ _ _).mono ?_;rintro e w' ⟨he,rfl⟩;simp only[WS.out] at he;subst he)
  |(go_at_call 87;refine zzg (zaj x.act _ (HA.out.mono ex)) fun y=>?_))
 go_ret;exact⟨rfl,ex⟩
theorem zwd (x:Evt)(w:World)(ha:AcnAt w x.act)(hk:x.kind=0)(h_s:za5 x.station 1 2=true)(h_a:acnE x.act≠0):Calls prog 54 #[.agg (evtR x).toArray] w fun e w'=>e=.returned (.int .i64 (evtE x))∧Ext w w':=by
 have HV:=zh (show evtE x=acnE x.act by unfold evtE;have:=za8 h_s;rw[if_neg om,if_neg om,if_pos ⟨by omega,h_a⟩]);have HA:=zh ha;have WK:=zh (show za5 x.kind 0 5=true from decide_eq_true om);have hk1:decide (x.kind≤2)=true:=decide_eq_true om;have hk2:(x.kind==0)=true:=by simp;omega
 have hk4:(x.kind !=0)=false:=by simp;omega
 have hk3:(x.kind==5)=false:=by simp;omega
 have WS:=zh (show za5 x.station 1 2=true from h_s);have z_a:(acnE x.act !=0)=true:=by simpa using h_a
 clear ha hk h_s h_a;rw[HV.out];clear HV;go_enter func54,ntmps54
 go_wp2_with (first
  |(go_at_call 36;refine(zbp _ _ _ _).mono ?_;rintro e w' ⟨he,rfl⟩;simp only[WK.out] at he;subst he)
  |(go_at_call 87;refine zzg (zaj x.act _ (HA.out.mono ex)) fun y=>?_))
 (refine zcL kr kr ?_;(repeat(go_big_quiet_step (fail)));refine wqN fun y=>?_)
 go_wp2_with (first
  |(go_at_call 36;refine(zbp _ _ _ _).mono ?_;rintro e w' ⟨he,rfl⟩;simp only[WS.out] at he;subst he)
  |(go_at_call 87;refine zzg (zaj x.act _ (HA.out.mono ex)) fun y=>?_))
 go_ret;exact⟨rfl,ex⟩
theorem zwg (x:Evt)(w:World)(ha:AcnAt w x.act)(hk:x.kind=0)(h_s:za5 x.station 1 2=true)(h_a:acnE x.act=0)(h_y:x.delay≠0):Calls prog 54 #[.agg (evtR x).toArray] w fun e w'=>e=.returned (.int .i64 (evtE x))∧Ext w w':=by
 have HV:=zh (show evtE x=3 by unfold evtE;have:=za8 h_s;rw[if_neg om,if_neg om,if_neg (fun hc=>hc.2 h_a),if_pos (.inr (.inl ⟨by omega,h_y⟩))]);have HA:=zh ha;have WK:=zh (show za5 x.kind 0 5=true from decide_eq_true om);have hk1:decide (x.kind≤2)=true:=decide_eq_true om;have hk2:(x.kind==0)=true:=by simp;omega
 have hk4:(x.kind !=0)=false:=by simp;omega
 have hk3:(x.kind==5)=false:=by simp;omega
 have WS:=zh (show za5 x.station 1 2=true from h_s);have z_a:(acnE x.act !=0)=false:=by simpa using h_a
 have z_h_y:(x.delay !=0)=true:=by simpa using h_y
 clear ha hk h_s h_a h_y;rw[HV.out];clear HV;go_enter func54,ntmps54
 go_wp2_with (first
  |(go_at_call 36;refine(zbp _ _ _ _).mono ?_;rintro e w' ⟨he,rfl⟩;simp only[WK.out] at he;subst he)
  |(go_at_call 87;refine zzg (zaj x.act _ (HA.out.mono ex)) fun y=>?_))
 (refine zcL kr kr ?_;(repeat(go_big_quiet_step (fail)));refine wqN fun y=>?_)
 go_wp2_with (first
  |(go_at_call 36;refine(zbp _ _ _ _).mono ?_;rintro e w' ⟨he,rfl⟩;simp only[WS.out] at he;subst he)
  |(go_at_call 87;refine zzg (zaj x.act _ (HA.out.mono ex)) fun y=>?_))
 go_ret;exact⟨rfl,ex⟩
theorem zwe (x:Evt)(w:World)(ha:AcnAt w x.act)(hk:x.kind=0)(h_s:za5 x.station 1 2=true)(h_a:acnE x.act=0)(h_y:x.delay=0):Calls prog 54 #[.agg (evtR x).toArray] w fun e w'=>e=.returned (.int .i64 (evtE x))∧Ext w w':=by
 have HV:=zh (show evtE x=0 by unfold evtE;have:=za8 h_s;rw[if_neg om,if_neg om,if_neg (fun hc=>hc.2 h_a),if_neg (by rintro(⟨a,b⟩|⟨a,b⟩|⟨a,b⟩)<;>omega)]);have HA:=zh ha;have WK:=zh (show za5 x.kind 0 5=true from decide_eq_true om);have hk1:decide (x.kind≤2)=true:=decide_eq_true om;have hk2:(x.kind==0)=true:=by simp;omega
 have hk4:(x.kind !=0)=false:=by simp;omega
 have hk3:(x.kind==5)=false:=by simp;omega
 have WS:=zh (show za5 x.station 1 2=true from h_s);have z_a:(acnE x.act !=0)=false:=by simpa using h_a
 have z_h_y:(x.delay !=0)=false:=by simpa using h_y
 clear ha hk h_s h_a h_y;rw[HV.out];clear HV;go_enter func54,ntmps54
 go_wp2_with (first
  |(go_at_call 36;refine(zbp _ _ _ _).mono ?_;rintro e w' ⟨he,rfl⟩;simp only[WK.out] at he;subst he)
  |(go_at_call 87;refine zzg (zaj x.act _ (HA.out.mono ex)) fun y=>?_))
 (refine zcL kr kr ?_;(repeat(go_big_quiet_step (fail)));refine wqN fun y=>?_)
 go_wp2_with (first
  |(go_at_call 36;refine(zbp _ _ _ _).mono ?_;rintro e w' ⟨he,rfl⟩;simp only[WS.out] at he;subst he)
  |(go_at_call 87;refine zzg (zaj x.act _ (HA.out.mono ex)) fun y=>?_))
 go_ret;exact⟨rfl,ex⟩
theorem zwj (x:Evt)(w:World)(ha:AcnAt w x.act)(hk:x.kind=1∨x.kind=2)(h_s:za5 x.station 1 2=false):Calls prog 54 #[.agg (evtR x).toArray] w fun e w'=>e=.returned (.int .i64 (evtE x))∧Ext w w':=by
 have HV:=zh (show evtE x=2 by unfold evtE;have:=zaF h_s;rw[if_neg om,if_pos om]);have HA:=zh ha;have WK:=zh (show za5 x.kind 0 5=true from decide_eq_true om);have hk1:decide (x.kind≤2)=true:=decide_eq_true om;have hk2:(x.kind==0)=false:=by simp;omega
 have hk4:(x.kind !=0)=true:=by simp;omega
 have hk3:(x.kind==5)=false:=by simp;omega
 have WS:=zh (show za5 x.station 1 2=false from h_s);clear ha hk h_s;rw[HV.out];clear HV;go_enter func54,ntmps54
 go_wp2_with (first
  |(go_at_call 36;refine(zbp _ _ _ _).mono ?_;rintro e w' ⟨he,rfl⟩;simp only[WK.out] at he;subst he)
  |(go_at_call 87;refine zzg (zaj x.act _ (HA.out.mono ex)) fun y=>?_))
 (refine zcL kr kr ?_;(repeat(go_big_quiet_step (fail)));refine wqN fun y=>?_)
 go_wp2_with (first
  |(go_at_call 36;refine(zbp _ _ _ _).mono ?_;rintro e w' ⟨he,rfl⟩;simp only[WS.out] at he;subst he)
  |(go_at_call 87;refine zzg (zaj x.act _ (HA.out.mono ex)) fun y=>?_))
 go_ret;exact⟨rfl,ex⟩
theorem zwk (x:Evt)(w:World)(ha:AcnAt w x.act)(hk:x.kind=1∨x.kind=2)(h_s:za5 x.station 1 2=true)(h_y:x.delay≠0):Calls prog 54 #[.agg (evtR x).toArray] w fun e w'=>e=.returned (.int .i64 (evtE x))∧Ext w w':=by
 have HV:=zh (show evtE x=3 by unfold evtE;have:=za8 h_s;rw[if_neg om,if_neg om,if_neg (fun hc=>by have:=hc.1;omega),if_pos (.inr (.inl ⟨by omega,h_y⟩))]);have HA:=zh ha;have WK:=zh (show za5 x.kind 0 5=true from decide_eq_true om);have hk1:decide (x.kind≤2)=true:=decide_eq_true om;have hk2:(x.kind==0)=false:=by simp;omega
 have hk4:(x.kind !=0)=true:=by simp;omega
 have hk3:(x.kind==5)=false:=by simp;omega
 have WS:=zh (show za5 x.station 1 2=true from h_s);have z_h_y:(x.delay !=0)=true:=by simpa using h_y
 clear ha hk h_s h_y;rw[HV.out];clear HV;go_enter func54,ntmps54
 go_wp2_with (first
  |(go_at_call 36;refine(zbp _ _ _ _).mono ?_;rintro e w' ⟨he,rfl⟩;simp only[WK.out] at he;subst he)
  |(go_at_call 87;refine zzg (zaj x.act _ (HA.out.mono ex)) fun y=>?_))
 (refine zcL kr kr ?_;(repeat(go_big_quiet_step (fail)));refine wqN fun y=>?_)
 go_wp2_with (first
  |(go_at_call 36;refine(zbp _ _ _ _).mono ?_;rintro e w' ⟨he,rfl⟩;simp only[WS.out] at he;subst he)
  |(go_at_call 87;refine zzg (zaj x.act _ (HA.out.mono ex)) fun y=>?_))
 go_ret;exact⟨rfl,ex⟩
theorem zwh (x:Evt)(w:World)(ha:AcnAt w x.act)(hk:x.kind=1∨x.kind=2)(h_s:za5 x.station 1 2=true)(h_y:x.delay=0)(h_m:sameA x.act acnN=false):Calls prog 54 #[.agg (evtR x).toArray] w fun e w'=>e=.returned (.int .i64 (evtE x))∧Ext w w':=by
 have HV:=zh (show evtE x=3 by unfold evtE;have:=za8 h_s;rw[if_neg om,if_neg om,if_neg (fun hc=>by have:=hc.1;omega),if_pos (.inr (.inr ⟨by omega,h_m⟩))]);have HA:=zh ha;have WK:=zh (show za5 x.kind 0 5=true from decide_eq_true om);have hk1:decide (x.kind≤2)=true:=decide_eq_true om;have hk2:(x.kind==0)=false:=by simp;omega
 have hk4:(x.kind !=0)=true:=by simp;omega
 have hk3:(x.kind==5)=false:=by simp;omega
 have WS:=zh (show za5 x.station 1 2=true from h_s);have z_h_y:(x.delay !=0)=false:=by simpa using h_y
 have HM:sameA x.act acnN=false:=h_m;clear ha hk h_s h_y h_m;rw[HV.out];clear HV;go_enter func54,ntmps54
 go_wp2_with (first
  |(go_at_call 36;refine(zbp _ _ _ _).mono ?_;rintro e w' ⟨he,rfl⟩;simp only[WK.out] at he;subst he)
  |(go_at_call 87;refine zzg (zaj x.act _ (HA.out.mono ex)) fun y=>?_)
  |(refine zah rfl 99 _ rfl [] rfl (acnR acnN).toArray kr ?_)
  |(go_at_call 88;refine zzg (zcz x.act acnN _ (HA.out.mono ex) (zbb _)) fun y=>?_))
 (refine zcL kr kr ?_;(repeat(go_big_quiet_step (fail)));refine wqN fun y=>?_)
 go_wp2_with (first
  |(go_at_call 36;refine(zbp _ _ _ _).mono ?_;rintro e w' ⟨he,rfl⟩;simp only[WS.out] at he;subst he)
  |(go_at_call 87;refine zzg (zaj x.act _ (HA.out.mono ex)) fun y=>?_)
  |(refine zah rfl 99 _ rfl [] rfl (acnR acnN).toArray kr ?_)
  |(go_at_call 88;refine zzg (zcz x.act acnN _ (HA.out.mono ex) (zbb _)) fun y=>?_))
 go_ret;exact⟨rfl,ex⟩
theorem zwi (x:Evt)(w:World)(ha:AcnAt w x.act)(hk:x.kind=1∨x.kind=2)(h_s:za5 x.station 1 2=true)(h_y:x.delay=0)(h_m:sameA x.act acnN=true):Calls prog 54 #[.agg (evtR x).toArray] w fun e w'=>e=.returned (.int .i64 (evtE x))∧Ext w w':=by
 have HV:=zh (show evtE x=0 by unfold evtE;have:=za8 h_s;rw[if_neg om,if_neg om,if_neg (fun hc=>by have:=hc.1;omega),if_neg (by rintro(⟨a,b⟩|⟨a,b⟩|⟨a,b⟩)<;>first|omega|(rw[h_m] at b;cases b))]);have HA:=zh ha;have WK:=zh (show za5 x.kind 0 5=true from decide_eq_true om);have hk1:decide (x.kind≤2)=true:=decide_eq_true om;have hk2:(x.kind==0)=false:=by simp;omega
 have hk4:(x.kind !=0)=true:=by simp;omega
 have hk3:(x.kind==5)=false:=by simp;omega
 have WS:=zh (show za5 x.station 1 2=true from h_s);have z_h_y:(x.delay !=0)=false:=by simpa using h_y
 have HM:sameA x.act acnN=true:=h_m;clear ha hk h_s h_y h_m;rw[HV.out];clear HV;go_enter func54,ntmps54
 go_wp2_with (first
  |(go_at_call 36;refine(zbp _ _ _ _).mono ?_;rintro e w' ⟨he,rfl⟩;simp only[WK.out] at he;subst he)
  |(go_at_call 87;refine zzg (zaj x.act _ (HA.out.mono ex)) fun y=>?_)
  |(refine zah rfl 99 _ rfl [] rfl (acnR acnN).toArray kr ?_)
  |(go_at_call 88;refine zzg (zcz x.act acnN _ (HA.out.mono ex) (zbb _)) fun y=>?_))
 (refine zcL kr kr ?_;(repeat(go_big_quiet_step (fail)));refine wqN fun y=>?_)
 go_wp2_with (first
  |(go_at_call 36;refine(zbp _ _ _ _).mono ?_;rintro e w' ⟨he,rfl⟩;simp only[WS.out] at he;subst he)
  |(go_at_call 87;refine zzg (zaj x.act _ (HA.out.mono ex)) fun y=>?_)
  |(refine zah rfl 99 _ rfl [] rfl (acnR acnN).toArray kr ?_)
  |(go_at_call 88;refine zzg (zcz x.act acnN _ (HA.out.mono ex) (zbb _)) fun y=>?_))
 go_ret;exact⟨rfl,ex⟩
theorem zwo (x:Evt)(w:World)(ha:AcnAt w x.act)(hk:x.kind=3∨x.kind=4)(h_z:x.station≠0):Calls prog 54 #[.agg (evtR x).toArray] w fun e w'=>e=.returned (.int .i64 (evtE x))∧Ext w w':=by
 have HV:=zh (show evtE x=3 by unfold evtE;rw[if_neg om,if_neg om,if_neg (fun hc=>by have:=hc.1;omega),if_pos (.inl ⟨by omega,h_z⟩)]);have HA:=zh ha;have WK:=zh (show za5 x.kind 0 5=true from decide_eq_true om);have hk1:decide (x.kind≤2)=false:=decide_eq_false om;have hk2:(x.kind==0)=false:=by simp;omega
 have hk4:(x.kind !=0)=true:=by simp;omega
 have hk3:(x.kind==5)=false:=by simp;omega
 have z_h_z:(x.station !=0)=true:=by simpa using h_z
 clear ha hk h_z;rw[HV.out];clear HV;go_enter func54,ntmps54
 go_wp2_with (first
  |(go_at_call 36;refine(zbp _ _ _ _).mono ?_;rintro e w' ⟨he,rfl⟩;simp only[WK.out] at he;subst he)
  |(go_at_call 87;refine zzg (zaj x.act _ (HA.out.mono ex)) fun y=>?_))
 (refine zcL kr kr ?_;(repeat(go_big_quiet_step (fail)));refine wqN fun y=>?_)
 go_wp2_with (first
  |(go_at_call 36;refine(zbp _ _ _ _).mono ?_;rintro e w' ⟨he,rfl⟩;simp only[WK.out] at he;subst he)
  |(go_at_call 87;refine zzg (zaj x.act _ (HA.out.mono ex)) fun y=>?_))
 go_ret;exact⟨rfl,ex⟩
theorem zwn (x:Evt)(w:World)(ha:AcnAt w x.act)(hk:x.kind=3∨x.kind=4)(h_z:x.station=0)(h_y:x.delay≠0):Calls prog 54 #[.agg (evtR x).toArray] w fun e w'=>e=.returned (.int .i64 (evtE x))∧Ext w w':=by
 have HV:=zh (show evtE x=3 by unfold evtE;rw[if_neg om,if_neg om,if_neg (fun hc=>by have:=hc.1;omega),if_pos (.inr (.inl ⟨by omega,h_y⟩))]);have HA:=zh ha;have WK:=zh (show za5 x.kind 0 5=true from decide_eq_true om);have hk1:decide (x.kind≤2)=false:=decide_eq_false om;have hk2:(x.kind==0)=false:=by simp;omega
 have hk4:(x.kind !=0)=true:=by simp;omega
 have hk3:(x.kind==5)=false:=by simp;omega
 have z_h_z:(x.station !=0)=false:=by simpa using h_z
 have z_h_y:(x.delay !=0)=true:=by simpa using h_y
 clear ha hk h_z h_y;rw[HV.out];clear HV;go_enter func54,ntmps54
 go_wp2_with (first
  |(go_at_call 36;refine(zbp _ _ _ _).mono ?_;rintro e w' ⟨he,rfl⟩;simp only[WK.out] at he;subst he)
  |(go_at_call 87;refine zzg (zaj x.act _ (HA.out.mono ex)) fun y=>?_))
 (refine zcL kr kr ?_;(repeat(go_big_quiet_step (fail)));refine wqN fun y=>?_)
 go_wp2_with (first
  |(go_at_call 36;refine(zbp _ _ _ _).mono ?_;rintro e w' ⟨he,rfl⟩;simp only[WK.out] at he;subst he)
  |(go_at_call 87;refine zzg (zaj x.act _ (HA.out.mono ex)) fun y=>?_))
 go_ret;exact⟨rfl,ex⟩
theorem zwl (x:Evt)(w:World)(ha:AcnAt w x.act)(hk:x.kind=3∨x.kind=4)(h_z:x.station=0)(h_y:x.delay=0)(h_m:sameA x.act acnN=false):Calls prog 54 #[.agg (evtR x).toArray] w fun e w'=>e=.returned (.int .i64 (evtE x))∧Ext w w':=by
 have HV:=zh (show evtE x=3 by unfold evtE;rw[if_neg om,if_neg om,if_neg (fun hc=>by have:=hc.1;omega),if_pos (.inr (.inr ⟨by omega,h_m⟩))]);have HA:=zh ha;have WK:=zh (show za5 x.kind 0 5=true from decide_eq_true om);have hk1:decide (x.kind≤2)=false:=decide_eq_false om;have hk2:(x.kind==0)=false:=by simp;omega
 have hk4:(x.kind !=0)=true:=by simp;omega
 have hk3:(x.kind==5)=false:=by simp;omega
 have z_h_z:(x.station !=0)=false:=by simpa using h_z
 have z_h_y:(x.delay !=0)=false:=by simpa using h_y
 have HM:sameA x.act acnN=false:=h_m;clear ha hk h_z h_y h_m;rw[HV.out];clear HV;go_enter func54,ntmps54
 go_wp2_with (first
  |(go_at_call 36;refine(zbp _ _ _ _).mono ?_;rintro e w' ⟨he,rfl⟩;simp only[WK.out] at he;subst he)
  |(go_at_call 87;refine zzg (zaj x.act _ (HA.out.mono ex)) fun y=>?_)
  |(refine zah rfl 99 _ rfl [] rfl (acnR acnN).toArray kr ?_)
  |(go_at_call 88;refine zzg (zcz x.act acnN _ (HA.out.mono ex) (zbb _)) fun y=>?_))
 (refine zcL kr kr ?_;(repeat(go_big_quiet_step (fail)));refine wqN fun y=>?_)
 go_wp2_with (first
  |(go_at_call 36;refine(zbp _ _ _ _).mono ?_;rintro e w' ⟨he,rfl⟩;simp only[WK.out] at he;subst he)
  |(go_at_call 87;refine zzg (zaj x.act _ (HA.out.mono ex)) fun y=>?_)
  |(refine zah rfl 99 _ rfl [] rfl (acnR acnN).toArray kr ?_)
  |(go_at_call 88;refine zzg (zcz x.act acnN _ (HA.out.mono ex) (zbb _)) fun y=>?_))
 go_ret;exact⟨rfl,ex⟩
theorem zwm (x:Evt)(w:World)(ha:AcnAt w x.act)(hk:x.kind=3∨x.kind=4)(h_z:x.station=0)(h_y:x.delay=0)(h_m:sameA x.act acnN=true):Calls prog 54 #[.agg (evtR x).toArray] w fun e w'=>e=.returned (.int .i64 (evtE x))∧Ext w w':=by
 have HV:=zh (show evtE x=0 by unfold evtE;rw[if_neg om,if_neg om,if_neg (fun hc=>by have:=hc.1;omega),if_neg (by rintro(⟨a,b⟩|⟨a,b⟩|⟨a,b⟩)<;>first|omega|(rw[h_m] at b;cases b))]);have HA:=zh ha;have WK:=zh (show za5 x.kind 0 5=true from decide_eq_true om);have hk1:decide (x.kind≤2)=false:=decide_eq_false om;have hk2:(x.kind==0)=false:=by simp;omega
 have hk4:(x.kind !=0)=true:=by simp;omega
 have hk3:(x.kind==5)=false:=by simp;omega
 have z_h_z:(x.station !=0)=false:=by simpa using h_z
 have z_h_y:(x.delay !=0)=false:=by simpa using h_y
 have HM:sameA x.act acnN=true:=h_m;clear ha hk h_z h_y h_m;rw[HV.out];clear HV;go_enter func54,ntmps54
 go_wp2_with (first
  |(go_at_call 36;refine(zbp _ _ _ _).mono ?_;rintro e w' ⟨he,rfl⟩;simp only[WK.out] at he;subst he)
  |(go_at_call 87;refine zzg (zaj x.act _ (HA.out.mono ex)) fun y=>?_)
  |(refine zah rfl 99 _ rfl [] rfl (acnR acnN).toArray kr ?_)
  |(go_at_call 88;refine zzg (zcz x.act acnN _ (HA.out.mono ex) (zbb _)) fun y=>?_))
 (refine zcL kr kr ?_;(repeat(go_big_quiet_step (fail)));refine wqN fun y=>?_)
 go_wp2_with (first
  |(go_at_call 36;refine(zbp _ _ _ _).mono ?_;rintro e w' ⟨he,rfl⟩;simp only[WK.out] at he;subst he)
  |(go_at_call 87;refine zzg (zaj x.act _ (HA.out.mono ex)) fun y=>?_)
  |(refine zah rfl 99 _ rfl [] rfl (acnR acnN).toArray kr ?_)
  |(go_at_call 88;refine zzg (zcz x.act acnN _ (HA.out.mono ex) (zbb _)) fun y=>?_))
 go_ret;exact⟨rfl,ex⟩
theorem zwp (x:Evt)(w:World)(ha:AcnAt w x.act)(hk:x.kind=5)(h_d:za5 x.delay 1 8=false):Calls prog 54 #[.agg (evtR x).toArray] w fun e w'=>e=.returned (.int .i64 (evtE x))∧Ext w w':=by
 have HV:=zh (show evtE x=2 by unfold evtE;have:=zaF h_d;rw[if_neg om,if_pos om]);have HA:=zh ha;have WK:=zh (show za5 x.kind 0 5=true from decide_eq_true om);have hk1:decide (x.kind≤2)=false:=decide_eq_false om;have hk2:(x.kind==0)=false:=by simp;omega
 have hk4:(x.kind !=0)=true:=by simp;omega
 have hk3:(x.kind==5)=true:=by simp;omega
 have WD:=zh (show za5 x.delay 1 8=false from h_d);clear ha hk h_d;rw[HV.out];clear HV;go_enter func54,ntmps54
 go_wp2_with (first
  |(go_at_call 36;refine(zbp _ _ _ _).mono ?_;rintro e w' ⟨he,rfl⟩;simp only[WK.out] at he;subst he)
  |(go_at_call 87;refine zzg (zaj x.act _ (HA.out.mono ex)) fun y=>?_))
 (refine zcL kr kr ?_;(repeat(go_big_quiet_step (fail)));refine wqN fun y=>?_)
 go_wp2_with (first
  |(go_at_call 36;refine(zbp _ _ _ _).mono ?_;rintro e w' ⟨he,rfl⟩;simp only[WD.out] at he;subst he)
  |(go_at_call 87;refine zzg (zaj x.act _ (HA.out.mono ex)) fun y=>?_))
 go_ret;exact⟨rfl,ex⟩
theorem zws (x:Evt)(w:World)(ha:AcnAt w x.act)(hk:x.kind=5)(h_d:za5 x.delay 1 8=true)(h_z:x.station≠0):Calls prog 54 #[.agg (evtR x).toArray] w fun e w'=>e=.returned (.int .i64 (evtE x))∧Ext w w':=by
 have HV:=zh (show evtE x=3 by unfold evtE;have:=za8 h_d;rw[if_neg om,if_neg om,if_neg (fun hc=>by have:=hc.1;omega),if_pos (.inl ⟨by omega,h_z⟩)]);have HA:=zh ha;have WK:=zh (show za5 x.kind 0 5=true from decide_eq_true om);have hk1:decide (x.kind≤2)=false:=decide_eq_false om;have hk2:(x.kind==0)=false:=by simp;omega
 have hk4:(x.kind !=0)=true:=by simp;omega
 have hk3:(x.kind==5)=true:=by simp;omega
 have WD:=zh (show za5 x.delay 1 8=true from h_d);have z_h_z:(x.station !=0)=true:=by simpa using h_z
 clear ha hk h_d h_z;rw[HV.out];clear HV;go_enter func54,ntmps54
 go_wp2_with (first
  |(go_at_call 36;refine(zbp _ _ _ _).mono ?_;rintro e w' ⟨he,rfl⟩;simp only[WK.out] at he;subst he)
  |(go_at_call 87;refine zzg (zaj x.act _ (HA.out.mono ex)) fun y=>?_))
 (refine zcL kr kr ?_;(repeat(go_big_quiet_step (fail)));refine wqN fun y=>?_)
 go_wp2_with (first
  |(go_at_call 36;refine(zbp _ _ _ _).mono ?_;rintro e w' ⟨he,rfl⟩;simp only[WD.out] at he;subst he)
  |(go_at_call 87;refine zzg (zaj x.act _ (HA.out.mono ex)) fun y=>?_))
 go_ret;exact⟨rfl,ex⟩
theorem zwq (x:Evt)(w:World)(ha:AcnAt w x.act)(hk:x.kind=5)(h_d:za5 x.delay 1 8=true)(h_z:x.station=0)(h_m:sameA x.act acnN=false):Calls prog 54 #[.agg (evtR x).toArray] w fun e w'=>e=.returned (.int .i64 (evtE x))∧Ext w w':=by
 have HV:=zh (show evtE x=3 by unfold evtE;have:=za8 h_d;rw[if_neg om,if_neg om,if_neg (fun hc=>by have:=hc.1;omega),if_pos (.inr (.inr ⟨by omega,h_m⟩))]);have HA:=zh ha;have WK:=zh (show za5 x.kind 0 5=true from decide_eq_true om);have hk1:decide (x.kind≤2)=false:=decide_eq_false om;have hk2:(x.kind==0)=false:=by simp;omega
 have hk4:(x.kind !=0)=true:=by simp;omega
 have hk3:(x.kind==5)=true:=by simp;omega
 have WD:=zh (show za5 x.delay 1 8=true from h_d);have z_h_z:(x.station !=0)=false:=by simpa using h_z
 have HM:sameA x.act acnN=false:=h_m;clear ha hk h_d h_z h_m;rw[HV.out];clear HV;go_enter func54,ntmps54
 go_wp2_with (first
  |(go_at_call 36;refine(zbp _ _ _ _).mono ?_;rintro e w' ⟨he,rfl⟩;simp only[WK.out] at he;subst he)
  |(go_at_call 87;refine zzg (zaj x.act _ (HA.out.mono ex)) fun y=>?_)
  |(refine zah rfl 99 _ rfl [] rfl (acnR acnN).toArray kr ?_)
  |(go_at_call 88;refine zzg (zcz x.act acnN _ (HA.out.mono ex) (zbb _)) fun y=>?_))
 (refine zcL kr kr ?_;(repeat(go_big_quiet_step (fail)));refine wqN fun y=>?_)
 go_wp2_with (first
  |(go_at_call 36;refine(zbp _ _ _ _).mono ?_;rintro e w' ⟨he,rfl⟩;simp only[WD.out] at he;subst he)
  |(go_at_call 87;refine zzg (zaj x.act _ (HA.out.mono ex)) fun y=>?_)
  |(refine zah rfl 99 _ rfl [] rfl (acnR acnN).toArray kr ?_)
  |(go_at_call 88;refine zzg (zcz x.act acnN _ (HA.out.mono ex) (zbb _)) fun y=>?_))
 go_ret;exact⟨rfl,ex⟩
theorem zwr (x:Evt)(w:World)(ha:AcnAt w x.act)(hk:x.kind=5)(h_d:za5 x.delay 1 8=true)(h_z:x.station=0)(h_m:sameA x.act acnN=true):Calls prog 54 #[.agg (evtR x).toArray] w fun e w'=>e=.returned (.int .i64 (evtE x))∧Ext w w':=by
 have HV:=zh (show evtE x=0 by unfold evtE;have:=za8 h_d;rw[if_neg om,if_neg om,if_neg (fun hc=>by have:=hc.1;omega),if_neg (by rintro(⟨a,b⟩|⟨a,b⟩|⟨a,b⟩)<;>first|omega|(rw[h_m] at b;cases b))]);have HA:=zh ha;have WK:=zh (show za5 x.kind 0 5=true from decide_eq_true om);have hk1:decide (x.kind≤2)=false:=decide_eq_false om;have hk2:(x.kind==0)=false:=by simp;omega
 have hk4:(x.kind !=0)=true:=by simp;omega
 have hk3:(x.kind==5)=true:=by simp;omega
 have WD:=zh (show za5 x.delay 1 8=true from h_d);have z_h_z:(x.station !=0)=false:=by simpa using h_z
 have HM:sameA x.act acnN=true:=h_m;clear ha hk h_d h_z h_m;rw[HV.out];clear HV;go_enter func54,ntmps54
 go_wp2_with (first
  |(go_at_call 36;refine(zbp _ _ _ _).mono ?_;rintro e w' ⟨he,rfl⟩;simp only[WK.out] at he;subst he)
  |(go_at_call 87;refine zzg (zaj x.act _ (HA.out.mono ex)) fun y=>?_)
  |(refine zah rfl 99 _ rfl [] rfl (acnR acnN).toArray kr ?_)
  |(go_at_call 88;refine zzg (zcz x.act acnN _ (HA.out.mono ex) (zbb _)) fun y=>?_))
 (refine zcL kr kr ?_;(repeat(go_big_quiet_step (fail)));refine wqN fun y=>?_)
 go_wp2_with (first
  |(go_at_call 36;refine(zbp _ _ _ _).mono ?_;rintro e w' ⟨he,rfl⟩;simp only[WD.out] at he;subst he)
  |(go_at_call 87;refine zzg (zaj x.act _ (HA.out.mono ex)) fun y=>?_)
  |(refine zah rfl 99 _ rfl [] rfl (acnR acnN).toArray kr ?_)
  |(go_at_call 88;refine zzg (zcz x.act acnN _ (HA.out.mono ex) (zbb _)) fun y=>?_))
 go_ret;exact⟨rfl,ex⟩
theorem zl3 (x:Evt)(w:World)(ha:AcnAt w x.act):Calls prog 54 #[.agg (evtR x).toArray] w fun e w'=>e=.returned (.int .i64 (evtE x))∧Ext w w':=by
 cases h:za5 x.kind 0 5 with
 |false=>exact zyO x w ha h
 |true=>
  have hw:=za8 h;have hc:x.kind=0∨(x.kind=1∨x.kind=2)∨(x.kind=3∨x.kind=4)∨x.kind=5:=by omega
  rcases hc with hk|hk|hk|hk
  ·cases h_s:za5 x.station 1 2 with
   |false=>exact zwf x w ha hk h_s
   |true=>
    by_cases h_a:acnE x.act=0
    ·by_cases h_y:x.delay=0
     ·exact zwe x w ha hk h_s h_a h_y
     ·exact zwg x w ha hk h_s h_a h_y
    ·exact zwd x w ha hk h_s h_a
  ·cases h_s:za5 x.station 1 2 with
   |false=>exact zwj x w ha hk h_s
   |true=>
    by_cases h_y:x.delay=0
    ·cases h_m:sameA x.act acnN with
     |false=>exact zwh x w ha hk h_s h_y h_m
     |true=>exact zwi x w ha hk h_s h_y h_m
    ·exact zwk x w ha hk h_s h_y
  ·by_cases h_z:x.station=0
   ·by_cases h_y:x.delay=0
    ·cases h_m:sameA x.act acnN with
     |false=>exact zwl x w ha hk h_z h_y h_m
     |true=>exact zwm x w ha hk h_z h_y h_m
    ·exact zwn x w ha hk h_z h_y
   ·exact zwo x w ha hk h_z
  ·cases h_d:za5 x.delay 1 8 with
   |false=>exact zwp x w ha hk h_d
   |true=>
    by_cases h_z:x.station=0
    ·cases h_m:sameA x.act acnN with
     |false=>exact zwq x w ha hk h_d h_z h_m
     |true=>exact zwr x w ha hk h_d h_z h_m
    ·exact zws x w ha hk h_d h_z

def buildV (ps:Array (Nat×Value)):Sem Value:=Instr.buildSlice 58 1 ps
@[go_sem ↓ high] theorem buildV_at (ps : Array (Nat × Value)) : Instr.buildSlice 58 1 ps = buildV ps:=rfl
@[go_sem] theorem buildV_run (w : World) (x : Evt) : (buildV #[(0,.agg (evtR x).toArray)]).run prog w = .ok (.slice (some ⟨w.heap.size,0,none⟩) 1 1) (w.alloc (.cells (evtR x).toArray 133)) :=
 zdn w _ _ (evtR x).toArray 48 underlying58 kr kr (by rw[List.size_toArray];rfl) dk dk
theorem info_V:zbz prog 133 48 576=true:=by kernel_rfl
def RetV (w0:World) (l:List Evt) (e:Ending) (w':World):Prop:=∃A k,e=.returned (.slice A l.length k)∧Ext w0 w'∧Own w0 w' 133 48 A l.length k (l.map evtR)
theorem zCk {l:List Evt}{k:Nat}{m:Evt}(h:l[k]?=some m):(l.take k).map evtR++[evtR m]=(l.take (k+1)).map evtR:=by obtain⟨h1,h2⟩:=List.getElem?_eq_some_iff.1 h;rw[List.take_succ_eq_append_getElem h1,h2,List.map_append];rfl
theorem zA9 (A:Option Addr)(c:Nat)(l:List Evt)(w:World)(hs:zbR w A c l)(hn:l.length * 576≤140737488355328):Calls prog 18 #[.slice A l.length c] w (RetV w l):=by
 have HS:=zh hs;clear hs;go_enter func18,ntmps18;go_wp2;go_loopw [3,8] (fun v i wr=> ∃(k:Nat) (D:Option Addr) (K:Nat),k≤l.length∧i=.int .i64 k∧v=.slice D k K∧Ext w wr∧Hid (Own w wr 133 48 D k K ((l.take k).map evtR))) (fun _ i _=>l.length - (intOf i).toNat)
 case atStart => exact ⟨0,none,0,by omega,rfl,rfl,Ext.refl _,zh (Own.nil _)⟩
 case round =>
  obtain⟨k,D,K,hk,rfl,rfl,hx,HO⟩:=hrel;obtain⟨y0,rfl⟩:=hx.get;clear hx;by_cases hlt:k<l.length
  ·obtain⟨m,hm⟩:∃m,l[k]?=some m:=⟨_,List.getElem?_eq_getElem hlt⟩
   obtain⟨b,o,rfl,hrec,-⟩:=HS.out.get hm;have hb0:(0:Int)≤(k:Int):=by omega
   have hb1:(k:Int)<(l.length:Int):=by omega
   have hr1:=hrec.row;have HT:=zh (zCk hm);clear hrec hm
   go_wp2_with (first
    |(refine za7 rfl 101 (.tmp 5) (.tmp 11) rfl rfl sg (evtR m) rfl rfl kr (zdt m) ?_)
    |(at_builtin;refine za6 (w0:=w) rfl _ _ 58 58 rfl 133 133 48 576 underlying58 underlying58 info_V dk ex D k K ((l.take k).map evtR) rfl (HO.out.mono ex) _ 1 1 [evtR m] rfl (Sl.alloc' sg (by simp) (by simp[zcm])) rfl (zdh [m]) (by unfold maxLen;omega) om (k+1) rfl ((l.take (k+1)).map evtR) HT.out ?_;intro D2 K2 w2 hx2 hown hg hA;have HO2:=zh hown;obtain⟨y2,rfl⟩:=hx2.get;clear hown hx2 hg hA))
   go_light;exact⟨⟨k+1,D2,K2,by omega,by go_num,rfl,ex,HO2⟩,by simp[intOf];omega⟩
  ·have hkl:k=l.length:=by omega
   have HL:=zh (show l.take k=l by rw[hkl,List.take_length]);have HK:=zh hkl;clear hkl;go_wp2;go_ret;have:=HO.out;rw[HL.out] at this;rw[HK.out] at this ⊢
   exact⟨D,K,rfl,ex,this⟩
theorem RetV.evts {w0 w':World}{l:List Evt}{A:Option Addr}{k:Nat}(h:Own w0 w' 133 48 A l.length k (l.map evtR))(he:∀x∈l,AcnAt w' x.act):zbR w' A k l:=⟨h.sl,h.le,h.cap,he⟩
def FewV (w0:World) (l:List Evt) (e:Ending) (w':World):Prop:=(∃b:Bool,e=.returned (.bool b)∧(b=true→l.length≤20∨256<l.length))∧Ext w0 w'
theorem ztT (A:Option Addr)(c:Nat)(l:List Evt)(w:World)(hs:zbR w A c l):Calls prog 31 #[.slice A l.length c] w (FewV w l):=by
 have hl:=hs.len;have HS:=zh hs;clear hs;by_cases h20:20<l.length
 ·by_cases h256:256<l.length
  ·go_enter func31,ntmps31;go_wp2;go_ret;exact⟨⟨_,rfl,fun _=> .inr h256⟩,ex⟩
  ·go_enter func31,ntmps31;go_wp2;go_ret;exact⟨⟨false,rfl,fun h=>by cases h⟩,ex⟩
 ·have HB:=zh (show l.length≤20 by omega);go_enter func31,ntmps31;go_wp2;go_loopw [3] (fun i wr=> ∃k:Nat,k≤l.length∧i=.int .i64 k∧Ext w wr) (fun i _=>l.length - (intOf i).toNat)
  case atStart => exact ⟨0,by omega,rfl,Ext.refl _⟩
  case round =>
   obtain⟨k,hk,rfl,hx⟩:=hrel;obtain⟨y0,rfl⟩:=hx.get;clear hx;by_cases hlt:k<l.length
   ·obtain⟨m,hm⟩:∃m,l[k]?=some m:=⟨_,List.getElem?_eq_getElem hlt⟩
    obtain⟨b,o,rfl,hrec,-⟩:=HS.out.get hm;have hb0:(0:Int)≤(k:Int):=by omega
    have hb1:(k:Int)<(l.length:Int):=by omega
    have hr1:=hrec.act;clear hrec hm;go_wp2_with (go_at_call 76;refine(zen m.act _).mono ?_;rintro e w' ⟨⟨fb,rfl⟩,hx⟩;obtain⟨y2,rfl⟩:=hx.get;clear hx;cases fb)
    ·go_ret;exact⟨⟨false,rfl,fun h=>by cases h⟩,ex⟩
    ·go_light;exact⟨⟨k+1,by omega,by go_num,ex⟩,by simp[intOf];omega⟩
   ·go_wp2;go_ret;exact⟨⟨true,rfl,fun _=> .inl HB.out⟩,ex⟩
theorem zwc (A:Option Addr)(c:Nat)(l:List Evt)(w:World)(hs:zbR w A c l)(h256:l.length≤256):Calls prog 17 #[.slice A l.length c] w fun e w'=>e=.returned (.int .i64 (evtsE l))∧Ext w w':=by
 have HS:=zh hs;have HV:=zh (show evtsE l=scan evtS none l by unfold evtsE;rw[if_neg om]);rw[HV.out];clear hs HV;have hd0:decide ((256:Int)<(l.length:Int))=false:=decide_eq_false om;go_enter func17,ntmps17;go_wp2;go_loopw [3] (fun i wr=> ∃k:Nat,k≤l.length∧i=.int .i64 k∧Ext w wr∧Hid (scan evtS none l=scan evtS (prv l k) (l.drop k))) (fun i _=>l.length - (intOf i).toNat)
 case atStart => exact ⟨0,by omega,rfl,Ext.refl _,zh rfl⟩
 case round =>
  obtain⟨k,hk,rfl,hx,HE⟩:=hrel;obtain⟨y0,rfl⟩:=hx.get;clear hx;by_cases hlt:k<l.length
  ·obtain⟨x,hx⟩:∃x,l[k]?=some x:=⟨_,List.getElem?_eq_getElem hlt⟩
   have HE2:=zh (HE.out.trans (zcu evtS l k x hx));obtain⟨b',o',hA,hat,hac⟩:=HS.out.get hx;have HAC:=zh hac;subst hA;have hr:=hat.row;have hti:=hat.tick;have hb0:(0:Int)≤(k:Int):=by omega
   have hb2:(k:Int)<(l.length:Int):=by omega
   clear HE hat hac;by_cases ht:za5 x.tick 0 1048576=true;rotate_left
   ·have WT:=zh (show za5 x.tick 0 1048576=false by simpa using ht);have HW:=zh (show scan evtS none l=2 by
     have:evtS (prv l k) x=2:=by unfold evtS;rw[if_pos (by have:=zaF WT.out;omega)]
     rw[HE2.out,this,if_pos dk])
    clear ht hx;go_wp2_with (go_at_call 36;refine(zbp _ _ _ _).mono ?_;rintro e w' ⟨he,rfl⟩;simp only[WT.out] at he;subst he);go_ret;exact⟨ret_i HW.out.symm,ex⟩
   have hti2:=za8 ht;have WT:=zh ht;clear ht;have key:∀v:Int,evtS (prv l k) x=v→(v=0→scan evtS none l=scan evtS (prv l (k+1)) (l.drop (k+1)))∧(v≠0→scan evtS none l=v):=fun v hv=>by rw[hv] at HE2;exact⟨fun h=>by rw[HE2.out,if_neg (by simpa using h)],fun h=>by rw[HE2.out,if_pos h]⟩
   have HEV:(k=0∧evtS (prv l k) x=evtE x)∨∃j p,k=j+1∧l[j]?=some p∧evtS (prv l k) x=if x.tick<p.tick then 9 else evtE x:=by
    cases k with
    |zero=>exact .inl ⟨rfl,by unfold evtS;rw[if_neg om];rfl⟩
    |succ j=>
     obtain⟨p,hp⟩:∃p,l[j]?=some p:=⟨_,List.getElem?_eq_getElem om⟩
     exact .inr ⟨j,p,rfl,hp,by unfold evtS;rw[if_neg om,zbk,hp]⟩
   rcases HEV with⟨hk0,hev⟩|⟨j,p,rfl,hp,hev⟩
   ·have hpos:decide ((0:Int)<(k:Int))=false:=decide_eq_false om;have hpos2:decide (0<k)=false:=decide_eq_false om;clear hx hk0;by_cases he:evtE x=0
    ·have hz:(evtE x !=0)=false:=by simpa using he
     have HF:=zh ((key _ hev).1 he);clear he hev key;go_wp2_with (go_at_call 36;refine(zbp _ _ _ _).mono ?_;rintro e w' ⟨he,rfl⟩;simp only[WT.out] at he;subst he);(refine zcL kr kr ?_;(repeat(go_big_quiet_step (fail)));refine wqN fun y=>?_);go_wp2_with (go_at_call 54;refine zzg (zl3 x _ (HAC.out.mono ex)) fun y=>?_);go_light;exact⟨⟨k+1,by omega,by go_num,ex,HF⟩,by simp[intOf];omega⟩
    ·have hz:(evtE x !=0)=true:=by simpa using he
     have HW:=zh ((key _ hev).2 he);clear he hev key;go_wp2_with (go_at_call 36;refine(zbp _ _ _ _).mono ?_;rintro e w' ⟨he,rfl⟩;simp only[WT.out] at he;subst he);(refine zcL kr kr ?_;(repeat(go_big_quiet_step (fail)));refine wqN fun y=>?_);go_wp2_with (go_at_call 54;refine zzg (zl3 x _ (HAC.out.mono ex)) fun y=>?_);go_ret;exact⟨ret_i HW.out.symm,ex⟩
   ·obtain⟨b2,o2,hA2,hat2,-⟩:=HS.out.get hp;injection hA2 with hA2;injection hA2 with hA2 hA3;subst hA2 hA3;have htp:=hat2.tick;have hw1:IntKind.i64.wrap (((j+1:Nat):Int) - 1)=(j:Int):=by rw[IntWalk.i64_in _ om];omega
    have hj0:(0:Int)≤(j:Int):=by omega
    have hj1:(j:Int)<(l.length:Int):=by omega
    have hpos:decide ((0:Int)<((j+1:Nat):Int))=true:=decide_eq_true om;have hjj:((j+1:Nat):Int) - 1=(j:Int):=by omega
    clear hat2 hp hx;by_cases hlt2:x.tick<p.tick
    ·rw[if_pos hlt2] at hev;have HW:=zh ((key _ hev).2 dk);have hdd:decide (x.tick<p.tick)=true:=decide_eq_true hlt2;clear hev key;go_wp2_with (go_at_call 36;refine(zbp _ _ _ _).mono ?_;rintro e w' ⟨he,rfl⟩;simp only[WT.out] at he;subst he);(refine zcL kr kr ?_;(repeat(go_big_quiet_step (fail)));refine wqN fun y=>?_);go_wp2;go_ret;exact⟨ret_i HW.out.symm,ex⟩
    ·rw[if_neg hlt2] at hev;have hdd:decide (x.tick<p.tick)=false:=decide_eq_false hlt2;by_cases he:evtE x=0
     ·have hz:(evtE x !=0)=false:=by simpa using he
      have HF:=zh ((key _ hev).1 he);clear he hev key;go_wp2_with (go_at_call 36;refine(zbp _ _ _ _).mono ?_;rintro e w' ⟨he,rfl⟩;simp only[WT.out] at he;subst he);(refine zcL kr kr ?_;(repeat(go_big_quiet_step (fail)));refine wqN fun y=>?_);go_wp2_with (go_at_call 54;refine zzg (zl3 x _ (HAC.out.mono ex)) fun y=>?_);go_light;exact⟨⟨j+1+1,by omega,by go_num,ex,HF⟩,by simp[intOf];omega⟩
     ·have hz:(evtE x !=0)=true:=by simpa using he
      have HW:=zh ((key _ hev).2 he);clear he hev key;go_wp2_with (go_at_call 36;refine(zbp _ _ _ _).mono ?_;rintro e w' ⟨he,rfl⟩;simp only[WT.out] at he;subst he);(refine zcL kr kr ?_;(repeat(go_big_quiet_step (fail)));refine wqN fun y=>?_);go_wp2_with (go_at_call 54;refine zzg (zl3 x _ (HAC.out.mono ex)) fun y=>?_);go_ret;exact⟨ret_i HW.out.symm,ex⟩
  ·have HV:=zh (HE.out.trans (zbX evtS l k _ om));have hd1:decide ((k:Int)<(l.length:Int))=false:=decide_eq_false om;go_wp2;go_ret;exact⟨ret_i HV.out.symm,ex⟩
theorem zEF (A:Option Addr)(c:Nat)(l:List Evt)(w:World)(hs:zbR w A c l):Calls prog 17 #[.slice A l.length c] w fun e w'=>e=.returned (.int .i64 (evtsE l))∧Ext w w':=by
 by_cases h:l.length≤256
 ·exact zwc A c l w hs h
 ·have hl:=hs.len;have HV:=zh (show evtsE l=5 by unfold evtsE;rw[if_pos om]);rw[HV.out];have hd0:decide ((256:Int)<(l.length:Int))=true:=decide_eq_true om;clear hs HV;go_enter func17,ntmps17;go_wp2;go_ret;exact⟨rfl,ex⟩
def RightV (w0:World) (l:List Evt) (e:Ending) (w':World):Prop:=(∃b:Bool,e=.returned (.bool b)∧(b=true→l.length≤20∧evtsE l=0))∧Ext w0 w'
