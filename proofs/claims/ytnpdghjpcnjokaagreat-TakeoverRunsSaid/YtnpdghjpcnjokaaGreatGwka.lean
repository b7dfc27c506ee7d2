import Derived.Test.YtnpdghjpcnjokaaGreatGtak
set_option maxHeartbeats 6400000
set_option maxRecDepth 100000
set_option linter.all false
namespace Go.Proofs.YtnpdghjpcnjokaaGreat
open Go.RowKit Go.Proofs.Tryz

def evtR (x:Evt):List Value:=.int .i64 x.tick:: .int .i64 x.kind:: .int .i64 x.station::(acnR x.act++[.int .i64 x.delay])
theorem zcm (x:Evt):(evtR x).length=48:=rfl
theorem zvj (x:Evt):(evtR x).toArray.size=48:=rfl
@[go_sem] theorem evtR_0 (x : Evt) : (evtR x)[0]? = some (.int .i64 x.tick):=rfl
@[go_sem] theorem evtR_g0 (x : Evt) (h : 0 < (evtR x).length) : (evtR x)[0] = .int .i64 x.tick:=rfl
@[go_sem] theorem evtR_1 (x : Evt) : (evtR x)[1]? = some (.int .i64 x.kind):=rfl
@[go_sem] theorem evtR_g1 (x : Evt) (h : 1 < (evtR x).length) : (evtR x)[1] = .int .i64 x.kind:=rfl
@[go_sem] theorem evtR_2 (x : Evt) : (evtR x)[2]? = some (.int .i64 x.station):=rfl
@[go_sem] theorem evtR_g2 (x : Evt) (h : 2 < (evtR x).length) : (evtR x)[2] = .int .i64 x.station:=rfl
@[go_sem] theorem evtR_47 (x : Evt) : (evtR x)[47]? = some (.int .i64 x.delay):=rfl
@[go_sem] theorem evtR_g47 (x : Evt) (h : 47 < (evtR x).length) : (evtR x)[47] = .int .i64 x.delay:=rfl
theorem zdt (x:Evt):∀u∈evtR x,u.oneCell'=true:=fun u hu=>by
 unfold evtR at hu;simp only[List.mem_cons,List.mem_append,List.not_mem_nil,or_false] at hu;rcases hu with rfl|rfl|rfl|hu|rfl
 ·rfl
 ·rfl
 ·rfl
 ·exact zbV x.act u hu
 ·rfl
theorem zdh (l:List Evt):∀r∈l.map evtR,∀u∈r,u.oneCell'=true:=by intro r hr;obtain⟨a,_,rfl⟩:=List.mem_map.1 hr;exact zdt a
structure zbR (w : World) (A : Option Addr) (c : Nat) (l : List Evt) : Prop where
 sl:Sl w A 48 (l.map evtR)
 le:l.length≤c
 cap:c≤maxLen
 el:∀x∈l,AcnAt w x.act
theorem zbR.mono {w w':World}{A:Option Addr}{c:Nat}{l:List Evt}(h:zbR w A c l)(hx:Ext w w'):zbR w' A c l:=⟨h.sl.mono hx,h.le,h.cap,fun r hr=>(h.el r hr).mono hx⟩
theorem zbR.len {w:World}{A:Option Addr}{c:Nat}{l:List Evt}(h:zbR w A c l):l.length≤9223372036854775807:=by have h1:=h.le;have h2:=h.cap;unfold maxLen at h2;omega
theorem zDj {w:World}{b o:Nat}{x:Evt}(h:w.rangeAt b o (evtR x)):w.rangeAt b (o+3) (acnR x.act):=fun j v hv=>by have hj:=(List.getElem?_eq_some_iff.1 hv).1;have:=h (j+3) v (by show(acnR x.act++[_])[j]?=some v;rw[List.getElem?_append_left hj];exact hv);rwa [←Nat.add_assoc,Nat.add_right_comm] at this
structure EvtAt (w : World) (b o : Nat) (x : Evt) : Prop where
 row:rowQ w b o 48=some (evtR x)
 act:rowQ w b (o+3) 44=some (acnR x.act)
 tick:w.cell? ⟨b,o,none⟩=some (.int .i64 x.tick)
 kind:w.cell? ⟨b,o+1,none⟩=some (.int .i64 x.kind)
 station:w.cell? ⟨b,o+2,none⟩=some (.int .i64 x.station)
 delay:w.cell? ⟨b,o+47,none⟩=some (.int .i64 x.delay)
theorem EvtAt.of {w:World}{b o:Nat}{x:Evt}(h:w.rangeAt b o (evtR x)):EvtAt w b o x:=⟨zcg h rfl,zcg (zDj h) rfl,h 0 _ rfl,h 1 _ rfl,h 2 _ rfl,h 47 _ rfl⟩
theorem zbR.get {w:World}{A:Option Addr}{c:Nat}{l:List Evt}(h:zbR w A c l){k:Nat}{x:Evt}(hk:l[k]?=some x):∃b o,A=some ⟨b,o,none⟩∧EvtAt w b (o+k * 48) x∧AcnAt w x.act:=by obtain⟨b,o,hA,hr⟩:=h.sl.range (i:=k) (row:=evtR x) (by rw[List.getElem?_map,hk];rfl);exact⟨b,o,hA,EvtAt.of hr,h.el x (List.mem_of_getElem? hk)⟩

def loadE (v:Value):Sem Value:=Instr.loadAt 101 v
def loadE' (v:Value):Sem Value:=Instr.loadAt 101 v
@[go_sem ↓ high] theorem loadE_at (v : Value) : Instr.loadAt 101 v = loadE v:=rfl
@[go_sem] theorem loadE_run (w : World) (b o : Nat) : (loadE (.pointer (some ⟨b,o,none⟩))).run prog w = match rowQ w b o 48 with | some cs => .ok (.agg cs.toArray) w | none => (loadE' (.pointer (some ⟨b,o,none⟩))).run prog w:=by
 split
 ·rename_i cs h;obtain⟨h1,h2⟩:=zfr h;exact run_loadAt_mid w b o _ cs _ h1 underlying101 rfl (by rw[h2];kernel_rfl)
 ·rfl
@[go_sem] theorem rowQ_newE (w : World) (b : Nat) (x : Evt) (T : TypeId) (h : w.heap.size = b) : rowQ (w.alloc (.cells (evtR x).toArray T)) b 0 48 = some (evtR x):=zcg (zag w h (evtR x) T) rfl
@[go_sem] theorem rowQ_newEA (w : World) (b : Nat) (x : Evt) (T : TypeId) (h : w.heap.size = b) : rowQ (w.alloc (.cells (evtR x).toArray T)) b 3 44 = some (acnR x.act):=zcg (zDj (zag w h (evtR x) T)) rfl
theorem zbb (w:World):AcnAt w acnN:=⟨Nat.zero_le _,LstAt.nil,LstAt.nil,LstAt.nil,zhZ w⟩
theorem zzd (x:Evt)(w:World)(ha:AcnAt w x.act)(h:za5 x.kind 0 5=false):Calls prog 53 #[.agg (evtR x).toArray] w fun e w'=>e=.returned (.int .i64 (evtE x))∧Ext w w':=by
 have HV:=zh (show evtE x=1 by unfold evtE;have:=zaF h;rw[if_pos om]);have HA:=zh ha;have WK:=Lib.hid h;clear ha h;rw[HV.out];clear HV;go_enter func53,ntmps53
 go_wp2_with (first
  |(go_at_call 33;refine(zCe _ _ _ _).mono ?_;rintro e w' ⟨he,rfl⟩;simp only[WK.out] at he;subst he)
  |(go_at_call 85;refine zzg (zan x.act _ (HA.out.mono ex)) fun y=>?_))
 go_ret;exact⟨rfl,ex⟩
theorem zwX (x:Evt)(w:World)(ha:AcnAt w x.act)(hk:x.kind=0)(h_s:za5 x.station 1 2=false):Calls prog 53 #[.agg (evtR x).toArray] w fun e w'=>e=.returned (.int .i64 (evtE x))∧Ext w w':=by
 have HV:=zh (show evtE x=2 by unfold evtE;have:=zaF h_s;rw[if_neg om,if_pos om]);have HA:=zh ha;have WK:=zh (show za5 x.kind 0 5=true from decide_eq_true om);have hk1:decide (x.kind≤2)=true:=decide_eq_true om;have hk2:(x.kind==0)=true:=by simp;omega
 have hk3:(x.kind==5)=false:=by simp;omega
 have WS:=zh (show za5 x.station 1 2=false from h_s);clear ha hk h_s;rw[HV.out];clear HV;go_enter func53,ntmps53
 go_wp2_with (first
  |(go_at_call 33;refine(zCe _ _ _ _).mono ?_;rintro e w' ⟨he,rfl⟩;simp only[WK.out] at he;subst he)
  |(go_at_call 85;refine zzg (zan x.act _ (HA.out.mono ex)) fun y=>?_))
 (refine zcL kr kr ?_;(repeat(go_big_quiet_step (fail)));refine wqN fun y=>?_)
 go_wp2_with (first
  |(go_at_call 33;refine(zCe _ _ _ _).mono ?_;rintro e w' ⟨he,rfl⟩;simp only[WS.out] at he;subst he)
  |(go_at_call 85;refine zzg (zan x.act _ (HA.out.mono ex)) fun y=>?_))
 go_ret;exact⟨rfl,ex⟩
theorem zwV (x:Evt)(w:World)(ha:AcnAt w x.act)(hk:x.kind=0)(h_s:za5 x.station 1 2=true)(h_a:acnE x.act≠0):Calls prog 53 #[.agg (evtR x).toArray] w fun e w'=>e=.returned (.int .i64 (evtE x))∧Ext w w':=by
 have HV:=zh (show evtE x=acnE x.act by unfold evtE;have:=za8 h_s;rw[if_neg om,if_neg om,if_pos ⟨by omega,h_a⟩]);have HA:=zh ha;have WK:=zh (show za5 x.kind 0 5=true from decide_eq_true om);have hk1:decide (x.kind≤2)=true:=decide_eq_true om;have hk2:(x.kind==0)=true:=by simp;omega
 have hk3:(x.kind==5)=false:=by simp;omega
 have WS:=zh (show za5 x.station 1 2=true from h_s);have z_a:(acnE x.act !=0)=true:=by simpa using h_a
 clear ha hk h_s h_a;rw[HV.out];clear HV;go_enter func53,ntmps53
 go_wp2_with (first
  |(go_at_call 33;refine(zCe _ _ _ _).mono ?_;rintro e w' ⟨he,rfl⟩;simp only[WK.out] at he;subst he)
  |(go_at_call 85;refine zzg (zan x.act _ (HA.out.mono ex)) fun y=>?_))
 (refine zcL kr kr ?_;(repeat(go_big_quiet_step (fail)));refine wqN fun y=>?_)
 go_wp2_with (first
  |(go_at_call 33;refine(zCe _ _ _ _).mono ?_;rintro e w' ⟨he,rfl⟩;simp only[WS.out] at he;subst he)
  |(go_at_call 85;refine zzg (zan x.act _ (HA.out.mono ex)) fun y=>?_))
 go_ret;exact⟨rfl,ex⟩
theorem zwY (x:Evt)(w:World)(ha:AcnAt w x.act)(hk:x.kind=0)(h_s:za5 x.station 1 2=true)(h_a:acnE x.act=0)(h_y:x.delay≠0):Calls prog 53 #[.agg (evtR x).toArray] w fun e w'=>e=.returned (.int .i64 (evtE x))∧Ext w w':=by
 have HV:=zh (show evtE x=3 by unfold evtE;have:=za8 h_s;rw[if_neg om,if_neg om,if_neg (fun hc=>hc.2 h_a),if_pos (.inr (.inl ⟨by omega,h_y⟩))]);have HA:=zh ha;have WK:=zh (show za5 x.kind 0 5=true from decide_eq_true om);have hk1:decide (x.kind≤2)=true:=decide_eq_true om;have hk2:(x.kind==0)=true:=by simp;omega
 have hk3:(x.kind==5)=false:=by simp;omega
 have WS:=zh (show za5 x.station 1 2=true from h_s);have z_a:(acnE x.act !=0)=false:=by simpa using h_a
 have z_h_y:(x.delay !=0)=true:=by simpa using h_y
 clear ha hk h_s h_a h_y;rw[HV.out];clear HV;go_enter func53,ntmps53
 go_wp2_with (first
  |(go_at_call 33;refine(zCe _ _ _ _).mono ?_;rintro e w' ⟨he,rfl⟩;simp only[WK.out] at he;subst he)
  |(go_at_call 85;refine zzg (zan x.act _ (HA.out.mono ex)) fun y=>?_))
 (refine zcL kr kr ?_;(repeat(go_big_quiet_step (fail)));refine wqN fun y=>?_)
 go_wp2_with (first
  |(go_at_call 33;refine(zCe _ _ _ _).mono ?_;rintro e w' ⟨he,rfl⟩;simp only[WS.out] at he;subst he)
  |(go_at_call 85;refine zzg (zan x.act _ (HA.out.mono ex)) fun y=>?_))
 go_ret;exact⟨rfl,ex⟩
theorem zwW (x:Evt)(w:World)(ha:AcnAt w x.act)(hk:x.kind=0)(h_s:za5 x.station 1 2=true)(h_a:acnE x.act=0)(h_y:x.delay=0):Calls prog 53 #[.agg (evtR x).toArray] w fun e w'=>e=.returned (.int .i64 (evtE x))∧Ext w w':=by
 have HV:=zh (show evtE x=0 by unfold evtE;have:=za8 h_s;rw[if_neg om,if_neg om,if_neg (fun hc=>hc.2 h_a),if_neg (by rintro(⟨a,b⟩|⟨a,b⟩|⟨a,b⟩)<;>omega)]);have HA:=zh ha;have WK:=zh (show za5 x.kind 0 5=true from decide_eq_true om);have hk1:decide (x.kind≤2)=true:=decide_eq_true om;have hk2:(x.kind==0)=true:=by simp;omega
 have hk3:(x.kind==5)=false:=by simp;omega
 have WS:=zh (show za5 x.station 1 2=true from h_s);have z_a:(acnE x.act !=0)=false:=by simpa using h_a
 have z_h_y:(x.delay !=0)=false:=by simpa using h_y
 clear ha hk h_s h_a h_y;rw[HV.out];clear HV;go_enter func53,ntmps53
 go_wp2_with (first
  |(go_at_call 33;refine(zCe _ _ _ _).mono ?_;rintro e w' ⟨he,rfl⟩;simp only[WK.out] at he;subst he)
  |(go_at_call 85;refine zzg (zan x.act _ (HA.out.mono ex)) fun y=>?_))
 (refine zcL kr kr ?_;(repeat(go_big_quiet_step (fail)));refine wqN fun y=>?_)
 go_wp2_with (first
  |(go_at_call 33;refine(zCe _ _ _ _).mono ?_;rintro e w' ⟨he,rfl⟩;simp only[WS.out] at he;subst he)
  |(go_at_call 85;refine zzg (zan x.act _ (HA.out.mono ex)) fun y=>?_))
 go_ret;exact⟨rfl,ex⟩
theorem zx1 (x:Evt)(w:World)(ha:AcnAt w x.act)(hk:x.kind=1∨x.kind=2)(h_s:za5 x.station 1 2=false):Calls prog 53 #[.agg (evtR x).toArray] w fun e w'=>e=.returned (.int .i64 (evtE x))∧Ext w w':=by
 have HV:=zh (show evtE x=2 by unfold evtE;have:=zaF h_s;rw[if_neg om,if_pos om]);have HA:=zh ha;have WK:=zh (show za5 x.kind 0 5=true from decide_eq_true om);have hk1:decide (x.kind≤2)=true:=decide_eq_true om;have hk2:(x.kind==0)=false:=by simp;omega
 have hk3:(x.kind==5)=false:=by simp;omega
 have WS:=zh (show za5 x.station 1 2=false from h_s);clear ha hk h_s;rw[HV.out];clear HV;go_enter func53,ntmps53
 go_wp2_with (first
  |(go_at_call 33;refine(zCe _ _ _ _).mono ?_;rintro e w' ⟨he,rfl⟩;simp only[WK.out] at he;subst he)
  |(go_at_call 85;refine zzg (zan x.act _ (HA.out.mono ex)) fun y=>?_))
 (refine zcL kr kr ?_;(repeat(go_big_quiet_step (fail)));refine wqN fun y=>?_)
 go_wp2_with (first
  |(go_at_call 33;refine(zCe _ _ _ _).mono ?_;rintro e w' ⟨he,rfl⟩;simp only[WS.out] at he;subst he)
  |(go_at_call 85;refine zzg (zan x.act _ (HA.out.mono ex)) fun y=>?_))
 go_ret;exact⟨rfl,ex⟩
theorem zx2 (x:Evt)(w:World)(ha:AcnAt w x.act)(hk:x.kind=1∨x.kind=2)(h_s:za5 x.station 1 2=true)(h_y:x.delay≠0):Calls prog 53 #[.agg (evtR x).toArray] w fun e w'=>e=.returned (.int .i64 (evtE x))∧Ext w w':=by
 have HV:=zh (show evtE x=3 by unfold evtE;have:=za8 h_s;rw[if_neg om,if_neg om,if_neg (fun hc=>by have:=hc.1;omega),if_pos (.inr (.inl ⟨by omega,h_y⟩))]);have HA:=zh ha;have WK:=zh (show za5 x.kind 0 5=true from decide_eq_true om);have hk1:decide (x.kind≤2)=true:=decide_eq_true om;have hk2:(x.kind==0)=false:=by simp;omega
 have hk3:(x.kind==5)=false:=by simp;omega
 have WS:=zh (show za5 x.station 1 2=true from h_s);have z_h_y:(x.delay !=0)=true:=by simpa using h_y
 clear ha hk h_s h_y;rw[HV.out];clear HV;go_enter func53,ntmps53
 go_wp2_with (first
  |(go_at_call 33;refine(zCe _ _ _ _).mono ?_;rintro e w' ⟨he,rfl⟩;simp only[WK.out] at he;subst he)
  |(go_at_call 85;refine zzg (zan x.act _ (HA.out.mono ex)) fun y=>?_))
 (refine zcL kr kr ?_;(repeat(go_big_quiet_step (fail)));refine wqN fun y=>?_)
 go_wp2_with (first
  |(go_at_call 33;refine(zCe _ _ _ _).mono ?_;rintro e w' ⟨he,rfl⟩;simp only[WS.out] at he;subst he)
  |(go_at_call 85;refine zzg (zan x.act _ (HA.out.mono ex)) fun y=>?_))
 go_ret;exact⟨rfl,ex⟩
theorem zwZ (x:Evt)(w:World)(ha:AcnAt w x.act)(hk:x.kind=1∨x.kind=2)(h_s:za5 x.station 1 2=true)(h_y:x.delay=0)(h_m:sameA x.act acnN=false):Calls prog 53 #[.agg (evtR x).toArray] w fun e w'=>e=.returned (.int .i64 (evtE x))∧Ext w w':=by
 have HV:=zh (show evtE x=3 by unfold evtE;have:=za8 h_s;rw[if_neg om,if_neg om,if_neg (fun hc=>by have:=hc.1;omega),if_pos (.inr (.inr ⟨by omega,h_m⟩))]);have HA:=zh ha;have WK:=zh (show za5 x.kind 0 5=true from decide_eq_true om);have hk1:decide (x.kind≤2)=true:=decide_eq_true om;have hk2:(x.kind==0)=false:=by simp;omega
 have hk3:(x.kind==5)=false:=by simp;omega
 have WS:=zh (show za5 x.station 1 2=true from h_s);have z_h_y:(x.delay !=0)=false:=by simpa using h_y
 have HM:sameA x.act acnN=false:=h_m;clear ha hk h_s h_y h_m;rw[HV.out];clear HV;go_enter func53,ntmps53
 go_wp2_with (first
  |(go_at_call 33;refine(zCe _ _ _ _).mono ?_;rintro e w' ⟨he,rfl⟩;simp only[WK.out] at he;subst he)
  |(go_at_call 85;refine zzg (zan x.act _ (HA.out.mono ex)) fun y=>?_)
  |(refine zah rfl 99 _ rfl [] rfl (acnR acnN).toArray kr ?_)
  |(go_at_call 86;refine zzg (zcN x.act acnN _ (HA.out.mono ex) (zbb _)) fun y=>?_))
 (refine zcL kr kr ?_;(repeat(go_big_quiet_step (fail)));refine wqN fun y=>?_)
 go_wp2_with (first
  |(go_at_call 33;refine(zCe _ _ _ _).mono ?_;rintro e w' ⟨he,rfl⟩;simp only[WS.out] at he;subst he)
  |(go_at_call 85;refine zzg (zan x.act _ (HA.out.mono ex)) fun y=>?_)
  |(refine zah rfl 99 _ rfl [] rfl (acnR acnN).toArray kr ?_)
  |(go_at_call 86;refine zzg (zcN x.act acnN _ (HA.out.mono ex) (zbb _)) fun y=>?_))
 go_ret;exact⟨rfl,ex⟩
theorem zx0 (x:Evt)(w:World)(ha:AcnAt w x.act)(hk:x.kind=1∨x.kind=2)(h_s:za5 x.station 1 2=true)(h_y:x.delay=0)(h_m:sameA x.act acnN=true):Calls prog 53 #[.agg (evtR x).toArray] w fun e w'=>e=.returned (.int .i64 (evtE x))∧Ext w w':=by
 have HV:=zh (show evtE x=0 by unfold evtE;have:=za8 h_s;rw[if_neg om,if_neg om,if_neg (fun hc=>by have:=hc.1;omega),if_neg (by rintro(⟨a,b⟩|⟨a,b⟩|⟨a,b⟩)<;>first|omega|(rw[h_m] at b;cases b))]);have HA:=zh ha;have WK:=zh (show za5 x.kind 0 5=true from decide_eq_true om);have hk1:decide (x.kind≤2)=true:=decide_eq_true om;have hk2:(x.kind==0)=false:=by simp;omega
 have hk3:(x.kind==5)=false:=by simp;omega
 have WS:=zh (show za5 x.station 1 2=true from h_s);have z_h_y:(x.delay !=0)=false:=by simpa using h_y
 have HM:sameA x.act acnN=true:=h_m;clear ha hk h_s h_y h_m;rw[HV.out];clear HV;go_enter func53,ntmps53
 go_wp2_with (first
  |(go_at_call 33;refine(zCe _ _ _ _).mono ?_;rintro e w' ⟨he,rfl⟩;simp only[WK.out] at he;subst he)
  |(go_at_call 85;refine zzg (zan x.act _ (HA.out.mono ex)) fun y=>?_)
  |(refine zah rfl 99 _ rfl [] rfl (acnR acnN).toArray kr ?_)
  |(go_at_call 86;refine zzg (zcN x.act acnN _ (HA.out.mono ex) (zbb _)) fun y=>?_))
 (refine zcL kr kr ?_;(repeat(go_big_quiet_step (fail)));refine wqN fun y=>?_)
 go_wp2_with (first
  |(go_at_call 33;refine(zCe _ _ _ _).mono ?_;rintro e w' ⟨he,rfl⟩;simp only[WS.out] at he;subst he)
  |(go_at_call 85;refine zzg (zan x.act _ (HA.out.mono ex)) fun y=>?_)
  |(refine zah rfl 99 _ rfl [] rfl (acnR acnN).toArray kr ?_)
  |(go_at_call 86;refine zzg (zcN x.act acnN _ (HA.out.mono ex) (zbb _)) fun y=>?_))
 go_ret;exact⟨rfl,ex⟩
theorem zx6 (x:Evt)(w:World)(ha:AcnAt w x.act)(hk:x.kind=3∨x.kind=4)(h_z:x.station≠0):Calls prog 53 #[.agg (evtR x).toArray] w fun e w'=>e=.returned (.int .i64 (evtE x))∧Ext w w':=by
 have HV:=zh (show evtE x=3 by unfold evtE;rw[if_neg om,if_neg om,if_neg (fun hc=>by have:=hc.1;omega),if_pos (.inl ⟨by omega,h_z⟩)]);have HA:=zh ha;have WK:=zh (show za5 x.kind 0 5=true from decide_eq_true om);have hk1:decide (x.kind≤2)=false:=decide_eq_false om;have hk2:(x.kind==0)=false:=by simp;omega
 have hk3:(x.kind==5)=false:=by simp;omega
 have z_h_z:(x.station !=0)=true:=by simpa using h_z
 clear ha hk h_z;rw[HV.out];clear HV;go_enter func53,ntmps53
 go_wp2_with (first
  |(go_at_call 33;refine(zCe _ _ _ _).mono ?_;rintro e w' ⟨he,rfl⟩;simp only[WK.out] at he;subst he)
  |(go_at_call 85;refine zzg (zan x.act _ (HA.out.mono ex)) fun y=>?_))
 (refine zcL kr kr ?_;(repeat(go_big_quiet_step (fail)));refine wqN fun y=>?_)
 go_wp2_with (first
  |(go_at_call 33;refine(zCe _ _ _ _).mono ?_;rintro e w' ⟨he,rfl⟩;simp only[WK.out] at he;subst he)
  |(go_at_call 85;refine zzg (zan x.act _ (HA.out.mono ex)) fun y=>?_))
 go_ret;exact⟨rfl,ex⟩
theorem zx5 (x:Evt)(w:World)(ha:AcnAt w x.act)(hk:x.kind=3∨x.kind=4)(h_z:x.station=0)(h_y:x.delay≠0):Calls prog 53 #[.agg (evtR x).toArray] w fun e w'=>e=.returned (.int .i64 (evtE x))∧Ext w w':=by
 have HV:=zh (show evtE x=3 by unfold evtE;rw[if_neg om,if_neg om,if_neg (fun hc=>by have:=hc.1;omega),if_pos (.inr (.inl ⟨by omega,h_y⟩))]);have HA:=zh ha;have WK:=zh (show za5 x.kind 0 5=true from decide_eq_true om);have hk1:decide (x.kind≤2)=false:=decide_eq_false om;have hk2:(x.kind==0)=false:=by simp;omega
 have hk3:(x.kind==5)=false:=by simp;omega
 have z_h_z:(x.station !=0)=false:=by simpa using h_z
 have z_h_y:(x.delay !=0)=true:=by simpa using h_y
 clear ha hk h_z h_y;rw[HV.out];clear HV;go_enter func53,ntmps53
 go_wp2_with (first
  |(go_at_call 33;refine(zCe _ _ _ _).mono ?_;rintro e w' ⟨he,rfl⟩;simp only[WK.out] at he;subst he)
  |(go_at_call 85;refine zzg (zan x.act _ (HA.out.mono ex)) fun y=>?_))
 (refine zcL kr kr ?_;(repeat(go_big_quiet_step (fail)));refine wqN fun y=>?_)
 go_wp2_with (first
  |(go_at_call 33;refine(zCe _ _ _ _).mono ?_;rintro e w' ⟨he,rfl⟩;simp only[WK.out] at he;subst he)
  |(go_at_call 85;refine zzg (zan x.act _ (HA.out.mono ex)) fun y=>?_))
 go_ret;exact⟨rfl,ex⟩
theorem zx3 (x:Evt)(w:World)(ha:AcnAt w x.act)(hk:x.kind=3∨x.kind=4)(h_z:x.station=0)(h_y:x.delay=0)(h_m:sameA x.act acnN=false):Calls prog 53 #[.agg (evtR x).toArray] w fun e w'=>e=.returned (.int .i64 (evtE x))∧Ext w w':=by
 have HV:=zh (show evtE x=3 by unfold evtE;rw[if_neg om,if_neg om,if_neg (fun hc=>by have:=hc.1;omega),if_pos (.inr (.inr ⟨by omega,h_m⟩))]);have HA:=zh ha;have WK:=zh (show za5 x.kind 0 5=true from decide_eq_true om);have hk1:decide (x.kind≤2)=false:=decide_eq_false om;have hk2:(x.kind==0)=false:=by simp;omega
 have hk3:(x.kind==5)=false:=by simp;omega
 have z_h_z:(x.station !=0)=false:=by simpa using h_z
 have z_h_y:(x.delay !=0)=false:=by simpa using h_y
 have HM:sameA x.act acnN=false:=h_m;clear ha hk h_z h_y h_m;rw[HV.out];clear HV;go_enter func53,ntmps53
 go_wp2_with (first
  |(go_at_call 33;refine(zCe _ _ _ _).mono ?_;rintro e w' ⟨he,rfl⟩;simp only[WK.out] at he;subst he)
  |(go_at_call 85;refine zzg (zan x.act _ (HA.out.mono ex)) fun y=>?_)
  |(refine zah rfl 99 _ rfl [] rfl (acnR acnN).toArray kr ?_)
  |(go_at_call 86;refine zzg (zcN x.act acnN _ (HA.out.mono ex) (zbb _)) fun y=>?_))
 (refine zcL kr kr ?_;(repeat(go_big_quiet_step (fail)));refine wqN fun y=>?_)
 go_wp2_with (first
  |(go_at_call 33;refine(zCe _ _ _ _).mono ?_;rintro e w' ⟨he,rfl⟩;simp only[WK.out] at he;subst he)
  |(go_at_call 85;refine zzg (zan x.act _ (HA.out.mono ex)) fun y=>?_)
  |(refine zah rfl 99 _ rfl [] rfl (acnR acnN).toArray kr ?_)
  |(go_at_call 86;refine zzg (zcN x.act acnN _ (HA.out.mono ex) (zbb _)) fun y=>?_))
 go_ret;exact⟨rfl,ex⟩
theorem zx4 (x:Evt)(w:World)(ha:AcnAt w x.act)(hk:x.kind=3∨x.kind=4)(h_z:x.station=0)(h_y:x.delay=0)(h_m:sameA x.act acnN=true):Calls prog 53 #[.agg (evtR x).toArray] w fun e w'=>e=.returned (.int .i64 (evtE x))∧Ext w w':=by
 have HV:=zh (show evtE x=0 by unfold evtE;rw[if_neg om,if_neg om,if_neg (fun hc=>by have:=hc.1;omega),if_neg (by rintro(⟨a,b⟩|⟨a,b⟩|⟨a,b⟩)<;>first|omega|(rw[h_m] at b;cases b))]);have HA:=zh ha;have WK:=zh (show za5 x.kind 0 5=true from decide_eq_true om);have hk1:decide (x.kind≤2)=false:=decide_eq_false om;have hk2:(x.kind==0)=false:=by simp;omega
 have hk3:(x.kind==5)=false:=by simp;omega
 have z_h_z:(x.station !=0)=false:=by simpa using h_z
 have z_h_y:(x.delay !=0)=false:=by simpa using h_y
 have HM:sameA x.act acnN=true:=h_m;clear ha hk h_z h_y h_m;rw[HV.out];clear HV;go_enter func53,ntmps53
 go_wp2_with (first
  |(go_at_call 33;refine(zCe _ _ _ _).mono ?_;rintro e w' ⟨he,rfl⟩;simp only[WK.out] at he;subst he)
  |(go_at_call 85;refine zzg (zan x.act _ (HA.out.mono ex)) fun y=>?_)
  |(refine zah rfl 99 _ rfl [] rfl (acnR acnN).toArray kr ?_)
  |(go_at_call 86;refine zzg (zcN x.act acnN _ (HA.out.mono ex) (zbb _)) fun y=>?_))
 (refine zcL kr kr ?_;(repeat(go_big_quiet_step (fail)));refine wqN fun y=>?_)
 go_wp2_with (first
  |(go_at_call 33;refine(zCe _ _ _ _).mono ?_;rintro e w' ⟨he,rfl⟩;simp only[WK.out] at he;subst he)
  |(go_at_call 85;refine zzg (zan x.act _ (HA.out.mono ex)) fun y=>?_)
  |(refine zah rfl 99 _ rfl [] rfl (acnR acnN).toArray kr ?_)
  |(go_at_call 86;refine zzg (zcN x.act acnN _ (HA.out.mono ex) (zbb _)) fun y=>?_))
 go_ret;exact⟨rfl,ex⟩
theorem zx7 (x:Evt)(w:World)(ha:AcnAt w x.act)(hk:x.kind=5)(h_d:za5 x.delay 1 8=false):Calls prog 53 #[.agg (evtR x).toArray] w fun e w'=>e=.returned (.int .i64 (evtE x))∧Ext w w':=by
 have HV:=zh (show evtE x=2 by unfold evtE;have:=zaF h_d;rw[if_neg om,if_pos om]);have HA:=zh ha;have WK:=zh (show za5 x.kind 0 5=true from decide_eq_true om);have hk1:decide (x.kind≤2)=false:=decide_eq_false om;have hk2:(x.kind==0)=false:=by simp;omega
 have hk3:(x.kind==5)=true:=by simp;omega
 have WD:=zh (show za5 x.delay 1 8=false from h_d);clear ha hk h_d;rw[HV.out];clear HV;go_enter func53,ntmps53
 go_wp2_with (first
  |(go_at_call 33;refine(zCe _ _ _ _).mono ?_;rintro e w' ⟨he,rfl⟩;simp only[WK.out] at he;subst he)
  |(go_at_call 85;refine zzg (zan x.act _ (HA.out.mono ex)) fun y=>?_))
 (refine zcL kr kr ?_;(repeat(go_big_quiet_step (fail)));refine wqN fun y=>?_)
 go_wp2_with (first
  |(go_at_call 33;refine(zCe _ _ _ _).mono ?_;rintro e w' ⟨he,rfl⟩;simp only[WD.out] at he;subst he)
  |(go_at_call 85;refine zzg (zan x.act _ (HA.out.mono ex)) fun y=>?_))
 go_ret;exact⟨rfl,ex⟩
theorem zxa (x:Evt)(w:World)(ha:AcnAt w x.act)(hk:x.kind=5)(h_d:za5 x.delay 1 8=true)(h_z:x.station≠0):Calls prog 53 #[.agg (evtR x).toArray] w fun e w'=>e=.returned (.int .i64 (evtE x))∧Ext w w':=by
 have HV:=zh (show evtE x=3 by unfold evtE;have:=za8 h_d;rw[if_neg om,if_neg om,if_neg (fun hc=>by have:=hc.1;omega),if_pos (.inl ⟨by omega,h_z⟩)]);have HA:=zh ha;have WK:=zh (show za5 x.kind 0 5=true from decide_eq_true om);have hk1:decide (x.kind≤2)=false:=decide_eq_false om;have hk2:(x.kind==0)=false:=by simp;omega
 have hk3:(x.kind==5)=true:=by simp;omega
 have WD:=zh (show za5 x.delay 1 8=true from h_d);have z_h_z:(x.station !=0)=true:=by simpa using h_z
 clear ha hk h_d h_z;rw[HV.out];clear HV;go_enter func53,ntmps53
 go_wp2_with (first
  |(go_at_call 33;refine(zCe _ _ _ _).mono ?_;rintro e w' ⟨he,rfl⟩;simp only[WK.out] at he;subst he)
  |(go_at_call 85;refine zzg (zan x.act _ (HA.out.mono ex)) fun y=>?_))
 (refine zcL kr kr ?_;(repeat(go_big_quiet_step (fail)));refine wqN fun y=>?_)
 go_wp2_with (first
  |(go_at_call 33;refine(zCe _ _ _ _).mono ?_;rintro e w' ⟨he,rfl⟩;simp only[WD.out] at he;subst he)
  |(go_at_call 85;refine zzg (zan x.act _ (HA.out.mono ex)) fun y=>?_))
 go_ret;exact⟨rfl,ex⟩
theorem zx8 (x:Evt)(w:World)(ha:AcnAt w x.act)(hk:x.kind=5)(h_d:za5 x.delay 1 8=true)(h_z:x.station=0)(h_m:sameA x.act acnN=false):Calls prog 53 #[.agg (evtR x).toArray] w fun e w'=>e=.returned (.int .i64 (evtE x))∧Ext w w':=by
 have HV:=zh (show evtE x=3 by unfold evtE;have:=za8 h_d;rw[if_neg om,if_neg om,if_neg (fun hc=>by have:=hc.1;omega),if_pos (.inr (.inr ⟨by omega,h_m⟩))]);have HA:=zh ha;have WK:=zh (show za5 x.kind 0 5=true from decide_eq_true om);have hk1:decide (x.kind≤2)=false:=decide_eq_false om;have hk2:(x.kind==0)=false:=by simp;omega
 have hk3:(x.kind==5)=true:=by simp;omega
 have WD:=zh (show za5 x.delay 1 8=true from h_d);have z_h_z:(x.station !=0)=false:=by simpa using h_z
 have HM:sameA x.act acnN=false:=h_m;clear ha hk h_d h_z h_m;rw[HV.out];clear HV;go_enter func53,ntmps53
 go_wp2_with (first
  |(go_at_call 33;refine(zCe _ _ _ _).mono ?_;rintro e w' ⟨he,rfl⟩;simp only[WK.out] at he;subst he)
  |(go_at_call 85;refine zzg (zan x.act _ (HA.out.mono ex)) fun y=>?_)
  |(refine zah rfl 99 _ rfl [] rfl (acnR acnN).toArray kr ?_)
  |(go_at_call 86;refine zzg (zcN x.act acnN _ (HA.out.mono ex) (zbb _)) fun y=>?_))
 (refine zcL kr kr ?_;(repeat(go_big_quiet_step (fail)));refine wqN fun y=>?_)
 go_wp2_with (first
  |(go_at_call 33;refine(zCe _ _ _ _).mono ?_;rintro e w' ⟨he,rfl⟩;simp only[WD.out] at he;subst he)
  |(go_at_call 85;refine zzg (zan x.act _ (HA.out.mono ex)) fun y=>?_)
  |(refine zah rfl 99 _ rfl [] rfl (acnR acnN).toArray kr ?_)
  |(go_at_call 86;refine zzg (zcN x.act acnN _ (HA.out.mono ex) (zbb _)) fun y=>?_))
 go_ret;exact⟨rfl,ex⟩
theorem zx9 (x:Evt)(w:World)(ha:AcnAt w x.act)(hk:x.kind=5)(h_d:za5 x.delay 1 8=true)(h_z:x.station=0)(h_m:sameA x.act acnN=true):Calls prog 53 #[.agg (evtR x).toArray] w fun e w'=>e=.returned (.int .i64 (evtE x))∧Ext w w':=by
 have HV:=zh (show evtE x=0 by unfold evtE;have:=za8 h_d;rw[if_neg om,if_neg om,if_neg (fun hc=>by have:=hc.1;omega),if_neg (by rintro(⟨a,b⟩|⟨a,b⟩|⟨a,b⟩)<;>first|omega|(rw[h_m] at b;cases b))]);have HA:=zh ha;have WK:=zh (show za5 x.kind 0 5=true from decide_eq_true om);have hk1:decide (x.kind≤2)=false:=decide_eq_false om;have hk2:(x.kind==0)=false:=by simp;omega
 have hk3:(x.kind==5)=true:=by simp;omega
 have WD:=zh (show za5 x.delay 1 8=true from h_d);have z_h_z:(x.station !=0)=false:=by simpa using h_z
 have HM:sameA x.act acnN=true:=h_m;clear ha hk h_d h_z h_m;rw[HV.out];clear HV;go_enter func53,ntmps53
 go_wp2_with (first
  |(go_at_call 33;refine(zCe _ _ _ _).mono ?_;rintro e w' ⟨he,rfl⟩;simp only[WK.out] at he;subst he)
  |(go_at_call 85;refine zzg (zan x.act _ (HA.out.mono ex)) fun y=>?_)
  |(refine zah rfl 99 _ rfl [] rfl (acnR acnN).toArray kr ?_)
  |(go_at_call 86;refine zzg (zcN x.act acnN _ (HA.out.mono ex) (zbb _)) fun y=>?_))
 (refine zcL kr kr ?_;(repeat(go_big_quiet_step (fail)));refine wqN fun y=>?_)
 go_wp2_with (first
  |(go_at_call 33;refine(zCe _ _ _ _).mono ?_;rintro e w' ⟨he,rfl⟩;simp only[WD.out] at he;subst he)
  |(go_at_call 85;refine zzg (zan x.act _ (HA.out.mono ex)) fun y=>?_)
  |(refine zah rfl 99 _ rfl [] rfl (acnR acnN).toArray kr ?_)
  |(go_at_call 86;refine zzg (zcN x.act acnN _ (HA.out.mono ex) (zbb _)) fun y=>?_))
 go_ret;exact⟨rfl,ex⟩
theorem zwU (x:Evt)(w:World)(ha:AcnAt w x.act):Calls prog 53 #[.agg (evtR x).toArray] w fun e w'=>e=.returned (.int .i64 (evtE x))∧Ext w w':=by
 cases h:za5 x.kind 0 5 with
 |false=>exact zzd x w ha h
 |true=>
  have hw:=za8 h;have hc:x.kind=0∨(x.kind=1∨x.kind=2)∨(x.kind=3∨x.kind=4)∨x.kind=5:=by omega
  rcases hc with hk|hk|hk|hk
  ·cases h_s:za5 x.station 1 2 with
   |false=>exact zwX x w ha hk h_s
   |true=>
    by_cases h_a:acnE x.act=0
    ·by_cases h_y:x.delay=0
     ·exact zwW x w ha hk h_s h_a h_y
     ·exact zwY x w ha hk h_s h_a h_y
    ·exact zwV x w ha hk h_s h_a
  ·cases h_s:za5 x.station 1 2 with
   |false=>exact zx1 x w ha hk h_s
   |true=>
    by_cases h_y:x.delay=0
    ·cases h_m:sameA x.act acnN with
     |false=>exact zwZ x w ha hk h_s h_y h_m
     |true=>exact zx0 x w ha hk h_s h_y h_m
    ·exact zx2 x w ha hk h_s h_y
  ·by_cases h_z:x.station=0
   ·by_cases h_y:x.delay=0
    ·cases h_m:sameA x.act acnN with
     |false=>exact zx3 x w ha hk h_z h_y h_m
     |true=>exact zx4 x w ha hk h_z h_y h_m
    ·exact zx5 x w ha hk h_z h_y
   ·exact zx6 x w ha hk h_z
  ·cases h_d:za5 x.delay 1 8 with
   |false=>exact zx7 x w ha hk h_d
   |true=>
    by_cases h_z:x.station=0
    ·cases h_m:sameA x.act acnN with
     |false=>exact zx8 x w ha hk h_d h_z h_m
     |true=>exact zx9 x w ha hk h_d h_z h_m
    ·exact zxa x w ha hk h_d h_z

theorem zDi {q:Option Evt}{x:Evt}(h:za5 x.tick 0 1048576=false):evtS q x=2:=by have:=zaF h;unfold evtS;rw[if_pos om]
theorem zDg {q:Option Evt}{x p:Evt}(h:za5 x.tick 0 1048576=true)(hq:q=some p)(hl:x.tick<p.tick):evtS q x=9:=by have:=za8 h;unfold evtS;rw[if_neg om,hq];simp only;rw[if_pos hl]
theorem zDh {q:Option Evt}{x p:Evt}(h:za5 x.tick 0 1048576=true)(hq:q=some p)(hl:¬x.tick<p.tick):evtS q x=evtE x:=by have:=za8 h;unfold evtS;rw[if_neg om,hq];simp only;rw[if_neg hl]
theorem zBd {x:Evt}(h:za5 x.tick 0 1048576=true):evtS none x=evtE x:=by have:=za8 h;unfold evtS;rw[if_neg om]
section
variable {A:Option Addr} {c:Nat} {l:List Evt} {b:Nat}
theorem zsu (k:Nat)(x:Evt)(w:World)(hs:zbR w A c l)(hk:l[k]?=some x)(hb:w.cell? ⟨b,0,none⟩=some (.slice A l.length c)):Calls prog 52 #[k,.agg (evtR x).toArray,.pointer (some ⟨b,0,none⟩)] w fun e w'=>e=.returned (.int .i64 (evtS (prv l k) x))∧Ext w w':=by
 have hl:=hs.len;have hlt:k<l.length:=(List.getElem?_eq_some_iff.1 hk).1;have HA:=zh (hs.el x (List.mem_of_getElem? hk));cases h1:za5 x.tick 0 1048576 with
 |false=>have HV:=zh (zDi (q:=prv l k) h1);have H1:=zh h1;clear h1 hs hk hb hlt;go_enter func52,ntmps52;go_wp2_with (go_at_call 33;refine(zCe _ _ _ _).mono ?_;rintro e w' ⟨he,rfl⟩;simp only[H1.out] at he;subst he);go_ret;exact⟨ret_i HV.out.symm,ex⟩
 |true=>
  cases k with
  |zero=>have HV:=zh (show evtS (prv l 0) x=evtE x from zBd h1);have H1:=zh h1;clear h1 hs hk hb hlt;go_enter func52,ntmps52;go_wp2_with (go_at_call 33;refine(zCe _ _ _ _).mono ?_;rintro e w' ⟨he,rfl⟩;simp only[H1.out] at he;subst he);(refine zcL kr kr ?_;(repeat(go_big_quiet_step (fail)));refine wqN fun y=>?_);go_wp2_with (go_at_call 53;refine zzg (zwU x _ (HA.out.mono ex)) fun y=>?_);go_ret;exact⟨ret_i HV.out.symm,ex⟩
  |succ k=>
   obtain⟨p,hp⟩:∃p,l[k]?=some p:=⟨_,List.getElem?_eq_getElem om⟩
   have hq:prv l (k+1)=some p:=by rw[zbk,hp]
   obtain⟨b',o',hA,hat,-⟩:=hs.get hp;subst hA;have ht:=hat.tick;have hw1:IntKind.i64.wrap (((k+1:Nat):Int) - 1)=(k:Int):=by rw[show((k+1:Nat):Int) - 1=(k:Int) by omega];exact IntWalk.i64_in _ om
   have hd0:decide ((0:Int)<((k+1:Nat):Int))=true:=decide_eq_true om;have hb0:(0:Int)≤(k:Int):=by omega
   have hb1:(k:Int)<(l.length:Int):=by omega
   obtain⟨j,hj⟩:∃j:Int,((k+1:Nat):Int)=j:=⟨_,rfl⟩
   rw[hj] at hw1 hd0;by_cases hlss:x.tick<p.tick
   ·have HV:=zh (zDg h1 hq hlss);have H1:=zh h1;have hd:decide (x.tick<p.tick)=true:=decide_eq_true hlss;rw[HV.out,hj];clear h1 hs hk hlt hp hq hat hlss HV;go_enter func52,ntmps52;go_wp2_with (go_at_call 33;refine(zCe _ _ _ _).mono ?_;rintro e w' ⟨he,rfl⟩;simp only[H1.out] at he;subst he);(refine zcL kr kr ?_;(repeat(go_big_quiet_step (fail)));refine wqN fun y=>?_);go_wp2;go_ret;exact⟨rfl,ex⟩
   ·have HV:=zh (zDh h1 hq hlss);have H1:=zh h1;have hd:decide (x.tick<p.tick)=false:=decide_eq_false hlss;rw[HV.out,hj];clear h1 hs hk hlt hp hq hat hlss HV;go_enter func52,ntmps52;go_wp2_with (go_at_call 33;refine(zCe _ _ _ _).mono ?_;rintro e w' ⟨he,rfl⟩;simp only[H1.out] at he;subst he);(refine zcL kr kr ?_;(repeat(go_big_quiet_step (fail)));refine wqN fun y=>?_);go_wp2_with (go_at_call 53;refine zzg (zwU x _ (HA.out.mono ex)) fun y=>?_);go_ret;exact⟨rfl,ex⟩
theorem zFn (w:World)(hs:zbR w A c l)(hb:w.cell? ⟨b,0,none⟩=some (.slice A l.length c)):
  Calls prog 51 #[.slice A l.length c,.func (Fn.func 52) #[] #[.pointer (some ⟨b,0,none⟩)]] w fun e w'=>e=.returned (.int .i64 (scan evtS none l))∧Ext w w':=by
 have hl:=hs.len;have HS:=zh hs;have HB:=zh hb;have HM:=zh (show scan evtS none l=scan evtS (prv l 0) (l.drop 0) from rfl);clear hs hb;go_enter func51,ntmps51;go_wp2;go_loopw [10] (fun i wr=> ∃k:Nat,k≤l.length∧i=.int .i64 k∧Ext w wr∧Hid (scan evtS none l=scan evtS (prv l k) (l.drop k))) (fun i _=>l.length - (intOf i).toNat)
 case atStart => exact ⟨0,by omega,rfl,Ext.refl _,HM⟩
 case round =>
  obtain⟨k,hk,rfl,hx,HE⟩:=hrel;obtain⟨y0,rfl⟩:=hx.get;clear hx HM;by_cases hlt:k<l.length
  ·obtain⟨x,hx⟩:∃x,l[k]?=some x:=⟨_,List.getElem?_eq_getElem hlt⟩
   have HX:=zh hx;have HE2:=zh (HE.out.trans (zcu evtS l k x hx));obtain⟨b',o',hA,hat,-⟩:=HS.out.get hx;subst hA;have hr:=hat.row;have hb0:(0:Int)≤(k:Int):=by omega
   have hb2:(k:Int)<(l.length:Int):=by omega
   clear hx HE hat;by_cases he:evtS (prv l k) x=0
   ·have hz:(evtS (prv l k) x !=0)=false:=by simpa using he
    have HF:=zh (show scan evtS none l=scan evtS (prv l (k+1)) (l.drop (k+1)) by rw[HE2.out,if_neg (by simpa using he)]);clear he
    go_wp2_with (first
     |(refine za7 rfl 101 (.tmp 6) (.tmp 14) rfl rfl sg (evtR x) rfl rfl kr (zdt _) ?_)
     |(go_at_call 52;refine zzg (zsu k x _ (HS.out.mono ex) HX.out (Ext.cell ex HB.out)) fun y=>?_))
    go_light;exact⟨⟨k+1,by omega,by go_num,ex,HF⟩,by simp[intOf];omega⟩
   ·have hz:(evtS (prv l k) x !=0)=true:=by simpa using he
    have HV:=zh (show evtS (prv l k) x=scan evtS none l by rw[HE2.out,if_pos he]);clear he
    go_wp2_with (first
     |(refine za7 rfl 101 (.tmp 6) (.tmp 14) rfl rfl sg (evtR x) rfl rfl kr (zdt _) ?_)
     |(go_at_call 52;refine zzg (zsu k x _ (HS.out.mono ex) HX.out (Ext.cell ex HB.out)) fun y=>?_))
    go_ret;exact⟨ret_i HV.out,ex⟩
  ·have HV:=zh (HE.out.trans (zbX evtS l k _ om));go_wp2;go_ret;exact⟨ret_i HV.out.symm,ex⟩
theorem zgQ (w:World)(hs:zbR w A c l):Calls prog 16 #[.slice A l.length c] w fun e w'=>e=.returned (.int .i64 (evtsE l))∧Ext w w':=by
 have hl:=hs.len;have HS:=zh hs;clear hs;by_cases h:256<l.length
 ·have hd:decide ((256:Int)<(l.length:Int))=true:=decide_eq_true om;have HV:=zh (show evtsE l=5 by unfold evtsE;rw[if_pos h]);clear h;go_enter func16,ntmps16;go_wp2;go_ret;exact⟨ret_i HV.out.symm,ex⟩
 ·have hd:decide ((256:Int)<(l.length:Int))=false:=decide_eq_false om;have HV:=zh (show evtsE l=scan evtS none l by unfold evtsE;rw[if_neg h]);clear h;go_enter func16,ntmps16;go_wp2_with (go_at_call 51;refine zzg (zFn _ (HS.out.mono ex) sg) fun y=>?_);go_ret;exact⟨ret_i HV.out.symm,ex⟩
end

theorem Turn.grown {g:Nat}{W W':World}(h:Turn g W W'):W.grownBy W' (some g):=⟨h.os,h.tape,h.output,Nat.le_of_eq h.size.symm,fun j _ hne=>h.else_ j (fun e=>hne (by rw[e]))⟩
theorem Ext.grown {W W':World}(h:Ext W W')(r:Option Nat):W.grownBy W' r:=⟨h.os,h.tape,h.output,h.size,fun j hj _=>h.block j hj⟩
theorem zac {r:Option Nat}{W W' X:World}(h:W.grownBy W' r)(k:W'.grownBy X r):W.grownBy X r:=
 ⟨k.os.trans h.os,k.tape.trans h.tape,k.output.trans h.output,Nat.le_trans h.size k.size,fun j hj hne=>(k.block j (Nat.lt_of_lt_of_le hj h.size) hne).trans (h.block j hj hne)⟩
abbrev StayW (W W':World):Prop:=Stay 115 30 W W'
structure Bent (g : Nat) (M : Option Addr) (W W' : World) : Prop where
 os:W'.os=W.os
 tape:W'.tape=W.tape
 output:W'.output=W.output
 size:W.heap.size≤W'.heap.size
 keep:∀k,k<W.heap.size→k≠g→(∀p,M=some p→p.block≠k)→W'.heap[k]?=W.heap[k]?
 stay:StayW W W'
def zhn (M:Option Addr) (W:World) (M':Option Addr):Prop:=M'=M∨∃c,M'=some ⟨c,0,none⟩∧W.heap.size≤c
theorem zhn.trans {M M' M'':Option Addr}{W W':World}(h:zhn M W M')(hs:W.heap.size≤W'.heap.size)(k:zhn M' W' M''):zhn M W M'':=by
 rcases k with rfl|⟨c,e,hc⟩
 ·exact h
 ·exact .inr ⟨c,e,Nat.le_trans hs hc⟩
theorem Bent.trans {g:Nat}{M M':Option Addr}{W W' X:World}(h:Bent g M W W')(hm:zhn M W M')(k:Bent g M' W' X):Bent g M W X:=
 ⟨k.os.trans h.os,k.tape.trans h.tape,k.output.trans h.output,Nat.le_trans h.size k.size,fun j hj h1 h2=>by
  rw[k.keep j (Nat.lt_of_lt_of_le hj h.size) h1 fun p hp=> ?_]
  ·exact h.keep j hj h1 h2
  ·rcases hm with rfl|⟨c,e,hc⟩
   ·exact h2 p hp
   ·rw[e] at hp;injection hp with hp;subst hp;exact Nat.ne_of_gt (Nat.lt_of_lt_of_le hj hc),h.stay.trans k.stay⟩
theorem Ext.bent {W W':World}(h:Ext W W')(g:Nat)(M:Option Addr):Bent g M W W':=⟨h.os,h.tape,h.output,h.size,fun j hj _ _=>h.block j hj,h.stay⟩
theorem zAF (w:Wld)(A:Option Addr)(a:Nat)(B:Option Addr)(b:Nat)(M:Option Addr)(m:Nat):∀u∈((Lw w A a B b M m):List Value),noStr u=true:=fun u hu=>by simp only[List.mem_cons,List.not_mem_nil,or_false] at hu;rcases hu with rfl|rfl|rfl|rfl|rfl|rfl|rfl|rfl|rfl|rfl|rfl|rfl|rfl|rfl|rfl|rfl|rfl|rfl|rfl|rfl|rfl<;>rfl
theorem zbm (w:Wld)(A:Option Addr)(a:Nat)(B:Option Addr)(b:Nat)(M:Option Addr)(m:Nat):∀u∈((Lw w A a B b M m):List Value),u.oneCell'=true:=fun u hu=>by simp only[List.mem_cons,List.not_mem_nil,or_false] at hu;rcases hu with rfl|rfl|rfl|rfl|rfl|rfl|rfl|rfl|rfl|rfl|rfl|rfl|rfl|rfl|rfl|rfl|rfl|rfl|rfl|rfl|rfl<;>rfl
theorem zon (xs:List (Ltr×Option Addr×Nat)):∀r∈xs.map ltrR,∀u∈r,u.oneCell'=true:=fun r hr u hu=>by obtain⟨x,-,rfl⟩:=List.mem_map.1 hr;simp only[ltrR,List.mem_cons,List.not_mem_nil,or_false] at hu;rcases hu with rfl|rfl|rfl|rfl|rfl|rfl|rfl|rfl<;>rfl
theorem zgy (xs:List (Ltr×Option Addr×Nat)):∀r∈xs.map ltrR,∀u∈r,noStr u=true:=fun r hr u hu=>by obtain⟨x,-,rfl⟩:=List.mem_map.1 hr;simp only[ltrR,List.mem_cons,List.not_mem_nil,or_false] at hu;rcases hu with rfl|rfl|rfl|rfl|rfl|rfl|rfl|rfl<;>rfl

structure WldC (w0 W : World) (g : Nat) (w : Wld) (A : Option Addr) (a : Nat) (B : Option Addr) (b : Nat) (M : Option Addr) (m : Nat) : Prop where
 ext:Ext w0 W
 ge:w0.heap.size≤g
 box:BoxAt W g (Lw w A a B b M m) 30
 qa:LogW w0 W A w.a.node.log.length a w.a.node.log
 qb:LogW w0 W B w.b.node.log.length b w.b.node.log
structure MailM (w0 W : World) (M : Option Addr) (m : Nat) (l : List Ltr) (xs : List (Ltr × Option Addr × Nat)) : Prop where
 own:OwnM w0 W 115 8 M l.length m (xs.map ltrR)
 room:M=none∨m≠0
 is:xs.map (·.1)=l
 el:∀x∈xs,LogW w0 W x.2.1 x.1.msg.recs.length x.2.2 x.1.msg.recs
section
variable {w0 W V:World} {g:Nat} {w:Wld} {A B M:Option Addr} {a b m:Nat} {l:List Ltr} {xs:List (Ltr×Option Addr×Nat)}
theorem WldC.mono (h:WldC w0 W g w A a B b M m)(hx:Ext W V):WldC w0 V g w A a B b M m:=⟨h.ext.trans hx,h.ge,h.box.mono hx,h.qa.mono hx,h.qb.mono hx⟩
theorem MailM.mono (h:MailM w0 W M m l xs)(hx:Ext W V):MailM w0 V M m l xs:=⟨h.own.mono hx,h.room,h.is,fun x hm=>(h.el x hm).mono hx⟩
theorem WldC.bent (h:WldC w0 W g w A a B b M m)(ht:W.grownBy V (some g))(N:Option Addr):Bent g N W V:=
 ⟨ht.os,ht.tape,ht.output,ht.size,fun k hk hne _=>ht.block k hk (fun e=>hne (by injection e)),zs3 ht h.box (.inr rfl) (zh6 (zAF _ _ _ _ _ _ _))⟩
theorem MailM.ne {cs:List Value}(h:MailM w0 W M m l xs)(hb:BoxAt W g cs 30):∀p,M=some p→p.block≠g:=fun p hp e=>by
 rcases h.own.own.at_ with h0|⟨k,cur,h1,h2,h3,h4⟩
 ·rcases h.room with hr|hr
  ·rw[hr] at hp;cases hp
  ·exact hr h0
 ·rw[h1] at hp;injection hp with hp;subst hp;have e:k=g:=e;subst e;unfold BoxAt at hb;rw[h3] at hb;injection hb with hb;injection hb with e1 e2;cases e2
theorem LogW.stayW {X:World}{N c:Nat}{r:List Rec}(h:LogW w0 W A N c r)(hs:StayW W X):LogW w0 X A N c r:=hs.logw h
theorem MailM.turn (h:MailM w0 W M m w.mail xs)(hw:WldC w0 W g w A a B b M m)(ht:W.grownBy V (some g)):MailM w0 V M m w.mail xs:=
 ⟨h.own.kept ht (fun p hp e=>h.ne hw.box p hp (by injection e)),h.room,h.is,fun x hx=>(h.el x hx).stayW (hw.bent ht none).stay⟩
def StepC (w0 W:World) (g:Nat) (v:Wld) (M:Option Addr) (m:Nat) (e:Ending) (W':World):Prop:=e=.returned (.tuple #[])∧W.grownBy W' (some g)∧∃A a B b,WldC w0 W' g v A a B b M m
def StepM (w0 W:World) (g:Nat) (M:Option Addr) (v:Wld) (e:Ending) (W':World):Prop:=e=.returned (.tuple #[])∧Bent g M W W'∧∃A a B b M' m' xs',WldC w0 W' g v A a B b M' m'∧MailM w0 W' M' m' v.mail xs'∧zhn M W M'
theorem WldC.grownM (h:WldC w0 W g w A a B b M m)(hm:MailM w0 W M m w.mail xs)(hg:W.grownBy V (M.map (·.block))):BoxAt V g (Lw w A a B b M m) 30:=by
 unfold BoxAt;rw[hg.block g h.box.lt ?_]
 ·exact h.box
 ·intro e;cases M with
  |none=>cases e
  |some p=>simp only[Option.map_some,Option.some.injEq] at e;exact hm.ne h.box p rfl e.symm
theorem WldC.posted {V':World} (h:WldC w0 W g w A a B b M m) (hm:MailM w0 W M m w.mail xs) (hs:StayW W V) (hg:W.grownBy V (M.map (·.block))) (hx:Ext w0 V) {M':Option Addr} {m':Nat} {y:Ltr} {D:Option Addr} {K:Nat}
  (ho:OwnM w0 V 115 8 M' (w.mail.length+1) m' (xs.map ltrR++[ltrR (y,D,K)])) (hk:m'≠0) (hA:M'=M∨M'=some ⟨W.heap.size,0,none⟩) (hl:LogW w0 W D y.msg.recs.length K y.msg.recs)
  (ht:Turn g V V') {v:Wld} (hv:v=⟨w.now,w.limit,w.delay,w.cut,w.a,w.b,w.mail++[y]⟩) (hb:BoxAt V' g (Lw v A a B b M' m') 30):
  Bent g M W V'∧WldC w0 V' g v A a B b M' m'∧MailM w0 V' M' m' v.mail (xs++[(y,D,K)])∧zhn M W M':=by
 have hbV:=h.grownM hm hg;have hst:StayW W V':=hs.trans (ht.stay hbV (.inr rfl) (zh6 (zAF _ _ _ _ _ _ _)));have e1:xs.map ltrR++[ltrR (y,D,K)]=(xs++[(y,D,K)]).map ltrR:=by rw[List.map_append];rfl
 rw[e1] at ho;have hb0:MailM w0 V M' m' (w.mail++[y]) (xs++[(y,D,K)]):=⟨by rw[List.length_append];exact ho,.inr hk,by rw[List.map_append];exact congrArg (·++[y]) hm.is,fun z hz=>by
  rcases List.mem_append.1 hz with hz|hz
  ·exact(hm.el z hz).stayW hs
  ·simp only[List.mem_singleton] at hz;subst hz;exact hl.stayW hs⟩
 subst hv;refine⟨⟨ht.os.trans hg.os,ht.tape.trans hg.tape,ht.output.trans hg.output,Nat.le_trans hg.size (Nat.le_of_eq ht.size.symm),fun k hk hne hM=> ?_,hst⟩,⟨ht.ext hx h.ge,h.ge,hb,(h.qa.stayW hs).turn ht,(h.qb.stayW hs).turn ht⟩,⟨hb0.own.turn ht (hb0.ne hbV),hb0.room,hb0.is,fun z hz=>(hb0.el z hz).turn ht⟩,?_⟩
 ·rw[ht.else_ k hne];refine hg.block k hk fun e=> ?_;cases M with
  |none=>cases e
  |some p=>simp only[Option.map_some,Option.some.injEq] at e;exact hM p rfl e.symm
 ·rcases hA with e|e
  ·exact .inl e
  ·exact .inr ⟨_,e,Nat.le_refl _⟩
theorem StepM.of {v:Wld}{W1 W':World}{e:Ending}(hb:Bent g M W W1)(h:StepM w0 W1 g M v e W'):StepM w0 W g M v e W':=by obtain⟨he,h1,A,a,B,b,M',m',xs',h2,h3,h4⟩:=h;exact⟨he,hb.trans (.inl rfl) h1,A,a,B,b,M',m',xs',h2,h3,h4.imp id fun⟨c,e,hc⟩=>⟨c,e,Nat.le_trans hb.size hc⟩⟩
end
theorem zoi:zbz prog 115 8 80=true:=by kernel_rfl
theorem zuA:zgg prog 115 =true:=by kernel_rfl

section
variable {w0 W:World} {g:Nat} {w:Wld} {A B M:Option Addr} {a b m:Nat} {xs:List (Ltr×Option Addr×Nat)}
@[go_sem] theorem index_I0 (w : World) (u v : Int) : (Instr.index 32 (.agg #[u,v]) (.int .i64 0)).run prog w = .ok (.int .i64 u) w:=by kernel_rfl
@[go_sem] theorem index_I1 (w : World) (u v : Int) : (Instr.index 32 (.agg #[u,v]) (.int .i64 1)).run prog w = .ok (.int .i64 v) w:=by kernel_rfl
theorem zss (h:WldC w0 W g w A a B b M m)(hs:StaOk 1 w.a):Calls prog 134 #[.pointer (some ⟨g,0,none⟩),.pointer (some ⟨g,4,none⟩)] W (StepC w0 W g ⟨w.now,w.limit,w.delay,w.cut,leadS w.limit w.a,w.b,w.mail⟩ M m):=by
 have HC:=Lib.hid h;have hla:=(h.qa.recs h.ext (Ext.refl W)).len;have hlb:=(h.qb.recs h.ext (Ext.refl W)).len;have hq0:=hs.q0;have hq1:=hs.q1;have ht0:=hs.node.t0;have ht1:=hs.node.t1;obtain⟨q,hq⟩:∃q,min (w.a.quiet+1) 1048576=q:=⟨_,rfl⟩
 have hw1:IntKind.i64.wrap (w.a.quiet+1)=w.a.quiet+1:=IntWalk.i64_in _ om;have hw2:IntKind.i64.wrap (w.a.node.term+1)=w.a.node.term+1:=IntWalk.i64_in _ om;have hw3:IntKind.i64.wrap (w.a.node.term+2)=w.a.node.term+2:=IntWalk.i64_in _ om;have HQ:=zh hq;refine h.box.cB fun c0 c1 c2 c3 c4 c5 c6 c7 c8 c9 c10 c11 c12 c13 c14 c15 c16 c17 c18 c19 c20=>?_;clear h hs;by_cases hl:q≤w.limit
 ·have hd:decide (q≤w.limit)=true:=decide_eq_true hl;have HV:=zh (show leadS w.limit w.a=⟨w.a.node,w.a.up,q⟩ by unfold leadS;simp only;rw[HQ.out,if_pos hl]);clear hl;go_enter func134,ntmps134;go_wp2_with (refine zae rfl 3 (.tmp 16) (.tmp 14) rfl (HC.out.box.mono ex) 11 rfl (.int .i64 q) rfl (show 11<21 by decide) (show 21<44 by decide) kr rfl (Lv w w.a.node A a w.a.up q w.b.node B b w.b.up w.b.quiet M m) rfl ?_;intro W1 ht1 hb1;clear c0 c1 c2 c3 c4 c5 c6 c7 c8 c9 c10 c11 c12 c13 c14 c15 c16 c17 c18 c19 c20;refine hb1.cB fun e0 e1 e2 e3 e4 e5 e6 e7 e8 e9 e10 e11 e12 e13 e14 e15 e16 e17 e18 e19 e20=>?_)
  (try simp only[Act.put])
  (refine zcL kr kr ?_;(repeat(go_big_quiet_step (fail)));refine wqN fun y=>?_);go_wp2
  (first|go_end0|(refine bodyPost_ret (results_none rfl _ _ _) rfl ?_))
  rw[HV.out];exact⟨rfl,zac (Ext.grown ex _) (zac ht1.grown (Ext.grown ex _)),_,_,_,_,⟨(ht1.ext (HC.out.ext.trans ex) HC.out.ge).trans ex,HC.out.ge,hb1.mono ex,((HC.out.qa.mono ex).turn ht1).mono ex,((HC.out.qb.mono ex).turn ht1).mono ex⟩⟩
 ·have hd:decide (q≤w.limit)=false:=decide_eq_false hl;obtain⟨x1,r1,hv1⟩:∃x r,leadV w.a.node (w.a.node.term+1)=(x,r):=⟨_,_,rfl⟩
  obtain⟨x2,r2,hv2⟩:∃x r,leadV w.a.node (w.a.node.term+2)=(x,r):=⟨_,_,rfl⟩
  have HL1:=zh (fun(V X:World) (hx:Ext W X) (ht:Turn g X V) (Y:World) (hy:Ext V Y)=>(zdz w.a.node A a (w.a.node.term+1) Y ((((HC.out.qa.mono hx).turn ht).recs (ht.ext (HC.out.ext.trans hx) HC.out.ge) hy))).mono fun _ _ p=>zaH.parts p hv1 (w0:=w0) (by have:=zfN (R:=fun r=>AcnAt w0 r.act) w.a.node (w.a.node.term+1) HC.out.qa.el;rwa [hv1] at this));have HL2:=zh (fun(V X:World) (hx:Ext W X) (ht:Turn g X V) (Y:World) (hy:Ext V Y)=>(zdz w.a.node A a (w.a.node.term+2) Y ((((HC.out.qa.mono hx).turn ht).recs (ht.ext (HC.out.ext.trans hx) HC.out.ge) hy))).mono fun _ _ p=>zaH.parts p hv2 (w0:=w0) (by have:=zfN (R:=fun r=>AcnAt w0 r.act) w.a.node (w.a.node.term+2) HC.out.qa.el;rwa [hv2] at this));have HV:=zh (show leadS w.limit w.a=(if r1=0 then⟨x1,w.a.up,0⟩ else if r2=0 then⟨x2,w.a.up,0⟩ else⟨w.a.node,w.a.up,q⟩:Sta) by unfold leadS;simp only;rw[HQ.out,if_neg hl,hv1,hv2]);clear hl hv1 hv2;go_enter func134,ntmps134;go_wp2_with (refine zae rfl 3 (.tmp 16) (.tmp 14) rfl (HC.out.box.mono ex) 11 rfl (.int .i64 q) rfl (show 11<21 by decide) (show 21<44 by decide) kr rfl (Lv w w.a.node A a w.a.up q w.b.node B b w.b.up w.b.quiet M m) rfl ?_;intro W1 ht1 hb1;clear c0 c1 c2 c3 c4 c5 c6 c7 c8 c9 c10 c11 c12 c13 c14 c15 c16 c17 c18 c19 c20;refine hb1.cB fun e0 e1 e2 e3 e4 e5 e6 e7 e8 e9 e10 e11 e12 e13 e14 e15 e16 e17 e18 e19 e20=>?_)
  (try simp only[Act.put])
  (refine zcL kr kr ?_;(repeat(go_big_quiet_step (fail)));refine wqN fun y=>?_);go_wp2;(refine zcL kr kr ?_;(repeat(go_big_quiet_step (fail)));refine wqN fun y=>?_);go_wp2;refine zaG (fun W2 hW2=> ?_);have x12:Ext W1 W2:=by rw[hW2];exact ex
  have hb2:=hb1.mono x12;clear hW2 e0 e1 e2 e3 e4 e5 e6 e7 e8 e9 e10 e11 e12 e13 e14 e15 e16 e17 e18 e19 e20;go_loopw [39] (fun i wr=>Ext W2 wr∧(i=.int .i64 0∨(i=.int .i64 1∧r1≠0)∨(i=.int .i64 2∧r1≠0∧r2≠0))) (fun i _=>2 - (intOf i).toNat)
  case atStart => exact ⟨Ext.refl _,.inl rfl⟩
  case round =>
   obtain⟨hx,hrel⟩:=hrel;obtain⟨y0,rfl⟩:=hx.get;clear hx;refine hb2.cB fun e0 e1 e2 e3 e4 e5 e6 e7 e8 e9 e10 e11 e12 e13 e14 e15 e16 e17 e18 e19 e20=>?_;rcases hrel with rfl|⟨rfl,hr1⟩|⟨rfl,hr1,hr2⟩
   ·by_cases hr:r1=0
    ·subst hr;go_wp2_with (first
     |(go_at_call 35;refine(HL1.out _ _ ex ht1 _ ex).mono ?_;rintro e w' ⟨D,K,rfl,hx,hl⟩;have HLa:=zh hl;obtain⟨ye,rfl⟩:=hx.get;clear hx hl)
     |(refine zab rfl 24 (.tmp 57) (.tmp 55) rfl (hb2.mono ex) 4 rfl (Ln x1 D K) rfl (show 10≤21 by decide) (show 21<44 by decide) kr (zaa x1 D K) (Lv w x1 D K w.a.up q w.b.node B b w.b.up w.b.quiet M m) rfl ?_;intro W3 ht3 hb3)
     |(refine zae rfl 3 (.tmp 59) (.const (.int .i64 0)) rfl hb3 11 rfl (.int .i64 0) rfl (show 11<21 by decide) (show 21<44 by decide) kr rfl (Lv w x1 D K w.a.up 0 w.b.node B b w.b.up w.b.quiet M m) rfl ?_;intro W4 ht4 hb4))
     (first|go_end0|(refine bodyPost_ret (results_none rfl _ _ _) rfl ?_))
     rw[HV.out,if_pos trivial];exact⟨rfl,zac (Ext.grown ex _) (zac ht1.grown (zac (Ext.grown (x12.trans ex) _) (zac ht3.grown ht4.grown))),_,_,_,_,⟨ht4.ext (ht3.ext ((ht1.ext (HC.out.ext.trans ex) HC.out.ge).trans (x12.trans ex)) HC.out.ge) HC.out.ge,HC.out.ge,hb4,((HLa.out.mono ex).turn ht3).turn ht4,((((HC.out.qb.mono ex).turn ht1).mono (x12.trans ex)).turn ht3).turn ht4⟩⟩
    ·have hz:(r1==0)=false:=by simpa using hr
     go_wp2_with (go_at_call 35;refine(HL1.out _ _ ex ht1 _ ex).mono ?_;rintro e w' ⟨D,K,rfl,hx,hl⟩;have HLa:=zh hl;obtain⟨ye,rfl⟩:=hx.get;clear hx hl);go_light;exact⟨⟨ex,.inr (.inl ⟨rfl,hr⟩)⟩,by simp[intOf]⟩
   ·by_cases hr:r2=0
    ·subst hr;go_wp2_with (first
     |(go_at_call 35;refine(HL2.out _ _ ex ht1 _ ex).mono ?_;rintro e w' ⟨D,K,rfl,hx,hl⟩;have HLa:=zh hl;obtain⟨ye,rfl⟩:=hx.get;clear hx hl)
     |(refine zab rfl 24 (.tmp 57) (.tmp 55) rfl (hb2.mono ex) 4 rfl (Ln x2 D K) rfl (show 10≤21 by decide) (show 21<44 by decide) kr (zaa x2 D K) (Lv w x2 D K w.a.up q w.b.node B b w.b.up w.b.quiet M m) rfl ?_;intro W3 ht3 hb3)
     |(refine zae rfl 3 (.tmp 59) (.const (.int .i64 0)) rfl hb3 11 rfl (.int .i64 0) rfl (show 11<21 by decide) (show 21<44 by decide) kr rfl (Lv w x2 D K w.a.up 0 w.b.node B b w.b.up w.b.quiet M m) rfl ?_;intro W4 ht4 hb4))
     (first|go_end0|(refine bodyPost_ret (results_none rfl _ _ _) rfl ?_))
     rw[HV.out,if_neg hr1,if_pos trivial];exact⟨rfl,zac (Ext.grown ex _) (zac ht1.grown (zac (Ext.grown (x12.trans ex) _) (zac ht3.grown ht4.grown))),_,_,_,_,⟨ht4.ext (ht3.ext ((ht1.ext (HC.out.ext.trans ex) HC.out.ge).trans (x12.trans ex)) HC.out.ge) HC.out.ge,HC.out.ge,hb4,((HLa.out.mono ex).turn ht3).turn ht4,((((HC.out.qb.mono ex).turn ht1).mono (x12.trans ex)).turn ht3).turn ht4⟩⟩
    ·have hz:(r2==0)=false:=by simpa using hr
     go_wp2_with (go_at_call 35;refine(HL2.out _ _ ex ht1 _ ex).mono ?_;rintro e w' ⟨D,K,rfl,hx,hl⟩;have HLa:=zh hl;obtain⟨ye,rfl⟩:=hx.get;clear hx hl);go_light;exact⟨⟨ex,.inr (.inr ⟨rfl,hr1,hr⟩)⟩,by simp[intOf]⟩
   ·go_wp2
    (first|go_end0|(refine bodyPost_ret (results_none rfl _ _ _) rfl ?_))
    rw[HV.out,if_neg hr1,if_neg hr2];exact⟨rfl,zac (Ext.grown ex _) (zac ht1.grown (Ext.grown (x12.trans ex) _)),_,_,_,_,⟨((ht1.ext (HC.out.ext.trans ex) HC.out.ge).trans x12).trans ex,HC.out.ge,hb2.mono ex,(((HC.out.qa.mono ex).turn ht1).mono x12).mono ex,(((HC.out.qb.mono ex).turn ht1).mono x12).mono ex⟩⟩
theorem zst (h:WldC w0 W g w A a B b M m)(hs:StaOk 2 w.b):Calls prog 134 #[.pointer (some ⟨g,0,none⟩),.pointer (some ⟨g,12,none⟩)] W (StepC w0 W g ⟨w.now,w.limit,w.delay,w.cut,w.a,leadS w.limit w.b,w.mail⟩ M m):=by
 have HC:=Lib.hid h;have hla:=(h.qa.recs h.ext (Ext.refl W)).len;have hlb:=(h.qb.recs h.ext (Ext.refl W)).len;have hq0:=hs.q0;have hq1:=hs.q1;have ht0:=hs.node.t0;have ht1:=hs.node.t1;obtain⟨q,hq⟩:∃q,min (w.b.quiet+1) 1048576=q:=⟨_,rfl⟩
 have hw1:IntKind.i64.wrap (w.b.quiet+1)=w.b.quiet+1:=IntWalk.i64_in _ om;have hw2:IntKind.i64.wrap (w.b.node.term+1)=w.b.node.term+1:=IntWalk.i64_in _ om;have hw3:IntKind.i64.wrap (w.b.node.term+2)=w.b.node.term+2:=IntWalk.i64_in _ om;have HQ:=zh hq;refine h.box.cB fun c0 c1 c2 c3 c4 c5 c6 c7 c8 c9 c10 c11 c12 c13 c14 c15 c16 c17 c18 c19 c20=>?_;clear h hs;by_cases hl:q≤w.limit
 ·have hd:decide (q≤w.limit)=true:=decide_eq_true hl;have HV:=zh (show leadS w.limit w.b=⟨w.b.node,w.b.up,q⟩ by unfold leadS;simp only;rw[HQ.out,if_pos hl]);clear hl;go_enter func134,ntmps134;go_wp2_with (refine zae rfl 3 (.tmp 16) (.tmp 14) rfl (HC.out.box.mono ex) 19 rfl (.int .i64 q) rfl (show 19<21 by decide) (show 21<44 by decide) kr rfl (Lv w w.a.node A a w.a.up w.a.quiet w.b.node B b w.b.up q M m) rfl ?_;intro W1 ht1 hb1;clear c0 c1 c2 c3 c4 c5 c6 c7 c8 c9 c10 c11 c12 c13 c14 c15 c16 c17 c18 c19 c20;refine hb1.cB fun e0 e1 e2 e3 e4 e5 e6 e7 e8 e9 e10 e11 e12 e13 e14 e15 e16 e17 e18 e19 e20=>?_)
  (try simp only[Act.put])
  (refine zcL kr kr ?_;(repeat(go_big_quiet_step (fail)));refine wqN fun y=>?_);go_wp2
  (first|go_end0|(refine bodyPost_ret (results_none rfl _ _ _) rfl ?_))
  rw[HV.out];exact⟨rfl,zac (Ext.grown ex _) (zac ht1.grown (Ext.grown ex _)),_,_,_,_,⟨(ht1.ext (HC.out.ext.trans ex) HC.out.ge).trans ex,HC.out.ge,hb1.mono ex,((HC.out.qa.mono ex).turn ht1).mono ex,((HC.out.qb.mono ex).turn ht1).mono ex⟩⟩
 ·have hd:decide (q≤w.limit)=false:=decide_eq_false hl;obtain⟨x1,r1,hv1⟩:∃x r,leadV w.b.node (w.b.node.term+1)=(x,r):=⟨_,_,rfl⟩
  obtain⟨x2,r2,hv2⟩:∃x r,leadV w.b.node (w.b.node.term+2)=(x,r):=⟨_,_,rfl⟩
  have HL1:=zh (fun(V X:World) (hx:Ext W X) (ht:Turn g X V) (Y:World) (hy:Ext V Y)=>(zdz w.b.node B b (w.b.node.term+1) Y ((((HC.out.qb.mono hx).turn ht).recs (ht.ext (HC.out.ext.trans hx) HC.out.ge) hy))).mono fun _ _ p=>zaH.parts p hv1 (w0:=w0) (by have:=zfN (R:=fun r=>AcnAt w0 r.act) w.b.node (w.b.node.term+1) HC.out.qb.el;rwa [hv1] at this));have HL2:=zh (fun(V X:World) (hx:Ext W X) (ht:Turn g X V) (Y:World) (hy:Ext V Y)=>(zdz w.b.node B b (w.b.node.term+2) Y ((((HC.out.qb.mono hx).turn ht).recs (ht.ext (HC.out.ext.trans hx) HC.out.ge) hy))).mono fun _ _ p=>zaH.parts p hv2 (w0:=w0) (by have:=zfN (R:=fun r=>AcnAt w0 r.act) w.b.node (w.b.node.term+2) HC.out.qb.el;rwa [hv2] at this));have HV:=zh (show leadS w.limit w.b=(if r1=0 then⟨x1,w.b.up,0⟩ else if r2=0 then⟨x2,w.b.up,0⟩ else⟨w.b.node,w.b.up,q⟩:Sta) by unfold leadS;simp only;rw[HQ.out,if_neg hl,hv1,hv2]);clear hl hv1 hv2;go_enter func134,ntmps134;go_wp2_with (refine zae rfl 3 (.tmp 16) (.tmp 14) rfl (HC.out.box.mono ex) 19 rfl (.int .i64 q) rfl (show 19<21 by decide) (show 21<44 by decide) kr rfl (Lv w w.a.node A a w.a.up w.a.quiet w.b.node B b w.b.up q M m) rfl ?_;intro W1 ht1 hb1;clear c0 c1 c2 c3 c4 c5 c6 c7 c8 c9 c10 c11 c12 c13 c14 c15 c16 c17 c18 c19 c20;refine hb1.cB fun e0 e1 e2 e3 e4 e5 e6 e7 e8 e9 e10 e11 e12 e13 e14 e15 e16 e17 e18 e19 e20=>?_)
  (try simp only[Act.put])
  (refine zcL kr kr ?_;(repeat(go_big_quiet_step (fail)));refine wqN fun y=>?_);go_wp2;(refine zcL kr kr ?_;(repeat(go_big_quiet_step (fail)));refine wqN fun y=>?_);go_wp2;refine zaG (fun W2 hW2=> ?_);have x12:Ext W1 W2:=by rw[hW2];exact ex
  have hb2:=hb1.mono x12;clear hW2 e0 e1 e2 e3 e4 e5 e6 e7 e8 e9 e10 e11 e12 e13 e14 e15 e16 e17 e18 e19 e20;go_loopw [39] (fun i wr=>Ext W2 wr∧(i=.int .i64 0∨(i=.int .i64 1∧r1≠0)∨(i=.int .i64 2∧r1≠0∧r2≠0))) (fun i _=>2 - (intOf i).toNat)
  case atStart => exact ⟨Ext.refl _,.inl rfl⟩
  case round =>
   obtain⟨hx,hrel⟩:=hrel;obtain⟨y0,rfl⟩:=hx.get;clear hx;refine hb2.cB fun e0 e1 e2 e3 e4 e5 e6 e7 e8 e9 e10 e11 e12 e13 e14 e15 e16 e17 e18 e19 e20=>?_;rcases hrel with rfl|⟨rfl,hr1⟩|⟨rfl,hr1,hr2⟩
   ·by_cases hr:r1=0
    ·subst hr;go_wp2_with (first
     |(go_at_call 35;refine(HL1.out _ _ ex ht1 _ ex).mono ?_;rintro e w' ⟨D,K,rfl,hx,hl⟩;have HLa:=zh hl;obtain⟨ye,rfl⟩:=hx.get;clear hx hl)
     |(refine zab rfl 24 (.tmp 57) (.tmp 55) rfl (hb2.mono ex) 12 rfl (Ln x1 D K) rfl (show 18≤21 by decide) (show 21<44 by decide) kr (zaa x1 D K) (Lv w w.a.node A a w.a.up w.a.quiet x1 D K w.b.up q M m) rfl ?_;intro W3 ht3 hb3)
     |(refine zae rfl 3 (.tmp 59) (.const (.int .i64 0)) rfl hb3 19 rfl (.int .i64 0) rfl (show 19<21 by decide) (show 21<44 by decide) kr rfl (Lv w w.a.node A a w.a.up w.a.quiet x1 D K w.b.up 0 M m) rfl ?_;intro W4 ht4 hb4))
     (first|go_end0|(refine bodyPost_ret (results_none rfl _ _ _) rfl ?_))
     rw[HV.out,if_pos trivial];exact⟨rfl,zac (Ext.grown ex _) (zac ht1.grown (zac (Ext.grown (x12.trans ex) _) (zac ht3.grown ht4.grown))),_,_,_,_,⟨ht4.ext (ht3.ext ((ht1.ext (HC.out.ext.trans ex) HC.out.ge).trans (x12.trans ex)) HC.out.ge) HC.out.ge,HC.out.ge,hb4,((((HC.out.qa.mono ex).turn ht1).mono (x12.trans ex)).turn ht3).turn ht4,((HLa.out.mono ex).turn ht3).turn ht4⟩⟩
    ·have hz:(r1==0)=false:=by simpa using hr
     go_wp2_with (go_at_call 35;refine(HL1.out _ _ ex ht1 _ ex).mono ?_;rintro e w' ⟨D,K,rfl,hx,hl⟩;have HLa:=zh hl;obtain⟨ye,rfl⟩:=hx.get;clear hx hl);go_light;exact⟨⟨ex,.inr (.inl ⟨rfl,hr⟩)⟩,by simp[intOf]⟩
   ·by_cases hr:r2=0
    ·subst hr;go_wp2_with (first
     |(go_at_call 35;refine(HL2.out _ _ ex ht1 _ ex).mono ?_;rintro e w' ⟨D,K,rfl,hx,hl⟩;have HLa:=zh hl;obtain⟨ye,rfl⟩:=hx.get;clear hx hl)
     |(refine zab rfl 24 (.tmp 57) (.tmp 55) rfl (hb2.mono ex) 12 rfl (Ln x2 D K) rfl (show 18≤21 by decide) (show 21<44 by decide) kr (zaa x2 D K) (Lv w w.a.node A a w.a.up w.a.quiet x2 D K w.b.up q M m) rfl ?_;intro W3 ht3 hb3)
     |(refine zae rfl 3 (.tmp 59) (.const (.int .i64 0)) rfl hb3 19 rfl (.int .i64 0) rfl (show 19<21 by decide) (show 21<44 by decide) kr rfl (Lv w w.a.node A a w.a.up w.a.quiet x2 D K w.b.up 0 M m) rfl ?_;intro W4 ht4 hb4))
     (first|go_end0|(refine bodyPost_ret (results_none rfl _ _ _) rfl ?_))
     rw[HV.out,if_neg hr1,if_pos trivial];exact⟨rfl,zac (Ext.grown ex _) (zac ht1.grown (zac (Ext.grown (x12.trans ex) _) (zac ht3.grown ht4.grown))),_,_,_,_,⟨ht4.ext (ht3.ext ((ht1.ext (HC.out.ext.trans ex) HC.out.ge).trans (x12.trans ex)) HC.out.ge) HC.out.ge,HC.out.ge,hb4,((((HC.out.qa.mono ex).turn ht1).mono (x12.trans ex)).turn ht3).turn ht4,((HLa.out.mono ex).turn ht3).turn ht4⟩⟩
    ·have hz:(r2==0)=false:=by simpa using hr
     go_wp2_with (go_at_call 35;refine(HL2.out _ _ ex ht1 _ ex).mono ?_;rintro e w' ⟨D,K,rfl,hx,hl⟩;have HLa:=zh hl;obtain⟨ye,rfl⟩:=hx.get;clear hx hl);go_light;exact⟨⟨ex,.inr (.inr ⟨rfl,hr1,hr⟩)⟩,by simp[intOf]⟩
   ·go_wp2
    (first|go_end0|(refine bodyPost_ret (results_none rfl _ _ _) rfl ?_))
    rw[HV.out,if_neg hr1,if_neg hr2];exact⟨rfl,zac (Ext.grown ex _) (zac ht1.grown (Ext.grown (x12.trans ex) _)),_,_,_,_,⟨((ht1.ext (HC.out.ext.trans ex) HC.out.ge).trans x12).trans ex,HC.out.ge,hb2.mono ex,(((HC.out.qa.mono ex).turn ht1).mono x12).mono ex,(((HC.out.qb.mono ex).turn ht1).mono x12).mono ex⟩⟩
end

section
variable {w0 W:World} {g:Nat} {w:Wld} {A B M:Option Addr} {a b m:Nat} {xs:List (Ltr×Option Addr×Nat)}
theorem zzi (h:WldC w0 W g w A a B b M m)(hm:MailM w0 W M m w.mail xs)(hn0:0≤w.now)(hn1:w.now≤1048576)(hd0:0≤w.delay)(hd1:w.delay≤8)(hcut:w.cut=false)(hlen:w.mail.length<256){d:Int}{x:Msg}{D:Option Addr}{K:Nat}(hl:LogW w0 W D x.recs.length K x.recs):Calls prog 133 #[.pointer (some ⟨g,0,none⟩),d,.agg (Lm x D K)] W (StepM w0 W g M (postW w d x)):=by
 have HC:=Lib.hid h;have HM:=zh hm;have HL:=zh hl;have hla:=(h.qa.recs h.ext (Ext.refl W)).len;have hlb:=(h.qb.recs h.ext (Ext.refl W)).len;obtain⟨q,hq⟩:∃q,min (w.now+w.delay) 1048576=q:=⟨_,rfl⟩
 have hw1:IntKind.i64.wrap (w.now+w.delay)=w.now+w.delay:=IntWalk.i64_in _ om;have hdl:decide ((w.mail.length:Int)<256)=true:=decide_eq_true om;have HV:=zh (show postW w d x=⟨w.now,w.limit,w.delay,w.cut,w.a,w.b,w.mail++[⟨d,q,x⟩]⟩ by unfold postW;rw[if_neg (fun hc=>hc.elim (fun h=>by rw[hcut] at h;cases h) (fun h=>absurd h om)),hq]);refine h.box.cB fun c0 c1 c2 c3 c4 c5 c6 c7 c8 c9 c10 c11 c12 c13 c14 c15 c16 c17 c18 c19 c20=>?_;have C3:=zh hcut;rw[hcut] at c3;clear h hm hl hcut;rw[HV.out];clear HV;go_enter func133,ntmps133;go_wp2_with fail;refine zaG (fun W9 hW9=> ?_);have k12:BoxAt W9 W.heap.size (Lm x D K) 113:=by rw[hW9];exact bxA
 have x9:Ext W W9:=by rw[hW9];exact ex
 have h9:=HC.out.mono x9;clear hW9 c0 c1 c2 c3 c4 c5 c6 c7 c8 c9 c10 c11 c12 c13 c14 c15 c16 c17 c18 c19 c20;refine zaw (S:=SS 22 17 (fun w9=>BoxAt w9 g (Lw w A a B b M m) 30) (fun w9=>BoxAt w9 W.heap.size (Lm x D K) 113) (fun _=>True)) kr ⟨fun _=>h9.box.mono ex,fun _=>k12.mono ex,trivial⟩ (fun hcl hS=> ?_);refine wtk 0 rfl hcl hS ?_;clear hcl hS;intro hcl hS
 (try simp only[Act.put,lsT,lsS,lsZ])
 refine wtk 1 rfl hcl hS ?_;clear hcl hS;intro hcl hS
 (try simp only[Act.put,lsT,lsS,lsZ])
 refine wtk 2 rfl hcl hS ?_;clear hcl hS;intro hcl hS
 (try simp only[Act.put,lsT,lsS,lsZ])
 refine wtk 3 rfl hcl hS ?_;clear hcl hS;intro hcl hS
 (try simp only[Act.put,lsT,lsS,lsZ])
 refine wtg 4 (T:=(fun w9=>BoxAt w9 g (Lw w A a B b M m) 30)) ?_ rfl (fun _ _ hc hi hS=>hS.1 (hc.not (k:=22) kr hi)) ?_ hcl hS ?_;rotate_left
 ·(intro w9 hw9;(try dsimp only at hw9);have z9:=hw9.c 20 rfl;go_simp;try with_reducible rfl)
 clear hcl hS;intro hcl hS
 (try simp only[Act.put,lsT,lsS,lsZ])
 refine wtk 5 rfl hcl hS ?_;clear hcl hS;intro hcl hS
 (try simp only[Act.put,lsT,lsS,lsZ])
 refine wtk 6 rfl hcl hS ?_;clear hcl hS;intro hcl hS
 (try simp only[Act.put,lsT,lsS,lsZ])
 refine wtk 7 rfl hcl hS ?_;clear hcl hS;intro hcl hS
 (try simp only[Act.put,lsT,lsS,lsZ])
 refine wtk 8 rfl hcl hS ?_;clear hcl hS;intro hcl hS
 (try simp only[Act.put,lsT,lsS,lsZ])
 refine wtg 9 (T:=(fun w9=>BoxAt w9 g (Lw w A a B b M m) 30)) ?_ rfl (fun _ _ hc hi hS=>hS.1 (hc.not (k:=22) kr hi)) ?_ hcl hS ?_;rotate_left
 ·(intro w9 hw9;(try dsimp only at hw9);have z9:=hw9.c 0 rfl;go_simp;try with_reducible rfl)
 clear hcl hS;intro hcl hS
 (try simp only[Act.put,lsT,lsS,lsZ])
 refine wtk 10 rfl hcl hS ?_;clear hcl hS;intro hcl hS
 (try simp only[Act.put,lsT,lsS,lsZ])
 refine wtk 11 rfl hcl hS ?_;clear hcl hS;intro hcl hS
 (try simp only[Act.put,lsT,lsS,lsZ])
 refine wtk 12 rfl hcl hS ?_;clear hcl hS;intro hcl hS
 (try simp only[Act.put,lsT,lsS,lsZ])
 refine wtg 13 (T:=(fun w9=>BoxAt w9 g (Lw w A a B b M m) 30)) ?_ rfl (fun _ _ hc hi hS=>hS.1 (hc.not (k:=22) kr hi)) ?_ hcl hS ?_;rotate_left
 ·(intro w9 hw9;(try dsimp only at hw9);have z9:=hw9.c 2 rfl;go_simp;try with_reducible rfl)
 clear hcl hS;intro hcl hS
 (try simp only[Act.put,lsT,lsS,lsZ])
 refine wtk 14 rfl hcl hS ?_;clear hcl hS;intro hcl hS
 (try simp only[Act.put,lsT,lsS,lsZ])
 refine wtg 16 (T:=(fun w9=>BoxAt w9 W.heap.size (Lm x D K) 113)) ?_ rfl (fun _ _ hc hi hS=>hS.2.1 (hc.not (k:=17) kr hi)) ?_ hcl hS ?_;rotate_left
 ·(intro w9 hw9;(try dsimp only at hw9);have z0:=hw9.c 0 rfl;have z1:=hw9.c 1 rfl;have z2:=hw9.c 2 rfl;have z3:=hw9.c 3 rfl;have z4:=hw9.c 4 rfl;have z5:=hw9.c 5 rfl;go_simp;try with_reducible rfl)
 clear hcl hS;intro hcl hS
 (try simp only[Act.put,lsT,lsS,lsZ])
 refine za9 (i:=15) kr rfl rfl hcl (fun K9 hK9=> ?_);go_simp;clear hS hcl;refine hK9 _ _ ⟨fun _=>h9.box.mono ex,fun _=>k12.mono ex,trivial⟩ (fun hcl hS=> ?_);clear hK9;refine za9 (i:=17) kr rfl rfl hcl (fun K9 hK9=> ?_);go_simp;clear hS hcl;refine hK9 _ _ ⟨fun _=>h9.box.mono ex,fun hh=>absurd hh dk,trivial⟩ (fun hcl hS=> ?_);clear hK9;refine za9 (i:=18) kr rfl rfl hcl (fun K9 hK9=> ?_);go_simp;clear hS hcl;refine hK9 _ _ ⟨fun _=>h9.box.mono ex,fun hh=>absurd hh dk,trivial⟩ (fun hcl hS=> ?_);clear hK9;refine za9 (i:=19) kr rfl rfl hcl (fun K9 hK9=> ?_);clear hS hcl;refine zcw (w0:=w0) 30 (.tmp 23) (.tmp 37) 28 28 rfl 115 115 8 80 underlying28 underlying28 zoi zuA dk (h9.ext.trans ex) M w.mail.length m (xs.map ltrR) rfl ((HM.out.mono x9).own.mono ex) HM.out.room (zgy _) _ 1 1 [[d,q,x.kind,x.term,x.at_,x.before,.slice D x.recs.length K,x.acked]] rfl ((Sl.alloc' sg (by simp) (by simp)).mono (Ext.refl _).drew) rfl dk (zon [(⟨d,q,x⟩,D,K)]) (zgy [(⟨d,q,x⟩,D,K)]) (by unfold maxLen;omega) om _ rfl _ rfl ?_;intro M5 m5 V5 hx5 hown5 hk5 hs5 hgr5 hA5;have hg9:=WldC.grownM (h9.mono ex) ((HM.out.mono x9).mono ex) hgr5;refine hK9 _ _ ⟨fun _=>hg9,fun hh=>absurd hh dk,trivial⟩ (fun hcl hS=> ?_);clear hK9;refine za9 (i:=20) kr rfl rfl hcl (fun K9 hK9=> ?_);clear hS hcl;go_simp;refine hK9 _ _ ⟨fun _=>hg9,fun hh=>absurd hh dk,trivial⟩ (fun hcl hS=> ?_);clear hK9;refine za9 (i:=21) kr rfl rfl hcl (fun K9 hK9=> ?_);clear hS hcl;go_simp;refine hK9 _ _ ⟨fun _=>hg9,fun hh=>absurd hh dk,trivial⟩ (fun hcl hS=> ?_);clear hK9;refine za9 (i:=22) kr rfl rfl hcl (fun K9 hK9=> ?_);clear hS hcl;refine zdF 28 (.tmp 40) (.tmp 38) rfl hg9 20 rfl (.slice M5 (w.mail++[(⟨d,q,x⟩:Ltr)]).length m5) (by simp[Act.eval,List.length_append]) (show 20<21 by decide) (show 21<44 by decide) kr rfl [w.now,w.limit,w.delay,w.cut,w.a.node.id,w.a.node.term,w.a.node.speaks,.slice A w.a.node.log.length a,w.a.node.acked,w.a.node.next,w.a.up,w.a.quiet,w.b.node.id,w.b.node.term,w.b.node.speaks,.slice B w.b.node.log.length b,w.b.node.acked,w.b.node.next,w.b.up,w.b.quiet,.slice M5 (w.mail++[(⟨d,q,x⟩:Ltr)]).length m5] rfl ?_;intro V6 ht6 hb6;refine hK9 _ _ ⟨fun hh=>absurd hh dk,fun hh=>absurd hh dk,trivial⟩ (fun hcl hS=> ?_);clear hK9 hcl hS;refine zas kr ?_ _;go_wp2
 (first|go_end0|(refine bodyPost_ret (results_none rfl _ _ _) rfl ?_))
 obtain⟨p1,p2,p3,p4⟩:=WldC.posted (h9.mono ex) ((HM.out.mono x9).mono ex) hs5 hgr5 hx5 (y:=⟨d,q,x⟩) (D:=D) (K:=K) hown5 hk5 hA5 (HL.out.mono (x9.trans ex)) ht6 rfl hb6;exact⟨rfl,(Ext.bent (x9.trans ex) g M).trans (.inl rfl) p1,_,_,_,_,_,_,_,p2,p3,p4.imp id fun⟨c,e,hc⟩=>⟨c,e,Nat.le_trans (show Ext W _ from x9.trans ex).size hc⟩⟩
theorem zzj (h:WldC w0 W g w A a B b M m)(hm:MailM w0 W M m w.mail xs)(hno:w.cut=true∨256≤w.mail.length)(hlen:w.mail.length≤1000000){d:Int}{x:Msg}{D:Option Addr}{K:Nat}(_hl:x.recs.length≤1000000):Calls prog 133 #[.pointer (some ⟨g,0,none⟩),d,.agg (Lm x D K)] W (StepM w0 W g M (postW w d x)):=by
 have HC:=Lib.hid h;have HM:=zh hm;have hla:=(h.qa.recs h.ext (Ext.refl W)).len;have hlb:=(h.qb.recs h.ext (Ext.refl W)).len;have HV:=zh (show postW w d x=w by unfold postW;rw[if_pos hno]);refine h.box.cB fun c0 c1 c2 c3 c4 c5 c6 c7 c8 c9 c10 c11 c12 c13 c14 c15 c16 c17 c18 c19 c20=>?_;clear h hm;rw[HV.out];clear HV;cases hc:w.cut with
 |true=>
  rw[hc] at c3;clear hno;go_enter func133,ntmps133;go_wp2
  (first|go_end0|(refine bodyPost_ret (results_none rfl _ _ _) rfl ?_))
  exact⟨rfl,Ext.bent ex g M,_,_,_,_,_,_,_,HC.out.mono ex,HM.out.mono ex,.inl rfl⟩
 |false=>
  rw[hc] at c3 hno;have hdl:decide ((w.mail.length:Int)<256)=false:=by
   rcases hno with hno|hno
   ·cases hno
   ·exact decide_eq_false om
  clear hno hc;go_enter func133,ntmps133;go_wp2
  (first|go_end0|(refine bodyPost_ret (results_none rfl _ _ _) rfl ?_))
  exact⟨rfl,Ext.bent ex g M,_,_,_,_,_,_,_,HC.out.mono ex,HM.out.mono ex,.inl rfl⟩
theorem zeQ (h:WldC w0 W g w A a B b M m)(hm:MailM w0 W M m w.mail xs)(hw:WldOk w){d:Int}{x:Msg}{D:Option Addr}{K:Nat}(hl:LogW w0 W D x.recs.length K x.recs)(hx:x.recs.length≤1000000):Calls prog 133 #[.pointer (some ⟨g,0,none⟩),d,.agg (Lm x D K)] W (StepM w0 W g M (postW w d x)):=by
 by_cases hno:w.cut=true∨256≤w.mail.length
 ·exact zzj h hm hno (by have:=hw.len;omega) hx
 ·have h1:w.cut=false:=by
   cases hc:w.cut
   ·rfl
   ·exact absurd (.inl hc) hno
  have:=hw.d0;exact zzi h hm hw.n0 hw.n1 om hw.d1 h1 om hl
end

section
variable {W:World}
theorem zcH {m n:Int}(h1:1≤m)(h2:m≤16)(h3:1≤n)(h4:n≤8){v:Wld}(hv:(newW m n).1=v):Calls prog 9 #[m,n] W fun e W'=> ∃A a B b M k,e=.returned (.tuple #[.agg (Lw v A a B b M k),zI])∧Ext W W'∧WldAt W' v A a B b M k []:=by
 refine(zFj m n W).mono fun e W' h=> ?_;obtain⟨A,a,B,b,M,k,he,hx,ha,hb,hk⟩:=h;have e2:newW m n=(⟨0,m,n,false,⟨⟨1,1,true,[],0,0⟩,true,0⟩,⟨⟨2,0,false,[],0,0⟩,true,0⟩,[]⟩,0):=by unfold newW;rw[if_neg om]
 rw[e2] at hv he;subst hv;exact⟨A,a,B,b,M,k,he,hx,⟨Sl.nil _ _ _,Nat.zero_le _,ha,by simp⟩,⟨Sl.nil _ _ _,Nat.zero_le _,hb,by simp⟩,⟨Sl.nil _ _ _,Nat.zero_le _,hk,by simp⟩,rfl⟩
end
