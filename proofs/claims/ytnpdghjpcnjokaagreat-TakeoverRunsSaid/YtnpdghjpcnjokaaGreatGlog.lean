import Derived.Test.YtnpdghjpcnjokaaGreatGsam
set_option maxHeartbeats 12800000
set_option maxRecDepth 100000
namespace Go.Proofs.YtnpdghjpcnjokaaGreat
open Go.RowKit Tryz

def zdP:Edit:=⟨0,0,0,0,⟨#[]⟩,zai,none,0,none,0,0,⟨[],none,0⟩,0,⟨[],none,0⟩,⟨0,0,false,⟨[],none,0⟩⟩,⟨0,0,⟨[],none,0⟩,0,0,0⟩,noFix⟩
theorem zhZ (w:World):zeT w zdP:=⟨by decide,⟨Sl.nil _ _ _,Sl.nil _ _ _,by decide,by decide,by decide,by decide,by decide,by decide,by decide⟩,LstAt.nil,LstAt.nil,LstAt.nil,LstAt.nil,by decide,by decide⟩
theorem zpb (a:Acn)(w:World)(ha:AcnAt w a):Calls prog 163 #[.agg (acnR a).toArray] w fun e w'=>e=.returned (.int .i64 (editE a.edit))∧Ext w w':=by
 have HE:=zh ha.edit;clear ha;go_enter func163,ntmps163
 go_wp2_with (first
  |(refine wpList_load_row rfl 97 _ rfl w.heap.size 9 rfl (editR a.edit) _ (zbq (zag w rfl (acnR a) 99) rfl) underlying97 rfl kr ?_)
  |(go_at_call 164;refine zzg (zBa a.edit _ (HE.out.mono ex)) fun y=>?_))
 go_ret;exact⟨rfl,ex⟩
theorem zAW (a:Acn)(w:World)(ha:AcnAt w a):Calls prog 165 #[.agg (acnR a).toArray] w fun e w'=>e=.returned (.bool (sameE a.edit zdP))∧Ext w w':=by
 have HE:=zh ha.edit;clear ha;go_enter func165,ntmps165
 go_wp2_with (first
  |(refine wpList_load_row rfl 97 _ rfl w.heap.size 9 rfl (editR a.edit) _ (zbq (zag w rfl (acnR a) 99) rfl) underlying97 rfl kr ?_)
  |(go_at_call 117;refine zzg (zzK a.edit zdP _ (HE.out.mono ex) (zhZ _)) fun y=>?_))
 go_ret;exact⟨rfl,ex⟩

def zf8:List Value:=[(Value.func (Fn.func 148) #[] #[]),(Value.func (Fn.func 149) #[] #[]),(Value.func (Fn.func 150) #[] #[]),(Value.func (Fn.func 152) #[] #[]),(Value.func (Fn.func 153) #[] #[]),(Value.func (Fn.func 154) #[] #[]),(Value.func (Fn.func 155) #[] #[]),(Value.func (Fn.func 156) #[] #[]),(Value.func (Fn.func 157) #[] #[]),(Value.func (Fn.func 158) #[] #[]),(Value.func (Fn.func 159) #[] #[]),(Value.func (Fn.func 160) #[] #[]),(Value.func (Fn.func 161) #[] #[]),(Value.func (Fn.func 162) #[] #[]),(Value.func (Fn.func 163) #[] #[]),(Value.func (Fn.func 165) #[] #[])]
theorem zAU (w:World):Calls prog 114 #[] w fun e w'=>e=.returned (.agg zf8.toArray)∧Ext w w':=by
 go_enter func114,ntmps114
 go_wp2_with (first
  |(refine zah rfl 197 _ rfl [(0,.agg #[(Value.func (Fn.func 148) #[] #[]),(Value.func (Fn.func 149) #[] #[])]),(1,.agg #[(Value.func (Fn.func 150) #[] #[]),(Value.func (Fn.func 152) #[] #[])]),(2,.agg #[(Value.func (Fn.func 153) #[] #[]),(Value.func (Fn.func 154) #[] #[])]),(3,.agg #[(Value.func (Fn.func 155) #[] #[]),(Value.func (Fn.func 156) #[] #[])]),(4,.agg #[(Value.func (Fn.func 157) #[] #[]),(Value.func (Fn.func 158) #[] #[])]),(5,.agg #[(Value.func (Fn.func 159) #[] #[]),(Value.func (Fn.func 160) #[] #[])]),(6,.agg #[(Value.func (Fn.func 161) #[] #[]),(Value.func (Fn.func 162) #[] #[])]),(7,.agg #[(Value.func (Fn.func 163) #[] #[]),(Value.func (Fn.func 165) #[] #[])])] rfl #[(Value.func (Fn.func 148) #[] #[]),(Value.func (Fn.func 149) #[] #[]),(Value.func (Fn.func 150) #[] #[]),(Value.func (Fn.func 152) #[] #[]),(Value.func (Fn.func 153) #[] #[]),(Value.func (Fn.func 154) #[] #[]),(Value.func (Fn.func 155) #[] #[]),(Value.func (Fn.func 156) #[] #[]),(Value.func (Fn.func 157) #[] #[]),(Value.func (Fn.func 158) #[] #[]),(Value.func (Fn.func 159) #[] #[]),(Value.func (Fn.func 160) #[] #[]),(Value.func (Fn.func 161) #[] #[]),(Value.func (Fn.func 162) #[] #[]),(Value.func (Fn.func 163) #[] #[]),(Value.func (Fn.func 165) #[] #[])] kr ?_)
  |(refine za7 rfl 197 (.tmp 0) (.tmp 9) rfl rfl rfl [(Value.func (Fn.func 148) #[] #[]),(Value.func (Fn.func 149) #[] #[]),(Value.func (Fn.func 150) #[] #[]),(Value.func (Fn.func 152) #[] #[]),(Value.func (Fn.func 153) #[] #[]),(Value.func (Fn.func 154) #[] #[]),(Value.func (Fn.func 155) #[] #[]),(Value.func (Fn.func 156) #[] #[]),(Value.func (Fn.func 157) #[] #[]),(Value.func (Fn.func 158) #[] #[]),(Value.func (Fn.func 159) #[] #[]),(Value.func (Fn.func 160) #[] #[]),(Value.func (Fn.func 161) #[] #[]),(Value.func (Fn.func 162) #[] #[]),(Value.func (Fn.func 163) #[] #[]),(Value.func (Fn.func 165) #[] #[])] rfl rfl kr (by simp[Value.oneCell']) ?_))
 refine bodyPost_ret (v:=.agg zf8.toArray) ?_ rfl ⟨rfl,ex⟩;simp[results,results114,Act.put,asAddr];exact run_loadVar_mid _ _ _ _ zf8 _ (zag w rfl zf8 197) underlying197 rfl kr

def usesV (k:Int):Int:=usesL.getD k.toNat 0
def useB (k:Int) (i:Nat):Bool:=!(bits BinOp.and IntKind.i64 (usesV k / 2 ^ i) 1==0)
def zdG (a:Acn):List Int:=[inE a.target 1 1048576,numE a.cue,zbo a.kind a.level,inE a.time 0 10000000,setE a.entries.l,parsE a.params.l,zb3 a.chans.l,editE a.edit]
noncomputable def zg6 (a:Acn):List Bool:=[a.target==0,a.cue.toList.isEmpty,a.level==0,a.time==0,(a.entries.l.length:Int)==0,(a.params.l.length:Int)==0,(a.chans.l.length:Int)==0,sameE a.edit zdP]
def chkS (u:Nat→Bool) (e:Nat→Int) (z:Nat→Bool):Nat→Nat→Bool→Int
 |0,_,idle=>if idle then 0 else 3
 |n+1,i,idle=>if u i then(if e i≠0 then e i else chkS u e z n (i+1) idle) else chkS u e z n (i+1) (idle && z i)
noncomputable def acnE (a:Acn):Int:=if a.kind<0∨20≤a.kind then 1 else if inE a.at_ 0 10000000≠0 then 2 else chkS (useB a.kind) (fun i=>(zdG a).getD i 0) (fun i=>(zg6 a).getD i true) 8 0 true

theorem chkS_use {u:Nat→Bool}{e:Nat→Int}{z:Nat→Bool}{n i:Nat}{b:Bool}(h:u i=true)(he:e i=0):chkS u e z (n+1) i b=chkS u e z n (i+1) b:=by rw[chkS,if_pos h,if_neg (by simpa using he)]
theorem chkS_err {u:Nat→Bool}{e:Nat→Int}{z:Nat→Bool}{n i:Nat}{b:Bool}(h:u i=true)(he:e i≠0):chkS u e z (n+1) i b=e i:=by rw[chkS,if_pos h,if_pos he]
noncomputable def chkA (a:Acn) (m k:Nat) (b:Bool):Int:=chkS (useB a.kind) (fun i=>(zdG a).getD i 0) (fun i=>(zg6 a).getD i true) m k b
theorem zmO {a:Acn}{m k:Nat}{b z:Bool}(h:useB a.kind k=false)(hz:(zg6 a).getD k true=z):chkA a (m+1) k b=chkA a m (k+1) (b && z):=by subst hz;unfold chkA;rw[chkS,h];rfl
theorem zhO {a:Acn}{m k:Nat}{b:Bool}(h:useB a.kind k=true)(he:(zdG a).getD k 0=0):chkA a (m+1) k b=chkA a m (k+1) b:=chkS_use h he
theorem zhN {a:Acn}{m k:Nat}{b:Bool}{e:Int}(h:useB a.kind k=true)(he:(zdG a).getD k 0=e)(h0:e≠0):chkA a (m+1) k b=e:=by subst he;exact chkS_err h h0
theorem zFH {k:Int}(h0:0≤k)(h1:k<20):(usesL.map (Value.int .i64))[k.toNat]?=some (.int .i64 (usesV k)):=by
 unfold usesV;rw[List.getElem?_map,List.getD_eq_getElem?_getD];have h:k.toNat<usesL.length:=by show k.toNat<20;omega
 rw[List.getElem?_eq_getElem h];rfl
theorem zrj (a:Acn)(w:World)(h:a.kind<0∨20≤a.kind):Calls prog 85 #[.agg (acnR a).toArray] w fun e w'=>e=.returned (.int .i64 (acnE a))∧Ext w w':=by
 have HV:=zh (show acnE a=1 by unfold acnE;rw[if_pos h]);rcases(by omega:a.kind<0∨(0≤a.kind∧20≤a.kind)) with h'|⟨h',h''⟩
 all_goals
  clear h;go_enter func85,ntmps85;go_wp2_with (first|(go_at_call 112;refine zzg (zt2 _) fun y=>?_)|(refine za7 rfl 192 (.tmp 3) (.tmp 9) rfl rfl sg [.int .i64 1,.int .i64 3,.int .i64 1,.int .i64 1,.int .i64 1,.int .i64 1,.int .i64 5,.int .i64 13,.int .i64 9,.int .i64 13,.int .i64 12,.int .i64 4,.int .i64 24,.int .i64 32,.int .i64 65,.int .i64 5,.int .i64 1,.int .i64 128,zI,zI] rfl rfl kr (by simp[Value.oneCell']) ?_));go_ret;exact⟨ret_i HV.out.symm,ex⟩
theorem zuY (a:Acn)(w:World)(h0:0≤a.kind)(h1:a.kind<20)(h:inE a.at_ 0 10000000≠0):Calls prog 85 #[.agg (acnR a).toArray] w fun e w'=>e=.returned (.int .i64 (acnE a))∧Ext w w':=by
 have hz:(inE a.at_ 0 10000000 !=0)=true:=by simpa using h
 have HV:=zh (show acnE a=inE a.at_ 0 10000000 by have:=zhV a.at_ 0 10000000;unfold acnE;rw[if_neg om,if_pos h];omega)
 clear h;go_enter func85,ntmps85;go_wp2_with (first|(go_at_call 112;refine zzg (zt2 _) fun y=>?_)|(go_at_call 113;refine(zmN _ _ _ _).mono ?_;rintro e w' ⟨rfl,rfl⟩)|(refine za7 rfl 192 (.tmp 3) (.tmp 9) rfl rfl sg [.int .i64 1,.int .i64 3,.int .i64 1,.int .i64 1,.int .i64 1,.int .i64 1,.int .i64 5,.int .i64 13,.int .i64 9,.int .i64 13,.int .i64 12,.int .i64 4,.int .i64 24,.int .i64 32,.int .i64 65,.int .i64 5,.int .i64 1,.int .i64 128,zI,zI] rfl rfl kr (by simp[Value.oneCell']) ?_));go_ret;exact⟨ret_i HV.out.symm,ex⟩
theorem zuZ (a:Acn)(w:World)(ha:AcnAt w a)(h0:0≤a.kind)(h1:a.kind<20)(h:inE a.at_ 0 10000000=0):Calls prog 85 #[.agg (acnR a).toArray] w fun e w'=>e=.returned (.int .i64 (acnE a))∧Ext w w':=by
 have HA:=zh ha;have hz:(inE a.at_ 0 10000000 !=0)=false:=by simpa using h
 have HV:=zh (show acnE a=chkA a 8 0 true by unfold acnE;rw[if_neg om,if_neg (by simpa using h)];rfl);have HU:=zh (zFH h0 h1);clear h ha;obtain⟨v,hv⟩:∃v,usesV a.kind=v:=⟨_,rfl⟩
 have HUV:=zh hv;clear hv;go_enter func85,ntmps85
 go_wp2_with (first
  |(go_at_call 112;refine zzg (zt2 _) fun yu=>?_)
  |(go_at_call 113;refine(zmN _ _ _ _).mono ?_;rintro e w' ⟨rfl,rfl⟩)
  |(refine za7 rfl 192 (.tmp 3) (.tmp 9) rfl rfl sg [.int .i64 1,.int .i64 3,.int .i64 1,.int .i64 1,.int .i64 1,.int .i64 1,.int .i64 5,.int .i64 13,.int .i64 9,.int .i64 13,.int .i64 12,.int .i64 4,.int .i64 24,.int .i64 32,.int .i64 65,.int .i64 5,.int .i64 1,.int .i64 128,zI,zI] rfl rfl kr (by simp[Value.oneCell']) ?_)
  |(go_at_call 114;refine(zAU _).mono ?_;rintro r w1 ⟨rfl,hx⟩;have HX:=zh hx;have HR:=zh (za4 (zag w rfl (acnR a) 99) (Ext.trans ex hx));have c1:w1.cell? ⟨w.heap.size,1,none⟩=some (.int .i64 a.kind):=hx.cell sg;have cu:w1.cell? ⟨w.heap.size+1+yu.n,a.kind.toNat,none⟩=some (.int .i64 v):=(by rw[←HUV.out];have hr:=za4 (zag (xt (w.alloc (.cells (acnR a).toArray 99)) yu) (b:=w.heap.size+1+yu.n) sg (usesL.map (Value.int .i64)) 192) hx;have hg:=hr _ _ HU.out;rwa [Nat.zero_add] at hg);clear hx))
 have hxw:Ext w w1:=Ext.trans ex HX.out;clear HX;go_loopw [5,25] (fun s i wr=> ∃(k m:Nat) (b:Bool),k+m=8∧i=.int .i64 k∧s=.bool b∧Ext w1 wr∧Hid (acnE a=chkA a m k b)) (fun _ i _=>8 - (intOf i).toNat)
 case atStart => exact ⟨0,8,true,rfl,rfl,rfl,Ext.refl _,HV⟩
 case round =>
  obtain⟨k,m,b,hk,rfl,rfl,hx,HB⟩:=hrel;obtain⟨y,rfl⟩:=hx.get;clear hx HV
  match k,hk with
  |0,hk=>
   obtain rfl:m=8:=by omega
   clear hk;have i0:∀w,(Instr.index 197 (.agg zf8.toArray) (.int .i64 0)).run prog w=.ok (.agg #[(Value.func (Fn.func 148) #[] #[]),(Value.func (Fn.func 149) #[] #[])]) w:=fun _=>by kernel_rfl
   have hT:(bits BinOp.and IntKind.i64 (v) 1==0)= !useB a.kind 0:=by unfold useB;rw[HUV.out,Bool.not_not];first|rfl|simp
   cases hu:useB a.kind 0
   ·rw[hu] at hT;simp only[Bool.not_false] at hT;have HN:=zh (zmO (m:=7) (b:=b) hu (show(zg6 a).getD 0 true=(a.target==0) from rfl));clear hu;cases b
    ·go_wp2;go_light;exact⟨⟨1,7,false,rfl,by rfl,rfl,ex,zh (HB.out.trans HN.out)⟩,by simp[intOf]⟩
    ·go_wp2_with (first|(refine wpList_load_row rfl 99 _ rfl w.heap.size 0 rfl (acnR a) _ (za4 HR.out ex) underlying99 rfl kr ?_)|(go_at_call 149;refine zzg (zCM a _) fun y=>?_));go_light;exact⟨⟨1,7,_,rfl,by rfl,rfl,ex,zh (HB.out.trans HN.out)⟩,by simp[intOf]⟩
   ·rw[hu] at hT;simp only[Bool.not_true] at hT;by_cases he:inE a.target 1 1048576=0
    ·have hz1:(inE a.target 1 1048576 !=0)=false:=by simpa using he
     have HN:=zh (zhO (m:=7) (b:=b) hu (show(zdG a).getD 0 0=0 from he));clear he hu;go_wp2_with (first|(refine wpList_load_row rfl 99 _ rfl w.heap.size 0 rfl (acnR a) _ (za4 HR.out ex) underlying99 rfl kr ?_)|(go_at_call 148;refine zzg (zrK a _) fun y=>?_));go_light;exact⟨⟨1,7,b,rfl,by rfl,rfl,ex,zh (HB.out.trans HN.out)⟩,by simp[intOf]⟩
    ·have hz1:(inE a.target 1 1048576 !=0)=true:=by simpa using he
     have HN:=zh (HB.out.trans (zhN (m:=7) (b:=b) hu (show(zdG a).getD 0 0=inE a.target 1 1048576 from rfl) he));clear he hu;go_wp2_with (first|(refine wpList_load_row rfl 99 _ rfl w.heap.size 0 rfl (acnR a) _ (za4 HR.out ex) underlying99 rfl kr ?_)|(go_at_call 148;refine zzg (zrK a _) fun y=>?_));go_ret;exact⟨ret_i HN.out.symm,ex⟩
  |1,hk=>
   obtain rfl:m=7:=by omega
   clear hk;have i0:∀w,(Instr.index 197 (.agg zf8.toArray) (.int .i64 1)).run prog w=.ok (.agg #[(Value.func (Fn.func 150) #[] #[]),(Value.func (Fn.func 152) #[] #[])]) w:=fun _=>by kernel_rfl
   have hT:(bits BinOp.and IntKind.i64 (v / 2) 1==0)= !useB a.kind 1:=by unfold useB;rw[HUV.out,Bool.not_not];rfl
   cases hu:useB a.kind 1
   ·rw[hu] at hT;simp only[Bool.not_false] at hT;have HN:=zh (zmO (m:=6) (b:=b) hu (show(zg6 a).getD 1 true=a.cue.toList.isEmpty from rfl));clear hu;cases b
    ·go_wp2;go_light;exact⟨⟨2,6,false,rfl,by rfl,rfl,ex,zh (HB.out.trans HN.out)⟩,by simp[intOf]⟩
    ·go_wp2_with (first|(refine wpList_load_row rfl 99 _ rfl w.heap.size 0 rfl (acnR a) _ (za4 HR.out ex) underlying99 rfl kr ?_)|(go_at_call 152;refine zzg (zCN a _) fun y=>?_));go_light;exact⟨⟨2,6,_,rfl,by rfl,rfl,ex,zh (HB.out.trans HN.out)⟩,by simp[intOf]⟩
   ·rw[hu] at hT;simp only[Bool.not_true] at hT;by_cases he:numE a.cue=0
    ·have hz1:(numE a.cue !=0)=false:=by simpa using he
     have HN:=zh (zhO (m:=6) (b:=b) hu (show(zdG a).getD 1 0=0 from he));clear he hu;go_wp2_with (first|(refine wpList_load_row rfl 99 _ rfl w.heap.size 0 rfl (acnR a) _ (za4 HR.out ex) underlying99 rfl kr ?_)|(go_at_call 150;refine zzg (zrL a _ HA.out.cue) fun y=>?_));go_light;exact⟨⟨2,6,b,rfl,by rfl,rfl,ex,zh (HB.out.trans HN.out)⟩,by simp[intOf]⟩
    ·have hz1:(numE a.cue !=0)=true:=by simpa using he
     have HN:=zh (HB.out.trans (zhN (m:=6) (b:=b) hu (show(zdG a).getD 1 0=numE a.cue from rfl) he));clear he hu;go_wp2_with (first|(refine wpList_load_row rfl 99 _ rfl w.heap.size 0 rfl (acnR a) _ (za4 HR.out ex) underlying99 rfl kr ?_)|(go_at_call 150;refine zzg (zrL a _ HA.out.cue) fun y=>?_));go_ret;exact⟨ret_i HN.out.symm,ex⟩
  |2,hk=>
   obtain rfl:m=6:=by omega
   clear hk;have i0:∀w,(Instr.index 197 (.agg zf8.toArray) (.int .i64 2)).run prog w=.ok (.agg #[(Value.func (Fn.func 153) #[] #[]),(Value.func (Fn.func 154) #[] #[])]) w:=fun _=>by kernel_rfl
   have hT:(bits BinOp.and IntKind.i64 (v / 4) 1==0)= !useB a.kind 2:=by unfold useB;rw[HUV.out,Bool.not_not];rfl
   cases hu:useB a.kind 2
   ·rw[hu] at hT;simp only[Bool.not_false] at hT;have HN:=zh (zmO (m:=5) (b:=b) hu (show(zg6 a).getD 2 true=(a.level==0) from rfl));clear hu;cases b
    ·go_wp2;go_light;exact⟨⟨3,5,false,rfl,by rfl,rfl,ex,zh (HB.out.trans HN.out)⟩,by simp[intOf]⟩
    ·go_wp2_with (first|(refine wpList_load_row rfl 99 _ rfl w.heap.size 0 rfl (acnR a) _ (za4 HR.out ex) underlying99 rfl kr ?_)|(go_at_call 154;refine zzg (zCO a _) fun y=>?_));go_light;exact⟨⟨3,5,_,rfl,by rfl,rfl,ex,zh (HB.out.trans HN.out)⟩,by simp[intOf]⟩
   ·rw[hu] at hT;simp only[Bool.not_true] at hT;by_cases he:zbo a.kind a.level=0
    ·have hz1:(zbo a.kind a.level !=0)=false:=by simpa using he
     have HN:=zh (zhO (m:=5) (b:=b) hu (show(zdG a).getD 2 0=0 from he));clear he hu;go_wp2_with (first|(refine wpList_load_row rfl 99 _ rfl w.heap.size 0 rfl (acnR a) _ (za4 HR.out ex) underlying99 rfl kr ?_)|(go_at_call 153;refine zzg (zrN a _) fun y=>?_));go_light;exact⟨⟨3,5,b,rfl,by rfl,rfl,ex,zh (HB.out.trans HN.out)⟩,by simp[intOf]⟩
    ·have hz1:(zbo a.kind a.level !=0)=true:=by simpa using he
     have HN:=zh (HB.out.trans (zhN (m:=5) (b:=b) hu (show(zdG a).getD 2 0=zbo a.kind a.level from rfl) he));clear he hu;go_wp2_with (first|(refine wpList_load_row rfl 99 _ rfl w.heap.size 0 rfl (acnR a) _ (za4 HR.out ex) underlying99 rfl kr ?_)|(go_at_call 153;refine zzg (zrN a _) fun y=>?_));go_ret;exact⟨ret_i HN.out.symm,ex⟩
  |3,hk=>
   obtain rfl:m=5:=by omega
   clear hk;have i0:∀w,(Instr.index 197 (.agg zf8.toArray) (.int .i64 3)).run prog w=.ok (.agg #[(Value.func (Fn.func 155) #[] #[]),(Value.func (Fn.func 156) #[] #[])]) w:=fun _=>by kernel_rfl
   have hT:(bits BinOp.and IntKind.i64 (v / 8) 1==0)= !useB a.kind 3:=by unfold useB;rw[HUV.out,Bool.not_not];rfl
   cases hu:useB a.kind 3
   ·rw[hu] at hT;simp only[Bool.not_false] at hT;have HN:=zh (zmO (m:=4) (b:=b) hu (show(zg6 a).getD 3 true=(a.time==0) from rfl));clear hu;cases b
    ·go_wp2;go_light;exact⟨⟨4,4,false,rfl,by rfl,rfl,ex,zh (HB.out.trans HN.out)⟩,by simp[intOf]⟩
    ·go_wp2_with (first|(refine wpList_load_row rfl 99 _ rfl w.heap.size 0 rfl (acnR a) _ (za4 HR.out ex) underlying99 rfl kr ?_)|(go_at_call 156;refine zzg (zCP a _) fun y=>?_));go_light;exact⟨⟨4,4,_,rfl,by rfl,rfl,ex,zh (HB.out.trans HN.out)⟩,by simp[intOf]⟩
   ·rw[hu] at hT;simp only[Bool.not_true] at hT;by_cases he:inE a.time 0 10000000=0
    ·have hz1:(inE a.time 0 10000000 !=0)=false:=by simpa using he
     have HN:=zh (zhO (m:=4) (b:=b) hu (show(zdG a).getD 3 0=0 from he));clear he hu;go_wp2_with (first|(refine wpList_load_row rfl 99 _ rfl w.heap.size 0 rfl (acnR a) _ (za4 HR.out ex) underlying99 rfl kr ?_)|(go_at_call 155;refine zzg (zrM a _) fun y=>?_));go_light;exact⟨⟨4,4,b,rfl,by rfl,rfl,ex,zh (HB.out.trans HN.out)⟩,by simp[intOf]⟩
    ·have hz1:(inE a.time 0 10000000 !=0)=true:=by simpa using he
     have HN:=zh (HB.out.trans (zhN (m:=4) (b:=b) hu (show(zdG a).getD 3 0=inE a.time 0 10000000 from rfl) he));clear he hu;go_wp2_with (first|(refine wpList_load_row rfl 99 _ rfl w.heap.size 0 rfl (acnR a) _ (za4 HR.out ex) underlying99 rfl kr ?_)|(go_at_call 155;refine zzg (zrM a _) fun y=>?_));go_ret;exact⟨ret_i HN.out.symm,ex⟩
  |4,hk=>
   obtain rfl:m=4:=by omega
   clear hk;have i0:∀w,(Instr.index 197 (.agg zf8.toArray) (.int .i64 4)).run prog w=.ok (.agg #[(Value.func (Fn.func 157) #[] #[]),(Value.func (Fn.func 158) #[] #[])]) w:=fun _=>by kernel_rfl
   have hT:(bits BinOp.and IntKind.i64 (v / 16) 1==0)= !useB a.kind 4:=by unfold useB;rw[HUV.out,Bool.not_not];rfl
   cases hu:useB a.kind 4
   ·rw[hu] at hT;simp only[Bool.not_false] at hT;have HN:=zh (zmO (m:=3) (b:=b) hu (show(zg6 a).getD 4 true=((a.entries.l.length:Int)==0) from rfl));clear hu;cases b
    ·go_wp2;go_light;exact⟨⟨5,3,false,rfl,by rfl,rfl,ex,zh (HB.out.trans HN.out)⟩,by simp[intOf]⟩
    ·go_wp2_with (first|(refine wpList_load_row rfl 99 _ rfl w.heap.size 0 rfl (acnR a) _ (za4 HR.out ex) underlying99 rfl kr ?_)|(go_at_call 158;refine zzg (zCQ a _) fun y=>?_));go_light;exact⟨⟨5,3,_,rfl,by rfl,rfl,ex,zh (HB.out.trans HN.out)⟩,by simp[intOf]⟩
   ·rw[hu] at hT;simp only[Bool.not_true] at hT;by_cases he:setE a.entries.l=0
    ·have hz1:(setE a.entries.l !=0)=false:=by simpa using he
     have HN:=zh (zhO (m:=3) (b:=b) hu (show(zdG a).getD 4 0=0 from he));clear he hu;go_wp2_with (first|(refine wpList_load_row rfl 99 _ rfl w.heap.size 0 rfl (acnR a) _ (za4 HR.out ex) underlying99 rfl kr ?_)|(go_at_call 157;refine zzg (zCL a _ (HA.out.mono ex)) fun y=>?_));go_light;exact⟨⟨5,3,b,rfl,by rfl,rfl,ex,zh (HB.out.trans HN.out)⟩,by simp[intOf]⟩
    ·have hz1:(setE a.entries.l !=0)=true:=by simpa using he
     have HN:=zh (HB.out.trans (zhN (m:=3) (b:=b) hu (show(zdG a).getD 4 0=setE a.entries.l from rfl) he));clear he hu;go_wp2_with (first|(refine wpList_load_row rfl 99 _ rfl w.heap.size 0 rfl (acnR a) _ (za4 HR.out ex) underlying99 rfl kr ?_)|(go_at_call 157;refine zzg (zCL a _ (HA.out.mono ex)) fun y=>?_));go_ret;exact⟨ret_i HN.out.symm,ex⟩
  |5,hk=>
   obtain rfl:m=3:=by omega
   clear hk;have i0:∀w,(Instr.index 197 (.agg zf8.toArray) (.int .i64 5)).run prog w=.ok (.agg #[(Value.func (Fn.func 159) #[] #[]),(Value.func (Fn.func 160) #[] #[])]) w:=fun _=>by kernel_rfl
   have hT:(bits BinOp.and IntKind.i64 (v / 32) 1==0)= !useB a.kind 5:=by unfold useB;rw[HUV.out,Bool.not_not];rfl
   cases hu:useB a.kind 5
   ·rw[hu] at hT;simp only[Bool.not_false] at hT;have HN:=zh (zmO (m:=2) (b:=b) hu (show(zg6 a).getD 5 true=((a.params.l.length:Int)==0) from rfl));clear hu;cases b
    ·go_wp2;go_light;exact⟨⟨6,2,false,rfl,by rfl,rfl,ex,zh (HB.out.trans HN.out)⟩,by simp[intOf]⟩
    ·go_wp2_with (first|(refine wpList_load_row rfl 99 _ rfl w.heap.size 0 rfl (acnR a) _ (za4 HR.out ex) underlying99 rfl kr ?_)|(go_at_call 160;refine zzg (zCR a _) fun y=>?_));go_light;exact⟨⟨6,2,_,rfl,by rfl,rfl,ex,zh (HB.out.trans HN.out)⟩,by simp[intOf]⟩
   ·rw[hu] at hT;simp only[Bool.not_true] at hT;by_cases he:parsE a.params.l=0
    ·have hz1:(parsE a.params.l !=0)=false:=by simpa using he
     have HN:=zh (zhO (m:=2) (b:=b) hu (show(zdG a).getD 5 0=0 from he));clear he hu;go_wp2_with (first|(refine wpList_load_row rfl 99 _ rfl w.heap.size 0 rfl (acnR a) _ (za4 HR.out ex) underlying99 rfl kr ?_)|(go_at_call 159;refine zzg (zpc a _ (HA.out.mono ex)) fun y=>?_));go_light;exact⟨⟨6,2,b,rfl,by rfl,rfl,ex,zh (HB.out.trans HN.out)⟩,by simp[intOf]⟩
    ·have hz1:(parsE a.params.l !=0)=true:=by simpa using he
     have HN:=zh (HB.out.trans (zhN (m:=2) (b:=b) hu (show(zdG a).getD 5 0=parsE a.params.l from rfl) he));clear he hu;go_wp2_with (first|(refine wpList_load_row rfl 99 _ rfl w.heap.size 0 rfl (acnR a) _ (za4 HR.out ex) underlying99 rfl kr ?_)|(go_at_call 159;refine zzg (zpc a _ (HA.out.mono ex)) fun y=>?_));go_ret;exact⟨ret_i HN.out.symm,ex⟩
  |6,hk=>
   obtain rfl:m=2:=by omega
   clear hk;have i0:∀w,(Instr.index 197 (.agg zf8.toArray) (.int .i64 6)).run prog w=.ok (.agg #[(Value.func (Fn.func 161) #[] #[]),(Value.func (Fn.func 162) #[] #[])]) w:=fun _=>by kernel_rfl
   have hT:(bits BinOp.and IntKind.i64 (v / 64) 1==0)= !useB a.kind 6:=by unfold useB;rw[HUV.out,Bool.not_not];rfl
   cases hu:useB a.kind 6
   ·rw[hu] at hT;simp only[Bool.not_false] at hT;have HN:=zh (zmO (m:=1) (b:=b) hu (show(zg6 a).getD 6 true=((a.chans.l.length:Int)==0) from rfl));clear hu;cases b
    ·go_wp2;go_light;exact⟨⟨7,1,false,rfl,by rfl,rfl,ex,zh (HB.out.trans HN.out)⟩,by simp[intOf]⟩
    ·go_wp2_with (first|(refine wpList_load_row rfl 99 _ rfl w.heap.size 0 rfl (acnR a) _ (za4 HR.out ex) underlying99 rfl kr ?_)|(go_at_call 162;refine zzg (zAV a _) fun y=>?_));go_light;exact⟨⟨7,1,_,rfl,by rfl,rfl,ex,zh (HB.out.trans HN.out)⟩,by simp[intOf]⟩
   ·rw[hu] at hT;simp only[Bool.not_true] at hT;by_cases he:zb3 a.chans.l=0
    ·have hz1:(zb3 a.chans.l !=0)=false:=by simpa using he
     have HN:=zh (zhO (m:=1) (b:=b) hu (show(zdG a).getD 6 0=0 from he));clear he hu;go_wp2_with (first|(refine wpList_load_row rfl 99 _ rfl w.heap.size 0 rfl (acnR a) _ (za4 HR.out ex) underlying99 rfl kr ?_)|(go_at_call 161;refine zzg (zCK a _ (HA.out.mono ex)) fun y=>?_));go_light;exact⟨⟨7,1,b,rfl,by rfl,rfl,ex,zh (HB.out.trans HN.out)⟩,by simp[intOf]⟩
    ·have hz1:(zb3 a.chans.l !=0)=true:=by simpa using he
     have HN:=zh (HB.out.trans (zhN (m:=1) (b:=b) hu (show(zdG a).getD 6 0=zb3 a.chans.l from rfl) he));clear he hu;go_wp2_with (first|(refine wpList_load_row rfl 99 _ rfl w.heap.size 0 rfl (acnR a) _ (za4 HR.out ex) underlying99 rfl kr ?_)|(go_at_call 161;refine zzg (zCK a _ (HA.out.mono ex)) fun y=>?_));go_ret;exact⟨ret_i HN.out.symm,ex⟩
  |7,hk=>
   obtain rfl:m=1:=by omega
   clear hk;have i0:∀w,(Instr.index 197 (.agg zf8.toArray) (.int .i64 7)).run prog w=.ok (.agg #[(Value.func (Fn.func 163) #[] #[]),(Value.func (Fn.func 165) #[] #[])]) w:=fun _=>by kernel_rfl
   have hT:(bits BinOp.and IntKind.i64 (v / 128) 1==0)= !useB a.kind 7:=by unfold useB;rw[HUV.out,Bool.not_not];rfl
   cases hu:useB a.kind 7
   ·rw[hu] at hT;simp only[Bool.not_false] at hT;have HN:=zh (zmO (m:=0) (b:=b) hu (show(zg6 a).getD 7 true=sameE a.edit zdP from rfl));clear hu;cases b
    ·go_wp2;go_light;exact⟨⟨8,0,false,rfl,by rfl,rfl,ex,zh (HB.out.trans HN.out)⟩,by simp[intOf]⟩
    ·go_wp2_with (first|(refine wpList_load_row rfl 99 _ rfl w.heap.size 0 rfl (acnR a) _ (za4 HR.out ex) underlying99 rfl kr ?_)|(go_at_call 165;refine zzg (zAW a _ (HA.out.mono ex)) fun y=>?_));go_light;exact⟨⟨8,0,_,rfl,by rfl,rfl,ex,zh (HB.out.trans HN.out)⟩,by simp[intOf]⟩
   ·rw[hu] at hT;simp only[Bool.not_true] at hT;by_cases he:editE a.edit=0
    ·have hz1:(editE a.edit !=0)=false:=by simpa using he
     have HN:=zh (zhO (m:=0) (b:=b) hu (show(zdG a).getD 7 0=0 from he));clear he hu;go_wp2_with (first|(refine wpList_load_row rfl 99 _ rfl w.heap.size 0 rfl (acnR a) _ (za4 HR.out ex) underlying99 rfl kr ?_)|(go_at_call 163;refine zzg (zpb a _ (HA.out.mono ex)) fun y=>?_));go_light;exact⟨⟨8,0,b,rfl,by rfl,rfl,ex,zh (HB.out.trans HN.out)⟩,by simp[intOf]⟩
    ·have hz1:(editE a.edit !=0)=true:=by simpa using he
     have HN:=zh (HB.out.trans (zhN (m:=0) (b:=b) hu (show(zdG a).getD 7 0=editE a.edit from rfl) he));clear he hu;go_wp2_with (first|(refine wpList_load_row rfl 99 _ rfl w.heap.size 0 rfl (acnR a) _ (za4 HR.out ex) underlying99 rfl kr ?_)|(go_at_call 163;refine zzg (zpb a _ (HA.out.mono ex)) fun y=>?_));go_ret;exact⟨ret_i HN.out.symm,ex⟩
  |8,hk=>
   obtain rfl:m=0:=by omega
   clear hk;cases b
   ·have HN:=zh (show acnE a=3 from HB.out);go_wp2;go_ret;exact⟨ret_i HN.out.symm,ex⟩
   ·have HN:=zh (show acnE a=0 from HB.out);go_wp2;go_ret;exact⟨ret_i HN.out.symm,ex⟩
  |k+9,hk=>exact absurd hk om
theorem zan (a:Acn)(w:World)(ha:AcnAt w a):Calls prog 85 #[.agg (acnR a).toArray] w fun e w'=>e=.returned (.int .i64 (acnE a))∧Ext w w':=by
 by_cases h:a.kind<0∨20≤a.kind
 ·exact zrj a w h
 ·by_cases h2:inE a.at_ 0 10000000=0
  ·exact zuZ a w ha om om h2
  ·exact zuY a w om om h2

structure LogAt (w : World) (A : Option Addr) (c : Nat) (l : List Acn) : Prop where
 sl:Sl w A 44 (l.map acnR)
 le:l.length≤c
 cap:c≤maxLen
 el:∀a∈l,AcnAt w a
noncomputable def acnS (q:Option Acn) (a:Acn):Int:=if acnE a≠0 then acnE a else match q with|some p=>if a.at_<p.at_ then 9 else 0|none=>0
noncomputable def logE (l:List Acn):Int:=if 256<l.length then 5 else scan acnS none l
def zat (l:List Acn) (t:Int):Nat:=(l.takeWhile fun a=>decide (a.at_≤t)).length
def idxF (l:List Acn) (t:Int):Int:=if zat l t=l.length then -1 else(zat l t:Int)

theorem zt0 {a:Acn}(h:acnE a=0):0≤a.at_∧a.at_≤10000000:=by
 unfold acnE at h;split at h
 ·omega
 ·split at h
  ·omega
  ·rename_i h2;unfold inE at h2;split at h2<;>omega
noncomputable def zfe (l:List Acn) (t:Int):Int×Int:=if logE l≠0 then(0,logE l) else((zat l t:Int),0)
theorem Own.older {w0 w0' w:World}{E:TypeId}{size:Nat}{A:Option Addr}{n k:Nat}{rows:List (List Value)}(h:Own w0 w E size A n k rows)(hx:Ext w0' w0):Own w0' w E size A n k rows:=by
 refine⟨h.len,h.row,h.one,h.le,h.cap,?_⟩;rcases h.at_ with h0|⟨g,cur,h1,h2,h3,h4⟩
 ·exact .inl h0
 ·exact .inr ⟨g,cur,h1,Nat.le_trans hx.size h2,h3,h4⟩
def zbM (w0:World) (v:List Acn×Int) (e:Ending) (w':World):Prop:=∃A k,e=.returned (.tuple #[.slice A v.1.length k,v.2])∧Ext w0 w'∧Own w0 w' 99 44 A v.1.length k (v.1.map acnR)∧∀a∈v.1,AcnAt w' a
noncomputable def zbB (l:List Acn) (i k:Int):List Acn×Int:=if logE l≠0 then([],logE l) else if zat l k<zat l i then([],0) else((l.take (zat l k)).drop (zat l i),0)
attribute [local go_sem ↓] Go.wp_at_zero Go.wp_at_succ

def zdO (l:List Acn) (i:Nat) (x:Acn):List Acn:=l.take i++x::l.drop i
def zsO (w0 w:World) (A:Option Addr) (rows:List (List Value)) (n:Nat) (e:Ending) (w':World):Prop:=
 ∃A' k',e=.returned (.slice A' n k')∧Ext w0 w'∧Own w0 w' 99 44 A' n k' rows∧w.grownBy w' (A.map (·.block))

attribute [local go_sem ↓] Go.wp_at_zero Go.wp_at_succ

def isEd (a:Acn):Bool:=decide (a.kind=17∨a.kind=18∨a.kind=19)
def edAt (l:List Acn) (i:Nat):Bool:=match l[i]? with|some a=>isEd a|none=>false
def idxsE (l:List Acn) (k:Nat):List Int:=((List.range k).filter (edAt l)).map Int.ofNat
noncomputable def zgr (l:List Acn):List Int×Int:=if logE l≠0 then([],logE l) else(idxsE l l.length,0)
def zzD (w0:World) (v:List Int×Int) (e:Ending) (w':World):Prop:=∃A k,e=.returned (.tuple #[.slice A v.1.length k,v.2])∧Ext w0 w'∧Own w0 w' 3 1 A v.1.length k (v.1.map intR)
def shA (by_:Int) (a:Acn):Acn:={a with at_:=a.at_+by_}
def shOk (by_:Int) (a:Acn):Bool:=decide (-a.at_≤by_∧by_≤10000000 - a.at_)
noncomputable def zc5 (l:List Acn) (by_:Int):List Acn×Int:=if logE l≠0 then([],logE l) else if l.all (shOk by_)=true then(l.map (shA by_),0) else([],2)
def shK (l:List Acn) (by_:Int) (k:Nat):List Acn:=(l.take k).map (shA by_)++l.drop k

def Asc (l:List Acn):Prop:=l.Pairwise fun a b=>a.at_≤b.at_
def cntL (l:List Acn) (t:Int):Nat:=(l.filter fun a=>decide (a.at_≤t)).length
def btwL (l:List Acn) (i k:Int):List Acn:=l.filter fun a=>decide (i<a.at_∧a.at_≤k)
def insL (l:List Acn) (a:Acn):List Acn:=l.take (zat l a.at_)++a::l.drop (zat l a.at_)
