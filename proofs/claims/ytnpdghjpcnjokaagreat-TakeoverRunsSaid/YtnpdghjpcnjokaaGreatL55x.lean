import Derived.Test.YtnpdghjpcnjokaaGreatL55w
import Derived.Test.YtnpdghjpcnjokaaGreatQk1
import Derived.Test.YtnpdghjpcnjokaaGreatGqj
set_option linter.all false
namespace Go.Proofs.YtnpdghjpcnjokaaGreat
set_option maxHeartbeats 25600000
set_option maxRecDepth 100000
open Go.RowKit Go.Proofs.Tryz

theorem runV_small (w:Wld)(l:List Evt)(T:Int):WldOk (runV w l T).1∨(runV w l T).1=wld0:=by
 by_cases h:gaveE w l T=0
 ·obtain⟨hok,he0,n,rfl,hn,hT⟩:=gaveE_ok h;have e:runV w l (n:Int)=(seqW l w n,0):=by unfold runV;rw[if_neg (by rw[h];simp),Int.toNat_natCast,zu5]
  rw[e];exact .inl (zhe (zei he0) hok n hT).1
 ·unfold runV;rw[if_pos h];exact .inr rfl
theorem l55_Runs (w:Wld) (A:Option Addr) (a:Nat) (B:Option Addr) (b:Nat) (M:Option Addr) (m:Nat) (xs:List (Ltr×Option Addr×Nat)) (E:Option Addr) (ce:Nat) (l:List Evt) (T:Int) (W:World) (h:WldAt W w A a B b M m xs) (hs:zbR W E ce l)
  (hr:w.a.node.log.length * 552≤140737488355328∧w.b.node.log.length * 552≤140737488355328∧w.mail.length * 80≤140737488355328∧∀x∈xs,x.1.msg.recs.length * 552≤140737488355328) (hn:l.length * 576≤140737488355328):
  Calls prog 5 #[.agg (Lw w A a B b M m),.slice E l.length ce,T] W fun e W'=>e=.returned (.bool true)∧Ext W W':=by
 have HW:=Lib.hid h;have HS:=zh hs;have HOF:=zh (fun(V:World) (hx:Ext W V)=>l55_of (h.mono hx) hr.1 hr.2.1 hr.2.2.1 hr.2.2.2);have HTO:=zh (fun(V:World) (hx:Ext W V)=>zA9 E ce l V (hs.mono hx) hn);have HFE:=zh (fun(V:World) (hx:Ext W V)=>l55_few (h.mono hx) hr.1 hr.2.1 hr.2.2.1 hr.2.2.2 E ce l (hs.mono hx) hn);clear h hs hr hn;obtain⟨v,er,hv⟩:∃v er,runV w l T=(v,er):=⟨_,_,rfl⟩
 obtain⟨os,oe,ho⟩:∃os oe,traceV w l T=(os,oe):=⟨_,_,rfl⟩
 obtain⟨bs,hbs⟩:∃bs,sameWl w v=bs:=⟨_,rfl⟩
 have HBS:=zh hbs;have HSM:=zh (show WldOk v∨v=wld0 by have:=runV_small w l T;rw[hv] at this;exact this);have HRU:=zh (fun(V:World) (hx:Ext W V)=>by have:=tak_Run_all (HW.out.mono hx) (HS.out.mono hx) T;rw[hv] at this;exact this);have HRR:=zh (fun(V:World) (A1:Option Addr) (a1:Nat) (B1:Option Addr) (b1:Nat) (M1:Option Addr) (m1:Nat) (ys:List (Ltr×Option Addr×Nat)) (D:Option Addr) (K:Nat) (g:WldAt V w A1 a1 B1 b1 M1 m1 ys) (gs:zbR V D K l)=>by have:=r55_Run g gs T;rw[hv] at this;exact this);have HTU:=zh (fun(V:World) (hx:Ext W V)=>by have:=tak_Trace_all (HW.out.mono hx) (HS.out.mono hx) T;rw[ho] at this;exact this);have HTR:=zh (fun(V:World) (A1:Option Addr) (a1:Nat) (B1:Option Addr) (b1:Nat) (M1:Option Addr) (m1:Nat) (ys:List (Ltr×Option Addr×Nat)) (D:Option Addr) (K:Nat) (g:WldAt V w A1 a1 B1 b1 M1 m1 ys) (gs:zbR V D K l)=>by have:=r55_Trace g gs T;rw[ho] at this;exact this);clear hv ho hbs;go_enter func5,ntmps5;go_wp2_with fail;go_at_call 7;refine(HFE.out _ ex).mono ?_;rintro e w' ⟨⟨bb,rfl⟩,hx⟩;obtain⟨y1,rfl⟩:=hx.get;clear hx;by_cases hq:bb=true∧(T≤40∨4096<T);rotate_left
 ·have hc:bb=false∨(bb=true∧decide (40<T)=true∧decide (T≤4096)=true):=by
   cases bb
   ·exact .inl rfl
   ·refine .inr ⟨rfl,decide_eq_true ?_,decide_eq_true ?_⟩
    ·by_cases h1:T≤40
     ·exact absurd ⟨rfl,.inl h1⟩ hq
     ·omega
    ·by_cases h1:4096<T
     ·exact absurd ⟨rfl,.inr h1⟩ hq
     ·omega
  clear hq;rcases hc with rfl|⟨rfl,hd1,hd2⟩
  all_goals
   go_wp2_with (go_at_call 8;refine zzg (zfM _) fun y=>?_);go_ret;exact⟨rfl,ex⟩
 ·obtain⟨rfl,hq⟩:=hq;have hc:decide (40<T)=false∨(decide (40<T)=true∧decide (T≤4096)=false):=by
   rcases hq with h1|h1
   ·exact .inl (decide_eq_false om)
   ·exact .inr ⟨decide_eq_true om,decide_eq_false om⟩
  clear hq;rcases hc with hd1|⟨hd1,hd2⟩
  all_goals
   go_wp2_with fail;go_at_call 22;refine(HRU.out _ ex).mono ?_;rintro e w' ⟨A1,a1,B1,b1,M1,m1,ys1,rfl,hx,h1⟩;have H1:=zh h1;obtain⟨y2,rfl⟩:=hx.get;clear hx h1;go_wp2_with (refine za7 rfl 30 (.tmp 7) (.tmp 33) rfl rfl sg (Lw v A1 a1 B1 b1 M1 m1) rfl rfl kr (cells_one _ rfl) ?_);go_at_call 13;refine(HOF.out _ ex).mono ?_;rintro e w' ⟨A3,a3,B3,b3,M3,m3,ys3,rfl,hx,h3⟩;have H3:=zh h3;obtain⟨y5,rfl⟩:=hx.get;clear hx h3;go_wp2_with fail;go_at_call 18;refine(HTO.out _ ex).mono ?_;rintro e w' ⟨D6,K6,rfl,hx,ho⟩;have H6:=zh (RetV.evts ho (fun x h=>(HS.out.el x h).mono ((show Ext W _ from ex).trans hx)));obtain⟨y6,rfl⟩:=hx.get;clear hx ho;go_wp2_with fail;go_at_call 23;refine(HRR.out _ _ _ _ _ _ _ _ _ _ (H3.out.mono ex) (H6.out.mono ex)).mono ?_;rintro e w' ⟨A2,a2,B2,b2,M2,m2,ys2,rfl,hx,h2⟩;have H2:=zh h2;obtain⟨y3,rfl⟩:=hx.get;clear hx h2;go_wp2_with (refine za7 rfl 46 (.tmp 9) (.tmp 42) rfl rfl sg (Lw v A2 a2 B2 b2 M2 m2) rfl rfl kr (cells_one _ rfl) ?_);go_at_call 24;refine(HTU.out _ ex).mono ?_;rintro e w' ⟨O1,k1,rfl,hx,t1,-,t2⟩;have HT1:=zh t1;obtain⟨y7,rfl⟩:=hx.get;clear hx t1;go_wp2_with fail;go_at_call 13;refine(HOF.out _ ex).mono ?_;rintro e w' ⟨A4,a4,B4,b4,M4,m4,ys4,rfl,hx,h4⟩;have H4:=zh h4;obtain⟨y8,rfl⟩:=hx.get;clear hx h4;go_wp2_with fail;go_at_call 18;refine(HTO.out _ ex).mono ?_;rintro e w' ⟨D7,K7,rfl,hx,ho⟩;have H7:=zh (RetV.evts ho (fun x h=>(HS.out.el x h).mono ((show Ext W _ from ex).trans hx)));obtain⟨ya,rfl⟩:=hx.get;clear hx ho;go_wp2_with fail;go_at_call 25;refine(HTR.out _ _ _ _ _ _ _ _ _ _ (H4.out.mono ex) (H7.out.mono ex)).mono ?_;rintro e w' ⟨O2,k2,rfl,hx,t3,t5,t4⟩;have HT2:=zh t3;have HTC:=zh (Nat.le_trans t5 t4);obtain⟨yb,rfl⟩:=hx.get;clear hx t3 t2 t4 t5;go_wp2_with fail;refine zaG (fun W9 hW9=> ?_);have x9:Ext W W9:=by rw[hW9];exact ex
   have j3:BoxAt W9 W.heap.size (Lw w A a B b M m) 30:=by rw[hW9];exact bxA
   have j7:BoxAt W9 (W.heap.size+1+y1.n+y2.n) (Lw v A1 a1 B1 b1 M1 m1) 30:=by rw[hW9];exact bxA
   have j9:BoxAt W9 (W.heap.size+1+y1.n+y2.n+1+y5.n+y6.n+y3.n) (Lw v A2 a2 B2 b2 M2 m2) 46:=by rw[hW9];exact bxA
   have G1:WldAt W9 v A1 a1 B1 b1 M1 m1 ys1:=by rw[hW9];exact H1.out.mono ex
   have G2:WldAt W9 v A2 a2 B2 b2 M2 m2 ys2:=by rw[hW9];exact H2.out.mono ex
   have T1:Sl W9 O1 1 (os.map intRw):=by rw[hW9];exact HT1.out.mono ex
   have T2:Sl W9 O2 1 (os.map intRw):=by rw[hW9];exact HT2.out.mono ex
   have G3:=zh (small_or HSM.out G1);clear hW9 H1 H2 H3 H4 H6 H7 HT1 HT2;refine zGr 38 [] [] [Stab.is (.agg (Lw v A1 a1 B1 b1 M1 m1)),Stab.wld v,Stab.is (.agg (Lw v A2 a2 B2 b2 M2 m2)),Stab.is (.bool true),Stab.is (.bool true),Stab.is (.int .i64 er),Stab.is (.int .i64 er),Stab.is (.bool true),Stab.is (.bool true),Stab.is (.bool true),Stab.is (.slice O1 os.length k1),Stab.is (.slice O2 os.length k2),Stab.is (.bool true),Stab.is (.bool true),Stab.is (.bool true),Stab.is (.int .i64 oe),Stab.is (.int .i64 oe),Stab.is (.bool true),Stab.is (.bool true),Stab.is (.bool true),Stab.is (.agg (Lw w A a B b M m)),Stab.is (.agg (Lw v A1 a1 B1 b1 M1 m1)),Stab.is (.bool bs),Stab.is (.agg (Lw w A a B b M m)),Stab.wld w,Stab.is (.agg (Lw v A2 a2 B2 b2 M2 m2)),Stab.is (.bool bs),Stab.is (.bool true),Stab.is (.bool true),Stab.is (.bool true),Stab.is (.agg (Lw w A a B b M m)),Stab.is (.agg (Lw w A a B b M m)),Stab.is (.bool true),Stab.is (.bool true),Stab.is (.bool true),Stab.is (.bool true),Stab.is (.bool true),Stab.is (.bool true)] (fun u=>by(simp only[zc0,List.take_succ_cons,List.take_zero,Act.put,Nat.zero_add,Nat.reduceAdd]);(try simp only[lsT,lsS,lsZ]);exact rfl) kr kr kr (fun _ _ _ _ _ h=>h) ?_ ?_ ?_
   ·intro j9 hj9;cases hj9
   ·refine⟨?_,?_,?_,?_,?_,?_,?_,?_,?_,?_,?_,?_,?_,?_,?_,?_,?_,?_,?_,?_,?_,?_,?_,?_,?_,?_,?_,?_,?_,?_,?_,?_,?_,?_,?_,?_,?_,?_,trivial⟩
    ·refine slb fun u y9 hd=>?_;refine slr rfl rfl rfl rfl ?_;intro K9 hK;have hr9:=(j7.mono (show Ext W9 (xt W9.drew y9) from ex)).row (n:=21) rfl;go_simp;exact hK _ _ rfl ex rfl
    ·refine slb fun u y9 hd=>?_;have e0:u 0=.agg (Lw v A1 a1 B1 b1 M1 m1):=hd 0 kr;simp only[e0];refine slr rfl rfl rfl rfl ?_;intro K9 hK;go_simp;go_at_call 13;refine(l55_of (G1.mono ex) G3.out.1 G3.out.2.1 G3.out.2.2.1 G3.out.2.2.2).mono ?_;rintro e w' ⟨Da,da,Db,db,Dm,dm,ys,rfl,hx,hw⟩;exact hK _ _ rfl hx ⟨Da,da,Db,db,Dm,dm,ys,rfl,hw⟩
    ·refine slb fun u y9 hd=>?_;refine slr rfl rfl rfl rfl ?_;intro K9 hK;have hr9:=(j9.mono (show Ext W9 (xt W9.drew y9) from ex)).row (n:=21) rfl;go_simp;exact hK _ _ rfl ex rfl
    ·refine slb fun u y9 hd=>?_;obtain⟨Da1,da1,Db1,db1,Dm1,dm1,ys1,e1,hw1⟩:=hd 1 kr;have e2:u 2=.agg (Lw v A2 a2 B2 b2 M2 m2):=hd 2 kr;simp only[e1,e2];refine slr rfl rfl rfl rfl ?_;intro K9 hK;go_simp;go_at_call 19;refine(r55_Same (hw1.mono ex) (G2.mono ex)).mono ?_;rintro e w' ⟨rfl,hx⟩;rw[sameWl_refl];exact hK _ _ rfl hx rfl
    ·refine slb fun u y9 hd=>?_;have e3:u 3=.bool true:=hd 3 kr;simp only[e3];refine slr rfl rfl rfl rfl ?_;intro K9 hK;go_simp;exact hK _ _ rfl ex rfl
    ·refine slb fun u y9 hd=>?_;have e4:u 4=.bool true:=hd 4 kr;simp only[e4];refine slr rfl rfl rfl rfl ?_;intro K9 hK;go_simp;exact hK _ _ rfl ex rfl
    ·refine slb fun u y9 hd=>?_;have e4:u 4=.bool true:=hd 4 kr;simp only[e4];refine slr rfl rfl rfl rfl ?_;intro K9 hK;go_simp;exact hK _ _ rfl ex rfl
    ·refine slb fun u y9 hd=>?_;have e4:u 4=.bool true:=hd 4 kr;have e5:u 5=.int .i64 er:=hd 5 kr;have e6:u 6=.int .i64 er:=hd 6 kr;simp only[e4,e5,e6];refine slr rfl rfl rfl rfl ?_;intro K9 hK;go_simp;exact hK _ _ rfl ex rfl
    ·refine slb fun u y9 hd=>?_;have e4:u 4=.bool true:=hd 4 kr;have e7:u 7=.bool true:=hd 7 kr;simp only[e4,e7];refine slr rfl rfl rfl rfl ?_;intro K9 hK;go_simp;exact hK _ _ rfl ex rfl
    ·refine slb fun u y9 hd=>?_;have e8:u 8=.bool true:=hd 8 kr;simp only[e8];refine slr rfl rfl rfl rfl ?_;intro K9 hK;go_simp;exact hK _ _ rfl ex rfl
    ·refine slb fun u y9 hd=>?_;have e9:u 9=.bool true:=hd 9 kr;simp only[e9];refine slr rfl rfl rfl rfl ?_;intro K9 hK;go_simp;exact hK _ _ rfl ex rfl
    ·refine slb fun u y9 hd=>?_;have e9:u 9=.bool true:=hd 9 kr;simp only[e9];refine slr rfl rfl rfl rfl ?_;intro K9 hK;go_simp;exact hK _ _ rfl ex rfl
    ·refine slb fun u y9 hd=>?_;have e9:u 9=.bool true:=hd 9 kr;have e10:u 10=.slice O1 os.length k1:=hd 10 kr;have e11:u 11=.slice O2 os.length k2:=hd 11 kr;simp only[e9,e10,e11];refine slr rfl rfl rfl rfl ?_;intro K9 hK;go_simp;go_at_call 26;refine(zmK O1 k1 O2 k2 os.length os rfl _ (T1.mono ex) (T2.mono ex) HTC.out).mono ?_;rintro e w' ⟨rfl,hx⟩;exact hK _ _ rfl hx rfl
    ·refine slb fun u y9 hd=>?_;have e9:u 9=.bool true:=hd 9 kr;have e12:u 12=.bool true:=hd 12 kr;simp only[e9,e12];refine slr rfl rfl rfl rfl ?_;intro K9 hK;go_simp;exact hK _ _ rfl ex rfl
    ·refine slb fun u y9 hd=>?_;have e13:u 13=.bool true:=hd 13 kr;simp only[e13];refine slr rfl rfl rfl rfl ?_;intro K9 hK;go_simp;exact hK _ _ rfl ex rfl
    ·refine slb fun u y9 hd=>?_;have e14:u 14=.bool true:=hd 14 kr;simp only[e14];refine slr rfl rfl rfl rfl ?_;intro K9 hK;go_simp;exact hK _ _ rfl ex rfl
    ·refine slb fun u y9 hd=>?_;have e14:u 14=.bool true:=hd 14 kr;simp only[e14];refine slr rfl rfl rfl rfl ?_;intro K9 hK;go_simp;exact hK _ _ rfl ex rfl
    ·refine slb fun u y9 hd=>?_;have e14:u 14=.bool true:=hd 14 kr;have e15:u 15=.int .i64 oe:=hd 15 kr;have e16:u 16=.int .i64 oe:=hd 16 kr;simp only[e14,e15,e16];refine slr rfl rfl rfl rfl ?_;intro K9 hK;go_simp;exact hK _ _ rfl ex rfl
    ·refine slb fun u y9 hd=>?_;have e14:u 14=.bool true:=hd 14 kr;have e17:u 17=.bool true:=hd 17 kr;simp only[e14,e17];refine slr rfl rfl rfl rfl ?_;intro K9 hK;go_simp;exact hK _ _ rfl ex rfl
    ·refine slb fun u y9 hd=>?_;have e18:u 18=.bool true:=hd 18 kr;simp only[e18];refine slr rfl rfl rfl rfl ?_;intro K9 hK;go_simp;exact hK _ _ rfl ex rfl
    ·refine slb fun u y9 hd=>?_;have e19:u 19=.bool true:=hd 19 kr;simp only[e19];refine slr rfl rfl rfl rfl ?_;intro K9 hK;have hr9:=(j3.mono (show Ext W9 (xt W9.drew y9) from ex)).row (n:=21) rfl;go_simp;exact hK _ _ rfl ex rfl
    ·refine slb fun u y9 hd=>?_;have e19:u 19=.bool true:=hd 19 kr;simp only[e19];refine slr rfl rfl rfl rfl ?_;intro K9 hK;have hr9:=(j7.mono (show Ext W9 (xt W9.drew y9) from ex)).row (n:=21) rfl;go_simp;exact hK _ _ rfl ex rfl
    ·refine slb fun u y9 hd=>?_;have e19:u 19=.bool true:=hd 19 kr;have e20:u 20=.agg (Lw w A a B b M m):=hd 20 kr;have e21:u 21=.agg (Lw v A1 a1 B1 b1 M1 m1):=hd 21 kr;simp only[e19,e20,e21];refine slr rfl rfl rfl rfl ?_;intro K9 hK;go_simp;go_at_call 27;refine(tak_Same (HW.out.mono (x9.trans ex)) (G1.mono ex) bs HBS.out).mono ?_;rintro e w' ⟨rfl,hx⟩;exact hK _ _ rfl hx rfl
    ·refine slb fun u y9 hd=>?_;have e19:u 19=.bool true:=hd 19 kr;simp only[e19];refine slr rfl rfl rfl rfl ?_;intro K9 hK;have hr9:=(j3.mono (show Ext W9 (xt W9.drew y9) from ex)).row (n:=21) rfl;go_simp;exact hK _ _ rfl ex rfl
    ·refine slb fun u y9 hd=>?_;have e19:u 19=.bool true:=hd 19 kr;have e23:u 23=.agg (Lw w A a B b M m):=hd 23 kr;simp only[e19,e23];refine slr rfl rfl rfl rfl ?_;intro K9 hK;go_simp;go_at_call 13;refine(HOF.out _ (x9.trans ex)).mono ?_;rintro e w' ⟨Da,da,Db,db,Dm,dm,ys,rfl,hx,hw⟩;exact hK _ _ rfl hx ⟨Da,da,Db,db,Dm,dm,ys,rfl,hw⟩
    ·refine slb fun u y9 hd=>?_;have e19:u 19=.bool true:=hd 19 kr;simp only[e19];refine slr rfl rfl rfl rfl ?_;intro K9 hK;have hr9:=(j9.mono (show Ext W9 (xt W9.drew y9) from ex)).row (n:=21) rfl;go_simp;exact hK _ _ rfl ex rfl
    ·refine slb fun u y9 hd=>?_;have e19:u 19=.bool true:=hd 19 kr;obtain⟨Da24,da24,Db24,db24,Dm24,dm24,ys24,e24,hw24⟩:=hd 24 kr;have e25:u 25=.agg (Lw v A2 a2 B2 b2 M2 m2):=hd 25 kr;simp only[e19,e24,e25];refine slr rfl rfl rfl rfl ?_;intro K9 hK;go_simp;go_at_call 19;refine(r55_Same (hw24.mono ex) (G2.mono ex)).mono ?_;rintro e w' ⟨rfl,hx⟩;rw[HBS.out];exact hK _ _ rfl hx rfl
    ·refine slb fun u y9 hd=>?_;have e19:u 19=.bool true:=hd 19 kr;have e22:u 22=.bool bs:=hd 22 kr;have e26:u 26=.bool bs:=hd 26 kr;simp only[e19,e22,e26];refine slr rfl rfl rfl rfl ?_;intro K9 hK;go_simp;exact hK _ _ rfl ex rfl
    ·refine slb fun u y9 hd=>?_;have e19:u 19=.bool true:=hd 19 kr;have e27:u 27=.bool true:=hd 27 kr;simp only[e19,e27];refine slr rfl rfl rfl rfl ?_;intro K9 hK;go_simp;exact hK _ _ rfl ex rfl
    ·refine slb fun u y9 hd=>?_;have e28:u 28=.bool true:=hd 28 kr;simp only[e28];refine slr rfl rfl rfl rfl ?_;intro K9 hK;go_simp;exact hK _ _ rfl ex rfl
    ·refine slb fun u y9 hd=>?_;have e29:u 29=.bool true:=hd 29 kr;simp only[e29];refine slr rfl rfl rfl rfl ?_;intro K9 hK;have hr9:=(j3.mono (show Ext W9 (xt W9.drew y9) from ex)).row (n:=21) rfl;go_simp;exact hK _ _ rfl ex rfl
    ·refine slb fun u y9 hd=>?_;have e29:u 29=.bool true:=hd 29 kr;simp only[e29];refine slr rfl rfl rfl rfl ?_;intro K9 hK;have hr9:=(j3.mono (show Ext W9 (xt W9.drew y9) from ex)).row (n:=21) rfl;go_simp;exact hK _ _ rfl ex rfl
    ·refine slb fun u y9 hd=>?_;have e29:u 29=.bool true:=hd 29 kr;have e30:u 30=.agg (Lw w A a B b M m):=hd 30 kr;have e31:u 31=.agg (Lw w A a B b M m):=hd 31 kr;simp only[e29,e30,e31];refine slr rfl rfl rfl rfl ?_;intro K9 hK;go_simp;go_at_call 27;refine(tak_Same (HW.out.mono (x9.trans ex)) (HW.out.mono (x9.trans ex)) true (sameWl_refl _)).mono ?_;rintro e w' ⟨rfl,hx⟩;exact hK _ _ rfl hx rfl
    ·refine slb fun u y9 hd=>?_;have e29:u 29=.bool true:=hd 29 kr;have e32:u 32=.bool true:=hd 32 kr;simp only[e29,e32];refine slr rfl rfl rfl rfl ?_;intro K9 hK;go_simp;exact hK _ _ rfl ex rfl
    ·refine slb fun u y9 hd=>?_;have e33:u 33=.bool true:=hd 33 kr;simp only[e33];refine slr rfl rfl rfl rfl ?_;intro K9 hK;go_simp;exact hK _ _ rfl ex rfl
    ·refine slb fun u y9 hd=>?_;have e34:u 34=.bool true:=hd 34 kr;simp only[e34];refine slr rfl rfl rfl rfl ?_;intro K9 hK;go_simp;go_at_call 8;refine(zfM _).mono ?_;rintro e w' ⟨rfl,hx⟩;exact hK _ _ rfl hx rfl
    ·refine slb fun u y9 hd=>?_;have e34:u 34=.bool true:=hd 34 kr;have e35:u 35=.bool true:=hd 35 kr;simp only[e34,e35];refine slr rfl rfl rfl rfl ?_;intro K9 hK;go_simp;exact hK _ _ rfl ex rfl
    ·refine slb fun u y9 hd=>?_;have e36:u 36=.bool true:=hd 36 kr;simp only[e36];refine slr rfl rfl rfl rfl ?_;intro K9 hK;go_simp;exact hK _ _ rfl ex rfl
   ·intro u w2 hx2 hT hdd;obtain⟨t0,t1,t2,t3,t4,t5,t6,t7,t8,t9,t10,t11,t12,t13,t14,t15,t16,t17,t18,t19,t20,t21,t22,t23,t24,t25,t26,t27,t28,t29,t30,t31,t32,t33,t34,t35,t36,t37,-⟩:=hT;obtain⟨y9,rfl⟩:=hx2.get;clear hx2;have e37:u 37=.bool true:=t37;clear hdd;simp only[e37];clear e37 t0 t1 t2 t3 t4 t5 t6 t7 t8 t9 t10 t11 t12 t13 t14 t15 t16 t17 t18 t19 t20 t21 t22 t23 t24 t25 t26 t27 t28 t29 t30 t31 t32 t33 t34 t35 t36 t37;simp only[List.drop_succ_cons,List.drop_zero];refine wpList_nil ?_;go_wp2;go_ret;exact⟨rfl,x9.trans ex⟩
