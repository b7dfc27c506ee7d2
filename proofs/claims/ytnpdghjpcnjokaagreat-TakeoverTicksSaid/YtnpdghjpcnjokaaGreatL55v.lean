import Derived.Test.YtnpdghjpcnjokaaGreatL55w
import Derived.Test.YtnpdghjpcnjokaaGreatQh5
set_option linter.all false
namespace Go.Proofs.YtnpdghjpcnjokaaGreat
set_option maxHeartbeats 12800000
set_option maxRecDepth 100000
open Go.RowKit Go.Proofs.Tryz

theorem tickV_small (w:Wld)(l:List Evt):WldOk (tickV w l).1∨(tickV w l).1=wld0:=by
 unfold tickV;split
 ·exact .inr rfl
 ·rename_i h1;split
  ·exact .inr rfl
  ·rename_i h2;split
   ·exact .inr rfl
   ·rename_i h3;have hok:=(zge w).1 (by simpa using h1);have:=hok.n1;exact .inl (ziY hok (zei (by simpa using h2)) om).1
theorem l55_Ticks (w:Wld) (A:Option Addr) (a:Nat) (B:Option Addr) (b:Nat) (M:Option Addr) (m:Nat) (xs:List (Ltr×Option Addr×Nat)) (E:Option Addr) (ce:Nat) (l:List Evt) (W:World) (h:WldAt W w A a B b M m xs) (hs:zbR W E ce l)
  (hr:w.a.node.log.length * 552≤140737488355328∧w.b.node.log.length * 552≤140737488355328∧w.mail.length * 80≤140737488355328∧∀x∈xs,x.1.msg.recs.length * 552≤140737488355328) (hn:l.length * 576≤140737488355328):
  Calls prog 4 #[.agg (Lw w A a B b M m),.slice E l.length ce] W fun e W'=>e=.returned (.bool true)∧Ext W W':=by
 have HW:=Lib.hid h;have HS:=zh hs;have HOF:=zh (fun(V:World) (hx:Ext W V)=>l55_of (h.mono hx) hr.1 hr.2.1 hr.2.2.1 hr.2.2.2);have HTO:=zh (fun(V:World) (hx:Ext W V)=>zA9 E ce l V (hs.mono hx) hn);have HFE:=zh (fun(V:World) (hx:Ext W V)=>l55_few (h.mono hx) hr.1 hr.2.1 hr.2.2.1 hr.2.2.2 E ce l (hs.mono hx) hn);clear h hs hr hn;obtain⟨v,er,hv⟩:∃v er,tickV w l=(v,er):=⟨_,_,rfl⟩
 have HSM:=zh (show WldOk v∨v=wld0 by have:=tickV_small w l;rw[hv] at this;exact this);have HTK:=zh (fun(V:World) (hx:Ext W V)=>by have:=tak_Tick_all (HW.out.mono hx) (HS.out.mono hx);rw[hv] at this;exact this);have HTR:=zh (fun(V:World) (A1:Option Addr) (a1:Nat) (B1:Option Addr) (b1:Nat) (M1:Option Addr) (m1:Nat) (ys:List (Ltr×Option Addr×Nat)) (D:Option Addr) (K:Nat) (g:WldAt V w A1 a1 B1 b1 M1 m1 ys) (gs:zbR V D K l)=>by have:=r55_Tick_all g gs;rw[hv] at this;exact this);clear hv;go_enter func4,ntmps4;go_wp2_with fail;go_at_call 7;refine(HFE.out _ ex).mono ?_;rintro e w' ⟨⟨bb,rfl⟩,hx⟩;obtain⟨y1,rfl⟩:=hx.get;clear hx;cases bb with
 |false=>go_wp2_with (go_at_call 8;refine zzg (zfM _) fun y=>?_);go_ret;exact⟨rfl,ex⟩
 |true=>
  go_wp2_with fail;go_at_call 20;refine(HTK.out _ ex).mono ?_;rintro e w' ⟨A1,a1,B1,b1,M1,m1,ys1,rfl,hx,h1⟩;have H1:=zh h1;obtain⟨y2,rfl⟩:=hx.get;clear hx h1;go_wp2_with (refine za7 rfl 30 (.tmp 5) (.tmp 18) rfl rfl sg (Lw v A1 a1 B1 b1 M1 m1) rfl rfl kr (cells_one _ rfl) ?_);go_at_call 13;refine(HOF.out _ ex).mono ?_;rintro e w' ⟨A3,a3,B3,b3,M3,m3,ys3,rfl,hx,h3⟩;have H3:=zh h3;obtain⟨y5,rfl⟩:=hx.get;clear hx h3;go_wp2_with fail;go_at_call 18;refine(HTO.out _ ex).mono ?_;rintro e w' ⟨D6,K6,rfl,hx,ho⟩;have H6:=zh (RetV.evts ho (fun x h=>(HS.out.el x h).mono ((show Ext W _ from ex).trans hx)));obtain⟨y6,rfl⟩:=hx.get;clear hx ho;go_wp2_with fail;go_at_call 21;refine(HTR.out _ _ _ _ _ _ _ _ _ _ (H3.out.mono ex) (H6.out.mono ex)).mono ?_;rintro e w' ⟨A2,a2,B2,b2,M2,m2,ys2,rfl,hx,h2⟩;have H2:=zh h2;obtain⟨y3,rfl⟩:=hx.get;clear hx h2;go_wp2_with (refine za7 rfl 46 (.tmp 7) (.tmp 26) rfl rfl sg (Lw v A2 a2 B2 b2 M2 m2) rfl rfl kr (cells_one _ rfl) ?_);refine zaG (fun W9 hW9=> ?_);have x9:Ext W W9:=by rw[hW9];exact ex
  have k5:BoxAt W9 (W.heap.size+1+y1.n+y2.n) (Lw v A1 a1 B1 b1 M1 m1) 30:=by rw[hW9];exact bxA
  have k7:BoxAt W9 (W.heap.size+1+y1.n+y2.n+1+y5.n+y6.n+y3.n) (Lw v A2 a2 B2 b2 M2 m2) 46:=by rw[hW9];exact bxA
  have G1:WldAt W9 v A1 a1 B1 b1 M1 m1 ys1:=by rw[hW9];exact H1.out.mono ex
  have G2:WldAt W9 v A2 a2 B2 b2 M2 m2 ys2:=by rw[hW9];exact H2.out.mono ex
  have G3:=zh (small_or HSM.out G1);clear hW9 H1 H2 H3 H6;refine zGr 13 [] [] [Stab.is (.agg (Lw v A1 a1 B1 b1 M1 m1)),Stab.wld v,Stab.is (.agg (Lw v A2 a2 B2 b2 M2 m2)),Stab.is (.bool true),Stab.is (.bool true),Stab.is (.int .i64 er),Stab.is (.int .i64 er),Stab.is (.bool true),Stab.is (.bool true),Stab.is (.bool true),Stab.is (.bool true),Stab.is (.bool true),Stab.is (.bool true)] (fun u=>by(simp only[zc0,List.take_succ_cons,List.take_zero,Act.put,Nat.zero_add,Nat.reduceAdd]);(try simp only[lsT,lsS,lsZ]);exact rfl) kr kr kr (fun _ _ _ _ _ h=>h) ?_ ?_ ?_
  ·intro j9 hj9;cases hj9
  ·refine⟨?_,?_,?_,?_,?_,?_,?_,?_,?_,?_,?_,?_,?_,trivial⟩
   ·refine slb fun u y9 hd=>?_;refine slr rfl rfl rfl rfl ?_;intro K9 hK;have hr9:=(k5.mono (show Ext W9 (xt W9.drew y9) from ex)).row (n:=21) rfl;go_simp;exact hK _ _ rfl ex rfl
   ·refine slb fun u y9 hd=>?_;have e0:u 0=.agg (Lw v A1 a1 B1 b1 M1 m1):=hd 0 kr;simp only[e0];refine slr rfl rfl rfl rfl ?_;intro K9 hK;go_simp;go_at_call 13;refine(l55_of (G1.mono ex) G3.out.1 G3.out.2.1 G3.out.2.2.1 G3.out.2.2.2).mono ?_;rintro e w' ⟨Da,da,Db,db,Dm,dm,ys,rfl,hx,hw⟩;exact hK _ _ rfl hx ⟨Da,da,Db,db,Dm,dm,ys,rfl,hw⟩
   ·refine slb fun u y9 hd=>?_;refine slr rfl rfl rfl rfl ?_;intro K9 hK;have hr9:=(k7.mono (show Ext W9 (xt W9.drew y9) from ex)).row (n:=21) rfl;go_simp;exact hK _ _ rfl ex rfl
   ·refine slb fun u y9 hd=>?_;obtain⟨Da1,da1,Db1,db1,Dm1,dm1,ys1,e1,hw1⟩:=hd 1 kr;have e2:u 2=.agg (Lw v A2 a2 B2 b2 M2 m2):=hd 2 kr;simp only[e1,e2];refine slr rfl rfl rfl rfl ?_;intro K9 hK;go_simp;go_at_call 19;refine(r55_Same (hw1.mono ex) (G2.mono ex)).mono ?_;rintro e w' ⟨rfl,hx⟩;rw[sameWl_refl];exact hK _ _ rfl hx rfl
   ·refine slb fun u y9 hd=>?_;have e3:u 3=.bool true:=hd 3 kr;simp only[e3];refine slr rfl rfl rfl rfl ?_;intro K9 hK;go_simp;exact hK _ _ rfl ex rfl
   ·refine slb fun u y9 hd=>?_;have e4:u 4=.bool true:=hd 4 kr;simp only[e4];refine slr rfl rfl rfl rfl ?_;intro K9 hK;go_simp;exact hK _ _ rfl ex rfl
   ·refine slb fun u y9 hd=>?_;have e4:u 4=.bool true:=hd 4 kr;simp only[e4];refine slr rfl rfl rfl rfl ?_;intro K9 hK;go_simp;exact hK _ _ rfl ex rfl
   ·refine slb fun u y9 hd=>?_;have e4:u 4=.bool true:=hd 4 kr;have e5:u 5=.int .i64 er:=hd 5 kr;have e6:u 6=.int .i64 er:=hd 6 kr;simp only[e4,e5,e6];refine slr rfl rfl rfl rfl ?_;intro K9 hK;go_simp;exact hK _ _ rfl ex rfl
   ·refine slb fun u y9 hd=>?_;have e4:u 4=.bool true:=hd 4 kr;have e7:u 7=.bool true:=hd 7 kr;simp only[e4,e7];refine slr rfl rfl rfl rfl ?_;intro K9 hK;go_simp;exact hK _ _ rfl ex rfl
   ·refine slb fun u y9 hd=>?_;have e8:u 8=.bool true:=hd 8 kr;simp only[e8];refine slr rfl rfl rfl rfl ?_;intro K9 hK;go_simp;exact hK _ _ rfl ex rfl
   ·refine slb fun u y9 hd=>?_;have e9:u 9=.bool true:=hd 9 kr;simp only[e9];refine slr rfl rfl rfl rfl ?_;intro K9 hK;go_simp;go_at_call 8;refine(zfM _).mono ?_;rintro e w' ⟨rfl,hx⟩;exact hK _ _ rfl hx rfl
   ·refine slb fun u y9 hd=>?_;have e9:u 9=.bool true:=hd 9 kr;have e10:u 10=.bool true:=hd 10 kr;simp only[e9,e10];refine slr rfl rfl rfl rfl ?_;intro K9 hK;go_simp;exact hK _ _ rfl ex rfl
   ·refine slb fun u y9 hd=>?_;have e11:u 11=.bool true:=hd 11 kr;simp only[e11];refine slr rfl rfl rfl rfl ?_;intro K9 hK;go_simp;exact hK _ _ rfl ex rfl
  ·intro u w2 hx2 hT hdd;obtain⟨t0,t1,t2,t3,t4,t5,t6,t7,t8,t9,t10,t11,t12,-⟩:=hT;obtain⟨y9,rfl⟩:=hx2.get;clear hx2;have e12:u 12=.bool true:=t12;clear hdd;simp only[e12];clear e12 t0 t1 t2 t3 t4 t5 t6 t7 t8 t9 t10 t11 t12;simp only[List.drop_succ_cons,List.drop_zero];refine wpList_nil ?_;go_wp2;go_ret;exact⟨rfl,x9.trans ex⟩
