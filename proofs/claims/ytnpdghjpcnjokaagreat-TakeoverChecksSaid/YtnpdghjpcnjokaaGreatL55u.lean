import Derived.Test.YtnpdghjpcnjokaaGreatQf4
import Derived.Test.YtnpdghjpcnjokaaGreatGawx
import Derived.Test.YtnpdghjpcnjokaaGreatDdw
namespace Go.Proofs.YtnpdghjpcnjokaaGreat
set_option maxHeartbeats 12800000
set_option maxRecDepth 100000
open Go.RowKit Go.Proofs.Tryz

def Stab.wld (u:Wld):Stab:=⟨fun x W=> ∃A a B b M m xs,x=.agg (Lw u A a B b M m)∧WldAt W u A a B b M m xs,fun _ _ _ hx ⟨A,a,B,b,M,m,xs,e,h⟩=>⟨A,a,B,b,M,m,xs,e,h.mono hx⟩⟩
def Stab.evs (l:List Evt):Stab:=⟨fun x W=> ∃A k,x=.slice A l.length k∧zbR W A k l,fun _ _ _ hx ⟨A,k,e,h⟩=>⟨A,k,e,h.mono hx⟩⟩
theorem zzE.at_ {W W':World}{l d:Int}{e:Ending}(h:zzE W (newW l d) e W'):∃A a B b M k,e=.returned (.tuple #[.agg (Lw (newW l d).1 A a B b M k),.int .i64 (newW l d).2])∧Ext W W'∧WldAt W' (newW l d).1 A a B b M k []:=by
 obtain⟨A,a,B,b,M,k,he,hx,ha,hb,hk⟩:=h
 refine⟨A,a,B,b,M,k,he,hx,?_⟩
 have key:(newW l d).1.a.node.log=[]∧(newW l d).1.b.node.log=[]∧(newW l d).1.mail=[]:=by
  unfold newW
  split<;>exact⟨rfl,rfl,rfl⟩
 obtain⟨k1,k2,k3⟩:=key
 exact⟨by rw[k1];exact⟨Sl.nil _ _ _,Nat.zero_le _,ha,by simp⟩,by rw[k2];exact⟨Sl.nil _ _ _,Nat.zero_le _,hb,by simp⟩,⟨Sl.nil _ _ _,Nat.zero_le _,hk,by simp⟩,k3.symm⟩
theorem newW_small (l d:Int):(newW l d).1.a.node.log.length=0∧(newW l d).1.b.node.log.length=0∧(newW l d).1.mail.length=0:=by
 unfold newW
 split<;>exact⟨rfl,rfl,rfl⟩
theorem sameN_me (n:Nod):sameN n n=true:=by simp[sameN,zbr]
theorem sameM_me (m:Msg):sameM m m=true:=by simp[sameM,zbr]
theorem sameWl_refl (w:Wld):sameWl w w=true:=by
 have hl:∀l:List Ltr,zF5 l l=true:=fun l=>by
  induction l with
  |nil=>rfl
  |cons x l ih=>unfold zF5 sameLt;rw[ih,sameM_me];simp
 unfold sameWl sameSt
 rw[sameN_me,sameN_me,hl]
 simp
theorem RetQuiet.int {W W1:World}{i:Int}{e:Ending}(h:e=.returned (.int .i64 i)∧Ext W W1):e=.returned (.int .i64 i)∧Ext W W1:=h
section
variable {w:Wld} {W:World} {A B M:Option Addr} {a b m:Nat} {xs:List (Ltr×Option Addr×Nat)}
theorem l55_Checks (w:Wld) (A:Option Addr) (a:Nat) (B:Option Addr) (b:Nat) (M:Option Addr) (m:Nat) (xs:List (Ltr×Option Addr×Nat)) (E:Option Addr) (ce:Nat) (l:List Evt) (p q:Int) (W:World) (h:WldAt W w A a B b M m xs) (hs:zbR W E ce l)
  (hr:w.a.node.log.length * 552≤140737488355328∧w.b.node.log.length * 552≤140737488355328∧w.mail.length * 80≤140737488355328∧∀x∈xs,x.1.msg.recs.length * 552≤140737488355328) (hn:l.length * 576≤140737488355328):
  Calls prog 3 #[.agg (Lw w A a B b M m),.slice E l.length ce,.agg #[p,q]] W fun e W'=>e=.returned (.bool true)∧Ext W W':=by
 have HW:=Lib.hid h
 have HS:=zh hs
 have HR:=zh hr
 have HN:=zh hn
 have HOF:=zh (fun(V:World) (hx:Ext W V)=>l55_of (h.mono hx) hr.1 hr.2.1 hr.2.2.1 hr.2.2.2)
 have HTO:=zh (fun(V:World) (hx:Ext W V)=>zA9 E ce l V (hs.mono hx) hn)
 have HFE:=zh (fun(V:World) (hx:Ext W V)=>l55_few (h.mono hx) hr.1 hr.2.1 hr.2.2.1 hr.2.2.2 E ce l (hs.mono hx) hn)
 clear h hs hr hn
 obtain⟨v,er,hv⟩:∃v er,newW p q=(v,er):=⟨_,_,rfl⟩
 obtain⟨sp,se,hsp⟩:∃sp se,zeP w=(sp,se):=⟨_,_,rfl⟩
 have HNW:=zh (fun(V:World)=>(zFj p q V).mono fun e V' (g:zzE V (newW p q) e V')=>by have:=g.at_;rw[hv] at this;exact this)
 have HNR:=zh (fun(V:World)=>(r55_New p q V).mono fun e V' (g:zzE V (newW p q) e V')=>by have:=g.at_;rw[hv] at this;exact this)
 have HVS:=zh (show v.a.node.log.length=0∧v.b.node.log.length=0∧v.mail.length=0 by have:=newW_small p q;rw[hv] at this;exact this)
 have HSA:=zh (fun(V:World) (hx:Ext W V)=>by have:=zqt (HW.out.mono hx);rw[hsp] at this;exact this)
 have HSB:=zh (fun(A1:Option Addr) (a1:Nat) (B1:Option Addr) (b1:Nat) (M1:Option Addr) (m1:Nat) (ys:List (Ltr×Option Addr×Nat)) (V:World) (g:WldAt V w A1 a1 B1 b1 M1 m1 ys)=>by have:=r55_Speaker g;rw[hsp] at this;exact this)
 clear hv hsp
 go_enter func3,ntmps3
 go_wp2_with fail
 go_at_call 7;refine(HFE.out _ ex).mono ?_;rintro e w' ⟨⟨bb,rfl⟩,hx⟩;obtain⟨y1,rfl⟩:=hx.get;clear hx
 cases bb with
 |false=>
  go_wp2_with (go_at_call 8;refine zzg (zfM _) fun y=>?_)
  go_ret
  exact⟨rfl,ex⟩
 |true=>
  go_wp2_with fail
  go_at_call 9;refine(HNW.out _).mono ?_;rintro e w' ⟨A1,a1,B1,b1,M1,m1,rfl,hx,h1⟩;have H1:=zh h1;obtain⟨y2,rfl⟩:=hx.get;clear hx h1
  go_wp2_with (refine za7 rfl 30 (.tmp 7) (.tmp 26) rfl rfl sg (Lw v A1 a1 B1 b1 M1 m1) rfl rfl kr (cells_one _ rfl) ?_)
  go_at_call 10;refine(HNR.out _).mono ?_;rintro e w' ⟨A2,a2,B2,b2,M2,m2,rfl,hx,h2⟩;have H2:=zh h2;obtain⟨y3,rfl⟩:=hx.get;clear hx h2
  go_wp2_with (refine za7 rfl 46 (.tmp 9) (.tmp 34) rfl rfl sg (Lw v A2 a2 B2 b2 M2 m2) rfl rfl kr (cells_one _ rfl) ?_)
  go_at_call 11;refine(HSA.out _ ex).mono ?_;rintro e w' ⟨rfl,hx⟩;obtain⟨y4,rfl⟩:=hx.get;clear hx
  go_wp2_with fail
  go_at_call 13;refine(HOF.out _ ex).mono ?_;rintro e w' ⟨A3,a3,B3,b3,M3,m3,ys3,rfl,hx,h3⟩;have H3:=zh h3;obtain⟨y5,rfl⟩:=hx.get;clear hx h3
  go_wp2_with fail
  go_at_call 12;refine(HSB.out _ _ _ _ _ _ _ _ (H3.out.mono ex)).mono ?_;rintro e w' ⟨rfl,hx⟩;obtain⟨y6,rfl⟩:=hx.get;clear hx
  go_wp2_with fail
  refine zaG (fun W9 hW9=> ?_)
  have x9:Ext W W9:=by rw[hW9];exact ex
  have k3:BoxAt W9 W.heap.size (Lw w A a B b M m) 30:=by rw[hW9];exact(by repeat(first|exact BoxAt.new (by first|rfl|(simp[go_sem];done)|(simp[go_sem];omega)) _ _|apply BoxAt.xt|apply BoxAt.drew|apply BoxAt.drewN|apply BoxAt.alloc))
  have k7:BoxAt W9 (W.heap.size+1+1+y1.n+y2.n) (Lw v A1 a1 B1 b1 M1 m1) 30:=by rw[hW9];exact(by repeat(first|exact BoxAt.new (by first|rfl|(simp[go_sem];done)|(simp[go_sem];omega)) _ _|apply BoxAt.xt|apply BoxAt.drew|apply BoxAt.drewN|apply BoxAt.alloc))
  have k9:BoxAt W9 (W.heap.size+1+1+y1.n+y2.n+1+y3.n) (Lw v A2 a2 B2 b2 M2 m2) 46:=by rw[hW9];exact(by repeat(first|exact BoxAt.new (by first|rfl|(simp[go_sem];done)|(simp[go_sem];omega)) _ _|apply BoxAt.xt|apply BoxAt.drew|apply BoxAt.drewN|apply BoxAt.alloc))
  have G1:WldAt W9 v A1 a1 B1 b1 M1 m1 []:=by rw[hW9];exact H1.out.mono ex
  have G2:WldAt W9 v A2 a2 B2 b2 M2 m2 []:=by rw[hW9];exact H2.out.mono ex
  clear hW9 H1 H2 H3
  refine zGr 39 [] [] [Stab.is (.agg (Lw w A a B b M m)),Stab.is (.int .i64 (wldE w)),Stab.is (.agg (Lw w A a B b M m)),Stab.wld w,Stab.is (.int .i64 (wldE w)),Stab.is (.bool true),Stab.is (.bool true),Stab.is (.slice E l.length ce),Stab.is (.int .i64 (evtsE l)),Stab.is (.slice E l.length ce),Stab.evs l,Stab.is (.int .i64 (evtsE l)),Stab.is (.bool true),Stab.is (.bool true),Stab.is (.bool true),Stab.is (.agg (Lw v A1 a1 B1 b1 M1 m1)),Stab.wld v,Stab.is (.agg (Lw v A2 a2 B2 b2 M2 m2)),Stab.is (.bool true),Stab.is (.bool true),Stab.is (.bool true),Stab.is (.int .i64 er),Stab.is (.int .i64 er),Stab.is (.bool true),Stab.is (.bool true),Stab.is (.bool true),Stab.is (.int .i64 sp),Stab.is (.int .i64 sp),Stab.is (.bool true),Stab.is (.bool true),Stab.is (.bool true),Stab.is (.int .i64 se),Stab.is (.int .i64 se),Stab.is (.bool true),Stab.is (.bool true),Stab.is (.bool true),Stab.is (.bool true),Stab.is (.bool true),Stab.is (.bool true)] (fun u=>by(simp only[zc0,List.take_succ_cons,List.take_zero,Act.put,Nat.zero_add,Nat.reduceAdd]);(try simp only[List.setIfInBounds_toArray]);(repeat(first|simp only[List.set_cons_succ]|simp only[List.set_cons_zero]));exact rfl) kr kr kr (fun _ _ _ _ _ h=>h) ?_ ?_ ?_
  ·intro j9 hj9;cases hj9
  ·refine⟨?_,?_,?_,?_,?_,?_,?_,?_,?_,?_,?_,?_,?_,?_,?_,?_,?_,?_,?_,?_,?_,?_,?_,?_,?_,?_,?_,?_,?_,?_,?_,?_,?_,?_,?_,?_,?_,?_,?_,trivial⟩
   ·(show SlotB _ _ _ _ _ _ _ _);intro u w1 hx1 hd;obtain⟨y9,rfl⟩:=hx1.get;clear hx1
    refine zaf rfl rfl rfl ?_;intro K9 hK0
    have hK:=fun a9 w9 h1 h2 h3=>hK0 a9 w9 h1 h2 h3 (fun h=>by cases h);clear hK0
    have hr9:=(k3.mono (show Ext W9 (xt W9.drew y9) from ex)).row (n:=21) rfl
    go_simp;exact hK _ _ rfl ex rfl
   ·(show SlotB _ _ _ _ _ _ _ _);intro u w1 hx1 hd;obtain⟨y9,rfl⟩:=hx1.get;clear hx1
    have e0:u 0=.agg (Lw w A a B b M m):=hd 0 kr
    simp only[e0]
    refine zaf rfl rfl rfl ?_;intro K9 hK0
    have hK:=fun a9 w9 h1 h2 h3=>hK0 a9 w9 h1 h2 h3 (fun h=>by cases h);clear hK0
    go_simp;go_at_call 14;refine(zeq (HW.out.mono (x9.trans ex))).mono ?_;rintro e w' ⟨rfl,hx⟩;exact hK _ _ rfl hx rfl
   ·(show SlotB _ _ _ _ _ _ _ _);intro u w1 hx1 hd;obtain⟨y9,rfl⟩:=hx1.get;clear hx1
    refine zaf rfl rfl rfl ?_;intro K9 hK0
    have hK:=fun a9 w9 h1 h2 h3=>hK0 a9 w9 h1 h2 h3 (fun h=>by cases h);clear hK0
    have hr9:=(k3.mono (show Ext W9 (xt W9.drew y9) from ex)).row (n:=21) rfl
    go_simp;exact hK _ _ rfl ex rfl
   ·(show SlotB _ _ _ _ _ _ _ _);intro u w1 hx1 hd;obtain⟨y9,rfl⟩:=hx1.get;clear hx1
    have e2:u 2=.agg (Lw w A a B b M m):=hd 2 kr
    simp only[e2]
    refine zaf rfl rfl rfl ?_;intro K9 hK0
    have hK:=fun a9 w9 h1 h2 h3=>hK0 a9 w9 h1 h2 h3 (fun h=>by cases h);clear hK0
    go_simp;go_at_call 13;refine(HOF.out _ (x9.trans ex)).mono ?_;rintro e w' ⟨Da,da,Db,db,Dm,dm,ys,rfl,hx,hw⟩;exact hK _ _ rfl hx ⟨Da,da,Db,db,Dm,dm,ys,rfl,hw⟩
   ·(show SlotB _ _ _ _ _ _ _ _);intro u w1 hx1 hd;obtain⟨y9,rfl⟩:=hx1.get;clear hx1
    obtain⟨Da3,da3,Db3,db3,Dm3,dm3,ys3,e3,hw3⟩:=hd 3 kr
    simp only[e3]
    refine zaf rfl rfl rfl ?_;intro K9 hK0
    have hK:=fun a9 w9 h1 h2 h3=>hK0 a9 w9 h1 h2 h3 (fun h=>by cases h);clear hK0
    go_simp;go_at_call 15;refine(zHp (hw3.mono ex)).mono ?_;rintro e w' ⟨rfl,hx⟩;exact hK _ _ rfl hx rfl
   ·(show SlotB _ _ _ _ _ _ _ _);intro u w1 hx1 hd;obtain⟨y9,rfl⟩:=hx1.get;clear hx1
    have e1:u 1=.int .i64 (wldE w):=hd 1 kr
    have e4:u 4=.int .i64 (wldE w):=hd 4 kr
    simp only[e1,e4]
    refine zaf rfl rfl rfl ?_;intro K9 hK0
    have hK:=fun a9 w9 h1 h2 h3=>hK0 a9 w9 h1 h2 h3 (fun h=>by cases h);clear hK0
    go_simp;exact hK _ _ rfl ex rfl
   ·(show SlotB _ _ _ _ _ _ _ _);intro u w1 hx1 hd;obtain⟨y9,rfl⟩:=hx1.get;clear hx1
    have e5:u 5=.bool true:=hd 5 kr
    simp only[e5]
    refine zaf rfl rfl rfl ?_;intro K9 hK0
    have hK:=fun a9 w9 h1 h2 h3=>hK0 a9 w9 h1 h2 h3 (fun h=>by cases h);clear hK0
    go_simp;exact hK _ _ rfl ex rfl
   ·(show SlotB _ _ _ _ _ _ _ _);intro u w1 hx1 hd;obtain⟨y9,rfl⟩:=hx1.get;clear hx1
    have e6:u 6=.bool true:=hd 6 kr
    simp only[e6]
    refine zaf rfl rfl rfl ?_;intro K9 hK0
    have hK:=fun a9 w9 h1 h2 h3=>hK0 a9 w9 h1 h2 h3 (fun h=>by cases h);clear hK0
    go_simp;exact hK _ _ rfl ex rfl
   ·(show SlotB _ _ _ _ _ _ _ _);intro u w1 hx1 hd;obtain⟨y9,rfl⟩:=hx1.get;clear hx1
    have e6:u 6=.bool true:=hd 6 kr
    have e7:u 7=.slice E l.length ce:=hd 7 kr
    simp only[e6,e7]
    refine zaf rfl rfl rfl ?_;intro K9 hK0
    have hK:=fun a9 w9 h1 h2 h3=>hK0 a9 w9 h1 h2 h3 (fun h=>by cases h);clear hK0
    go_simp;go_at_call 16;refine(zgQ _ (HS.out.mono (x9.trans ex))).mono ?_;rintro e w' ⟨rfl,hx⟩;exact hK _ _ rfl hx rfl
   ·(show SlotB _ _ _ _ _ _ _ _);intro u w1 hx1 hd;obtain⟨y9,rfl⟩:=hx1.get;clear hx1
    have e6:u 6=.bool true:=hd 6 kr
    simp only[e6]
    refine zaf rfl rfl rfl ?_;intro K9 hK0
    have hK:=fun a9 w9 h1 h2 h3=>hK0 a9 w9 h1 h2 h3 (fun h=>by cases h);clear hK0
    go_simp;exact hK _ _ rfl ex rfl
   ·(show SlotB _ _ _ _ _ _ _ _);intro u w1 hx1 hd;obtain⟨y9,rfl⟩:=hx1.get;clear hx1
    have e6:u 6=.bool true:=hd 6 kr
    have e9:u 9=.slice E l.length ce:=hd 9 kr
    simp only[e6,e9]
    refine zaf rfl rfl rfl ?_;intro K9 hK0
    have hK:=fun a9 w9 h1 h2 h3=>hK0 a9 w9 h1 h2 h3 (fun h=>by cases h);clear hK0
    go_simp;go_at_call 18;refine(HTO.out _ (x9.trans ex)).mono ?_;rintro e w' ⟨D,K,rfl,hx,ho⟩;exact hK _ _ rfl hx ⟨D,K,rfl,RetV.evts ho (fun x h=>(HS.out.el x h).mono ((show Ext W _ from x9.trans ex).trans hx))⟩
   ·(show SlotB _ _ _ _ _ _ _ _);intro u w1 hx1 hd;obtain⟨y9,rfl⟩:=hx1.get;clear hx1
    have e6:u 6=.bool true:=hd 6 kr
    obtain⟨D10,K10,e10,h10⟩:=hd 10 kr
    simp only[e6,e10]
    refine zaf rfl rfl rfl ?_;intro K9 hK0
    have hK:=fun a9 w9 h1 h2 h3=>hK0 a9 w9 h1 h2 h3 (fun h=>by cases h);clear hK0
    go_simp;go_at_call 17;refine(zEF D10 K10 l _ (h10.mono ex)).mono ?_;rintro e w' ⟨rfl,hx⟩;exact hK _ _ rfl hx rfl
   ·(show SlotB _ _ _ _ _ _ _ _);intro u w1 hx1 hd;obtain⟨y9,rfl⟩:=hx1.get;clear hx1
    have e6:u 6=.bool true:=hd 6 kr
    have e8:u 8=.int .i64 (evtsE l):=hd 8 kr
    have e11:u 11=.int .i64 (evtsE l):=hd 11 kr
    simp only[e6,e8,e11]
    refine zaf rfl rfl rfl ?_;intro K9 hK0
    have hK:=fun a9 w9 h1 h2 h3=>hK0 a9 w9 h1 h2 h3 (fun h=>by cases h);clear hK0
    go_simp;exact hK _ _ rfl ex rfl
   ·(show SlotB _ _ _ _ _ _ _ _);intro u w1 hx1 hd;obtain⟨y9,rfl⟩:=hx1.get;clear hx1
    have e6:u 6=.bool true:=hd 6 kr
    have e12:u 12=.bool true:=hd 12 kr
    simp only[e6,e12]
    refine zaf rfl rfl rfl ?_;intro K9 hK0
    have hK:=fun a9 w9 h1 h2 h3=>hK0 a9 w9 h1 h2 h3 (fun h=>by cases h);clear hK0
    go_simp;exact hK _ _ rfl ex rfl
   ·(show SlotB _ _ _ _ _ _ _ _);intro u w1 hx1 hd;obtain⟨y9,rfl⟩:=hx1.get;clear hx1
    have e13:u 13=.bool true:=hd 13 kr
    simp only[e13]
    refine zaf rfl rfl rfl ?_;intro K9 hK0
    have hK:=fun a9 w9 h1 h2 h3=>hK0 a9 w9 h1 h2 h3 (fun h=>by cases h);clear hK0
    go_simp;exact hK _ _ rfl ex rfl
   ·(show SlotB _ _ _ _ _ _ _ _);intro u w1 hx1 hd;obtain⟨y9,rfl⟩:=hx1.get;clear hx1
    have e14:u 14=.bool true:=hd 14 kr
    simp only[e14]
    refine zaf rfl rfl rfl ?_;intro K9 hK0
    have hK:=fun a9 w9 h1 h2 h3=>hK0 a9 w9 h1 h2 h3 (fun h=>by cases h);clear hK0
    have hr9:=(k7.mono (show Ext W9 (xt W9.drew y9) from ex)).row (n:=21) rfl
    go_simp;exact hK _ _ rfl ex rfl
   ·(show SlotB _ _ _ _ _ _ _ _);intro u w1 hx1 hd;obtain⟨y9,rfl⟩:=hx1.get;clear hx1
    have e14:u 14=.bool true:=hd 14 kr
    have e15:u 15=.agg (Lw v A1 a1 B1 b1 M1 m1):=hd 15 kr
    simp only[e14,e15]
    refine zaf rfl rfl rfl ?_;intro K9 hK0
    have hK:=fun a9 w9 h1 h2 h3=>hK0 a9 w9 h1 h2 h3 (fun h=>by cases h);clear hK0
    go_simp;go_at_call 13;refine(l55_of (G1.mono ex) (by have:=HVS.out;omega) (by have:=HVS.out;omega) (by have:=HVS.out;omega) (by simp)).mono ?_;rintro e w' ⟨Da,da,Db,db,Dm,dm,ys,rfl,hx,hw⟩;exact hK _ _ rfl hx ⟨Da,da,Db,db,Dm,dm,ys,rfl,hw⟩
   ·(show SlotB _ _ _ _ _ _ _ _);intro u w1 hx1 hd;obtain⟨y9,rfl⟩:=hx1.get;clear hx1
    have e14:u 14=.bool true:=hd 14 kr
    simp only[e14]
    refine zaf rfl rfl rfl ?_;intro K9 hK0
    have hK:=fun a9 w9 h1 h2 h3=>hK0 a9 w9 h1 h2 h3 (fun h=>by cases h);clear hK0
    have hr9:=(k9.mono (show Ext W9 (xt W9.drew y9) from ex)).row (n:=21) rfl
    go_simp;exact hK _ _ rfl ex rfl
   ·(show SlotB _ _ _ _ _ _ _ _);intro u w1 hx1 hd;obtain⟨y9,rfl⟩:=hx1.get;clear hx1
    have e14:u 14=.bool true:=hd 14 kr
    obtain⟨Da16,da16,Db16,db16,Dm16,dm16,ys16,e16,hw16⟩:=hd 16 kr
    have e17:u 17=.agg (Lw v A2 a2 B2 b2 M2 m2):=hd 17 kr
    simp only[e14,e16,e17]
    refine zaf rfl rfl rfl ?_;intro K9 hK0
    have hK:=fun a9 w9 h1 h2 h3=>hK0 a9 w9 h1 h2 h3 (fun h=>by cases h);clear hK0
    go_simp;go_at_call 19;refine(r55_Same (hw16.mono ex) (G2.mono ex)).mono ?_;rintro e w' ⟨rfl,hx⟩;rw[sameWl_refl];exact hK _ _ rfl hx rfl
   ·(show SlotB _ _ _ _ _ _ _ _);intro u w1 hx1 hd;obtain⟨y9,rfl⟩:=hx1.get;clear hx1
    have e14:u 14=.bool true:=hd 14 kr
    have e18:u 18=.bool true:=hd 18 kr
    simp only[e14,e18]
    refine zaf rfl rfl rfl ?_;intro K9 hK0
    have hK:=fun a9 w9 h1 h2 h3=>hK0 a9 w9 h1 h2 h3 (fun h=>by cases h);clear hK0
    go_simp;exact hK _ _ rfl ex rfl
   ·(show SlotB _ _ _ _ _ _ _ _);intro u w1 hx1 hd;obtain⟨y9,rfl⟩:=hx1.get;clear hx1
    have e19:u 19=.bool true:=hd 19 kr
    simp only[e19]
    refine zaf rfl rfl rfl ?_;intro K9 hK0
    have hK:=fun a9 w9 h1 h2 h3=>hK0 a9 w9 h1 h2 h3 (fun h=>by cases h);clear hK0
    go_simp;exact hK _ _ rfl ex rfl
   ·(show SlotB _ _ _ _ _ _ _ _);intro u w1 hx1 hd;obtain⟨y9,rfl⟩:=hx1.get;clear hx1
    have e20:u 20=.bool true:=hd 20 kr
    simp only[e20]
    refine zaf rfl rfl rfl ?_;intro K9 hK0
    have hK:=fun a9 w9 h1 h2 h3=>hK0 a9 w9 h1 h2 h3 (fun h=>by cases h);clear hK0
    go_simp;exact hK _ _ rfl ex rfl
   ·(show SlotB _ _ _ _ _ _ _ _);intro u w1 hx1 hd;obtain⟨y9,rfl⟩:=hx1.get;clear hx1
    have e20:u 20=.bool true:=hd 20 kr
    simp only[e20]
    refine zaf rfl rfl rfl ?_;intro K9 hK0
    have hK:=fun a9 w9 h1 h2 h3=>hK0 a9 w9 h1 h2 h3 (fun h=>by cases h);clear hK0
    go_simp;exact hK _ _ rfl ex rfl
   ·(show SlotB _ _ _ _ _ _ _ _);intro u w1 hx1 hd;obtain⟨y9,rfl⟩:=hx1.get;clear hx1
    have e20:u 20=.bool true:=hd 20 kr
    have e21:u 21=.int .i64 er:=hd 21 kr
    have e22:u 22=.int .i64 er:=hd 22 kr
    simp only[e20,e21,e22]
    refine zaf rfl rfl rfl ?_;intro K9 hK0
    have hK:=fun a9 w9 h1 h2 h3=>hK0 a9 w9 h1 h2 h3 (fun h=>by cases h);clear hK0
    go_simp;exact hK _ _ rfl ex rfl
   ·(show SlotB _ _ _ _ _ _ _ _);intro u w1 hx1 hd;obtain⟨y9,rfl⟩:=hx1.get;clear hx1
    have e20:u 20=.bool true:=hd 20 kr
    have e23:u 23=.bool true:=hd 23 kr
    simp only[e20,e23]
    refine zaf rfl rfl rfl ?_;intro K9 hK0
    have hK:=fun a9 w9 h1 h2 h3=>hK0 a9 w9 h1 h2 h3 (fun h=>by cases h);clear hK0
    go_simp;exact hK _ _ rfl ex rfl
   ·(show SlotB _ _ _ _ _ _ _ _);intro u w1 hx1 hd;obtain⟨y9,rfl⟩:=hx1.get;clear hx1
    have e24:u 24=.bool true:=hd 24 kr
    simp only[e24]
    refine zaf rfl rfl rfl ?_;intro K9 hK0
    have hK:=fun a9 w9 h1 h2 h3=>hK0 a9 w9 h1 h2 h3 (fun h=>by cases h);clear hK0
    go_simp;exact hK _ _ rfl ex rfl
   ·(show SlotB _ _ _ _ _ _ _ _);intro u w1 hx1 hd;obtain⟨y9,rfl⟩:=hx1.get;clear hx1
    have e25:u 25=.bool true:=hd 25 kr
    simp only[e25]
    refine zaf rfl rfl rfl ?_;intro K9 hK0
    have hK:=fun a9 w9 h1 h2 h3=>hK0 a9 w9 h1 h2 h3 (fun h=>by cases h);clear hK0
    go_simp;exact hK _ _ rfl ex rfl
   ·(show SlotB _ _ _ _ _ _ _ _);intro u w1 hx1 hd;obtain⟨y9,rfl⟩:=hx1.get;clear hx1
    have e25:u 25=.bool true:=hd 25 kr
    simp only[e25]
    refine zaf rfl rfl rfl ?_;intro K9 hK0
    have hK:=fun a9 w9 h1 h2 h3=>hK0 a9 w9 h1 h2 h3 (fun h=>by cases h);clear hK0
    go_simp;exact hK _ _ rfl ex rfl
   ·(show SlotB _ _ _ _ _ _ _ _);intro u w1 hx1 hd;obtain⟨y9,rfl⟩:=hx1.get;clear hx1
    have e25:u 25=.bool true:=hd 25 kr
    have e26:u 26=.int .i64 sp:=hd 26 kr
    have e27:u 27=.int .i64 sp:=hd 27 kr
    simp only[e25,e26,e27]
    refine zaf rfl rfl rfl ?_;intro K9 hK0
    have hK:=fun a9 w9 h1 h2 h3=>hK0 a9 w9 h1 h2 h3 (fun h=>by cases h);clear hK0
    go_simp;exact hK _ _ rfl ex rfl
   ·(show SlotB _ _ _ _ _ _ _ _);intro u w1 hx1 hd;obtain⟨y9,rfl⟩:=hx1.get;clear hx1
    have e25:u 25=.bool true:=hd 25 kr
    have e28:u 28=.bool true:=hd 28 kr
    simp only[e25,e28]
    refine zaf rfl rfl rfl ?_;intro K9 hK0
    have hK:=fun a9 w9 h1 h2 h3=>hK0 a9 w9 h1 h2 h3 (fun h=>by cases h);clear hK0
    go_simp;exact hK _ _ rfl ex rfl
   ·(show SlotB _ _ _ _ _ _ _ _);intro u w1 hx1 hd;obtain⟨y9,rfl⟩:=hx1.get;clear hx1
    have e29:u 29=.bool true:=hd 29 kr
    simp only[e29]
    refine zaf rfl rfl rfl ?_;intro K9 hK0
    have hK:=fun a9 w9 h1 h2 h3=>hK0 a9 w9 h1 h2 h3 (fun h=>by cases h);clear hK0
    go_simp;exact hK _ _ rfl ex rfl
   ·(show SlotB _ _ _ _ _ _ _ _);intro u w1 hx1 hd;obtain⟨y9,rfl⟩:=hx1.get;clear hx1
    have e30:u 30=.bool true:=hd 30 kr
    simp only[e30]
    refine zaf rfl rfl rfl ?_;intro K9 hK0
    have hK:=fun a9 w9 h1 h2 h3=>hK0 a9 w9 h1 h2 h3 (fun h=>by cases h);clear hK0
    go_simp;exact hK _ _ rfl ex rfl
   ·(show SlotB _ _ _ _ _ _ _ _);intro u w1 hx1 hd;obtain⟨y9,rfl⟩:=hx1.get;clear hx1
    have e30:u 30=.bool true:=hd 30 kr
    simp only[e30]
    refine zaf rfl rfl rfl ?_;intro K9 hK0
    have hK:=fun a9 w9 h1 h2 h3=>hK0 a9 w9 h1 h2 h3 (fun h=>by cases h);clear hK0
    go_simp;exact hK _ _ rfl ex rfl
   ·(show SlotB _ _ _ _ _ _ _ _);intro u w1 hx1 hd;obtain⟨y9,rfl⟩:=hx1.get;clear hx1
    have e30:u 30=.bool true:=hd 30 kr
    have e31:u 31=.int .i64 se:=hd 31 kr
    have e32:u 32=.int .i64 se:=hd 32 kr
    simp only[e30,e31,e32]
    refine zaf rfl rfl rfl ?_;intro K9 hK0
    have hK:=fun a9 w9 h1 h2 h3=>hK0 a9 w9 h1 h2 h3 (fun h=>by cases h);clear hK0
    go_simp;exact hK _ _ rfl ex rfl
   ·(show SlotB _ _ _ _ _ _ _ _);intro u w1 hx1 hd;obtain⟨y9,rfl⟩:=hx1.get;clear hx1
    have e30:u 30=.bool true:=hd 30 kr
    have e33:u 33=.bool true:=hd 33 kr
    simp only[e30,e33]
    refine zaf rfl rfl rfl ?_;intro K9 hK0
    have hK:=fun a9 w9 h1 h2 h3=>hK0 a9 w9 h1 h2 h3 (fun h=>by cases h);clear hK0
    go_simp;exact hK _ _ rfl ex rfl
   ·(show SlotB _ _ _ _ _ _ _ _);intro u w1 hx1 hd;obtain⟨y9,rfl⟩:=hx1.get;clear hx1
    have e34:u 34=.bool true:=hd 34 kr
    simp only[e34]
    refine zaf rfl rfl rfl ?_;intro K9 hK0
    have hK:=fun a9 w9 h1 h2 h3=>hK0 a9 w9 h1 h2 h3 (fun h=>by cases h);clear hK0
    go_simp;exact hK _ _ rfl ex rfl
   ·(show SlotB _ _ _ _ _ _ _ _);intro u w1 hx1 hd;obtain⟨y9,rfl⟩:=hx1.get;clear hx1
    have e35:u 35=.bool true:=hd 35 kr
    simp only[e35]
    refine zaf rfl rfl rfl ?_;intro K9 hK0
    have hK:=fun a9 w9 h1 h2 h3=>hK0 a9 w9 h1 h2 h3 (fun h=>by cases h);clear hK0
    go_simp;go_at_call 8;refine(zfM _).mono ?_;rintro e w' ⟨rfl,hx⟩;exact hK _ _ rfl hx rfl
   ·(show SlotB _ _ _ _ _ _ _ _);intro u w1 hx1 hd;obtain⟨y9,rfl⟩:=hx1.get;clear hx1
    have e35:u 35=.bool true:=hd 35 kr
    have e36:u 36=.bool true:=hd 36 kr
    simp only[e35,e36]
    refine zaf rfl rfl rfl ?_;intro K9 hK0
    have hK:=fun a9 w9 h1 h2 h3=>hK0 a9 w9 h1 h2 h3 (fun h=>by cases h);clear hK0
    go_simp;exact hK _ _ rfl ex rfl
   ·(show SlotB _ _ _ _ _ _ _ _);intro u w1 hx1 hd;obtain⟨y9,rfl⟩:=hx1.get;clear hx1
    have e37:u 37=.bool true:=hd 37 kr
    simp only[e37]
    refine zaf rfl rfl rfl ?_;intro K9 hK0
    have hK:=fun a9 w9 h1 h2 h3=>hK0 a9 w9 h1 h2 h3 (fun h=>by cases h);clear hK0
    go_simp;exact hK _ _ rfl ex rfl
  ·intro u w2 hx2 hT hdd;obtain⟨t0,t1,t2,t3,t4,t5,t6,t7,t8,t9,t10,t11,t12,t13,t14,t15,t16,t17,t18,t19,t20,t21,t22,t23,t24,t25,t26,t27,t28,t29,t30,t31,t32,t33,t34,t35,t36,t37,t38,-⟩:=hT;obtain⟨y9,rfl⟩:=hx2.get;clear hx2
   have e38:u 38=.bool true:=t38
   clear hdd
   simp only[e38]
   clear e38 t0 t1 t2 t3 t4 t5 t6 t7 t8 t9 t10 t11 t12 t13 t14 t15 t16 t17 t18 t19 t20 t21 t22 t23 t24 t25 t26 t27 t28 t29 t30 t31 t32 t33 t34 t35 t36 t37 t38
   simp only[List.drop_succ_cons,List.drop_zero]
   refine wpList_nil ?_
   go_wp2
   go_ret
   exact⟨rfl,x9.trans ex⟩
end
end Go.Proofs.YtnpdghjpcnjokaaGreat
