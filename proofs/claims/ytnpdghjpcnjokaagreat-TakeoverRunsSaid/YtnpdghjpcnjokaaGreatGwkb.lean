import Derived.Test.YtnpdghjpcnjokaaGreatGwka
set_option maxHeartbeats 6400000
set_option maxRecDepth 100000
set_option linter.all false
namespace Go.Proofs.YtnpdghjpcnjokaaGreat
open Go.RowKit Go.Proofs.Tryz

section
variable {w0 W:World} {g:Nat} {w:Wld} {A B M:Option Addr} {a b m:Nat} {xs:List (Ltr×Option Addr×Nat)}
theorem zzt (h:WldOk w){s:Sta}(hs:StaOk 1 s):WldOk ⟨w.now,w.limit,w.delay,w.cut,s,w.b,w.mail⟩:=⟨h.n0,h.n1,h.l0,h.l1,h.d0,h.d1,hs,h.b,h.len,h.mail⟩
theorem zzu (h:WldOk w){s:Sta}(hs:StaOk 2 s):WldOk ⟨w.now,w.limit,w.delay,w.cut,w.a,s,w.mail⟩:=⟨h.n0,h.n1,h.l0,h.l1,h.d0,h.d1,h.a,hs,h.len,h.mail⟩
theorem zww (n:Nod)(m:Msg):(recvV n m).2.1.recs=[]∧(recvV n m).2.1.before=0∧(recvV n m).2.1.acked=0:=by
 have h0:msg0.recs=[]∧msg0.before=0∧msg0.acked=0:=⟨rfl,rfl,rfl⟩
 have ha:∀(x:Nod) (k t:Int),(ansM x k t).recs=[]∧(ansM x k t).before=0∧(ansM x k t).acked=0:=fun _ _ _=>⟨rfl,rfl,rfl⟩
 have ht:∀x:Nod,(takeV x m).2.1.recs=[]∧(takeV x m).2.1.before=0∧(takeV x m).2.1.acked=0:=fun x=>by
  unfold takeV;simp only
  repeat(first|exact ha _ _ _|exact h0|split)
 unfold recvV recdV
 repeat(first|exact h0|exact ha _ _ _|exact ht _|split)
theorem zlh (h:WldC w0 W g w A a B b M m)(hm:MailM w0 W M m w.mail xs){x:Ltr}{D:Option Addr}{K:Nat}(hx:x.dst=1)(hl:LogW w0 W D x.msg.recs.length K x.msg.recs)(hu:w.a.up=false):Calls prog 93 #[.pointer (some ⟨g,0,none⟩),.agg (Ll x D K)] W (StepM w0 W g M w):=by
 have HC:=Lib.hid h;have HM:=zh hm;have HL:=zh hl;have hla:=(h.qa.recs h.ext (Ext.refl W)).len;have hlb:=(h.qb.recs h.ext (Ext.refl W)).len;have hlx:=(hl.recs h.ext (Ext.refl W)).len;refine h.box.cB fun c0 c1 c2 c3 c4 c5 c6 c7 c8 c9 c10 c11 c12 c13 c14 c15 c16 c17 c18 c19 c20=>?_;rw[hu] at c10;rw[hx];clear h hm hl hu hx;go_enter func93,ntmps93;go_wp2;(refine zcL kr kr ?_;(repeat(go_big_quiet_step (fail)));refine wqN fun y=>?_);go_wp2
 (first|go_end0|(refine bodyPost_ret (results_none rfl _ _ _) rfl ?_))
 exact⟨rfl,Ext.bent ex g M,_,_,_,_,_,_,_,HC.out.mono ex,HM.out.mono ex,.inl rfl⟩
theorem zo2 (h:WldC w0 W g w A a B b M m)(hm:MailM w0 W M m w.mail xs){x:Ltr}{D:Option Addr}{K:Nat}(hx:x.dst=1)(hl:LogW w0 W D x.msg.recs.length K x.msg.recs)(hu:w.a.up=true){n:Nod}{z:Msg}{ok:Bool}{er:Int}(hv:recvV w.a.node x.msg=(n,z,ok,er))(hz:z.recs=[]∧z.before=0∧z.acked=0){v:Wld}(hve:er≠0→v=w)(hvq:er=0→∀q:Int,(if x.msg.kind=0∧x.msg.term=n.term then 0 else w.a.quiet)=q→v=if ok=true then postW ⟨w.now,w.limit,w.delay,w.cut,⟨n,true,q⟩,w.b,w.mail⟩ 2 z else⟨w.now,w.limit,w.delay,w.cut,⟨n,true,q⟩,w.b,w.mail⟩)(hwv:er=0→∀q:Int,q=0∨q=w.a.quiet→WldOk ⟨w.now,w.limit,w.delay,w.cut,⟨n,true,q⟩,w.b,w.mail⟩):Calls prog 93 #[.pointer (some ⟨g,0,none⟩),.agg (Ll x D K)] W (StepM w0 W g M v):=by
 have HC:=Lib.hid h;have HM:=zh hm;have HL:=zh hl;have hla:=(h.qa.recs h.ext (Ext.refl W)).len;have hlb:=(h.qb.recs h.ext (Ext.refl W)).len;have hlx:=(hl.recs h.ext (Ext.refl W)).len;refine h.box.cB fun c0 c1 c2 c3 c4 c5 c6 c7 c8 c9 c10 c11 c12 c13 c14 c15 c16 c17 c18 c19 c20=>?_;rw[hu] at c10;rw[hx];have HV:=zh hv;have HE:=zh (show ∀r∈n.log,AcnAt w0 r.act from fun r hr=>by
  have hr':r∈(recvV w.a.node x.msg).1.log:=by rw[hv];exact hr
  rcases zcF w.a.node x.msg r hr' with h1|h1
  ·exact h.qa.el r h1
  ·exact hl.el r h1)
 have HZ:=zh hz;have HVE:=zh hve;have HVQ:=zh hvq;have HWQ:=zh hwv;have HU:=zh hu;clear h hm hl hu hv hx hz hve hvq hwv;go_enter func93,ntmps93;go_wp2;(refine zcL kr kr ?_;(repeat(go_big_quiet_step (fail)));refine wqN fun y=>?_);go_wp2_with fail;refine zaG (fun W9 hW9=> ?_);have k3:BoxAt W9 W.heap.size [.int .i64 1,x.at_,x.msg.kind,x.msg.term,x.msg.at_,x.msg.before,.slice D x.msg.recs.length K,x.msg.acked] 115:=by rw[hW9];exact bxA
 have x9:Ext W W9:=by rw[hW9];exact ex
 have h9:=HC.out.mono x9;have hu9:=HL.out.mono x9;have hgl:g<W.heap.size:=HC.out.box.lt;have hs9:W.heap.size<W9.heap.size:=k3.lt;clear hW9 c0 c1 c2 c3 c4 c5 c6 c7 c8 c9 c10 c11 c12 c13 c14 c15 c16 c17 c18 c19 c20;refine h9.box.cB fun c0 c1 c2 c3 c4 c5 c6 c7 c8 c9 c10 c11 c12 c13 c14 c15 c16 c17 c18 c19 c20=>?_;rw[HU.out] at c10;refine k3.cA fun e0 e1 e2 e3 e4 e5 e6 e7=>?_;refine zrD 14 [9,10,11] [Stab.is (.pointer (some ⟨g,4,none⟩)),Stab.is (.pointer (some ⟨g,4,none⟩)),Stab.is (.pointer (some ⟨g,4,none⟩)),Stab.is (.agg (Ln w.a.node A a)),Stab.is (.pointer (some ⟨W.heap.size,2,none⟩)),Stab.is (.agg (Lm x.msg D K)),Stab.recv w0 n z ok er,Stab.recv w0 n z ok er,Stab.nod w0 n,Stab.is (.agg (La z)),Stab.is (.bool ok),Stab.is (.int .i64 er),Stab.box W9.heap.size Zn 24,Stab.box W9.heap.size Zm 113] (fun u=>by(simp only[zc0,List.take_succ_cons,List.take_zero,Act.put,Nat.zero_add,Nat.reduceAdd]);(try simp only[lsT,lsS,lsZ]);exact rfl) kr kr (fun _ _ _ _ _ h=>h) ?_ ?_
 ·refine⟨?_,?_,?_,?_,?_,?_,?_,?_,?_,?_,?_,?_,?_,?_,trivial⟩
  ·refine sla fun u y9 hd=>?_;refine za0 rfl rfl rfl ?_;intro K9 hK;go_simp;exact hK _ _ rfl ex rfl
  ·refine sla fun u y9 hd=>?_;have e0:u 0=.pointer (some ⟨g,4,none⟩):=hd 0 kr;simp only[e0];refine za0 rfl rfl rfl ?_;intro K9 hK;go_simp;exact hK _ _ rfl ex rfl
  ·refine sla fun u y9 hd=>?_;have e1:u 1=.pointer (some ⟨g,4,none⟩):=hd 1 kr;simp only[e1];refine za0 rfl rfl rfl ?_;intro K9 hK;go_simp;exact hK _ _ rfl ex rfl
  ·refine sla fun u y9 hd=>?_;have e2:u 2=.pointer (some ⟨g,4,none⟩):=hd 2 kr;simp only[e2];refine za0 rfl rfl rfl ?_;intro K9 hK;go_simp;exact hK _ _ rfl ex rfl
  ·refine sla fun u y9 hd=>?_;refine za0 rfl rfl rfl ?_;intro K9 hK;go_simp;exact hK _ _ rfl ex rfl
  ·refine sla fun u y9 hd=>?_;have e4:u 4=.pointer (some ⟨W.heap.size,2,none⟩):=hd 4 kr;simp only[e4];refine za0 rfl rfl rfl ?_;intro K9 hK;go_simp;exact hK _ _ rfl ex rfl
  ·refine sla fun u y9 hd=>?_;have e3:u 3=.agg (Ln w.a.node A a):=hd 3 kr;have e5:u 5=.agg (Lm x.msg D K):=hd 5 kr;simp only[e3,e5];refine za0 rfl rfl rfl ?_;intro K9 hK;go_simp;go_at_call 105;refine(zbn w.a.node A a x.msg D K _ (h9.qa.recs h9.ext ex) (hu9.recs h9.ext ex) n z ok er HV.out).mono ?_;rintro e w' ⟨D,K,rfl,hx,hl⟩;exact hK _ _ rfl hx ⟨D,K,rfl,LogIn.logw hl rfl hx HE.out⟩
  ·refine sla fun u y9 hd=>?_;obtain⟨D6,K6,e6,h6⟩:=hd 6 kr;simp only[e6];refine za0 rfl rfl rfl ?_;intro K9 hK;go_simp;exact hK _ _ rfl ex ⟨D6,K6,rfl,h6⟩
  ·refine sla fun u y9 hd=>?_;obtain⟨D6,K6,e7,h6⟩:=hd 7 kr;simp only[e7];refine za0 rfl rfl rfl ?_;intro K9 hK;go_simp;exact hK _ _ rfl ex ⟨D6,K6,rfl,h6⟩
  ·(show PureA _ _ _ _ _ _);intro u w1 hx1 hd;obtain⟨y9,rfl⟩:=hx1.get;clear hx1
   obtain⟨D6,K6,e7,h6⟩:=hd 7 kr;simp only[e7];refine zaI (v:=.agg (La z)) rfl rfl (fun w9=> ?_) rfl;go_simp
  ·(show PureA _ _ _ _ _ _);intro u w1 hx1 hd;obtain⟨y9,rfl⟩:=hx1.get;clear hx1
   obtain⟨D6,K6,e7,h6⟩:=hd 7 kr;simp only[e7];refine zaI (v:=.bool ok) rfl rfl (fun w9=> ?_) rfl;go_simp
  ·(show PureA _ _ _ _ _ _);intro u w1 hx1 hd;obtain⟨y9,rfl⟩:=hx1.get;clear hx1
   obtain⟨D6,K6,e7,h6⟩:=hd 7 kr;simp only[e7];refine zaI (v:=.int .i64 er) rfl rfl (fun w9=> ?_) rfl;go_simp
  ·refine sla fun u y9 hd=>?_;refine za0 rfl rfl rfl ?_;intro K9 hK;go_simp;exact hK _ _ rfl ex ⟨_,rfl,(by first|exact Nat.le_refl _|omega|(simp[go_sem];done)|(simp[go_sem];omega)),BoxAt.new (by first|rfl|simp[go_sem]) _ _⟩
  ·refine sla fun u y9 hd=>?_;refine za0 rfl rfl rfl ?_;intro K9 hK;go_simp;exact hK _ _ rfl ex ⟨_,rfl,(by first|exact Nat.le_refl _|omega|(simp[go_sem];done)|(simp[go_sem];omega)),BoxAt.new (by first|rfl|simp[go_sem]) _ _⟩
 ·intro u w2 hx2 hT;obtain⟨t0,t1,t2,t3,t4,t5,t6,t7,t8,t9,t10,t11,t12,t13,-⟩:=hT;obtain⟨y9,rfl⟩:=hx2.get;clear hx2;obtain⟨D8,K8,e8,h8⟩:=t8;have e9:u 9=.agg (La z):=t9;have e10:u 10=.bool ok:=t10;have e11:u 11=.int .i64 er:=t11;obtain⟨g12,e12,hg12,b12⟩:=t12;obtain⟨g13,e13,hg13,b13⟩:=t13;simp only[e8,e9,e10,e11,e12,e13];clear e8 e9 e10 e11 e12 e13 t0 t1 t2 t3 t4 t5 t6 t7 t9 t10 t11;simp only[List.drop_succ_cons,List.drop_zero];have hxx:Ext W9 (xt W9.drew y9):=ex;by_cases her:er=0;rotate_left
  ·have hv0:=(HVE.out her).symm;subst hv0;have hz1:(er !=0)=true:=by simpa using her
   clear her
   go_wp2_with (first
    |(refine za2 rfl 24 (.tmp 5) (.tmp 29) rfl b12 rfl (Ln n D8 K8) rfl rfl (show 6<44 by decide) kr (zaa n D8 K8) ?_;intro W1 ht1 hb1)
    |(refine za2 rfl 113 (.tmp 6) (.tmp 30) rfl (b13.turn ht1 (b13.differ b12 dk)) rfl (La z) rfl rfl (show 6<44 by decide) kr (zaT z) ?_;intro W2 ht2 hb2))
   (first|go_end0|(refine bodyPost_ret (results_none rfl _ _ _) rfl ?_))
   have x2:Ext W W2:=ht2.ext (ht1.ext (x9.trans hxx) om) om;exact⟨rfl,(Ext.bent x2 g M).trans (.inl rfl) (Ext.bent ex g M),_,_,_,_,_,_,_,(HC.out.mono x2).mono ex,(HM.out.mono x2).mono ex,.inl rfl⟩
  subst her;by_cases hk:x.msg.kind=0
  ·by_cases hkt:x.msg.term=n.term
   ·have hve:=HVQ.out rfl (0) (if_pos ⟨hk,hkt⟩);have HWV:=zh (HWQ.out rfl (0) (.inl rfl));have hk1:(x.msg.kind==0)=true:=by simpa using hk
    have hk2:(x.msg.term==n.term)=true:=by simpa using hkt
    clear hk hkt;cases ok with
    |true=>
     rw[if_pos rfl] at hve;subst hve
     go_wp2_with (first
      |(refine za2 rfl 24 (.tmp 5) (.tmp 29) rfl b12 rfl (Ln n D8 K8) rfl rfl (show 6<44 by decide) kr (zaa n D8 K8) ?_;intro W1 ht1 hb1)
      |(refine za2 rfl 113 (.tmp 6) (.tmp 30) rfl (b13.turn ht1 (b13.differ b12 dk)) rfl (La z) rfl rfl (show 6<44 by decide) kr (zaT z) ?_;intro W2 ht2 hb2;have hne:=b13.differ b12 dk;have i8:=hb1.turn ht2 (Ne.symm hne);have m8:=(h8.turn ht1).turn ht2;have x2:Ext W9 W2:=ht2.ext (ht1.ext hxx hg12) hg13;have h2:=h9.mono x2;have k4:=((k3.mono hxx).turn ht1 om).turn ht2 om;clear ht1 ht2 hb1 c0 c1 c2 c3 c4 c5 c6 c7 c8 c9 c10 c11 c12 c13 c14 c15 c16 c17 c18 c19 c20 e0 e1 e2 e3 e4 e5 e6 e7 hxx b12 b13 h8 k3;have hbo:BoxAt W2 g (Lv w w.a.node A a true w.a.quiet w.b.node B b w.b.up w.b.quiet M m) 30:=(by have:=h2.box;rw[HU.out] at this;exact this);obtain⟨d0,d1,d2,d3,d4,d5⟩:=i8.six)
      |(refine zab rfl 24 (.tmp 38) (.tmp 36) rfl (hbo.mono ex) 4 rfl (Ln n D8 K8) rfl (show 10≤21 by decide) (show 21<44 by decide) kr (zaa n D8 K8) (Lv w n D8 K8 true w.a.quiet w.b.node B b w.b.up w.b.quiet M m) rfl ?_;intro W5 ht5 hb5;have hq12:W9.heap.size≤g12:=hg12;have hq13:W9.heap.size≤g13:=hg13;have i9:=(i8.mono ex).turn ht5 om;have j9:=(hb2.mono ex).turn ht5 om;have k5:=(k4.mono ex).turn ht5 om;have hC5:WldC w0 W5 g ⟨w.now,w.limit,w.delay,w.cut,⟨n,true,w.a.quiet⟩,w.b,w.mail⟩ D8 K8 B b M m:=⟨ht5.ext (h2.ext.trans ex) h2.ge,h2.ge,hb5,(m8.mono ex).turn ht5,(h2.qb.mono ex).turn ht5⟩;have hB5:Bent g M W W5:=(Ext.bent ((x9.trans x2).trans ex) g M).trans (.inl rfl) ((h2.mono ex).bent ht5.grown M);have hM5:=((HM.out.mono (x9.trans x2)).mono ex).turn (h2.mono ex) ht5.grown;clear ht5 i8 hb2 k4 m8 h2 hbo d0 d1 d2 d3 d4 d5 h9 hu9 x2 x9;obtain⟨d0,d1,d2,d3,d4,d5⟩:=i9.six;refine k5.cA fun e0 e1 e2 e3 e4 e5 e6 e7=>?_;obtain⟨f0,f1,f2,f3,f4,f5⟩:=j9.six)
      |(refine zae rfl 3 (.tmp 53) (.const (.int .i64 0)) rfl (hC5.box.mono ex) 11 rfl (.int .i64 0) rfl (show 11<21 by decide) (show 21<44 by decide) kr rfl (Lv w n D8 K8 true 0 w.b.node B b w.b.up w.b.quiet M m) rfl ?_;intro W6 ht6 hb6;have j6:=(j9.mono ex).turn ht6 om;have k6:=(k5.mono ex).turn ht6 om;have hC6:WldC w0 W6 g ⟨w.now,w.limit,w.delay,w.cut,⟨n,true,0⟩,w.b,w.mail⟩ D8 K8 B b M m:=⟨ht6.ext (hC5.ext.trans ex) hC5.ge,hC5.ge,hb6,(hC5.qa.mono ex).turn ht6,(hC5.qb.mono ex).turn ht6⟩;have hB6:Bent g M W W6:=hB5.trans (.inl rfl) ((Ext.bent ex g M).trans (.inl rfl) ((hC5.mono ex).bent ht6.grown M));have hM6:=MailM.turn (w:=⟨w.now,w.limit,w.delay,w.cut,⟨n,true,w.a.quiet⟩,w.b,w.mail⟩) (hM5.mono ex) (hC5.mono ex) ht6.grown;clear d0 d1 d2 d3 d4 d5 e0 e1 e2 e3 e4 e5 e6 e7 f0 f1 f2 f3 f4 f5 j9 k5;have e0:=k6.c 0 rfl;obtain⟨f0,f1,f2,f3,f4,f5⟩:=j6.six)
      |(go_at_call 133;rw[show(#[.pointer (some ⟨g,0,none⟩),.int .i64 2,.agg (La z)]:Array Value)=#[.pointer (some ⟨g,0,none⟩),.int .i64 2,.agg (Lm z none 0)] by rw[HZ.out.1,HZ.out.2.1,HZ.out.2.2];rfl];refine(zeQ (x:=z) (D:=none) (K:=0) (hC6.mono ex) (hM6.mono ex) HWV.out (by rw[HZ.out.1];exact LogW.nil _ _) (by rw[HZ.out.1];exact Nat.zero_le _)).mono ?_;rintro e w' ⟨rfl,hS⟩))
     (first|go_end0|(refine bodyPost_ret (results_none rfl _ _ _) rfl ?_))
     exact StepM.of (hB6.trans (.inl rfl) (Ext.bent ex g M)) ⟨rfl,hS⟩
    |false=>
     rw[if_neg (by simp)] at hve;subst hve;clear HWV
     go_wp2_with (first
      |(refine za2 rfl 24 (.tmp 5) (.tmp 29) rfl b12 rfl (Ln n D8 K8) rfl rfl (show 6<44 by decide) kr (zaa n D8 K8) ?_;intro W1 ht1 hb1)
      |(refine za2 rfl 113 (.tmp 6) (.tmp 30) rfl (b13.turn ht1 (b13.differ b12 dk)) rfl (La z) rfl rfl (show 6<44 by decide) kr (zaT z) ?_;intro W2 ht2 hb2;have hne:=b13.differ b12 dk;have i8:=hb1.turn ht2 (Ne.symm hne);have m8:=(h8.turn ht1).turn ht2;have x2:Ext W9 W2:=ht2.ext (ht1.ext hxx hg12) hg13;have h2:=h9.mono x2;have k4:=((k3.mono hxx).turn ht1 om).turn ht2 om;clear ht1 ht2 hb1 c0 c1 c2 c3 c4 c5 c6 c7 c8 c9 c10 c11 c12 c13 c14 c15 c16 c17 c18 c19 c20 e0 e1 e2 e3 e4 e5 e6 e7 hxx b12 b13 h8 k3;have hbo:BoxAt W2 g (Lv w w.a.node A a true w.a.quiet w.b.node B b w.b.up w.b.quiet M m) 30:=(by have:=h2.box;rw[HU.out] at this;exact this);obtain⟨d0,d1,d2,d3,d4,d5⟩:=i8.six)
      |(refine zab rfl 24 (.tmp 38) (.tmp 36) rfl (hbo.mono ex) 4 rfl (Ln n D8 K8) rfl (show 10≤21 by decide) (show 21<44 by decide) kr (zaa n D8 K8) (Lv w n D8 K8 true w.a.quiet w.b.node B b w.b.up w.b.quiet M m) rfl ?_;intro W5 ht5 hb5;have hq12:W9.heap.size≤g12:=hg12;have hq13:W9.heap.size≤g13:=hg13;have i9:=(i8.mono ex).turn ht5 om;have j9:=(hb2.mono ex).turn ht5 om;have k5:=(k4.mono ex).turn ht5 om;have hC5:WldC w0 W5 g ⟨w.now,w.limit,w.delay,w.cut,⟨n,true,w.a.quiet⟩,w.b,w.mail⟩ D8 K8 B b M m:=⟨ht5.ext (h2.ext.trans ex) h2.ge,h2.ge,hb5,(m8.mono ex).turn ht5,(h2.qb.mono ex).turn ht5⟩;have hB5:Bent g M W W5:=(Ext.bent ((x9.trans x2).trans ex) g M).trans (.inl rfl) ((h2.mono ex).bent ht5.grown M);have hM5:=((HM.out.mono (x9.trans x2)).mono ex).turn (h2.mono ex) ht5.grown;clear ht5 i8 hb2 k4 m8 h2 hbo d0 d1 d2 d3 d4 d5 h9 hu9 x2 x9;obtain⟨d0,d1,d2,d3,d4,d5⟩:=i9.six;refine k5.cA fun e0 e1 e2 e3 e4 e5 e6 e7=>?_;obtain⟨f0,f1,f2,f3,f4,f5⟩:=j9.six)
      |(refine zae rfl 3 (.tmp 53) (.const (.int .i64 0)) rfl (hC5.box.mono ex) 11 rfl (.int .i64 0) rfl (show 11<21 by decide) (show 21<44 by decide) kr rfl (Lv w n D8 K8 true 0 w.b.node B b w.b.up w.b.quiet M m) rfl ?_;intro W6 ht6 hb6;have j6:=(j9.mono ex).turn ht6 om;have k6:=(k5.mono ex).turn ht6 om;have hC6:WldC w0 W6 g ⟨w.now,w.limit,w.delay,w.cut,⟨n,true,0⟩,w.b,w.mail⟩ D8 K8 B b M m:=⟨ht6.ext (hC5.ext.trans ex) hC5.ge,hC5.ge,hb6,(hC5.qa.mono ex).turn ht6,(hC5.qb.mono ex).turn ht6⟩;have hB6:Bent g M W W6:=hB5.trans (.inl rfl) ((Ext.bent ex g M).trans (.inl rfl) ((hC5.mono ex).bent ht6.grown M));have hM6:=MailM.turn (w:=⟨w.now,w.limit,w.delay,w.cut,⟨n,true,w.a.quiet⟩,w.b,w.mail⟩) (hM5.mono ex) (hC5.mono ex) ht6.grown;clear d0 d1 d2 d3 d4 d5 e0 e1 e2 e3 e4 e5 e6 e7 f0 f1 f2 f3 f4 f5 j9 k5;have e0:=k6.c 0 rfl;obtain⟨f0,f1,f2,f3,f4,f5⟩:=j6.six))
     (first|go_end0|(refine bodyPost_ret (results_none rfl _ _ _) rfl ?_))
     exact⟨rfl,hB6.trans (.inl rfl) (Ext.bent ex g M),_,_,_,_,_,_,_,hC6.mono ex,hM6.mono ex,.inl rfl⟩
   ·have hve:=HVQ.out rfl (w.a.quiet) (if_neg fun hc=>hkt hc.2);have HWV:=zh (HWQ.out rfl (w.a.quiet) (.inr rfl));have hk1:(x.msg.kind==0)=true:=by simpa using hk
    have hk2:(x.msg.term==n.term)=false:=by simpa using hkt
    clear hk hkt;cases ok with
    |true=>
     rw[if_pos rfl] at hve;subst hve
     go_wp2_with (first
      |(refine za2 rfl 24 (.tmp 5) (.tmp 29) rfl b12 rfl (Ln n D8 K8) rfl rfl (show 6<44 by decide) kr (zaa n D8 K8) ?_;intro W1 ht1 hb1)
      |(refine za2 rfl 113 (.tmp 6) (.tmp 30) rfl (b13.turn ht1 (b13.differ b12 dk)) rfl (La z) rfl rfl (show 6<44 by decide) kr (zaT z) ?_;intro W2 ht2 hb2;have hne:=b13.differ b12 dk;have i8:=hb1.turn ht2 (Ne.symm hne);have m8:=(h8.turn ht1).turn ht2;have x2:Ext W9 W2:=ht2.ext (ht1.ext hxx hg12) hg13;have h2:=h9.mono x2;have k4:=((k3.mono hxx).turn ht1 om).turn ht2 om;clear ht1 ht2 hb1 c0 c1 c2 c3 c4 c5 c6 c7 c8 c9 c10 c11 c12 c13 c14 c15 c16 c17 c18 c19 c20 e0 e1 e2 e3 e4 e5 e6 e7 hxx b12 b13 h8 k3;have hbo:BoxAt W2 g (Lv w w.a.node A a true w.a.quiet w.b.node B b w.b.up w.b.quiet M m) 30:=(by have:=h2.box;rw[HU.out] at this;exact this);obtain⟨d0,d1,d2,d3,d4,d5⟩:=i8.six)
      |(refine zab rfl 24 (.tmp 38) (.tmp 36) rfl (hbo.mono ex) 4 rfl (Ln n D8 K8) rfl (show 10≤21 by decide) (show 21<44 by decide) kr (zaa n D8 K8) (Lv w n D8 K8 true w.a.quiet w.b.node B b w.b.up w.b.quiet M m) rfl ?_;intro W5 ht5 hb5;have hq12:W9.heap.size≤g12:=hg12;have hq13:W9.heap.size≤g13:=hg13;have i9:=(i8.mono ex).turn ht5 om;have j9:=(hb2.mono ex).turn ht5 om;have k5:=(k4.mono ex).turn ht5 om;have hC5:WldC w0 W5 g ⟨w.now,w.limit,w.delay,w.cut,⟨n,true,w.a.quiet⟩,w.b,w.mail⟩ D8 K8 B b M m:=⟨ht5.ext (h2.ext.trans ex) h2.ge,h2.ge,hb5,(m8.mono ex).turn ht5,(h2.qb.mono ex).turn ht5⟩;have hB5:Bent g M W W5:=(Ext.bent ((x9.trans x2).trans ex) g M).trans (.inl rfl) ((h2.mono ex).bent ht5.grown M);have hM5:=((HM.out.mono (x9.trans x2)).mono ex).turn (h2.mono ex) ht5.grown;clear ht5 i8 hb2 k4 m8 h2 hbo d0 d1 d2 d3 d4 d5 h9 hu9 x2 x9;obtain⟨d0,d1,d2,d3,d4,d5⟩:=i9.six;refine k5.cA fun e0 e1 e2 e3 e4 e5 e6 e7=>?_;obtain⟨f0,f1,f2,f3,f4,f5⟩:=j9.six)
      |(go_at_call 133;rw[show(#[.pointer (some ⟨g,0,none⟩),.int .i64 2,.agg (La z)]:Array Value)=#[.pointer (some ⟨g,0,none⟩),.int .i64 2,.agg (Lm z none 0)] by rw[HZ.out.1,HZ.out.2.1,HZ.out.2.2];rfl];refine(zeQ (x:=z) (D:=none) (K:=0) (hC5.mono ex) (hM5.mono ex) HWV.out (by rw[HZ.out.1];exact LogW.nil _ _) (by rw[HZ.out.1];exact Nat.zero_le _)).mono ?_;rintro e w' ⟨rfl,hS⟩))
     (first|go_end0|(refine bodyPost_ret (results_none rfl _ _ _) rfl ?_))
     exact StepM.of (hB5.trans (.inl rfl) (Ext.bent ex g M)) ⟨rfl,hS⟩
    |false=>
     rw[if_neg (by simp)] at hve;subst hve;clear HWV
     go_wp2_with (first
      |(refine za2 rfl 24 (.tmp 5) (.tmp 29) rfl b12 rfl (Ln n D8 K8) rfl rfl (show 6<44 by decide) kr (zaa n D8 K8) ?_;intro W1 ht1 hb1)
      |(refine za2 rfl 113 (.tmp 6) (.tmp 30) rfl (b13.turn ht1 (b13.differ b12 dk)) rfl (La z) rfl rfl (show 6<44 by decide) kr (zaT z) ?_;intro W2 ht2 hb2;have hne:=b13.differ b12 dk;have i8:=hb1.turn ht2 (Ne.symm hne);have m8:=(h8.turn ht1).turn ht2;have x2:Ext W9 W2:=ht2.ext (ht1.ext hxx hg12) hg13;have h2:=h9.mono x2;have k4:=((k3.mono hxx).turn ht1 om).turn ht2 om;clear ht1 ht2 hb1 c0 c1 c2 c3 c4 c5 c6 c7 c8 c9 c10 c11 c12 c13 c14 c15 c16 c17 c18 c19 c20 e0 e1 e2 e3 e4 e5 e6 e7 hxx b12 b13 h8 k3;have hbo:BoxAt W2 g (Lv w w.a.node A a true w.a.quiet w.b.node B b w.b.up w.b.quiet M m) 30:=(by have:=h2.box;rw[HU.out] at this;exact this);obtain⟨d0,d1,d2,d3,d4,d5⟩:=i8.six)
      |(refine zab rfl 24 (.tmp 38) (.tmp 36) rfl (hbo.mono ex) 4 rfl (Ln n D8 K8) rfl (show 10≤21 by decide) (show 21<44 by decide) kr (zaa n D8 K8) (Lv w n D8 K8 true w.a.quiet w.b.node B b w.b.up w.b.quiet M m) rfl ?_;intro W5 ht5 hb5;have hq12:W9.heap.size≤g12:=hg12;have hq13:W9.heap.size≤g13:=hg13;have i9:=(i8.mono ex).turn ht5 om;have j9:=(hb2.mono ex).turn ht5 om;have k5:=(k4.mono ex).turn ht5 om;have hC5:WldC w0 W5 g ⟨w.now,w.limit,w.delay,w.cut,⟨n,true,w.a.quiet⟩,w.b,w.mail⟩ D8 K8 B b M m:=⟨ht5.ext (h2.ext.trans ex) h2.ge,h2.ge,hb5,(m8.mono ex).turn ht5,(h2.qb.mono ex).turn ht5⟩;have hB5:Bent g M W W5:=(Ext.bent ((x9.trans x2).trans ex) g M).trans (.inl rfl) ((h2.mono ex).bent ht5.grown M);have hM5:=((HM.out.mono (x9.trans x2)).mono ex).turn (h2.mono ex) ht5.grown;clear ht5 i8 hb2 k4 m8 h2 hbo d0 d1 d2 d3 d4 d5 h9 hu9 x2 x9;obtain⟨d0,d1,d2,d3,d4,d5⟩:=i9.six;refine k5.cA fun e0 e1 e2 e3 e4 e5 e6 e7=>?_;obtain⟨f0,f1,f2,f3,f4,f5⟩:=j9.six))
     (first|go_end0|(refine bodyPost_ret (results_none rfl _ _ _) rfl ?_))
     exact⟨rfl,hB5.trans (.inl rfl) (Ext.bent ex g M),_,_,_,_,_,_,_,hC5.mono ex,hM5.mono ex,.inl rfl⟩
  ·have hve:=HVQ.out rfl (w.a.quiet) (if_neg fun hc=>hk hc.1);have HWV:=zh (HWQ.out rfl (w.a.quiet) (.inr rfl));have hk1:(x.msg.kind==0)=false:=by simpa using hk
   clear hk;cases ok with
   |true=>
    rw[if_pos rfl] at hve;subst hve
    go_wp2_with (first
     |(refine za2 rfl 24 (.tmp 5) (.tmp 29) rfl b12 rfl (Ln n D8 K8) rfl rfl (show 6<44 by decide) kr (zaa n D8 K8) ?_;intro W1 ht1 hb1)
     |(refine za2 rfl 113 (.tmp 6) (.tmp 30) rfl (b13.turn ht1 (b13.differ b12 dk)) rfl (La z) rfl rfl (show 6<44 by decide) kr (zaT z) ?_;intro W2 ht2 hb2;have hne:=b13.differ b12 dk;have i8:=hb1.turn ht2 (Ne.symm hne);have m8:=(h8.turn ht1).turn ht2;have x2:Ext W9 W2:=ht2.ext (ht1.ext hxx hg12) hg13;have h2:=h9.mono x2;have k4:=((k3.mono hxx).turn ht1 om).turn ht2 om;clear ht1 ht2 hb1 c0 c1 c2 c3 c4 c5 c6 c7 c8 c9 c10 c11 c12 c13 c14 c15 c16 c17 c18 c19 c20 e0 e1 e2 e3 e4 e5 e6 e7 hxx b12 b13 h8 k3;have hbo:BoxAt W2 g (Lv w w.a.node A a true w.a.quiet w.b.node B b w.b.up w.b.quiet M m) 30:=(by have:=h2.box;rw[HU.out] at this;exact this);obtain⟨d0,d1,d2,d3,d4,d5⟩:=i8.six)
     |(refine zab rfl 24 (.tmp 38) (.tmp 36) rfl (hbo.mono ex) 4 rfl (Ln n D8 K8) rfl (show 10≤21 by decide) (show 21<44 by decide) kr (zaa n D8 K8) (Lv w n D8 K8 true w.a.quiet w.b.node B b w.b.up w.b.quiet M m) rfl ?_;intro W5 ht5 hb5;have hq12:W9.heap.size≤g12:=hg12;have hq13:W9.heap.size≤g13:=hg13;have i9:=(i8.mono ex).turn ht5 om;have j9:=(hb2.mono ex).turn ht5 om;have k5:=(k4.mono ex).turn ht5 om;have hC5:WldC w0 W5 g ⟨w.now,w.limit,w.delay,w.cut,⟨n,true,w.a.quiet⟩,w.b,w.mail⟩ D8 K8 B b M m:=⟨ht5.ext (h2.ext.trans ex) h2.ge,h2.ge,hb5,(m8.mono ex).turn ht5,(h2.qb.mono ex).turn ht5⟩;have hB5:Bent g M W W5:=(Ext.bent ((x9.trans x2).trans ex) g M).trans (.inl rfl) ((h2.mono ex).bent ht5.grown M);have hM5:=((HM.out.mono (x9.trans x2)).mono ex).turn (h2.mono ex) ht5.grown;clear ht5 i8 hb2 k4 m8 h2 hbo d0 d1 d2 d3 d4 d5 h9 hu9 x2 x9;obtain⟨d0,d1,d2,d3,d4,d5⟩:=i9.six;refine k5.cA fun e0 e1 e2 e3 e4 e5 e6 e7=>?_;obtain⟨f0,f1,f2,f3,f4,f5⟩:=j9.six)
     |(go_at_call 133;rw[show(#[.pointer (some ⟨g,0,none⟩),.int .i64 2,.agg (La z)]:Array Value)=#[.pointer (some ⟨g,0,none⟩),.int .i64 2,.agg (Lm z none 0)] by rw[HZ.out.1,HZ.out.2.1,HZ.out.2.2];rfl];refine(zeQ (x:=z) (D:=none) (K:=0) (hC5.mono ex) (hM5.mono ex) HWV.out (by rw[HZ.out.1];exact LogW.nil _ _) (by rw[HZ.out.1];exact Nat.zero_le _)).mono ?_;rintro e w' ⟨rfl,hS⟩))
    (first|go_end0|(refine bodyPost_ret (results_none rfl _ _ _) rfl ?_))
    exact StepM.of (hB5.trans (.inl rfl) (Ext.bent ex g M)) ⟨rfl,hS⟩
   |false=>
    rw[if_neg (by simp)] at hve;subst hve;clear HWV
    go_wp2_with (first
     |(refine za2 rfl 24 (.tmp 5) (.tmp 29) rfl b12 rfl (Ln n D8 K8) rfl rfl (show 6<44 by decide) kr (zaa n D8 K8) ?_;intro W1 ht1 hb1)
     |(refine za2 rfl 113 (.tmp 6) (.tmp 30) rfl (b13.turn ht1 (b13.differ b12 dk)) rfl (La z) rfl rfl (show 6<44 by decide) kr (zaT z) ?_;intro W2 ht2 hb2;have hne:=b13.differ b12 dk;have i8:=hb1.turn ht2 (Ne.symm hne);have m8:=(h8.turn ht1).turn ht2;have x2:Ext W9 W2:=ht2.ext (ht1.ext hxx hg12) hg13;have h2:=h9.mono x2;have k4:=((k3.mono hxx).turn ht1 om).turn ht2 om;clear ht1 ht2 hb1 c0 c1 c2 c3 c4 c5 c6 c7 c8 c9 c10 c11 c12 c13 c14 c15 c16 c17 c18 c19 c20 e0 e1 e2 e3 e4 e5 e6 e7 hxx b12 b13 h8 k3;have hbo:BoxAt W2 g (Lv w w.a.node A a true w.a.quiet w.b.node B b w.b.up w.b.quiet M m) 30:=(by have:=h2.box;rw[HU.out] at this;exact this);obtain⟨d0,d1,d2,d3,d4,d5⟩:=i8.six)
     |(refine zab rfl 24 (.tmp 38) (.tmp 36) rfl (hbo.mono ex) 4 rfl (Ln n D8 K8) rfl (show 10≤21 by decide) (show 21<44 by decide) kr (zaa n D8 K8) (Lv w n D8 K8 true w.a.quiet w.b.node B b w.b.up w.b.quiet M m) rfl ?_;intro W5 ht5 hb5;have hq12:W9.heap.size≤g12:=hg12;have hq13:W9.heap.size≤g13:=hg13;have i9:=(i8.mono ex).turn ht5 om;have j9:=(hb2.mono ex).turn ht5 om;have k5:=(k4.mono ex).turn ht5 om;have hC5:WldC w0 W5 g ⟨w.now,w.limit,w.delay,w.cut,⟨n,true,w.a.quiet⟩,w.b,w.mail⟩ D8 K8 B b M m:=⟨ht5.ext (h2.ext.trans ex) h2.ge,h2.ge,hb5,(m8.mono ex).turn ht5,(h2.qb.mono ex).turn ht5⟩;have hB5:Bent g M W W5:=(Ext.bent ((x9.trans x2).trans ex) g M).trans (.inl rfl) ((h2.mono ex).bent ht5.grown M);have hM5:=((HM.out.mono (x9.trans x2)).mono ex).turn (h2.mono ex) ht5.grown;clear ht5 i8 hb2 k4 m8 h2 hbo d0 d1 d2 d3 d4 d5 h9 hu9 x2 x9;obtain⟨d0,d1,d2,d3,d4,d5⟩:=i9.six;refine k5.cA fun e0 e1 e2 e3 e4 e5 e6 e7=>?_;obtain⟨f0,f1,f2,f3,f4,f5⟩:=j9.six))
    (first|go_end0|(refine bodyPost_ret (results_none rfl _ _ _) rfl ?_))
    exact⟨rfl,hB5.trans (.inl rfl) (Ext.bent ex g M),_,_,_,_,_,_,_,hC5.mono ex,hM5.mono ex,.inl rfl⟩
theorem zlg (h:WldC w0 W g w A a B b M m)(hm:MailM w0 W M m w.mail xs)(hw:WldOk w){x:Ltr}{D:Option Addr}{K:Nat}(hx:x.dst=1)(hl:LogW w0 W D x.msg.recs.length K x.msg.recs):Calls prog 93 #[.pointer (some ⟨g,0,none⟩),.agg (Ll x D K)] W (StepM w0 W g M (zau w x)):=by
 cases hu:w.a.up with
 |false=>
  have e:zau w x=w:=by unfold zau;simp only;rw[hx,zeu,if_pos (.inl hu)]
  rw[e];exact zlh h hm hx hl hu
 |true=>
  obtain⟨n,z,ok,er,hv⟩:∃n z ok er,recvV w.a.node x.msg=(n,z,ok,er):=⟨_,_,_,_,rfl⟩
  have hz:=zww w.a.node x.msg;rw[hv] at hz;refine zo2 h hm hx hl hu hv hz (fun her=> ?_) (fun her q hq=> ?_) (fun her q hq=> ?_)
  ·unfold zau;simp only;rw[hx,zeu,if_pos (.inr (by rw[hv];exact her))]
  ·subst her;unfold zau;simp only;rw[hx,zeu,zgO,hv,if_neg (by rw[hu];simp),hq,hu];rfl
  ·have hle:=zb8 (n:=w.a.node) (m:=x.msg) (by rw[hv];exact her);rw[hv] at hle;have h0:=hw.a.q0;have h1:=hw.a.q1;refine zzt hw ⟨hle.node,hle.id.trans hw.a.id,?_,?_⟩
   ·show 0≤q;rcases hq with rfl|rfl<;>omega
   ·show q≤1048576;rcases hq with rfl|rfl<;>omega
end

section
variable {w0 W:World} {g:Nat} {w:Wld} {A B M:Option Addr} {a b m:Nat} {xs:List (Ltr×Option Addr×Nat)}
theorem zlj (h:WldC w0 W g w A a B b M m)(hm:MailM w0 W M m w.mail xs){x:Ltr}{D:Option Addr}{K:Nat}(hx:x.dst=2)(hl:LogW w0 W D x.msg.recs.length K x.msg.recs)(hu:w.b.up=false):Calls prog 93 #[.pointer (some ⟨g,0,none⟩),.agg (Ll x D K)] W (StepM w0 W g M w):=by
 have HC:=Lib.hid h;have HM:=zh hm;have HL:=zh hl;have hla:=(h.qa.recs h.ext (Ext.refl W)).len;have hlb:=(h.qb.recs h.ext (Ext.refl W)).len;have hlx:=(hl.recs h.ext (Ext.refl W)).len;refine h.box.cB fun c0 c1 c2 c3 c4 c5 c6 c7 c8 c9 c10 c11 c12 c13 c14 c15 c16 c17 c18 c19 c20=>?_;rw[hu] at c18;rw[hx];clear h hm hl hu hx;go_enter func93,ntmps93;go_wp2;(refine zcL kr kr ?_;(repeat(go_big_quiet_step (fail)));refine wqN fun y=>?_);go_wp2
 (first|go_end0|(refine bodyPost_ret (results_none rfl _ _ _) rfl ?_))
 exact⟨rfl,Ext.bent ex g M,_,_,_,_,_,_,_,HC.out.mono ex,HM.out.mono ex,.inl rfl⟩
theorem zo3 (h:WldC w0 W g w A a B b M m)(hm:MailM w0 W M m w.mail xs){x:Ltr}{D:Option Addr}{K:Nat}(hx:x.dst=2)(hl:LogW w0 W D x.msg.recs.length K x.msg.recs)(hu:w.b.up=true){n:Nod}{z:Msg}{ok:Bool}{er:Int}(hv:recvV w.b.node x.msg=(n,z,ok,er))(hz:z.recs=[]∧z.before=0∧z.acked=0){v:Wld}(hve:er≠0→v=w)(hvq:er=0→∀q:Int,(if x.msg.kind=0∧x.msg.term=n.term then 0 else w.b.quiet)=q→v=if ok=true then postW ⟨w.now,w.limit,w.delay,w.cut,w.a,⟨n,true,q⟩,w.mail⟩ 1 z else⟨w.now,w.limit,w.delay,w.cut,w.a,⟨n,true,q⟩,w.mail⟩)(hwv:er=0→∀q:Int,q=0∨q=w.b.quiet→WldOk ⟨w.now,w.limit,w.delay,w.cut,w.a,⟨n,true,q⟩,w.mail⟩):Calls prog 93 #[.pointer (some ⟨g,0,none⟩),.agg (Ll x D K)] W (StepM w0 W g M v):=by
 have HC:=Lib.hid h;have HM:=zh hm;have HL:=zh hl;have hla:=(h.qa.recs h.ext (Ext.refl W)).len;have hlb:=(h.qb.recs h.ext (Ext.refl W)).len;have hlx:=(hl.recs h.ext (Ext.refl W)).len;refine h.box.cB fun c0 c1 c2 c3 c4 c5 c6 c7 c8 c9 c10 c11 c12 c13 c14 c15 c16 c17 c18 c19 c20=>?_;rw[hu] at c18;rw[hx];have HV:=zh hv;have HE:=zh (show ∀r∈n.log,AcnAt w0 r.act from fun r hr=>by
  have hr':r∈(recvV w.b.node x.msg).1.log:=by rw[hv];exact hr
  rcases zcF w.b.node x.msg r hr' with h1|h1
  ·exact h.qb.el r h1
  ·exact hl.el r h1)
 have HZ:=zh hz;have HVE:=zh hve;have HVQ:=zh hvq;have HWQ:=zh hwv;have HU:=zh hu;clear h hm hl hu hv hx hz hve hvq hwv;go_enter func93,ntmps93;go_wp2;(refine zcL kr kr ?_;(repeat(go_big_quiet_step (fail)));refine wqN fun y=>?_);go_wp2_with fail;refine zaG (fun W9 hW9=> ?_);have k3:BoxAt W9 W.heap.size [.int .i64 2,x.at_,x.msg.kind,x.msg.term,x.msg.at_,x.msg.before,.slice D x.msg.recs.length K,x.msg.acked] 115:=by rw[hW9];exact bxA
 have x9:Ext W W9:=by rw[hW9];exact ex
 have h9:=HC.out.mono x9;have hu9:=HL.out.mono x9;have hgl:g<W.heap.size:=HC.out.box.lt;have hs9:W.heap.size<W9.heap.size:=k3.lt;clear hW9 c0 c1 c2 c3 c4 c5 c6 c7 c8 c9 c10 c11 c12 c13 c14 c15 c16 c17 c18 c19 c20;refine h9.box.cB fun c0 c1 c2 c3 c4 c5 c6 c7 c8 c9 c10 c11 c12 c13 c14 c15 c16 c17 c18 c19 c20=>?_;rw[HU.out] at c18;refine k3.cA fun e0 e1 e2 e3 e4 e5 e6 e7=>?_;refine zrD 14 [9,10,11] [Stab.is (.pointer (some ⟨g,12,none⟩)),Stab.is (.pointer (some ⟨g,12,none⟩)),Stab.is (.pointer (some ⟨g,12,none⟩)),Stab.is (.agg (Ln w.b.node B b)),Stab.is (.pointer (some ⟨W.heap.size,2,none⟩)),Stab.is (.agg (Lm x.msg D K)),Stab.recv w0 n z ok er,Stab.recv w0 n z ok er,Stab.nod w0 n,Stab.is (.agg (La z)),Stab.is (.bool ok),Stab.is (.int .i64 er),Stab.box W9.heap.size Zn 24,Stab.box W9.heap.size Zm 113] (fun u=>by(simp only[zc0,List.take_succ_cons,List.take_zero,Act.put,Nat.zero_add,Nat.reduceAdd]);(try simp only[lsT,lsS,lsZ]);exact rfl) kr kr (fun _ _ _ _ _ h=>h) ?_ ?_
 ·refine⟨?_,?_,?_,?_,?_,?_,?_,?_,?_,?_,?_,?_,?_,?_,trivial⟩
  ·refine sla fun u y9 hd=>?_;refine za0 rfl rfl rfl ?_;intro K9 hK;go_simp;exact hK _ _ rfl ex rfl
  ·refine sla fun u y9 hd=>?_;have e0:u 0=.pointer (some ⟨g,12,none⟩):=hd 0 kr;simp only[e0];refine za0 rfl rfl rfl ?_;intro K9 hK;go_simp;exact hK _ _ rfl ex rfl
  ·refine sla fun u y9 hd=>?_;have e1:u 1=.pointer (some ⟨g,12,none⟩):=hd 1 kr;simp only[e1];refine za0 rfl rfl rfl ?_;intro K9 hK;go_simp;exact hK _ _ rfl ex rfl
  ·refine sla fun u y9 hd=>?_;have e2:u 2=.pointer (some ⟨g,12,none⟩):=hd 2 kr;simp only[e2];refine za0 rfl rfl rfl ?_;intro K9 hK;go_simp;exact hK _ _ rfl ex rfl
  ·refine sla fun u y9 hd=>?_;refine za0 rfl rfl rfl ?_;intro K9 hK;go_simp;exact hK _ _ rfl ex rfl
  ·refine sla fun u y9 hd=>?_;have e4:u 4=.pointer (some ⟨W.heap.size,2,none⟩):=hd 4 kr;simp only[e4];refine za0 rfl rfl rfl ?_;intro K9 hK;go_simp;exact hK _ _ rfl ex rfl
  ·refine sla fun u y9 hd=>?_;have e3:u 3=.agg (Ln w.b.node B b):=hd 3 kr;have e5:u 5=.agg (Lm x.msg D K):=hd 5 kr;simp only[e3,e5];refine za0 rfl rfl rfl ?_;intro K9 hK;go_simp;go_at_call 105;refine(zbn w.b.node B b x.msg D K _ (h9.qb.recs h9.ext ex) (hu9.recs h9.ext ex) n z ok er HV.out).mono ?_;rintro e w' ⟨D,K,rfl,hx,hl⟩;exact hK _ _ rfl hx ⟨D,K,rfl,LogIn.logw hl rfl hx HE.out⟩
  ·refine sla fun u y9 hd=>?_;obtain⟨D6,K6,e6,h6⟩:=hd 6 kr;simp only[e6];refine za0 rfl rfl rfl ?_;intro K9 hK;go_simp;exact hK _ _ rfl ex ⟨D6,K6,rfl,h6⟩
  ·refine sla fun u y9 hd=>?_;obtain⟨D6,K6,e7,h6⟩:=hd 7 kr;simp only[e7];refine za0 rfl rfl rfl ?_;intro K9 hK;go_simp;exact hK _ _ rfl ex ⟨D6,K6,rfl,h6⟩
  ·(show PureA _ _ _ _ _ _);intro u w1 hx1 hd;obtain⟨y9,rfl⟩:=hx1.get;clear hx1
   obtain⟨D6,K6,e7,h6⟩:=hd 7 kr;simp only[e7];refine zaI (v:=.agg (La z)) rfl rfl (fun w9=> ?_) rfl;go_simp
  ·(show PureA _ _ _ _ _ _);intro u w1 hx1 hd;obtain⟨y9,rfl⟩:=hx1.get;clear hx1
   obtain⟨D6,K6,e7,h6⟩:=hd 7 kr;simp only[e7];refine zaI (v:=.bool ok) rfl rfl (fun w9=> ?_) rfl;go_simp
  ·(show PureA _ _ _ _ _ _);intro u w1 hx1 hd;obtain⟨y9,rfl⟩:=hx1.get;clear hx1
   obtain⟨D6,K6,e7,h6⟩:=hd 7 kr;simp only[e7];refine zaI (v:=.int .i64 er) rfl rfl (fun w9=> ?_) rfl;go_simp
  ·refine sla fun u y9 hd=>?_;refine za0 rfl rfl rfl ?_;intro K9 hK;go_simp;exact hK _ _ rfl ex ⟨_,rfl,(by first|exact Nat.le_refl _|omega|(simp[go_sem];done)|(simp[go_sem];omega)),BoxAt.new (by first|rfl|simp[go_sem]) _ _⟩
  ·refine sla fun u y9 hd=>?_;refine za0 rfl rfl rfl ?_;intro K9 hK;go_simp;exact hK _ _ rfl ex ⟨_,rfl,(by first|exact Nat.le_refl _|omega|(simp[go_sem];done)|(simp[go_sem];omega)),BoxAt.new (by first|rfl|simp[go_sem]) _ _⟩
 ·intro u w2 hx2 hT;obtain⟨t0,t1,t2,t3,t4,t5,t6,t7,t8,t9,t10,t11,t12,t13,-⟩:=hT;obtain⟨y9,rfl⟩:=hx2.get;clear hx2;obtain⟨D8,K8,e8,h8⟩:=t8;have e9:u 9=.agg (La z):=t9;have e10:u 10=.bool ok:=t10;have e11:u 11=.int .i64 er:=t11;obtain⟨g12,e12,hg12,b12⟩:=t12;obtain⟨g13,e13,hg13,b13⟩:=t13;simp only[e8,e9,e10,e11,e12,e13];clear e8 e9 e10 e11 e12 e13 t0 t1 t2 t3 t4 t5 t6 t7 t9 t10 t11;simp only[List.drop_succ_cons,List.drop_zero];have hxx:Ext W9 (xt W9.drew y9):=ex;by_cases her:er=0;rotate_left
  ·have hv0:=(HVE.out her).symm;subst hv0;have hz1:(er !=0)=true:=by simpa using her
   clear her
   go_wp2_with (first
    |(refine za2 rfl 24 (.tmp 5) (.tmp 29) rfl b12 rfl (Ln n D8 K8) rfl rfl (show 6<44 by decide) kr (zaa n D8 K8) ?_;intro W1 ht1 hb1)
    |(refine za2 rfl 113 (.tmp 6) (.tmp 30) rfl (b13.turn ht1 (b13.differ b12 dk)) rfl (La z) rfl rfl (show 6<44 by decide) kr (zaT z) ?_;intro W2 ht2 hb2))
   (first|go_end0|(refine bodyPost_ret (results_none rfl _ _ _) rfl ?_))
   have x2:Ext W W2:=ht2.ext (ht1.ext (x9.trans hxx) om) om;exact⟨rfl,(Ext.bent x2 g M).trans (.inl rfl) (Ext.bent ex g M),_,_,_,_,_,_,_,(HC.out.mono x2).mono ex,(HM.out.mono x2).mono ex,.inl rfl⟩
  subst her;by_cases hk:x.msg.kind=0
  ·by_cases hkt:x.msg.term=n.term
   ·have hve:=HVQ.out rfl (0) (if_pos ⟨hk,hkt⟩);have HWV:=zh (HWQ.out rfl (0) (.inl rfl));have hk1:(x.msg.kind==0)=true:=by simpa using hk
    have hk2:(x.msg.term==n.term)=true:=by simpa using hkt
    clear hk hkt;cases ok with
    |true=>
     rw[if_pos rfl] at hve;subst hve
     go_wp2_with (first
      |(refine za2 rfl 24 (.tmp 5) (.tmp 29) rfl b12 rfl (Ln n D8 K8) rfl rfl (show 6<44 by decide) kr (zaa n D8 K8) ?_;intro W1 ht1 hb1)
      |(refine za2 rfl 113 (.tmp 6) (.tmp 30) rfl (b13.turn ht1 (b13.differ b12 dk)) rfl (La z) rfl rfl (show 6<44 by decide) kr (zaT z) ?_;intro W2 ht2 hb2;have hne:=b13.differ b12 dk;have i8:=hb1.turn ht2 (Ne.symm hne);have m8:=(h8.turn ht1).turn ht2;have x2:Ext W9 W2:=ht2.ext (ht1.ext hxx hg12) hg13;have h2:=h9.mono x2;have k4:=((k3.mono hxx).turn ht1 om).turn ht2 om;clear ht1 ht2 hb1 c0 c1 c2 c3 c4 c5 c6 c7 c8 c9 c10 c11 c12 c13 c14 c15 c16 c17 c18 c19 c20 e0 e1 e2 e3 e4 e5 e6 e7 hxx b12 b13 h8 k3;have hbo:BoxAt W2 g (Lv w w.a.node A a w.a.up w.a.quiet w.b.node B b true w.b.quiet M m) 30:=(by have:=h2.box;rw[HU.out] at this;exact this);obtain⟨d0,d1,d2,d3,d4,d5⟩:=i8.six)
      |(refine zab rfl 24 (.tmp 38) (.tmp 36) rfl (hbo.mono ex) 12 rfl (Ln n D8 K8) rfl (show 18≤21 by decide) (show 21<44 by decide) kr (zaa n D8 K8) (Lv w w.a.node A a w.a.up w.a.quiet n D8 K8 true w.b.quiet M m) rfl ?_;intro W5 ht5 hb5;have hq12:W9.heap.size≤g12:=hg12;have hq13:W9.heap.size≤g13:=hg13;have i9:=(i8.mono ex).turn ht5 om;have j9:=(hb2.mono ex).turn ht5 om;have k5:=(k4.mono ex).turn ht5 om;have hC5:WldC w0 W5 g ⟨w.now,w.limit,w.delay,w.cut,w.a,⟨n,true,w.b.quiet⟩,w.mail⟩ A a D8 K8 M m:=⟨ht5.ext (h2.ext.trans ex) h2.ge,h2.ge,hb5,(h2.qa.mono ex).turn ht5,(m8.mono ex).turn ht5⟩;have hB5:Bent g M W W5:=(Ext.bent ((x9.trans x2).trans ex) g M).trans (.inl rfl) ((h2.mono ex).bent ht5.grown M);have hM5:=((HM.out.mono (x9.trans x2)).mono ex).turn (h2.mono ex) ht5.grown;clear ht5 i8 hb2 k4 m8 h2 hbo d0 d1 d2 d3 d4 d5 h9 hu9 x2 x9;obtain⟨d0,d1,d2,d3,d4,d5⟩:=i9.six;refine k5.cA fun e0 e1 e2 e3 e4 e5 e6 e7=>?_;obtain⟨f0,f1,f2,f3,f4,f5⟩:=j9.six)
      |(refine zae rfl 3 (.tmp 53) (.const (.int .i64 0)) rfl (hC5.box.mono ex) 19 rfl (.int .i64 0) rfl (show 19<21 by decide) (show 21<44 by decide) kr rfl (Lv w w.a.node A a w.a.up w.a.quiet n D8 K8 true 0 M m) rfl ?_;intro W6 ht6 hb6;have j6:=(j9.mono ex).turn ht6 om;have k6:=(k5.mono ex).turn ht6 om;have hC6:WldC w0 W6 g ⟨w.now,w.limit,w.delay,w.cut,w.a,⟨n,true,0⟩,w.mail⟩ A a D8 K8 M m:=⟨ht6.ext (hC5.ext.trans ex) hC5.ge,hC5.ge,hb6,(hC5.qa.mono ex).turn ht6,(hC5.qb.mono ex).turn ht6⟩;have hB6:Bent g M W W6:=hB5.trans (.inl rfl) ((Ext.bent ex g M).trans (.inl rfl) ((hC5.mono ex).bent ht6.grown M));have hM6:=MailM.turn (w:=⟨w.now,w.limit,w.delay,w.cut,w.a,⟨n,true,w.b.quiet⟩,w.mail⟩) (hM5.mono ex) (hC5.mono ex) ht6.grown;clear d0 d1 d2 d3 d4 d5 e0 e1 e2 e3 e4 e5 e6 e7 f0 f1 f2 f3 f4 f5 j9 k5;have e0:=k6.c 0 rfl;obtain⟨f0,f1,f2,f3,f4,f5⟩:=j6.six)
      |(go_at_call 133;rw[show(#[.pointer (some ⟨g,0,none⟩),.int .i64 1,.agg (La z)]:Array Value)=#[.pointer (some ⟨g,0,none⟩),.int .i64 1,.agg (Lm z none 0)] by rw[HZ.out.1,HZ.out.2.1,HZ.out.2.2];rfl];refine(zeQ (x:=z) (D:=none) (K:=0) (hC6.mono ex) (hM6.mono ex) HWV.out (by rw[HZ.out.1];exact LogW.nil _ _) (by rw[HZ.out.1];exact Nat.zero_le _)).mono ?_;rintro e w' ⟨rfl,hS⟩))
     (first|go_end0|(refine bodyPost_ret (results_none rfl _ _ _) rfl ?_))
     exact StepM.of (hB6.trans (.inl rfl) (Ext.bent ex g M)) ⟨rfl,hS⟩
    |false=>
     rw[if_neg (by simp)] at hve;subst hve;clear HWV
     go_wp2_with (first
      |(refine za2 rfl 24 (.tmp 5) (.tmp 29) rfl b12 rfl (Ln n D8 K8) rfl rfl (show 6<44 by decide) kr (zaa n D8 K8) ?_;intro W1 ht1 hb1)
      |(refine za2 rfl 113 (.tmp 6) (.tmp 30) rfl (b13.turn ht1 (b13.differ b12 dk)) rfl (La z) rfl rfl (show 6<44 by decide) kr (zaT z) ?_;intro W2 ht2 hb2;have hne:=b13.differ b12 dk;have i8:=hb1.turn ht2 (Ne.symm hne);have m8:=(h8.turn ht1).turn ht2;have x2:Ext W9 W2:=ht2.ext (ht1.ext hxx hg12) hg13;have h2:=h9.mono x2;have k4:=((k3.mono hxx).turn ht1 om).turn ht2 om;clear ht1 ht2 hb1 c0 c1 c2 c3 c4 c5 c6 c7 c8 c9 c10 c11 c12 c13 c14 c15 c16 c17 c18 c19 c20 e0 e1 e2 e3 e4 e5 e6 e7 hxx b12 b13 h8 k3;have hbo:BoxAt W2 g (Lv w w.a.node A a w.a.up w.a.quiet w.b.node B b true w.b.quiet M m) 30:=(by have:=h2.box;rw[HU.out] at this;exact this);obtain⟨d0,d1,d2,d3,d4,d5⟩:=i8.six)
      |(refine zab rfl 24 (.tmp 38) (.tmp 36) rfl (hbo.mono ex) 12 rfl (Ln n D8 K8) rfl (show 18≤21 by decide) (show 21<44 by decide) kr (zaa n D8 K8) (Lv w w.a.node A a w.a.up w.a.quiet n D8 K8 true w.b.quiet M m) rfl ?_;intro W5 ht5 hb5;have hq12:W9.heap.size≤g12:=hg12;have hq13:W9.heap.size≤g13:=hg13;have i9:=(i8.mono ex).turn ht5 om;have j9:=(hb2.mono ex).turn ht5 om;have k5:=(k4.mono ex).turn ht5 om;have hC5:WldC w0 W5 g ⟨w.now,w.limit,w.delay,w.cut,w.a,⟨n,true,w.b.quiet⟩,w.mail⟩ A a D8 K8 M m:=⟨ht5.ext (h2.ext.trans ex) h2.ge,h2.ge,hb5,(h2.qa.mono ex).turn ht5,(m8.mono ex).turn ht5⟩;have hB5:Bent g M W W5:=(Ext.bent ((x9.trans x2).trans ex) g M).trans (.inl rfl) ((h2.mono ex).bent ht5.grown M);have hM5:=((HM.out.mono (x9.trans x2)).mono ex).turn (h2.mono ex) ht5.grown;clear ht5 i8 hb2 k4 m8 h2 hbo d0 d1 d2 d3 d4 d5 h9 hu9 x2 x9;obtain⟨d0,d1,d2,d3,d4,d5⟩:=i9.six;refine k5.cA fun e0 e1 e2 e3 e4 e5 e6 e7=>?_;obtain⟨f0,f1,f2,f3,f4,f5⟩:=j9.six)
      |(refine zae rfl 3 (.tmp 53) (.const (.int .i64 0)) rfl (hC5.box.mono ex) 19 rfl (.int .i64 0) rfl (show 19<21 by decide) (show 21<44 by decide) kr rfl (Lv w w.a.node A a w.a.up w.a.quiet n D8 K8 true 0 M m) rfl ?_;intro W6 ht6 hb6;have j6:=(j9.mono ex).turn ht6 om;have k6:=(k5.mono ex).turn ht6 om;have hC6:WldC w0 W6 g ⟨w.now,w.limit,w.delay,w.cut,w.a,⟨n,true,0⟩,w.mail⟩ A a D8 K8 M m:=⟨ht6.ext (hC5.ext.trans ex) hC5.ge,hC5.ge,hb6,(hC5.qa.mono ex).turn ht6,(hC5.qb.mono ex).turn ht6⟩;have hB6:Bent g M W W6:=hB5.trans (.inl rfl) ((Ext.bent ex g M).trans (.inl rfl) ((hC5.mono ex).bent ht6.grown M));have hM6:=MailM.turn (w:=⟨w.now,w.limit,w.delay,w.cut,w.a,⟨n,true,w.b.quiet⟩,w.mail⟩) (hM5.mono ex) (hC5.mono ex) ht6.grown;clear d0 d1 d2 d3 d4 d5 e0 e1 e2 e3 e4 e5 e6 e7 f0 f1 f2 f3 f4 f5 j9 k5;have e0:=k6.c 0 rfl;obtain⟨f0,f1,f2,f3,f4,f5⟩:=j6.six))
     (first|go_end0|(refine bodyPost_ret (results_none rfl _ _ _) rfl ?_))
     exact⟨rfl,hB6.trans (.inl rfl) (Ext.bent ex g M),_,_,_,_,_,_,_,hC6.mono ex,hM6.mono ex,.inl rfl⟩
   ·have hve:=HVQ.out rfl (w.b.quiet) (if_neg fun hc=>hkt hc.2);have HWV:=zh (HWQ.out rfl (w.b.quiet) (.inr rfl));have hk1:(x.msg.kind==0)=true:=by simpa using hk
    have hk2:(x.msg.term==n.term)=false:=by simpa using hkt
    clear hk hkt;cases ok with
    |true=>
     rw[if_pos rfl] at hve;subst hve
     go_wp2_with (first
      |(refine za2 rfl 24 (.tmp 5) (.tmp 29) rfl b12 rfl (Ln n D8 K8) rfl rfl (show 6<44 by decide) kr (zaa n D8 K8) ?_;intro W1 ht1 hb1)
      |(refine za2 rfl 113 (.tmp 6) (.tmp 30) rfl (b13.turn ht1 (b13.differ b12 dk)) rfl (La z) rfl rfl (show 6<44 by decide) kr (zaT z) ?_;intro W2 ht2 hb2;have hne:=b13.differ b12 dk;have i8:=hb1.turn ht2 (Ne.symm hne);have m8:=(h8.turn ht1).turn ht2;have x2:Ext W9 W2:=ht2.ext (ht1.ext hxx hg12) hg13;have h2:=h9.mono x2;have k4:=((k3.mono hxx).turn ht1 om).turn ht2 om;clear ht1 ht2 hb1 c0 c1 c2 c3 c4 c5 c6 c7 c8 c9 c10 c11 c12 c13 c14 c15 c16 c17 c18 c19 c20 e0 e1 e2 e3 e4 e5 e6 e7 hxx b12 b13 h8 k3;have hbo:BoxAt W2 g (Lv w w.a.node A a w.a.up w.a.quiet w.b.node B b true w.b.quiet M m) 30:=(by have:=h2.box;rw[HU.out] at this;exact this);obtain⟨d0,d1,d2,d3,d4,d5⟩:=i8.six)
      |(refine zab rfl 24 (.tmp 38) (.tmp 36) rfl (hbo.mono ex) 12 rfl (Ln n D8 K8) rfl (show 18≤21 by decide) (show 21<44 by decide) kr (zaa n D8 K8) (Lv w w.a.node A a w.a.up w.a.quiet n D8 K8 true w.b.quiet M m) rfl ?_;intro W5 ht5 hb5;have hq12:W9.heap.size≤g12:=hg12;have hq13:W9.heap.size≤g13:=hg13;have i9:=(i8.mono ex).turn ht5 om;have j9:=(hb2.mono ex).turn ht5 om;have k5:=(k4.mono ex).turn ht5 om;have hC5:WldC w0 W5 g ⟨w.now,w.limit,w.delay,w.cut,w.a,⟨n,true,w.b.quiet⟩,w.mail⟩ A a D8 K8 M m:=⟨ht5.ext (h2.ext.trans ex) h2.ge,h2.ge,hb5,(h2.qa.mono ex).turn ht5,(m8.mono ex).turn ht5⟩;have hB5:Bent g M W W5:=(Ext.bent ((x9.trans x2).trans ex) g M).trans (.inl rfl) ((h2.mono ex).bent ht5.grown M);have hM5:=((HM.out.mono (x9.trans x2)).mono ex).turn (h2.mono ex) ht5.grown;clear ht5 i8 hb2 k4 m8 h2 hbo d0 d1 d2 d3 d4 d5 h9 hu9 x2 x9;obtain⟨d0,d1,d2,d3,d4,d5⟩:=i9.six;refine k5.cA fun e0 e1 e2 e3 e4 e5 e6 e7=>?_;obtain⟨f0,f1,f2,f3,f4,f5⟩:=j9.six)
      |(go_at_call 133;rw[show(#[.pointer (some ⟨g,0,none⟩),.int .i64 1,.agg (La z)]:Array Value)=#[.pointer (some ⟨g,0,none⟩),.int .i64 1,.agg (Lm z none 0)] by rw[HZ.out.1,HZ.out.2.1,HZ.out.2.2];rfl];refine(zeQ (x:=z) (D:=none) (K:=0) (hC5.mono ex) (hM5.mono ex) HWV.out (by rw[HZ.out.1];exact LogW.nil _ _) (by rw[HZ.out.1];exact Nat.zero_le _)).mono ?_;rintro e w' ⟨rfl,hS⟩))
     (first|go_end0|(refine bodyPost_ret (results_none rfl _ _ _) rfl ?_))
     exact StepM.of (hB5.trans (.inl rfl) (Ext.bent ex g M)) ⟨rfl,hS⟩
    |false=>
     rw[if_neg (by simp)] at hve;subst hve;clear HWV
     go_wp2_with (first
      |(refine za2 rfl 24 (.tmp 5) (.tmp 29) rfl b12 rfl (Ln n D8 K8) rfl rfl (show 6<44 by decide) kr (zaa n D8 K8) ?_;intro W1 ht1 hb1)
      |(refine za2 rfl 113 (.tmp 6) (.tmp 30) rfl (b13.turn ht1 (b13.differ b12 dk)) rfl (La z) rfl rfl (show 6<44 by decide) kr (zaT z) ?_;intro W2 ht2 hb2;have hne:=b13.differ b12 dk;have i8:=hb1.turn ht2 (Ne.symm hne);have m8:=(h8.turn ht1).turn ht2;have x2:Ext W9 W2:=ht2.ext (ht1.ext hxx hg12) hg13;have h2:=h9.mono x2;have k4:=((k3.mono hxx).turn ht1 om).turn ht2 om;clear ht1 ht2 hb1 c0 c1 c2 c3 c4 c5 c6 c7 c8 c9 c10 c11 c12 c13 c14 c15 c16 c17 c18 c19 c20 e0 e1 e2 e3 e4 e5 e6 e7 hxx b12 b13 h8 k3;have hbo:BoxAt W2 g (Lv w w.a.node A a w.a.up w.a.quiet w.b.node B b true w.b.quiet M m) 30:=(by have:=h2.box;rw[HU.out] at this;exact this);obtain⟨d0,d1,d2,d3,d4,d5⟩:=i8.six)
      |(refine zab rfl 24 (.tmp 38) (.tmp 36) rfl (hbo.mono ex) 12 rfl (Ln n D8 K8) rfl (show 18≤21 by decide) (show 21<44 by decide) kr (zaa n D8 K8) (Lv w w.a.node A a w.a.up w.a.quiet n D8 K8 true w.b.quiet M m) rfl ?_;intro W5 ht5 hb5;have hq12:W9.heap.size≤g12:=hg12;have hq13:W9.heap.size≤g13:=hg13;have i9:=(i8.mono ex).turn ht5 om;have j9:=(hb2.mono ex).turn ht5 om;have k5:=(k4.mono ex).turn ht5 om;have hC5:WldC w0 W5 g ⟨w.now,w.limit,w.delay,w.cut,w.a,⟨n,true,w.b.quiet⟩,w.mail⟩ A a D8 K8 M m:=⟨ht5.ext (h2.ext.trans ex) h2.ge,h2.ge,hb5,(h2.qa.mono ex).turn ht5,(m8.mono ex).turn ht5⟩;have hB5:Bent g M W W5:=(Ext.bent ((x9.trans x2).trans ex) g M).trans (.inl rfl) ((h2.mono ex).bent ht5.grown M);have hM5:=((HM.out.mono (x9.trans x2)).mono ex).turn (h2.mono ex) ht5.grown;clear ht5 i8 hb2 k4 m8 h2 hbo d0 d1 d2 d3 d4 d5 h9 hu9 x2 x9;obtain⟨d0,d1,d2,d3,d4,d5⟩:=i9.six;refine k5.cA fun e0 e1 e2 e3 e4 e5 e6 e7=>?_;obtain⟨f0,f1,f2,f3,f4,f5⟩:=j9.six))
     (first|go_end0|(refine bodyPost_ret (results_none rfl _ _ _) rfl ?_))
     exact⟨rfl,hB5.trans (.inl rfl) (Ext.bent ex g M),_,_,_,_,_,_,_,hC5.mono ex,hM5.mono ex,.inl rfl⟩
  ·have hve:=HVQ.out rfl (w.b.quiet) (if_neg fun hc=>hk hc.1);have HWV:=zh (HWQ.out rfl (w.b.quiet) (.inr rfl));have hk1:(x.msg.kind==0)=false:=by simpa using hk
   clear hk;cases ok with
   |true=>
    rw[if_pos rfl] at hve;subst hve
    go_wp2_with (first
     |(refine za2 rfl 24 (.tmp 5) (.tmp 29) rfl b12 rfl (Ln n D8 K8) rfl rfl (show 6<44 by decide) kr (zaa n D8 K8) ?_;intro W1 ht1 hb1)
     |(refine za2 rfl 113 (.tmp 6) (.tmp 30) rfl (b13.turn ht1 (b13.differ b12 dk)) rfl (La z) rfl rfl (show 6<44 by decide) kr (zaT z) ?_;intro W2 ht2 hb2;have hne:=b13.differ b12 dk;have i8:=hb1.turn ht2 (Ne.symm hne);have m8:=(h8.turn ht1).turn ht2;have x2:Ext W9 W2:=ht2.ext (ht1.ext hxx hg12) hg13;have h2:=h9.mono x2;have k4:=((k3.mono hxx).turn ht1 om).turn ht2 om;clear ht1 ht2 hb1 c0 c1 c2 c3 c4 c5 c6 c7 c8 c9 c10 c11 c12 c13 c14 c15 c16 c17 c18 c19 c20 e0 e1 e2 e3 e4 e5 e6 e7 hxx b12 b13 h8 k3;have hbo:BoxAt W2 g (Lv w w.a.node A a w.a.up w.a.quiet w.b.node B b true w.b.quiet M m) 30:=(by have:=h2.box;rw[HU.out] at this;exact this);obtain⟨d0,d1,d2,d3,d4,d5⟩:=i8.six)
     |(refine zab rfl 24 (.tmp 38) (.tmp 36) rfl (hbo.mono ex) 12 rfl (Ln n D8 K8) rfl (show 18≤21 by decide) (show 21<44 by decide) kr (zaa n D8 K8) (Lv w w.a.node A a w.a.up w.a.quiet n D8 K8 true w.b.quiet M m) rfl ?_;intro W5 ht5 hb5;have hq12:W9.heap.size≤g12:=hg12;have hq13:W9.heap.size≤g13:=hg13;have i9:=(i8.mono ex).turn ht5 om;have j9:=(hb2.mono ex).turn ht5 om;have k5:=(k4.mono ex).turn ht5 om;have hC5:WldC w0 W5 g ⟨w.now,w.limit,w.delay,w.cut,w.a,⟨n,true,w.b.quiet⟩,w.mail⟩ A a D8 K8 M m:=⟨ht5.ext (h2.ext.trans ex) h2.ge,h2.ge,hb5,(h2.qa.mono ex).turn ht5,(m8.mono ex).turn ht5⟩;have hB5:Bent g M W W5:=(Ext.bent ((x9.trans x2).trans ex) g M).trans (.inl rfl) ((h2.mono ex).bent ht5.grown M);have hM5:=((HM.out.mono (x9.trans x2)).mono ex).turn (h2.mono ex) ht5.grown;clear ht5 i8 hb2 k4 m8 h2 hbo d0 d1 d2 d3 d4 d5 h9 hu9 x2 x9;obtain⟨d0,d1,d2,d3,d4,d5⟩:=i9.six;refine k5.cA fun e0 e1 e2 e3 e4 e5 e6 e7=>?_;obtain⟨f0,f1,f2,f3,f4,f5⟩:=j9.six)
     |(go_at_call 133;rw[show(#[.pointer (some ⟨g,0,none⟩),.int .i64 1,.agg (La z)]:Array Value)=#[.pointer (some ⟨g,0,none⟩),.int .i64 1,.agg (Lm z none 0)] by rw[HZ.out.1,HZ.out.2.1,HZ.out.2.2];rfl];refine(zeQ (x:=z) (D:=none) (K:=0) (hC5.mono ex) (hM5.mono ex) HWV.out (by rw[HZ.out.1];exact LogW.nil _ _) (by rw[HZ.out.1];exact Nat.zero_le _)).mono ?_;rintro e w' ⟨rfl,hS⟩))
    (first|go_end0|(refine bodyPost_ret (results_none rfl _ _ _) rfl ?_))
    exact StepM.of (hB5.trans (.inl rfl) (Ext.bent ex g M)) ⟨rfl,hS⟩
   |false=>
    rw[if_neg (by simp)] at hve;subst hve;clear HWV
    go_wp2_with (first
     |(refine za2 rfl 24 (.tmp 5) (.tmp 29) rfl b12 rfl (Ln n D8 K8) rfl rfl (show 6<44 by decide) kr (zaa n D8 K8) ?_;intro W1 ht1 hb1)
     |(refine za2 rfl 113 (.tmp 6) (.tmp 30) rfl (b13.turn ht1 (b13.differ b12 dk)) rfl (La z) rfl rfl (show 6<44 by decide) kr (zaT z) ?_;intro W2 ht2 hb2;have hne:=b13.differ b12 dk;have i8:=hb1.turn ht2 (Ne.symm hne);have m8:=(h8.turn ht1).turn ht2;have x2:Ext W9 W2:=ht2.ext (ht1.ext hxx hg12) hg13;have h2:=h9.mono x2;have k4:=((k3.mono hxx).turn ht1 om).turn ht2 om;clear ht1 ht2 hb1 c0 c1 c2 c3 c4 c5 c6 c7 c8 c9 c10 c11 c12 c13 c14 c15 c16 c17 c18 c19 c20 e0 e1 e2 e3 e4 e5 e6 e7 hxx b12 b13 h8 k3;have hbo:BoxAt W2 g (Lv w w.a.node A a w.a.up w.a.quiet w.b.node B b true w.b.quiet M m) 30:=(by have:=h2.box;rw[HU.out] at this;exact this);obtain⟨d0,d1,d2,d3,d4,d5⟩:=i8.six)
     |(refine zab rfl 24 (.tmp 38) (.tmp 36) rfl (hbo.mono ex) 12 rfl (Ln n D8 K8) rfl (show 18≤21 by decide) (show 21<44 by decide) kr (zaa n D8 K8) (Lv w w.a.node A a w.a.up w.a.quiet n D8 K8 true w.b.quiet M m) rfl ?_;intro W5 ht5 hb5;have hq12:W9.heap.size≤g12:=hg12;have hq13:W9.heap.size≤g13:=hg13;have i9:=(i8.mono ex).turn ht5 om;have j9:=(hb2.mono ex).turn ht5 om;have k5:=(k4.mono ex).turn ht5 om;have hC5:WldC w0 W5 g ⟨w.now,w.limit,w.delay,w.cut,w.a,⟨n,true,w.b.quiet⟩,w.mail⟩ A a D8 K8 M m:=⟨ht5.ext (h2.ext.trans ex) h2.ge,h2.ge,hb5,(h2.qa.mono ex).turn ht5,(m8.mono ex).turn ht5⟩;have hB5:Bent g M W W5:=(Ext.bent ((x9.trans x2).trans ex) g M).trans (.inl rfl) ((h2.mono ex).bent ht5.grown M);have hM5:=((HM.out.mono (x9.trans x2)).mono ex).turn (h2.mono ex) ht5.grown;clear ht5 i8 hb2 k4 m8 h2 hbo d0 d1 d2 d3 d4 d5 h9 hu9 x2 x9;obtain⟨d0,d1,d2,d3,d4,d5⟩:=i9.six;refine k5.cA fun e0 e1 e2 e3 e4 e5 e6 e7=>?_;obtain⟨f0,f1,f2,f3,f4,f5⟩:=j9.six))
    (first|go_end0|(refine bodyPost_ret (results_none rfl _ _ _) rfl ?_))
    exact⟨rfl,hB5.trans (.inl rfl) (Ext.bent ex g M),_,_,_,_,_,_,_,hC5.mono ex,hM5.mono ex,.inl rfl⟩
theorem zli (h:WldC w0 W g w A a B b M m)(hm:MailM w0 W M m w.mail xs)(hw:WldOk w){x:Ltr}{D:Option Addr}{K:Nat}(hx:x.dst=2)(hl:LogW w0 W D x.msg.recs.length K x.msg.recs):Calls prog 93 #[.pointer (some ⟨g,0,none⟩),.agg (Ll x D K)] W (StepM w0 W g M (zau w x)):=by
 cases hu:w.b.up with
 |false=>
  have e:zau w x=w:=by unfold zau;simp only;rw[hx,zgt,if_pos (.inl hu)]
  rw[e];exact zlj h hm hx hl hu
 |true=>
  obtain⟨n,z,ok,er,hv⟩:∃n z ok er,recvV w.b.node x.msg=(n,z,ok,er):=⟨_,_,_,_,rfl⟩
  have hz:=zww w.b.node x.msg;rw[hv] at hz;refine zo3 h hm hx hl hu hv hz (fun her=> ?_) (fun her q hq=> ?_) (fun her q hq=> ?_)
  ·unfold zau;simp only;rw[hx,zgt,if_pos (.inr (by rw[hv];exact her))]
  ·subst her;unfold zau;simp only;rw[hx,zgt,zlc,hv,if_neg (by rw[hu];simp),hq,hu];rfl
  ·have hle:=zb8 (n:=w.b.node) (m:=x.msg) (by rw[hv];exact her);rw[hv] at hle;have h0:=hw.b.q0;have h1:=hw.b.q1;refine zzu hw ⟨hle.node,hle.id.trans hw.b.id,?_,?_⟩
   ·show 0≤q;rcases hq with rfl|rfl<;>omega
   ·show q≤1048576;rcases hq with rfl|rfl<;>omega
end

section
variable {w0 W:World} {g:Nat} {w:Wld} {A B M:Option Addr} {a b m:Nat} {xs:List (Ltr×Option Addr×Nat)}
theorem za3.logw2 {A:Option Addr}{c:Nat}{l:List Rec}(h:za3 W A c l)(he:∀r∈l,AcnAt w0 r.act):LogW w0 W A l.length c l:=⟨h.sl,rfl,h.le,h.cap,he⟩
theorem zqA (h:WldC w0 W g w A a B b M m)(hm:MailM w0 W M m w.mail xs)(hw:WldOk w)(hu:w.a.up=false):Calls prog 94 #[.pointer (some ⟨g,0,none⟩),.int .i64 1] W (StepM w0 W g M w):=by
 have HC:=Lib.hid h;have HM:=zh hm;have HW:=zh hw;have hla:=(h.qa.recs h.ext (Ext.refl W)).len;have hlb:=(h.qb.recs h.ext (Ext.refl W)).len;refine h.box.cB fun c0 c1 c2 c3 c4 c5 c6 c7 c8 c9 c10 c11 c12 c13 c14 c15 c16 c17 c18 c19 c20=>?_;rw[hu] at c10;clear h hm hu hw;go_enter func94,ntmps94;go_wp2
 (first|go_end0|(refine bodyPost_ret (results_none rfl _ _ _) rfl ?_))
 exact⟨rfl,Ext.bent ex g M,_,_,_,_,_,_,_,HC.out.mono ex,HM.out.mono ex,.inl rfl⟩
theorem zmF (h:WldC w0 W g w A a B b M m)(hm:MailM w0 W M m w.mail xs)(hw:WldOk w)(hu:w.a.up=true)(hsp:w.a.node.speaks=true):Calls prog 94 #[.pointer (some ⟨g,0,none⟩),.int .i64 1] W (StepM w0 W g M (postW w 2 (sentM w.a.node))):=by
 have HC:=Lib.hid h;have HM:=zh hm;have HW:=zh hw;have hla:=(h.qa.recs h.ext (Ext.refl W)).len;have hlb:=(h.qb.recs h.ext (Ext.refl W)).len;refine h.box.cB fun c0 c1 c2 c3 c4 c5 c6 c7 c8 c9 c10 c11 c12 c13 c14 c15 c16 c17 c18 c19 c20=>?_;rw[hu] at c10;rw[hsp] at c6;have hv:sendV w.a.node=(sentM w.a.node,0):=by unfold sendV;rw[if_neg (by rw[(zal _).2 hw.a.node];simp),if_neg (by rw[hsp];simp)]
 have HWM:=zh (show(sentM w.a.node).recs.length≤1000000 by have:=((zdW hw.a.node hsp).app rfl).len;omega);have HS:=zh (fun(V:World) (hx:Ext W V)=>by have:=(zdU w.a.node A a V (h.qa.recs h.ext hx)).mono fun _ _ q=>zd6.parts q hv;rw[hsp] at this;exact this);obtain⟨x,hx⟩:∃x,sentM w.a.node=x:=⟨_,rfl⟩
 rw[hx] at HWM HS ⊢
 have HE:=zh (show ∀r∈x.recs,AcnAt w0 r.act from fun r hr=>h.qa.el r (by rw[←hx] at hr;exact zec _ r hr));clear hv h hm hu hw hsp hx;go_enter func94,ntmps94
 go_wp2_with (first
  |(go_at_call 135;refine(HS.out _ ex).mono ?_;rintro e w' ⟨D,K,rfl,hx,hl⟩;have HLa:=zh hl;obtain⟨ye,rfl⟩:=hx.get;clear hx hl)
  |(go_at_call 133;refine(zeQ (HC.out.mono ex) (HM.out.mono ex) HW.out ((HLa.out.mono ex).logw2 HE.out) HWM.out).mono ?_;rintro e w' ⟨rfl,hS⟩))
 (first|go_end0|(refine bodyPost_ret (results_none rfl _ _ _) rfl ?_))
 exact StepM.of (Ext.bent ex g M) ⟨rfl,hS⟩
theorem zo6 (h:WldC w0 W g w A a B b M m)(hm:MailM w0 W M m w.mail xs)(hw:WldOk w)(hu:w.a.up=true)(hsp:w.a.node.speaks=false)(hs2:(leadS w.limit w.a).node.speaks=true):Calls prog 94 #[.pointer (some ⟨g,0,none⟩),.int .i64 1] W (StepM w0 W g M (postW ⟨w.now,w.limit,w.delay,w.cut,leadS w.limit w.a,w.b,w.mail⟩ 2 (sentM (leadS w.limit w.a).node))):=by
 have HC:=Lib.hid h;have HM:=zh hm;have HW:=zh hw;have hla:=(h.qa.recs h.ext (Ext.refl W)).len;have hlb:=(h.qb.recs h.ext (Ext.refl W)).len;refine h.box.cB fun c0 c1 c2 c3 c4 c5 c6 c7 c8 c9 c10 c11 c12 c13 c14 c15 c16 c17 c18 c19 c20=>?_;rw[hu] at c10;rw[hsp] at c6;have HLD:=zh (fun(V:World) (hx:Ext W V)=>zss (h.mono hx) hw.a);obtain⟨s1,hs1⟩:∃s1,leadS w.limit w.a=s1:=⟨_,rfl⟩
 have hok:StaOk 1 s1:=by rw[←hs1];exact(zh3 hw.a).1
 rw[hs1] at HLD hs2 ⊢
 have HWU:=zh (zzt hw hok);have HSV:=zh (show sendV s1.node=(sentM s1.node,0) by unfold sendV;rw[if_neg (by rw[(zal _).2 hok.node];simp),if_neg (by rw[hs2];simp)]);have HSP:=zh hs2;have HWM:=zh (show(sentM s1.node).recs.length≤1000000 by have:=((zdW hok.node hs2).app rfl).len;omega);have HLG:=zh (zec s1.node);obtain⟨x,hx⟩:∃x,sentM s1.node=x:=⟨_,rfl⟩
 rw[hx] at HWM HSV HLG ⊢
 clear hx;clear h hm hu hw hsp hs2 hs1 hok;go_enter func94,ntmps94
 go_wp2_with (first
  |(go_at_call 134;refine(HLD.out _ ex).mono ?_;rintro e W1 ⟨rfl,hg1,A1,a1,B1,b1,hC1⟩;have hM1:=(HM.out.mono ex).turn (HC.out.mono ex) hg1;have hB1:=(Ext.bent ex g M).trans (.inl rfl) ((HC.out.mono ex).bent hg1 M);have hb1:BoxAt W1 g (Lv w s1.node A1 a1 s1.up s1.quiet w.b.node B1 b1 w.b.up w.b.quiet M m) 30:=hC1.box;rw[HSP.out] at hb1;have hla1:=(hC1.qa.recs hC1.ext (Ext.refl W1)).len;have hlb1:=(hC1.qb.recs hC1.ext (Ext.refl W1)).len;clear c0 c1 c2 c3 c4 c5 c6 c7 c8 c9 c10 c11 c12 c13 c14 c15 c16 c17 c18 c19 c20;refine hb1.cB fun e0 e1 e2 e3 e4 e5 e6 e7 e8 e9 e10 e11 e12 e13 e14 e15 e16 e17 e18 e19 e20=>?_;have HS:=zh (fun(V:World) (hx:Ext W1 V)=>by have:=(zdU s1.node A1 a1 V (hC1.qa.recs hC1.ext hx)).mono fun _ _ q=>zd6.parts q HSV.out;rw[HSP.out] at this;exact this))
  |(go_at_call 135;refine(HS.out _ ex).mono ?_;rintro e w' ⟨D,K,rfl,hx,hl⟩;have HLa:=zh hl;obtain⟨ye,rfl⟩:=hx.get;clear hx hl)
  |(go_at_call 133;refine(zeQ (hC1.mono ex) (hM1.mono ex) HWU.out ((HLa.out.mono ex).logw2 (fun r hr=>hC1.qa.el r (HLG.out r hr))) HWM.out).mono ?_;rintro e w' ⟨rfl,hS⟩))
 (first|go_end0|(refine bodyPost_ret (results_none rfl _ _ _) rfl ?_))
 exact StepM.of (hB1.trans (.inl rfl) (Ext.bent ex g M)) ⟨rfl,hS⟩
theorem zo7 (h:WldC w0 W g w A a B b M m)(hm:MailM w0 W M m w.mail xs)(hw:WldOk w)(hu:w.a.up=true)(hsp:w.a.node.speaks=false)(hs2:(leadS w.limit w.a).node.speaks=false):Calls prog 94 #[.pointer (some ⟨g,0,none⟩),.int .i64 1] W (StepM w0 W g M ⟨w.now,w.limit,w.delay,w.cut,leadS w.limit w.a,w.b,w.mail⟩):=by
 have HC:=Lib.hid h;have HM:=zh hm;have HW:=zh hw;have hla:=(h.qa.recs h.ext (Ext.refl W)).len;have hlb:=(h.qb.recs h.ext (Ext.refl W)).len;refine h.box.cB fun c0 c1 c2 c3 c4 c5 c6 c7 c8 c9 c10 c11 c12 c13 c14 c15 c16 c17 c18 c19 c20=>?_;rw[hu] at c10;rw[hsp] at c6;have HLD:=zh (fun(V:World) (hx:Ext W V)=>zss (h.mono hx) hw.a);obtain⟨s1,hs1⟩:∃s1,leadS w.limit w.a=s1:=⟨_,rfl⟩
 have hok:StaOk 1 s1:=by rw[←hs1];exact(zh3 hw.a).1
 rw[hs1] at HLD hs2 ⊢
 have HWU:=zh (zzt hw hok);have HSV:=zh (show sendV s1.node=(msg0,16) by unfold sendV;rw[if_neg (by rw[(zal _).2 hok.node];simp),if_pos (by rw[hs2])]);have HSP:=zh hs2;clear h hm hu hw hsp hs2 hs1 hok;go_enter func94,ntmps94
 go_wp2_with (first
  |(go_at_call 134;refine(HLD.out _ ex).mono ?_;rintro e W1 ⟨rfl,hg1,A1,a1,B1,b1,hC1⟩;have hM1:=(HM.out.mono ex).turn (HC.out.mono ex) hg1;have hB1:=(Ext.bent ex g M).trans (.inl rfl) ((HC.out.mono ex).bent hg1 M);have hb1:BoxAt W1 g (Lv w s1.node A1 a1 s1.up s1.quiet w.b.node B1 b1 w.b.up w.b.quiet M m) 30:=hC1.box;rw[HSP.out] at hb1;have hla1:=(hC1.qa.recs hC1.ext (Ext.refl W1)).len;have hlb1:=(hC1.qb.recs hC1.ext (Ext.refl W1)).len;clear c0 c1 c2 c3 c4 c5 c6 c7 c8 c9 c10 c11 c12 c13 c14 c15 c16 c17 c18 c19 c20;refine hb1.cB fun e0 e1 e2 e3 e4 e5 e6 e7 e8 e9 e10 e11 e12 e13 e14 e15 e16 e17 e18 e19 e20=>?_;have HS:=zh (fun(V:World) (hx:Ext W1 V)=>by have:=(zdU s1.node A1 a1 V (hC1.qa.recs hC1.ext hx)).mono fun _ _ q=>zd6.parts q HSV.out;rw[HSP.out] at this;exact this))
  |(go_at_call 135;refine(HS.out _ ex).mono ?_;rintro e w' ⟨D,K,rfl,hx,hl⟩;have HLa:=zh hl;obtain⟨ye,rfl⟩:=hx.get;clear hx hl))
 (first|go_end0|(refine bodyPost_ret (results_none rfl _ _ _) rfl ?_))
 exact⟨rfl,hB1.trans (.inl rfl) (Ext.bent ex g M),_,_,_,_,_,_,_,hC1.mono ex,hM1.mono ex,.inl rfl⟩
theorem zqB (h:WldC w0 W g w A a B b M m)(hm:MailM w0 W M m w.mail xs)(hw:WldOk w)(hu:w.b.up=false):Calls prog 94 #[.pointer (some ⟨g,0,none⟩),.int .i64 2] W (StepM w0 W g M w):=by
 have HC:=Lib.hid h;have HM:=zh hm;have HW:=zh hw;have hla:=(h.qa.recs h.ext (Ext.refl W)).len;have hlb:=(h.qb.recs h.ext (Ext.refl W)).len;refine h.box.cB fun c0 c1 c2 c3 c4 c5 c6 c7 c8 c9 c10 c11 c12 c13 c14 c15 c16 c17 c18 c19 c20=>?_;rw[hu] at c18;clear h hm hu hw;go_enter func94,ntmps94;go_wp2
 (first|go_end0|(refine bodyPost_ret (results_none rfl _ _ _) rfl ?_))
 exact⟨rfl,Ext.bent ex g M,_,_,_,_,_,_,_,HC.out.mono ex,HM.out.mono ex,.inl rfl⟩
theorem zmG (h:WldC w0 W g w A a B b M m)(hm:MailM w0 W M m w.mail xs)(hw:WldOk w)(hu:w.b.up=true)(hsp:w.b.node.speaks=true):Calls prog 94 #[.pointer (some ⟨g,0,none⟩),.int .i64 2] W (StepM w0 W g M (postW w 1 (sentM w.b.node))):=by
 have HC:=Lib.hid h;have HM:=zh hm;have HW:=zh hw;have hla:=(h.qa.recs h.ext (Ext.refl W)).len;have hlb:=(h.qb.recs h.ext (Ext.refl W)).len;refine h.box.cB fun c0 c1 c2 c3 c4 c5 c6 c7 c8 c9 c10 c11 c12 c13 c14 c15 c16 c17 c18 c19 c20=>?_;rw[hu] at c18;rw[hsp] at c14;have hv:sendV w.b.node=(sentM w.b.node,0):=by unfold sendV;rw[if_neg (by rw[(zal _).2 hw.b.node];simp),if_neg (by rw[hsp];simp)]
 have HWM:=zh (show(sentM w.b.node).recs.length≤1000000 by have:=((zdW hw.b.node hsp).app rfl).len;omega);have HS:=zh (fun(V:World) (hx:Ext W V)=>by have:=(zdU w.b.node B b V (h.qb.recs h.ext hx)).mono fun _ _ q=>zd6.parts q hv;rw[hsp] at this;exact this);obtain⟨x,hx⟩:∃x,sentM w.b.node=x:=⟨_,rfl⟩
 rw[hx] at HWM HS ⊢
 have HE:=zh (show ∀r∈x.recs,AcnAt w0 r.act from fun r hr=>h.qb.el r (by rw[←hx] at hr;exact zec _ r hr));clear hv h hm hu hw hsp hx;go_enter func94,ntmps94
 go_wp2_with (first
  |(go_at_call 135;refine(HS.out _ ex).mono ?_;rintro e w' ⟨D,K,rfl,hx,hl⟩;have HLa:=zh hl;obtain⟨ye,rfl⟩:=hx.get;clear hx hl)
  |(go_at_call 133;refine(zeQ (HC.out.mono ex) (HM.out.mono ex) HW.out ((HLa.out.mono ex).logw2 HE.out) HWM.out).mono ?_;rintro e w' ⟨rfl,hS⟩))
 (first|go_end0|(refine bodyPost_ret (results_none rfl _ _ _) rfl ?_))
 exact StepM.of (Ext.bent ex g M) ⟨rfl,hS⟩
theorem zo8 (h:WldC w0 W g w A a B b M m)(hm:MailM w0 W M m w.mail xs)(hw:WldOk w)(hu:w.b.up=true)(hsp:w.b.node.speaks=false)(hs2:(leadS w.limit w.b).node.speaks=true):Calls prog 94 #[.pointer (some ⟨g,0,none⟩),.int .i64 2] W (StepM w0 W g M (postW ⟨w.now,w.limit,w.delay,w.cut,w.a,leadS w.limit w.b,w.mail⟩ 1 (sentM (leadS w.limit w.b).node))):=by
 have HC:=Lib.hid h;have HM:=zh hm;have HW:=zh hw;have hla:=(h.qa.recs h.ext (Ext.refl W)).len;have hlb:=(h.qb.recs h.ext (Ext.refl W)).len;refine h.box.cB fun c0 c1 c2 c3 c4 c5 c6 c7 c8 c9 c10 c11 c12 c13 c14 c15 c16 c17 c18 c19 c20=>?_;rw[hu] at c18;rw[hsp] at c14;have HLD:=zh (fun(V:World) (hx:Ext W V)=>zst (h.mono hx) hw.b);obtain⟨s1,hs1⟩:∃s1,leadS w.limit w.b=s1:=⟨_,rfl⟩
 have hok:StaOk 2 s1:=by rw[←hs1];exact(zh3 hw.b).1
 rw[hs1] at HLD hs2 ⊢
 have HWU:=zh (zzu hw hok);have HSV:=zh (show sendV s1.node=(sentM s1.node,0) by unfold sendV;rw[if_neg (by rw[(zal _).2 hok.node];simp),if_neg (by rw[hs2];simp)]);have HSP:=zh hs2;have HWM:=zh (show(sentM s1.node).recs.length≤1000000 by have:=((zdW hok.node hs2).app rfl).len;omega);have HLG:=zh (zec s1.node);obtain⟨x,hx⟩:∃x,sentM s1.node=x:=⟨_,rfl⟩
 rw[hx] at HWM HSV HLG ⊢
 clear hx;clear h hm hu hw hsp hs2 hs1 hok;go_enter func94,ntmps94
 go_wp2_with (first
  |(go_at_call 134;refine(HLD.out _ ex).mono ?_;rintro e W1 ⟨rfl,hg1,A1,a1,B1,b1,hC1⟩;have hM1:=(HM.out.mono ex).turn (HC.out.mono ex) hg1;have hB1:=(Ext.bent ex g M).trans (.inl rfl) ((HC.out.mono ex).bent hg1 M);have hb1:BoxAt W1 g (Lv w w.a.node A1 a1 w.a.up w.a.quiet s1.node B1 b1 s1.up s1.quiet M m) 30:=hC1.box;rw[HSP.out] at hb1;have hla1:=(hC1.qa.recs hC1.ext (Ext.refl W1)).len;have hlb1:=(hC1.qb.recs hC1.ext (Ext.refl W1)).len;clear c0 c1 c2 c3 c4 c5 c6 c7 c8 c9 c10 c11 c12 c13 c14 c15 c16 c17 c18 c19 c20;refine hb1.cB fun e0 e1 e2 e3 e4 e5 e6 e7 e8 e9 e10 e11 e12 e13 e14 e15 e16 e17 e18 e19 e20=>?_;have HS:=zh (fun(V:World) (hx:Ext W1 V)=>by have:=(zdU s1.node B1 b1 V (hC1.qb.recs hC1.ext hx)).mono fun _ _ q=>zd6.parts q HSV.out;rw[HSP.out] at this;exact this))
  |(go_at_call 135;refine(HS.out _ ex).mono ?_;rintro e w' ⟨D,K,rfl,hx,hl⟩;have HLa:=zh hl;obtain⟨ye,rfl⟩:=hx.get;clear hx hl)
  |(go_at_call 133;refine(zeQ (hC1.mono ex) (hM1.mono ex) HWU.out ((HLa.out.mono ex).logw2 (fun r hr=>hC1.qb.el r (HLG.out r hr))) HWM.out).mono ?_;rintro e w' ⟨rfl,hS⟩))
 (first|go_end0|(refine bodyPost_ret (results_none rfl _ _ _) rfl ?_))
 exact StepM.of (hB1.trans (.inl rfl) (Ext.bent ex g M)) ⟨rfl,hS⟩
theorem zo9 (h:WldC w0 W g w A a B b M m)(hm:MailM w0 W M m w.mail xs)(hw:WldOk w)(hu:w.b.up=true)(hsp:w.b.node.speaks=false)(hs2:(leadS w.limit w.b).node.speaks=false):Calls prog 94 #[.pointer (some ⟨g,0,none⟩),.int .i64 2] W (StepM w0 W g M ⟨w.now,w.limit,w.delay,w.cut,w.a,leadS w.limit w.b,w.mail⟩):=by
 have HC:=Lib.hid h;have HM:=zh hm;have HW:=zh hw;have hla:=(h.qa.recs h.ext (Ext.refl W)).len;have hlb:=(h.qb.recs h.ext (Ext.refl W)).len;refine h.box.cB fun c0 c1 c2 c3 c4 c5 c6 c7 c8 c9 c10 c11 c12 c13 c14 c15 c16 c17 c18 c19 c20=>?_;rw[hu] at c18;rw[hsp] at c14;have HLD:=zh (fun(V:World) (hx:Ext W V)=>zst (h.mono hx) hw.b);obtain⟨s1,hs1⟩:∃s1,leadS w.limit w.b=s1:=⟨_,rfl⟩
 have hok:StaOk 2 s1:=by rw[←hs1];exact(zh3 hw.b).1
 rw[hs1] at HLD hs2 ⊢
 have HWU:=zh (zzu hw hok);have HSV:=zh (show sendV s1.node=(msg0,16) by unfold sendV;rw[if_neg (by rw[(zal _).2 hok.node];simp),if_pos (by rw[hs2])]);have HSP:=zh hs2;clear h hm hu hw hsp hs2 hs1 hok;go_enter func94,ntmps94
 go_wp2_with (first
  |(go_at_call 134;refine(HLD.out _ ex).mono ?_;rintro e W1 ⟨rfl,hg1,A1,a1,B1,b1,hC1⟩;have hM1:=(HM.out.mono ex).turn (HC.out.mono ex) hg1;have hB1:=(Ext.bent ex g M).trans (.inl rfl) ((HC.out.mono ex).bent hg1 M);have hb1:BoxAt W1 g (Lv w w.a.node A1 a1 w.a.up w.a.quiet s1.node B1 b1 s1.up s1.quiet M m) 30:=hC1.box;rw[HSP.out] at hb1;have hla1:=(hC1.qa.recs hC1.ext (Ext.refl W1)).len;have hlb1:=(hC1.qb.recs hC1.ext (Ext.refl W1)).len;clear c0 c1 c2 c3 c4 c5 c6 c7 c8 c9 c10 c11 c12 c13 c14 c15 c16 c17 c18 c19 c20;refine hb1.cB fun e0 e1 e2 e3 e4 e5 e6 e7 e8 e9 e10 e11 e12 e13 e14 e15 e16 e17 e18 e19 e20=>?_;have HS:=zh (fun(V:World) (hx:Ext W1 V)=>by have:=(zdU s1.node B1 b1 V (hC1.qb.recs hC1.ext hx)).mono fun _ _ q=>zd6.parts q HSV.out;rw[HSP.out] at this;exact this))
  |(go_at_call 135;refine(HS.out _ ex).mono ?_;rintro e w' ⟨D,K,rfl,hx,hl⟩;have HLa:=zh hl;obtain⟨ye,rfl⟩:=hx.get;clear hx hl))
 (first|go_end0|(refine bodyPost_ret (results_none rfl _ _ _) rfl ?_))
 exact⟨rfl,hB1.trans (.inl rfl) (Ext.bent ex g M),_,_,_,_,_,_,_,hC1.mono ex,hM1.mono ex,.inl rfl⟩
theorem zCf (h:WldC w0 W g w A a B b M m)(hm:MailM w0 W M m w.mail xs)(hw:WldOk w):Calls prog 94 #[.pointer (some ⟨g,0,none⟩),.int .i64 1] W (StepM w0 W g M (workW w 1)):=by
 cases hu:w.a.up with
 |false=>rw[zj1 (by rw[zeu];exact hu)];exact zqA h hm hw hu
 |true=>
  cases hsp:w.a.node.speaks with
  |true=>have e:=zhl (w:=w) (i:=1) (by rw[zeu];exact hu) (x:=w.a) (by rw[zeu,if_pos hsp]);rw[if_pos hsp,zgO] at e;rw[e];exact zmF h hm hw hu hsp
  |false=>
   have e:=zhl (w:=w) (i:=1) (by rw[zeu];exact hu) (x:=leadS w.limit w.a) (by rw[zeu,if_neg (by rw[hsp];simp)]);rw[zgO] at e;cases hs2:(leadS w.limit w.a).node.speaks with
   |true=>rw[if_pos hs2] at e;rw[e];exact zo6 h hm hw hu hsp hs2
   |false=>rw[if_neg (by rw[hs2];simp)] at e;rw[e];exact zo7 h hm hw hu hsp hs2
theorem zCg (h:WldC w0 W g w A a B b M m)(hm:MailM w0 W M m w.mail xs)(hw:WldOk w):Calls prog 94 #[.pointer (some ⟨g,0,none⟩),.int .i64 2] W (StepM w0 W g M (workW w 2)):=by
 cases hu:w.b.up with
 |false=>rw[zj1 (by rw[zgt];exact hu)];exact zqB h hm hw hu
 |true=>
  cases hsp:w.b.node.speaks with
  |true=>have e:=zhl (w:=w) (i:=2) (by rw[zgt];exact hu) (x:=w.b) (by rw[zgt,if_pos hsp]);rw[if_pos hsp,zlc] at e;rw[e];exact zmG h hm hw hu hsp
  |false=>
   have e:=zhl (w:=w) (i:=2) (by rw[zgt];exact hu) (x:=leadS w.limit w.b) (by rw[zgt,if_neg (by rw[hsp];simp)]);rw[zlc] at e;cases hs2:(leadS w.limit w.b).node.speaks with
   |true=>rw[if_pos hs2] at e;rw[e];exact zo8 h hm hw hu hsp hs2
   |false=>rw[if_neg (by rw[hs2];simp)] at e;rw[e];exact zo9 h hm hw hu hsp hs2
end
