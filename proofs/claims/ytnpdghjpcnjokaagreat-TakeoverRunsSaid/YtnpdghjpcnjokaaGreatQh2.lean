import Derived.Test.YtnpdghjpcnjokaaGreatQg1
set_option linter.all false
namespace Go.Proofs.YtnpdghjpcnjokaaGreat
set_option maxHeartbeats 6400000
set_option maxRecDepth 100000
open Go.RowKit Go.Proofs.Tryz

def Stab.retw (w0:World) (S:Nat) (M:Option Addr) (xs:List (Ltr×Option Addr×Nat)) (uw:Wld):Stab:=⟨fun v W=> ∃A a B b N n ys,v=.agg (Lw uw A a B b N n)∧WldW w0 W uw A a B b N n ys∧∀g,g<S→Away g M xs→Away g N ys,fun _ _ _ hx ⟨A,a,B,b,N,n,ys,e,h,hf⟩=>⟨A,a,B,b,N,n,ys,e,h.mono hx,hf⟩⟩
section
variable {w0 W:World} {w:Wld} {A B M:Option Addr} {c d k:Nat} {xs:List (Ltr×Option Addr×Nat)}
theorem r55_posted_b (h:WldW w0 W w A c B d M k xs)(hb:0≤w.now∧w.now≤1048576∧0≤w.delay∧w.delay≤8∧w.mail.length≤256)(i:Int)(x:Msg)(E:Option Addr)(j:Nat)(hx:LogW w0 W E x.recs.length j x.recs){uw:Wld}(hu:postW w i x=uw){p sa r sb:Bool}(h1:w.a.up=p)(h2:w.a.node.speaks=sa)(h3:w.b.up=r)(h4:w.b.node.speaks=sb):
  Calls prog 138 #[.agg ((Lz w w.delay w.cut w.a.node sa w.a.node.next A c p w.a.quiet w.b.node sb w.b.node.next B d r w.b.quiet M w.mail.length k):List Value).toArray,i,.agg (Lm x E j)] W (RetW w0 W M xs uw):=by
 subst h1 h2 h3 h4;exact r55_posted h hb.1 hb.2.1 hb.2.2.1 hb.2.2.2.1 hb.2.2.2.2 i x E j hx hu
theorem r54_Sent_b {n:Nod}{m:Msg}{V:World}{A:Option Addr}{c:Nat}(hm:sentM n=m){sa:Bool}(hs:n.speaks=sa)(hl:LogW w0 V A n.log.length c n.log)(hx0:Ext w0 V)(hn:NodOk n):Calls prog 139 #[.agg #[n.id,n.term,sa,.slice A n.log.length c,n.acked,n.next]] V fun e V'=> ∃D K,e=.returned (.agg (Lm m D K))∧Ext V V'∧LogW w0 V' D m.recs.length K m.recs:=by subst hs;refine(zq1 n m hm A c V (hl.recs hx0 (Ext.refl _)) hn).mono ?_;rintro e V' ⟨D,K,rfl,hx,ho,-⟩;exact⟨D,K,rfl,hx,LogW.own ho fun r hr=>hl.el r (by rw[←hm] at hr;exact zec _ r hr)⟩
theorem r54_Led_n {n0 n:Nod}{A:Option Addr}{c:Nat}{T:Int}{V:World}{sa:Bool}(hn:ledN n0 T=n)(hs:n0.speaks=sa):Calls prog 38 #[.agg #[n0.id,n0.term,sa,.slice A n0.log.length c,n0.acked,n0.next],T] V fun e V'=>e=.returned (.agg #[n.id,n.term,.bool true,.slice A n.log.length c,n.acked,n.next])∧Ext V V':=by subst hs hn;exact zHj n0 A c T V
theorem leadS_own {s:Sta}{i l q T:Int}(h:StaOk i s)(hi:i=1∨i=2)(hq:min (s.quiet+1) 1048576=q)(hT:(ownB i (s.node.term+1)=true∧T=s.node.term+1)∨(ownB i (s.node.term+1)=false∧T=s.node.term+1+1)):leadS l s=if l<q∧T≤1048576 then⟨ledN s.node T,s.up,0⟩ else⟨s.node,s.up,q⟩:=by
 have hE:¬nodE s.node≠0:=by rw[(zal _).2 h.node];simp
 have h0:=h.node.t0;have hid:=h.id;have hl:∀t,s.node.term<t→leadV s.node t=if t≤1048576∧ownB i t=true then(ledN s.node t,0) else(leadV s.node t):=fun t ht=>by
  split
  ·rename_i h1;unfold leadV;rw[if_neg hE,if_neg om,if_neg (by rw[hid,h1.2];simp),if_neg om]
  ·rfl
 have hl2:∀t,s.node.term<t→¬(t≤1048576∧ownB i t=true)→¬(leadV s.node t).2=0:=fun t ht h1=>by
  unfold leadV;rw[if_neg hE];by_cases h2:t<1∨1048576<t
  ·rw[if_pos h2];simp
  ·rw[if_neg h2,if_pos]
   ·simp
   ·cases h3:ownB s.node.id t
    ·rfl
    ·rw[hid] at h3;exact absurd ⟨by omega,h3⟩ h1
 have ho2:ownB i (s.node.term+1)=false→ownB i (s.node.term+2)=true:=fun h1=>by
  unfold ownB at h1 ⊢
  simp only[decide_eq_false_iff_not,decide_eq_true_eq] at h1 ⊢
  rcases hi with rfl|rfl<;>omega
 have ho1:ownB i (s.node.term+1)=true→ownB i (s.node.term+2)=false:=fun h1=>by
  unfold ownB at h1 ⊢
  simp only[decide_eq_false_iff_not,decide_eq_true_eq] at h1 ⊢
  rcases hi with rfl|rfl<;>omega
 unfold leadS;simp only;rw[hq];by_cases h1:q≤l
 ·rw[if_pos h1,if_neg om]
 ·rw[if_neg h1];rcases hT with⟨ho,rfl⟩|⟨ho,rfl⟩
  ·by_cases h2:s.node.term+1≤1048576
   ·have e1:=hl (s.node.term+1) om;rw[if_pos ⟨h2,ho⟩] at e1;rw[e1,if_pos (show l<q∧s.node.term+1≤1048576 from⟨by omega,h2⟩)];exact if_pos rfl
   ·rw[if_neg (hl2 _ om om),if_neg (hl2 _ om om),if_neg om]
  ·have e2:s.node.term+1+1=s.node.term+2:=by omega
   rw[e2,if_neg (hl2 _ om (by rw[ho];simp))];by_cases h2:s.node.term+2≤1048576
   ·have e1:=hl (s.node.term+2) om;rw[if_pos ⟨h2,ho2 ho⟩] at e1;rw[e1,if_pos (show l<q∧s.node.term+2≤1048576 from⟨by omega,h2⟩)];exact if_pos rfl
   ·rw[if_neg (hl2 _ om om),if_neg om]
theorem r55_wrk_a_down (h:WldW w0 W w A c B d M k xs)(hu:w.a.up=false):Calls prog 97 #[.agg (Lw w A c B d M k),.int .i64 1] W (RetW w0 W M xs w):=by
 have HW:=Lib.hid h;have hla:=h.at.a.len;have hlb:=h.at.b.len;have HU:=zh hu;rw[hu];clear h hu;go_enter func97,ntmps97
 go_upto_region 2 with fail
 refine zaG (fun W9 hW9=> ?_);have x9:Ext W W9:=by rw[hW9];exact ex
 have k2:BoxAt W9 W.heap.size (Lq w w.cut A c false B d w.b.up M k) 46:=by rw[hW9];exact bxA
 have k4:BoxAt W9 (W.heap.size+1) Zz 46:=by rw[hW9];exact bxA
 have k5:BoxAt W9 (W.heap.size+2) (Lt w.a.node w.a.node.speaks w.a.node.next A c false w.a.quiet) 42:=by rw[hW9];exact bxA
 refine k5.cA fun y0 y1 y2 y3 y4 y5 y6 y7=>?_;have c1:=k2.c 1 rfl;have hrw:=k2.row (n:=21) rfl;have hs9:=k5.lt;clear hW9;go_wp2_with (refine za2 rfl 46 (.tmp 4) (.tmp 15) rfl (k4.mono ex) rfl (Lq w w.cut A c false B d w.b.up M k) rfl rfl (show 21<44 by decide) kr (cells_one _ rfl) ?_;intro V9 t9 b9);refine bodyPost_ret (v:=.agg ((Lq w w.cut A c false B d w.b.up M k):List Value).toArray) (results_one (i:=4) (by simp[results97]) rfl b9.range rfl) rfl ?_;have hV:Ext W V9:=t9.ext (x9.trans ex) om;exact⟨A,c,B,d,M,k,xs,by rw[HU.out],hV,HW.out.mono hV,fun _ _ h=>h⟩
theorem r55_wrk_a_speak (h:WldW w0 W w A c B d M k xs)(hb:0≤w.now∧w.now≤1048576∧0≤w.delay∧w.delay≤8∧w.mail.length≤256)(hu:w.a.up=true)(hsp:w.a.node.speaks=true)(hn:NodOk w.a.node){m:Msg}(hm:sentM w.a.node=m){uw:Wld}(hp:postW w 2 m=uw):Calls prog 97 #[.agg (Lw w A c B d M k),.int .i64 1] W (RetW w0 W M xs uw):=by
 have HW:=Lib.hid h;have hla:=h.at.a.len;have hlb:=h.at.b.len;have hsz:=h.ext.size;have HB:=zh hb;have HP:=zh hp;have HSP:=zh hsp;have HU:=zh hu;have HSL:=zh h.sl;have HS:=zh (fun(V:World) (hx:Ext W V)=>r54_Sent_b (w0:=w0) (V:=V) (A:=A) (c:=c) hm hsp (h.qa.mono hx) (h.ext.trans hx) hn);rw[hu,hsp];clear h hb hu hsp hp hm hn;go_enter func97,ntmps97
 go_upto_region 2 with fail
 refine zaG (fun W9 hW9=> ?_);have x9:Ext W W9:=by rw[hW9];exact ex
 have k2:BoxAt W9 W.heap.size (Lz w w.delay w.cut w.a.node true w.a.node.next A c true w.a.quiet w.b.node w.b.node.speaks w.b.node.next B d w.b.up w.b.quiet M w.mail.length k) 46:=by rw[hW9];exact bxA
 have k4:BoxAt W9 (W.heap.size+1) Zz 46:=by rw[hW9];exact bxA
 have k5:BoxAt W9 (W.heap.size+2) (Lt w.a.node true w.a.node.next A c true w.a.quiet) 42:=by rw[hW9];exact bxA
 refine k5.cA fun y0 y1 y2 y3 y4 y5 y6 y7=>?_;have c1:=k2.c 1 rfl;have hs9:=k5.lt;clear hW9;go_wp2_with (refine zab rfl 42 (.tmp 54) (.tmp 52) rfl (k2.mono ex) 4 rfl (Lt w.a.node true w.a.node.next A c true w.a.quiet) rfl (show 12≤21 by decide) (show 21<44 by decide) kr (cells_one _ rfl) (Lz w w.delay w.cut w.a.node true w.a.node.next A c true w.a.quiet w.b.node w.b.node.speaks w.b.node.next B d w.b.up w.b.quiet M w.mail.length k) rfl ?_;intro V3 t3 b3;have hrw:=b3.row (n:=21) rfl;have k6:BoxAt V3 (W.heap.size+1) Zz 46:=BoxAt.turn t3 om (k4.mono ex);have k7:BoxAt V3 (W.heap.size+2) (Lt w.a.node true w.a.node.next A c true w.a.quiet) 42:=BoxAt.turn t3 om (k5.mono ex);have x3:Ext W V3:=t3.ext (x9.trans ex) om;have hw3:=zh (HW.out.mono x3);have z0:=k7.c 0 rfl;have z1:=k7.c 1 rfl;have z2:=k7.c 2 rfl;have z3:=k7.c 3 rfl;have z4:=k7.c 4 rfl;have z5:=k7.c 5 rfl);replace HS:=zh (fun(V:World) (hx:Ext V3 V)=>HS.out V (x3.trans hx));have hk4:=k6.lt;refine zGr 7 [] [] [Stab.is (.agg ((Lz w w.delay w.cut w.a.node true w.a.node.next A c true w.a.quiet w.b.node w.b.node.speaks w.b.node.next B d w.b.up w.b.quiet M w.mail.length k):List Value).toArray),Stab.is (.int .i64 1),Stab.is (.int .i64 2),Stab.is (.pointer (some ⟨W.heap.size+2,0,none⟩)),Stab.is (.agg #[w.a.node.id,w.a.node.term,.bool true,.slice A w.a.node.log.length c,w.a.node.acked,w.a.node.next]),Stab.msgw w0 m,Stab.retw w0 V3.heap.size M xs uw] (fun u=>by(simp only[zc0,List.take_succ_cons,List.take_zero,Act.put,Nat.zero_add,Nat.reduceAdd]);(try simp only[lsT,lsS,lsZ]);exact rfl) kr kr kr (fun _ _ _ _ _ h=>h) ?_ ?_ ?_
 ·intro j9 hj9;cases hj9
 ·refine⟨zs_B0,zs_B0,(zs_B1 1),zs_B0,(zs_B1 3),?_,?_,trivial⟩
  ·refine slb fun u y9 hd=>?_;have e4:u 4=.agg #[w.a.node.id,w.a.node.term,.bool true,.slice A w.a.node.log.length c,w.a.node.acked,w.a.node.next]:=hd 4 kr;simp only[e4];refine slr rfl rfl rfl rfl ?_;intro K9 hK;go_simp;go_at_call 139;refine(HS.out _ ex).mono ?_;rintro e w9 ⟨D,K,rfl,hx,hq⟩;exact hK _ _ rfl hx ⟨D,K,rfl,hq⟩
  ·refine slb fun u y9 hd=>?_;have e0:u 0=.agg ((Lz w w.delay w.cut w.a.node true w.a.node.next A c true w.a.quiet w.b.node w.b.node.speaks w.b.node.next B d w.b.up w.b.quiet M w.mail.length k):List Value).toArray:=hd 0 kr;have e2:u 2=.int .i64 2:=hd 2 kr;obtain⟨D5,K5,e5,h5⟩:=hd 5 kr;simp only[e0,e2,e5];refine slr rfl rfl rfl rfl ?_;intro K9 hK;go_simp;go_at_call 138;refine(r55_posted_b (hw3.out.mono ex) HB.out 2 m D5 K5 h5 HP.out HU.out HSP.out rfl rfl).mono ?_;rintro e w9 ⟨A6,a6,B6,b6,M6,m6,xs6,rfl,hx,hw6,ha6⟩;exact hK _ _ rfl hx ⟨A6,a6,B6,b6,M6,m6,xs6,rfl,hw6,fun g hg h=>ha6 g (by simp[go_sem];omega) h⟩
 ·intro u w2 hx2 hT hdd;obtain⟨t0,t1,t2,t3,t4,t5,t6,-⟩:=hT;obtain⟨y9,rfl⟩:=hx2.get;clear hx2;obtain⟨A6,a6,B6,b6,M6,m6,xs6,e6,hw6,ha6⟩:=t6;clear hdd;simp only[e6];clear e6 t0 t1 t2 t3 t4 t5;simp only[List.drop_succ_cons,List.drop_zero];go_wp2_with (refine za2 rfl 46 (.tmp 4) (.tmp 64) rfl (k6.mono ex) rfl (Lw uw A6 a6 B6 b6 M6 m6) rfl rfl (show 21<44 by decide) kr (cells_one _ rfl) ?_;intro V9 t9 b9);refine bodyPost_ret (v:=.agg ((Lw uw A6 a6 B6 b6 M6 m6):List Value).toArray) (results_one (i:=4) (by simp[results97]) rfl b9.range rfl) rfl ?_;have hV:Ext W V9:=t9.ext (x3.trans ex) om;exact⟨A6,a6,B6,b6,M6,m6,xs6,rfl,hV,(hw6.mono ex).turn t9 om (ha6 _ hk4 (Away.new HSL.out om)),fun g hg h=>ha6 g om h⟩
theorem r55_wrk_a_wait (h:WldW w0 W w A c B d M k xs)(hs:StaOk 1 w.a)(hu:w.a.up=true)(hsp:w.a.node.speaks=false){q:Int}(hq:min (w.a.quiet+1) 1048576=q){T:Int}(hT:(ownB 1 (w.a.node.term+1)=true∧T=w.a.node.term+1)∨(ownB 1 (w.a.node.term+1)=false∧T=w.a.node.term+1+1))(hno:¬(w.limit<q∧T≤1048576)):Calls prog 97 #[.agg (Lw w A c B d M k),.int .i64 1] W (RetW w0 W M xs ⟨w.now,w.limit,w.delay,w.cut,⟨w.a.node,true,q⟩,w.b,w.mail⟩):=by
 have HW:=Lib.hid h;have hla:=h.at.a.len;have hlb:=h.at.b.len;have hsz:=h.ext.size;have HSP:=zh hsp;have hq0:=hs.q0;have hq1:=hs.q1;have ht0:=hs.node.t0;have ht1:=hs.node.t1;have hw1:IntKind.i64.wrap (w.a.quiet+1)=w.a.quiet+1:=IntWalk.i64_in _ om;have hw2:IntKind.i64.wrap (w.a.node.term+1)=w.a.node.term+1:=IntWalk.i64_in _ om;have hw3:IntKind.i64.wrap (w.a.node.term+1+1)=w.a.node.term+1+1:=IntWalk.i64_in _ om;have HT:=zh hT;have hc:decide (w.limit<q)=false∨(decide (w.limit<q)=true∧decide (T≤1048576)=false):=by
  by_cases h1:w.limit<q
  ·exact .inr ⟨decide_eq_true h1,decide_eq_false fun h2=>hno ⟨h1,h2⟩⟩
  ·exact .inl (decide_eq_false h1)
 rw[hu,hsp];clear h hs hu hsp hno hT;rcases HT.out with⟨ho,rfl⟩|⟨ho,rfl⟩
 all_goals
  have HO:=zh ho;clear ho HT;rcases hc with hc1|⟨hc1,hc2⟩
  all_goals
   go_enter func97,ntmps97
   go_upto_region 2 with fail
   refine zaG (fun W9 hW9=> ?_);have x9:Ext W W9:=by rw[hW9];exact ex
   have k2:BoxAt W9 W.heap.size (Lz w w.delay w.cut w.a.node false w.a.node.next A c true w.a.quiet w.b.node w.b.node.speaks w.b.node.next B d w.b.up w.b.quiet M w.mail.length k) 46:=by rw[hW9];exact bxA
   have k4:BoxAt W9 (W.heap.size+1) Zz 46:=by rw[hW9];exact bxA
   have k5:BoxAt W9 (W.heap.size+2) (Lt w.a.node false w.a.node.next A c true w.a.quiet) 42:=by rw[hW9];exact bxA
   refine k5.cA fun y0 y1 y2 y3 y4 y5 y6 y7=>?_;have c1:=k2.c 1 rfl;have hs9:=k5.lt;clear hW9
   go_wp2_with (first
    |(refine zae rfl 3 (.tmp 24) (.tmp 23) rfl (k5.mono ex) 7 rfl (.int .i64 q) rfl (show 7<8 by decide) (show 8<44 by decide) kr rfl (Lt w.a.node false w.a.node.next A c true q) rfl ?_;intro V1 t1 b1;replace k2:=(k2.mono ex).turn t1 om;replace k4:=(k4.mono ex).turn t1 om;have x1:Ext W V1:=t1.ext (x9.trans ex) om;clear c1 y0 y1 y2 y3 y4 y5 y6 y7;have c1:=k2.c 1 rfl;refine b1.cA fun y0 y1 y2 y3 y4 y5 y6 y7=>?_)
    |(go_at_call 82;refine(zd9 _ _ _ om om om).mono ?_;rintro e w9 ⟨he,rfl⟩;simp only[HO.out] at he;subst he)
    |(refine zab rfl 42 (.tmp 54) (.tmp 52) rfl (k2.mono ex) 4 rfl (Lt w.a.node false w.a.node.next A c true q) rfl (show 12≤21 by decide) (show 21<44 by decide) kr (cells_one _ rfl) (Lz w w.delay w.cut w.a.node false w.a.node.next A c true q w.b.node w.b.node.speaks w.b.node.next B d w.b.up w.b.quiet M w.mail.length k) rfl ?_;intro V3 t3 b3;have hrw:=b3.row (n:=21) rfl;have k6:BoxAt V3 (W.heap.size+1) Zz 46:=BoxAt.turn t3 om (k4.mono ex);have k7:BoxAt V3 (W.heap.size+2) (Lt w.a.node false w.a.node.next A c true q) 42:=BoxAt.turn t3 om (b1.mono ex);have x3:Ext W V3:=t3.ext (x1.trans ex) om;have z0:=k7.c 0 rfl;have z1:=k7.c 1 rfl;have z2:=k7.c 2 rfl;have z3:=k7.c 3 rfl;have z4:=k7.c 4 rfl;have z5:=k7.c 5 rfl)
    |(refine za2 rfl 46 (.tmp 4) (.tmp 65) rfl (k6.mono ex) rfl (Lz w w.delay w.cut w.a.node false w.a.node.next A c true q w.b.node w.b.node.speaks w.b.node.next B d w.b.up w.b.quiet M w.mail.length k) rfl rfl (show 21<44 by decide) kr (cells_one _ rfl) ?_;intro V9 t9 b9))
   refine bodyPost_ret (v:=.agg ((Lz w w.delay w.cut w.a.node false w.a.node.next A c true q w.b.node w.b.node.speaks w.b.node.next B d w.b.up w.b.quiet M w.mail.length k):List Value).toArray) (results_one (i:=4) (by simp[results97]) rfl b9.range rfl) rfl ?_;have hV:Ext W V9:=t9.ext (x3.trans ex) om;exact⟨A,c,B,d,M,k,xs,by rw[HSP.out],hV,(HW.out.mono hV).sta rfl (HW.out.qa.mono hV) (HW.out.qb.mono hV),fun _ _ h=>h⟩
theorem r55_wrk_a_lead (h:WldW w0 W w A c B d M k xs)(hb:0≤w.now∧w.now≤1048576∧0≤w.delay∧w.delay≤8∧w.mail.length≤256)(hs:StaOk 1 w.a)(hu:w.a.up=true)(hsp:w.a.node.speaks=false){q:Int}(hq:min (w.a.quiet+1) 1048576=q){T:Int}(hT:(ownB 1 (w.a.node.term+1)=true∧T=w.a.node.term+1)∨(ownB 1 (w.a.node.term+1)=false∧T=w.a.node.term+1+1))(hlm:w.limit<q)(hTm:T≤1048576){n:Nod}(hn:ledN w.a.node T=n)(hnk:NodOk n){m:Msg}(hm:sentM n=m){uw:Wld}(hp:postW ⟨w.now,w.limit,w.delay,w.cut,⟨n,true,0⟩,w.b,w.mail⟩ 2 m=uw):Calls prog 97 #[.agg (Lw w A c B d M k),.int .i64 1] W (RetW w0 W M xs uw):=by
 have HW:=Lib.hid h;have hla:=h.at.a.len;have hlb:=h.at.b.len;have hsz:=h.ext.size;have HB:=zh hb;have HP:=zh hp;have HSL:=zh h.sl;have hq0:=hs.q0;have hq1:=hs.q1;have ht0:=hs.node.t0;have ht1:=hs.node.t1;have hw1:IntKind.i64.wrap (w.a.quiet+1)=w.a.quiet+1:=IntWalk.i64_in _ om;have hw2:IntKind.i64.wrap (w.a.node.term+1)=w.a.node.term+1:=IntWalk.i64_in _ om;have hw3:IntKind.i64.wrap (w.a.node.term+1+1)=w.a.node.term+1+1:=IntWalk.i64_in _ om;have HT:=zh hT;have hc1:decide (w.limit<q)=true:=decide_eq_true hlm;have hc2:decide (T≤1048576)=true:=decide_eq_true hTm;have HLD:=zh (fun(V:World)=>r54_Led_n (A:=A) (c:=c) (V:=V) hn hsp);have HSP:=zh (show n.speaks=true by rw[←hn];rfl);have hlg:LogW w0 W A n.log.length c n.log:=by rw[←hn];exact h.qa
 have HS:=zh (fun(V:World) (hx:Ext W V)=>r54_Sent_b (w0:=w0) (V:=V) (A:=A) (c:=c) hm HSP.out (hlg.mono hx) (h.ext.trans hx) hnk);have HLG:=zh hlg;have hnl:=(hlg.recs h.ext (Ext.refl _)).len;rw[hu,hsp];clear h hs hu hsp hb hp hm hnk hT hlm hTm hn hlg;rcases HT.out with⟨ho,rfl⟩|⟨ho,rfl⟩
 all_goals
  have HO:=zh ho;clear ho HT;go_enter func97,ntmps97
  go_upto_region 2 with fail
  refine zaG (fun W9 hW9=> ?_);have x9:Ext W W9:=by rw[hW9];exact ex
  have k2:BoxAt W9 W.heap.size (Lz w w.delay w.cut w.a.node false w.a.node.next A c true w.a.quiet w.b.node w.b.node.speaks w.b.node.next B d w.b.up w.b.quiet M w.mail.length k) 46:=by rw[hW9];exact bxA
  have k4:BoxAt W9 (W.heap.size+1) Zz 46:=by rw[hW9];exact bxA
  have k5:BoxAt W9 (W.heap.size+2) (Lt w.a.node false w.a.node.next A c true w.a.quiet) 42:=by rw[hW9];exact bxA
  refine k5.cA fun y0 y1 y2 y3 y4 y5 y6 y7=>?_;have c1:=k2.c 1 rfl;have hs9:=k5.lt;clear hW9
  go_wp2_with (first
   |(refine zae rfl 3 (.tmp 24) (.tmp 23) rfl (k5.mono ex) 7 rfl (.int .i64 q) rfl (show 7<8 by decide) (show 8<44 by decide) kr rfl (Lt w.a.node false w.a.node.next A c true q) rfl ?_;intro V1 t1 b1;replace k2:=(k2.mono ex).turn t1 om;replace k4:=(k4.mono ex).turn t1 om;have x1:Ext W V1:=t1.ext (x9.trans ex) om;clear c1 y0 y1 y2 y3 y4 y5 y6 y7;have c1:=k2.c 1 rfl;refine b1.cA fun y0 y1 y2 y3 y4 y5 y6 y7=>?_)
   |(go_at_call 82;refine(zd9 _ _ _ om om om).mono ?_;rintro e w9 ⟨he,rfl⟩;simp only[HO.out] at he;subst he)
   |(go_at_call 38;refine(HLD.out _).mono ?_;rintro e w5 ⟨rfl,hx5⟩;replace b1:=(b1.mono ex).mono hx5;replace k2:=(k2.mono ex).mono hx5;replace k4:=(k4.mono ex).mono hx5;replace x1:=Ext.trans (show Ext W _ from by repeat(first|exact Ext.refl _|assumption|apply Ext.xt|apply Ext.alloc|apply Ext.drew|apply Ext.drewN|refine Ext.trans ?_ (by assumption))) hx5;clear hx5 c1 y0 y1 y2 y3 y4 y5 y6 y7)
   |(refine zab rfl 40 (.tmp 48) (.tmp 47) rfl (b1.mono ex) 0 rfl [n.id,n.term,.bool true,.slice A n.log.length c,n.acked,n.next] rfl (show 6≤8 by decide) (show 8<44 by decide) kr (cells_one _ rfl) (Lt n true n.next A c true q) rfl ?_;intro V5 t5 b5;replace k2:=(k2.mono ex).turn t5 om;replace k4:=(k4.mono ex).turn t5 om;replace x1:=t5.ext (x1.trans ex) om)
   |(refine zae rfl 3 (.tmp 49) (.const (.int .i64 0)) rfl (b5.mono ex) 7 rfl (.int .i64 0) rfl (show 7<8 by decide) (show 8<44 by decide) kr rfl (Lt n true n.next A c true 0) rfl ?_;intro V6 t6 b6;replace k2:=(k2.mono ex).turn t6 om;replace k4:=(k4.mono ex).turn t6 om;replace x1:=t6.ext (x1.trans ex) om;refine b6.cA fun y0 y1 y2 y3 y4 y5 y6 y7=>?_)
   |(refine zab rfl 42 (.tmp 54) (.tmp 52) rfl (k2.mono ex) 4 rfl (Lt n true n.next A c true 0) rfl (show 12≤21 by decide) (show 21<44 by decide) kr (cells_one _ rfl) (Lz w w.delay w.cut n true n.next A c true 0 w.b.node w.b.node.speaks w.b.node.next B d w.b.up w.b.quiet M w.mail.length k) rfl ?_;intro V3 t3 b3;have hrw:=b3.row (n:=21) rfl;have k6:BoxAt V3 (W.heap.size+1) Zz 46:=BoxAt.turn t3 om (k4.mono ex);have k7:BoxAt V3 (W.heap.size+2) (Lt n true n.next A c true 0) 42:=BoxAt.turn t3 om (b6.mono ex);have x3:Ext W V3:=t3.ext (x1.trans ex) om;have hw3:=zh ((HW.out.mono x3).sta (v:=⟨w.now,w.limit,w.delay,w.cut,⟨n,true,0⟩,w.b,w.mail⟩) rfl (HLG.out.mono x3) (HW.out.qb.mono x3));have z0:=k7.c 0 rfl;have z1:=k7.c 1 rfl;have z2:=k7.c 2 rfl;have z3:=k7.c 3 rfl;have z4:=k7.c 4 rfl;have z5:=k7.c 5 rfl))
  replace HS:=zh (fun(V:World) (hx:Ext V3 V)=>HS.out V (x3.trans hx));have hk4:=k6.lt;refine zGr 7 [] [] [Stab.is (.agg ((Lz w w.delay w.cut n true n.next A c true 0 w.b.node w.b.node.speaks w.b.node.next B d w.b.up w.b.quiet M w.mail.length k):List Value).toArray),Stab.is (.int .i64 1),Stab.is (.int .i64 2),Stab.is (.pointer (some ⟨W.heap.size+2,0,none⟩)),Stab.is (.agg #[n.id,n.term,.bool true,.slice A n.log.length c,n.acked,n.next]),Stab.msgw w0 m,Stab.retw w0 V3.heap.size M xs uw] (fun u=>by(simp only[zc0,List.take_succ_cons,List.take_zero,Act.put,Nat.zero_add,Nat.reduceAdd]);(try simp only[lsT,lsS,lsZ]);exact rfl) kr kr kr (fun _ _ _ _ _ h=>h) ?_ ?_ ?_
  ·intro j9 hj9;cases hj9
  ·refine⟨zs_B0,zs_B0,(zs_B1 1),zs_B0,(zs_B1 3),?_,?_,trivial⟩
   ·refine slb fun u y9 hd=>?_;have e4:u 4=.agg #[n.id,n.term,.bool true,.slice A n.log.length c,n.acked,n.next]:=hd 4 kr;simp only[e4];refine slr rfl rfl rfl rfl ?_;intro K9 hK;go_simp;go_at_call 139;refine(HS.out _ ex).mono ?_;rintro e w9 ⟨D,K,rfl,hx,hq⟩;exact hK _ _ rfl hx ⟨D,K,rfl,hq⟩
   ·refine slb fun u y9 hd=>?_;have e0:u 0=.agg ((Lz w w.delay w.cut n true n.next A c true 0 w.b.node w.b.node.speaks w.b.node.next B d w.b.up w.b.quiet M w.mail.length k):List Value).toArray:=hd 0 kr;have e2:u 2=.int .i64 2:=hd 2 kr;obtain⟨D5,K5,e5,h5⟩:=hd 5 kr;simp only[e0,e2,e5];refine slr rfl rfl rfl rfl ?_;intro K9 hK;go_simp;go_at_call 138;refine(r55_posted_b (hw3.out.mono ex) HB.out 2 m D5 K5 h5 HP.out rfl HSP.out rfl rfl).mono ?_;rintro e w9 ⟨A6,a6,B6,b6,M6,m6,xs6,rfl,hx,hw6,ha6⟩;exact hK _ _ rfl hx ⟨A6,a6,B6,b6,M6,m6,xs6,rfl,hw6,fun g hg h=>ha6 g (by simp[go_sem];omega) h⟩
  ·intro u w2 hx2 hT hdd;obtain⟨t0,t1,t2,t3,t4,t5,t6,-⟩:=hT;obtain⟨y9,rfl⟩:=hx2.get;clear hx2;obtain⟨A6,a6,B6,b6,M6,m6,xs6,e6,hw6,ha6⟩:=t6;clear hdd;simp only[e6];clear e6 t0 t1 t2 t3 t4 t5;simp only[List.drop_succ_cons,List.drop_zero];go_wp2_with (refine za2 rfl 46 (.tmp 4) (.tmp 64) rfl (k6.mono ex) rfl (Lw uw A6 a6 B6 b6 M6 m6) rfl rfl (show 21<44 by decide) kr (cells_one _ rfl) ?_;intro V9 t9 b9);refine bodyPost_ret (v:=.agg ((Lw uw A6 a6 B6 b6 M6 m6):List Value).toArray) (results_one (i:=4) (by simp[results97]) rfl b9.range rfl) rfl ?_;have hV:Ext W V9:=t9.ext (x3.trans ex) om;exact⟨A6,a6,B6,b6,M6,m6,xs6,rfl,hV,(hw6.mono ex).turn t9 om (ha6 _ hk4 (Away.new HSL.out om)),fun g hg h=>ha6 g om h⟩
theorem r55_wrk_a (h:WldW w0 W w A c B d M k xs)(hw:WldOk w):Calls prog 97 #[.agg (Lw w A c B d M k),.int .i64 1] W (RetW w0 W M xs (workW w 1)):=by
 have hd0:=hw.d0;have hb:0≤w.now∧w.now≤1048576∧0≤w.delay∧w.delay≤8∧w.mail.length≤256:=⟨hw.n0,hw.n1,by omega,hw.d1,hw.len⟩
 by_cases hu:w.a.up=false
 ·rw[zj1 (by rw[zeu];exact hu)];exact r55_wrk_a_down h hu
 ·replace hu:w.a.up=true:=by simpa using hu
  by_cases hsp:w.a.node.speaks=true
  ·have e:=zhl (w:=w) (i:=1) (by rw[zeu];exact hu) (x:=w.a) (by rw[zeu,if_pos hsp]);rw[if_pos hsp,zgO] at e;rw[e];exact r55_wrk_a_speak h hb hu hsp hw.a.node rfl rfl
  ·replace hsp:w.a.node.speaks=false:=by simpa using hsp
   obtain⟨T,hT⟩:∃T,(ownB 1 (w.a.node.term+1)=true∧T=w.a.node.term+1)∨(ownB 1 (w.a.node.term+1)=false∧T=w.a.node.term+1+1):=by
    cases ho:ownB 1 (w.a.node.term+1)
    ·exact⟨_,.inr ⟨rfl,rfl⟩⟩
    ·exact⟨_,.inl ⟨rfl,rfl⟩⟩
   have el:=leadS_own (l:=w.limit) hw.a (.inl rfl) rfl hT;have e:=zhl (w:=w) (i:=1) (by rw[zeu];exact hu) (x:=leadS w.limit w.a) (by rw[zeu,if_neg (by rw[hsp];simp)]);rw[zgO] at e;by_cases hc:w.limit<min (w.a.quiet+1) 1048576∧T≤1048576
   ·rw[if_pos hc] at el;have hk:=(zh3 (l:=w.limit) hw.a).1.node;rw[el] at e hk;rw[if_pos (show(ledN w.a.node T).speaks=true from rfl)] at e;rw[hu] at e;rw[e];exact r55_wrk_a_lead h hb hw.a hu hsp rfl hT hc.1 hc.2 rfl hk rfl rfl
   ·rw[if_neg hc] at el;rw[el] at e;rw[if_neg (by show ¬w.a.node.speaks=true;rw[hsp];simp)] at e;rw[hu] at e;rw[e];exact r55_wrk_a_wait h hw.a hu hsp rfl hT hc
theorem r55_wrk_b_down (h:WldW w0 W w A c B d M k xs)(hu:w.b.up=false):Calls prog 97 #[.agg (Lw w A c B d M k),.int .i64 2] W (RetW w0 W M xs w):=by
 have HW:=Lib.hid h;have hla:=h.at.a.len;have hlb:=h.at.b.len;have HU:=zh hu;rw[hu];clear h hu;go_enter func97,ntmps97
 go_upto_region 2 with fail
 refine zaG (fun W9 hW9=> ?_);have x9:Ext W W9:=by rw[hW9];exact ex
 have k2:BoxAt W9 W.heap.size (Lq w w.cut A c w.a.up B d false M k) 46:=by rw[hW9];exact bxA
 have k4:BoxAt W9 (W.heap.size+1) Zz 46:=by rw[hW9];exact bxA
 have k5:BoxAt W9 (W.heap.size+2) (Lt w.b.node w.b.node.speaks w.b.node.next B d false w.b.quiet) 42:=by rw[hW9];exact bxA
 refine k5.cA fun y0 y1 y2 y3 y4 y5 y6 y7=>?_;have c1:=k2.c 1 rfl;have hrw:=k2.row (n:=21) rfl;have hs9:=k5.lt;clear hW9;go_wp2_with (refine za2 rfl 46 (.tmp 4) (.tmp 15) rfl (k4.mono ex) rfl (Lq w w.cut A c w.a.up B d false M k) rfl rfl (show 21<44 by decide) kr (cells_one _ rfl) ?_;intro V9 t9 b9);refine bodyPost_ret (v:=.agg ((Lq w w.cut A c w.a.up B d false M k):List Value).toArray) (results_one (i:=4) (by simp[results97]) rfl b9.range rfl) rfl ?_;have hV:Ext W V9:=t9.ext (x9.trans ex) om;exact⟨A,c,B,d,M,k,xs,by rw[HU.out],hV,HW.out.mono hV,fun _ _ h=>h⟩
theorem r55_wrk_b_speak (h:WldW w0 W w A c B d M k xs)(hb:0≤w.now∧w.now≤1048576∧0≤w.delay∧w.delay≤8∧w.mail.length≤256)(hu:w.b.up=true)(hsp:w.b.node.speaks=true)(hn:NodOk w.b.node){m:Msg}(hm:sentM w.b.node=m){uw:Wld}(hp:postW w 1 m=uw):Calls prog 97 #[.agg (Lw w A c B d M k),.int .i64 2] W (RetW w0 W M xs uw):=by
 have HW:=Lib.hid h;have hla:=h.at.a.len;have hlb:=h.at.b.len;have hsz:=h.ext.size;have HB:=zh hb;have HP:=zh hp;have HSP:=zh hsp;have HU:=zh hu;have HSL:=zh h.sl;have HS:=zh (fun(V:World) (hx:Ext W V)=>r54_Sent_b (w0:=w0) (V:=V) (A:=B) (c:=d) hm hsp (h.qb.mono hx) (h.ext.trans hx) hn);rw[hu,hsp];clear h hb hu hsp hp hm hn;go_enter func97,ntmps97
 go_upto_region 2 with fail
 refine zaG (fun W9 hW9=> ?_);have x9:Ext W W9:=by rw[hW9];exact ex
 have k2:BoxAt W9 W.heap.size (Lz w w.delay w.cut w.a.node w.a.node.speaks w.a.node.next A c w.a.up w.a.quiet w.b.node true w.b.node.next B d true w.b.quiet M w.mail.length k) 46:=by rw[hW9];exact bxA
 have k4:BoxAt W9 (W.heap.size+1) Zz 46:=by rw[hW9];exact bxA
 have k5:BoxAt W9 (W.heap.size+2) (Lt w.b.node true w.b.node.next B d true w.b.quiet) 42:=by rw[hW9];exact bxA
 refine k5.cA fun y0 y1 y2 y3 y4 y5 y6 y7=>?_;have c1:=k2.c 1 rfl;have hs9:=k5.lt;clear hW9;go_wp2_with (refine zab rfl 42 (.tmp 54) (.tmp 52) rfl (k2.mono ex) 12 rfl (Lt w.b.node true w.b.node.next B d true w.b.quiet) rfl (show 20≤21 by decide) (show 21<44 by decide) kr (cells_one _ rfl) (Lz w w.delay w.cut w.a.node w.a.node.speaks w.a.node.next A c w.a.up w.a.quiet w.b.node true w.b.node.next B d true w.b.quiet M w.mail.length k) rfl ?_;intro V3 t3 b3;have hrw:=b3.row (n:=21) rfl;have k6:BoxAt V3 (W.heap.size+1) Zz 46:=BoxAt.turn t3 om (k4.mono ex);have k7:BoxAt V3 (W.heap.size+2) (Lt w.b.node true w.b.node.next B d true w.b.quiet) 42:=BoxAt.turn t3 om (k5.mono ex);have x3:Ext W V3:=t3.ext (x9.trans ex) om;have hw3:=zh (HW.out.mono x3);have z0:=k7.c 0 rfl;have z1:=k7.c 1 rfl;have z2:=k7.c 2 rfl;have z3:=k7.c 3 rfl;have z4:=k7.c 4 rfl;have z5:=k7.c 5 rfl);replace HS:=zh (fun(V:World) (hx:Ext V3 V)=>HS.out V (x3.trans hx));have hk4:=k6.lt;refine zGr 7 [] [] [Stab.is (.agg ((Lz w w.delay w.cut w.a.node w.a.node.speaks w.a.node.next A c w.a.up w.a.quiet w.b.node true w.b.node.next B d true w.b.quiet M w.mail.length k):List Value).toArray),Stab.is (.int .i64 2),Stab.is (.int .i64 1),Stab.is (.pointer (some ⟨W.heap.size+2,0,none⟩)),Stab.is (.agg #[w.b.node.id,w.b.node.term,.bool true,.slice B w.b.node.log.length d,w.b.node.acked,w.b.node.next]),Stab.msgw w0 m,Stab.retw w0 V3.heap.size M xs uw] (fun u=>by(simp only[zc0,List.take_succ_cons,List.take_zero,Act.put,Nat.zero_add,Nat.reduceAdd]);(try simp only[lsT,lsS,lsZ]);exact rfl) kr kr kr (fun _ _ _ _ _ h=>h) ?_ ?_ ?_
 ·intro j9 hj9;cases hj9
 ·refine⟨zs_B0,zs_B0,(zs_B1 1),zs_B0,(zs_B1 3),?_,?_,trivial⟩
  ·refine slb fun u y9 hd=>?_;have e4:u 4=.agg #[w.b.node.id,w.b.node.term,.bool true,.slice B w.b.node.log.length d,w.b.node.acked,w.b.node.next]:=hd 4 kr;simp only[e4];refine slr rfl rfl rfl rfl ?_;intro K9 hK;go_simp;go_at_call 139;refine(HS.out _ ex).mono ?_;rintro e w9 ⟨D,K,rfl,hx,hq⟩;exact hK _ _ rfl hx ⟨D,K,rfl,hq⟩
  ·refine slb fun u y9 hd=>?_;have e0:u 0=.agg ((Lz w w.delay w.cut w.a.node w.a.node.speaks w.a.node.next A c w.a.up w.a.quiet w.b.node true w.b.node.next B d true w.b.quiet M w.mail.length k):List Value).toArray:=hd 0 kr;have e2:u 2=.int .i64 1:=hd 2 kr;obtain⟨D5,K5,e5,h5⟩:=hd 5 kr;simp only[e0,e2,e5];refine slr rfl rfl rfl rfl ?_;intro K9 hK;go_simp;go_at_call 138;refine(r55_posted_b (hw3.out.mono ex) HB.out 1 m D5 K5 h5 HP.out rfl rfl HU.out HSP.out).mono ?_;rintro e w9 ⟨A6,a6,B6,b6,M6,m6,xs6,rfl,hx,hw6,ha6⟩;exact hK _ _ rfl hx ⟨A6,a6,B6,b6,M6,m6,xs6,rfl,hw6,fun g hg h=>ha6 g (by simp[go_sem];omega) h⟩
 ·intro u w2 hx2 hT hdd;obtain⟨t0,t1,t2,t3,t4,t5,t6,-⟩:=hT;obtain⟨y9,rfl⟩:=hx2.get;clear hx2;obtain⟨A6,a6,B6,b6,M6,m6,xs6,e6,hw6,ha6⟩:=t6;clear hdd;simp only[e6];clear e6 t0 t1 t2 t3 t4 t5;simp only[List.drop_succ_cons,List.drop_zero];go_wp2_with (refine za2 rfl 46 (.tmp 4) (.tmp 64) rfl (k6.mono ex) rfl (Lw uw A6 a6 B6 b6 M6 m6) rfl rfl (show 21<44 by decide) kr (cells_one _ rfl) ?_;intro V9 t9 b9);refine bodyPost_ret (v:=.agg ((Lw uw A6 a6 B6 b6 M6 m6):List Value).toArray) (results_one (i:=4) (by simp[results97]) rfl b9.range rfl) rfl ?_;have hV:Ext W V9:=t9.ext (x3.trans ex) om;exact⟨A6,a6,B6,b6,M6,m6,xs6,rfl,hV,(hw6.mono ex).turn t9 om (ha6 _ hk4 (Away.new HSL.out om)),fun g hg h=>ha6 g om h⟩
theorem r55_wrk_b_wait (h:WldW w0 W w A c B d M k xs)(hs:StaOk 2 w.b)(hu:w.b.up=true)(hsp:w.b.node.speaks=false){q:Int}(hq:min (w.b.quiet+1) 1048576=q){T:Int}(hT:(ownB 2 (w.b.node.term+1)=true∧T=w.b.node.term+1)∨(ownB 2 (w.b.node.term+1)=false∧T=w.b.node.term+1+1))(hno:¬(w.limit<q∧T≤1048576)):Calls prog 97 #[.agg (Lw w A c B d M k),.int .i64 2] W (RetW w0 W M xs ⟨w.now,w.limit,w.delay,w.cut,w.a,⟨w.b.node,true,q⟩,w.mail⟩):=by
 have HW:=Lib.hid h;have hla:=h.at.a.len;have hlb:=h.at.b.len;have hsz:=h.ext.size;have HSP:=zh hsp;have hq0:=hs.q0;have hq1:=hs.q1;have ht0:=hs.node.t0;have ht1:=hs.node.t1;have hw1:IntKind.i64.wrap (w.b.quiet+1)=w.b.quiet+1:=IntWalk.i64_in _ om;have hw2:IntKind.i64.wrap (w.b.node.term+1)=w.b.node.term+1:=IntWalk.i64_in _ om;have hw3:IntKind.i64.wrap (w.b.node.term+1+1)=w.b.node.term+1+1:=IntWalk.i64_in _ om;have HT:=zh hT;have hc:decide (w.limit<q)=false∨(decide (w.limit<q)=true∧decide (T≤1048576)=false):=by
  by_cases h1:w.limit<q
  ·exact .inr ⟨decide_eq_true h1,decide_eq_false fun h2=>hno ⟨h1,h2⟩⟩
  ·exact .inl (decide_eq_false h1)
 rw[hu,hsp];clear h hs hu hsp hno hT;rcases HT.out with⟨ho,rfl⟩|⟨ho,rfl⟩
 all_goals
  have HO:=zh ho;clear ho HT;rcases hc with hc1|⟨hc1,hc2⟩
  all_goals
   go_enter func97,ntmps97
   go_upto_region 2 with fail
   refine zaG (fun W9 hW9=> ?_);have x9:Ext W W9:=by rw[hW9];exact ex
   have k2:BoxAt W9 W.heap.size (Lz w w.delay w.cut w.a.node w.a.node.speaks w.a.node.next A c w.a.up w.a.quiet w.b.node false w.b.node.next B d true w.b.quiet M w.mail.length k) 46:=by rw[hW9];exact bxA
   have k4:BoxAt W9 (W.heap.size+1) Zz 46:=by rw[hW9];exact bxA
   have k5:BoxAt W9 (W.heap.size+2) (Lt w.b.node false w.b.node.next B d true w.b.quiet) 42:=by rw[hW9];exact bxA
   refine k5.cA fun y0 y1 y2 y3 y4 y5 y6 y7=>?_;have c1:=k2.c 1 rfl;have hs9:=k5.lt;clear hW9
   go_wp2_with (first
    |(refine zae rfl 3 (.tmp 24) (.tmp 23) rfl (k5.mono ex) 7 rfl (.int .i64 q) rfl (show 7<8 by decide) (show 8<44 by decide) kr rfl (Lt w.b.node false w.b.node.next B d true q) rfl ?_;intro V1 t1 b1;replace k2:=(k2.mono ex).turn t1 om;replace k4:=(k4.mono ex).turn t1 om;have x1:Ext W V1:=t1.ext (x9.trans ex) om;clear c1 y0 y1 y2 y3 y4 y5 y6 y7;have c1:=k2.c 1 rfl;refine b1.cA fun y0 y1 y2 y3 y4 y5 y6 y7=>?_)
    |(go_at_call 82;refine(zd9 _ _ _ om om om).mono ?_;rintro e w9 ⟨he,rfl⟩;simp only[HO.out] at he;subst he)
    |(refine zab rfl 42 (.tmp 54) (.tmp 52) rfl (k2.mono ex) 12 rfl (Lt w.b.node false w.b.node.next B d true q) rfl (show 20≤21 by decide) (show 21<44 by decide) kr (cells_one _ rfl) (Lz w w.delay w.cut w.a.node w.a.node.speaks w.a.node.next A c w.a.up w.a.quiet w.b.node false w.b.node.next B d true q M w.mail.length k) rfl ?_;intro V3 t3 b3;have hrw:=b3.row (n:=21) rfl;have k6:BoxAt V3 (W.heap.size+1) Zz 46:=BoxAt.turn t3 om (k4.mono ex);have k7:BoxAt V3 (W.heap.size+2) (Lt w.b.node false w.b.node.next B d true q) 42:=BoxAt.turn t3 om (b1.mono ex);have x3:Ext W V3:=t3.ext (x1.trans ex) om;have z0:=k7.c 0 rfl;have z1:=k7.c 1 rfl;have z2:=k7.c 2 rfl;have z3:=k7.c 3 rfl;have z4:=k7.c 4 rfl;have z5:=k7.c 5 rfl)
    |(refine za2 rfl 46 (.tmp 4) (.tmp 65) rfl (k6.mono ex) rfl (Lz w w.delay w.cut w.a.node w.a.node.speaks w.a.node.next A c w.a.up w.a.quiet w.b.node false w.b.node.next B d true q M w.mail.length k) rfl rfl (show 21<44 by decide) kr (cells_one _ rfl) ?_;intro V9 t9 b9))
   refine bodyPost_ret (v:=.agg ((Lz w w.delay w.cut w.a.node w.a.node.speaks w.a.node.next A c w.a.up w.a.quiet w.b.node false w.b.node.next B d true q M w.mail.length k):List Value).toArray) (results_one (i:=4) (by simp[results97]) rfl b9.range rfl) rfl ?_;have hV:Ext W V9:=t9.ext (x3.trans ex) om;exact⟨A,c,B,d,M,k,xs,by rw[HSP.out],hV,(HW.out.mono hV).sta rfl (HW.out.qa.mono hV) (HW.out.qb.mono hV),fun _ _ h=>h⟩
theorem r55_wrk_b_lead (h:WldW w0 W w A c B d M k xs)(hb:0≤w.now∧w.now≤1048576∧0≤w.delay∧w.delay≤8∧w.mail.length≤256)(hs:StaOk 2 w.b)(hu:w.b.up=true)(hsp:w.b.node.speaks=false){q:Int}(hq:min (w.b.quiet+1) 1048576=q){T:Int}(hT:(ownB 2 (w.b.node.term+1)=true∧T=w.b.node.term+1)∨(ownB 2 (w.b.node.term+1)=false∧T=w.b.node.term+1+1))(hlm:w.limit<q)(hTm:T≤1048576){n:Nod}(hn:ledN w.b.node T=n)(hnk:NodOk n){m:Msg}(hm:sentM n=m){uw:Wld}(hp:postW ⟨w.now,w.limit,w.delay,w.cut,w.a,⟨n,true,0⟩,w.mail⟩ 1 m=uw):Calls prog 97 #[.agg (Lw w A c B d M k),.int .i64 2] W (RetW w0 W M xs uw):=by
 have HW:=Lib.hid h;have hla:=h.at.a.len;have hlb:=h.at.b.len;have hsz:=h.ext.size;have HB:=zh hb;have HP:=zh hp;have HSL:=zh h.sl;have hq0:=hs.q0;have hq1:=hs.q1;have ht0:=hs.node.t0;have ht1:=hs.node.t1;have hw1:IntKind.i64.wrap (w.b.quiet+1)=w.b.quiet+1:=IntWalk.i64_in _ om;have hw2:IntKind.i64.wrap (w.b.node.term+1)=w.b.node.term+1:=IntWalk.i64_in _ om;have hw3:IntKind.i64.wrap (w.b.node.term+1+1)=w.b.node.term+1+1:=IntWalk.i64_in _ om;have HT:=zh hT;have hc1:decide (w.limit<q)=true:=decide_eq_true hlm;have hc2:decide (T≤1048576)=true:=decide_eq_true hTm;have HLD:=zh (fun(V:World)=>r54_Led_n (A:=B) (c:=d) (V:=V) hn hsp);have HSP:=zh (show n.speaks=true by rw[←hn];rfl);have hlg:LogW w0 W B n.log.length d n.log:=by rw[←hn];exact h.qb
 have HS:=zh (fun(V:World) (hx:Ext W V)=>r54_Sent_b (w0:=w0) (V:=V) (A:=B) (c:=d) hm HSP.out (hlg.mono hx) (h.ext.trans hx) hnk);have HLG:=zh hlg;have hnl:=(hlg.recs h.ext (Ext.refl _)).len;rw[hu,hsp];clear h hs hu hsp hb hp hm hnk hT hlm hTm hn hlg;rcases HT.out with⟨ho,rfl⟩|⟨ho,rfl⟩
 all_goals
  have HO:=zh ho;clear ho HT;go_enter func97,ntmps97
  go_upto_region 2 with fail
  refine zaG (fun W9 hW9=> ?_);have x9:Ext W W9:=by rw[hW9];exact ex
  have k2:BoxAt W9 W.heap.size (Lz w w.delay w.cut w.a.node w.a.node.speaks w.a.node.next A c w.a.up w.a.quiet w.b.node false w.b.node.next B d true w.b.quiet M w.mail.length k) 46:=by rw[hW9];exact bxA
  have k4:BoxAt W9 (W.heap.size+1) Zz 46:=by rw[hW9];exact bxA
  have k5:BoxAt W9 (W.heap.size+2) (Lt w.b.node false w.b.node.next B d true w.b.quiet) 42:=by rw[hW9];exact bxA
  refine k5.cA fun y0 y1 y2 y3 y4 y5 y6 y7=>?_;have c1:=k2.c 1 rfl;have hs9:=k5.lt;clear hW9
  go_wp2_with (first
   |(refine zae rfl 3 (.tmp 24) (.tmp 23) rfl (k5.mono ex) 7 rfl (.int .i64 q) rfl (show 7<8 by decide) (show 8<44 by decide) kr rfl (Lt w.b.node false w.b.node.next B d true q) rfl ?_;intro V1 t1 b1;replace k2:=(k2.mono ex).turn t1 om;replace k4:=(k4.mono ex).turn t1 om;have x1:Ext W V1:=t1.ext (x9.trans ex) om;clear c1 y0 y1 y2 y3 y4 y5 y6 y7;have c1:=k2.c 1 rfl;refine b1.cA fun y0 y1 y2 y3 y4 y5 y6 y7=>?_)
   |(go_at_call 82;refine(zd9 _ _ _ om om om).mono ?_;rintro e w9 ⟨he,rfl⟩;simp only[HO.out] at he;subst he)
   |(go_at_call 38;refine(HLD.out _).mono ?_;rintro e w5 ⟨rfl,hx5⟩;replace b1:=(b1.mono ex).mono hx5;replace k2:=(k2.mono ex).mono hx5;replace k4:=(k4.mono ex).mono hx5;replace x1:=Ext.trans (show Ext W _ from by repeat(first|exact Ext.refl _|assumption|apply Ext.xt|apply Ext.alloc|apply Ext.drew|apply Ext.drewN|refine Ext.trans ?_ (by assumption))) hx5;clear hx5 c1 y0 y1 y2 y3 y4 y5 y6 y7)
   |(refine zab rfl 40 (.tmp 48) (.tmp 47) rfl (b1.mono ex) 0 rfl [n.id,n.term,.bool true,.slice B n.log.length d,n.acked,n.next] rfl (show 6≤8 by decide) (show 8<44 by decide) kr (cells_one _ rfl) (Lt n true n.next B d true q) rfl ?_;intro V5 t5 b5;replace k2:=(k2.mono ex).turn t5 om;replace k4:=(k4.mono ex).turn t5 om;replace x1:=t5.ext (x1.trans ex) om)
   |(refine zae rfl 3 (.tmp 49) (.const (.int .i64 0)) rfl (b5.mono ex) 7 rfl (.int .i64 0) rfl (show 7<8 by decide) (show 8<44 by decide) kr rfl (Lt n true n.next B d true 0) rfl ?_;intro V6 t6 b6;replace k2:=(k2.mono ex).turn t6 om;replace k4:=(k4.mono ex).turn t6 om;replace x1:=t6.ext (x1.trans ex) om;refine b6.cA fun y0 y1 y2 y3 y4 y5 y6 y7=>?_)
   |(refine zab rfl 42 (.tmp 54) (.tmp 52) rfl (k2.mono ex) 12 rfl (Lt n true n.next B d true 0) rfl (show 20≤21 by decide) (show 21<44 by decide) kr (cells_one _ rfl) (Lz w w.delay w.cut w.a.node w.a.node.speaks w.a.node.next A c w.a.up w.a.quiet n true n.next B d true 0 M w.mail.length k) rfl ?_;intro V3 t3 b3;have hrw:=b3.row (n:=21) rfl;have k6:BoxAt V3 (W.heap.size+1) Zz 46:=BoxAt.turn t3 om (k4.mono ex);have k7:BoxAt V3 (W.heap.size+2) (Lt n true n.next B d true 0) 42:=BoxAt.turn t3 om (b6.mono ex);have x3:Ext W V3:=t3.ext (x1.trans ex) om;have hw3:=zh ((HW.out.mono x3).sta (v:=⟨w.now,w.limit,w.delay,w.cut,w.a,⟨n,true,0⟩,w.mail⟩) rfl (HW.out.qa.mono x3) (HLG.out.mono x3));have z0:=k7.c 0 rfl;have z1:=k7.c 1 rfl;have z2:=k7.c 2 rfl;have z3:=k7.c 3 rfl;have z4:=k7.c 4 rfl;have z5:=k7.c 5 rfl))
  replace HS:=zh (fun(V:World) (hx:Ext V3 V)=>HS.out V (x3.trans hx));have hk4:=k6.lt;refine zGr 7 [] [] [Stab.is (.agg ((Lz w w.delay w.cut w.a.node w.a.node.speaks w.a.node.next A c w.a.up w.a.quiet n true n.next B d true 0 M w.mail.length k):List Value).toArray),Stab.is (.int .i64 2),Stab.is (.int .i64 1),Stab.is (.pointer (some ⟨W.heap.size+2,0,none⟩)),Stab.is (.agg #[n.id,n.term,.bool true,.slice B n.log.length d,n.acked,n.next]),Stab.msgw w0 m,Stab.retw w0 V3.heap.size M xs uw] (fun u=>by(simp only[zc0,List.take_succ_cons,List.take_zero,Act.put,Nat.zero_add,Nat.reduceAdd]);(try simp only[lsT,lsS,lsZ]);exact rfl) kr kr kr (fun _ _ _ _ _ h=>h) ?_ ?_ ?_
  ·intro j9 hj9;cases hj9
  ·refine⟨zs_B0,zs_B0,(zs_B1 1),zs_B0,(zs_B1 3),?_,?_,trivial⟩
   ·refine slb fun u y9 hd=>?_;have e4:u 4=.agg #[n.id,n.term,.bool true,.slice B n.log.length d,n.acked,n.next]:=hd 4 kr;simp only[e4];refine slr rfl rfl rfl rfl ?_;intro K9 hK;go_simp;go_at_call 139;refine(HS.out _ ex).mono ?_;rintro e w9 ⟨D,K,rfl,hx,hq⟩;exact hK _ _ rfl hx ⟨D,K,rfl,hq⟩
   ·refine slb fun u y9 hd=>?_;have e0:u 0=.agg ((Lz w w.delay w.cut w.a.node w.a.node.speaks w.a.node.next A c w.a.up w.a.quiet n true n.next B d true 0 M w.mail.length k):List Value).toArray:=hd 0 kr;have e2:u 2=.int .i64 1:=hd 2 kr;obtain⟨D5,K5,e5,h5⟩:=hd 5 kr;simp only[e0,e2,e5];refine slr rfl rfl rfl rfl ?_;intro K9 hK;go_simp;go_at_call 138;refine(r55_posted_b (hw3.out.mono ex) HB.out 1 m D5 K5 h5 HP.out rfl rfl rfl HSP.out).mono ?_;rintro e w9 ⟨A6,a6,B6,b6,M6,m6,xs6,rfl,hx,hw6,ha6⟩;exact hK _ _ rfl hx ⟨A6,a6,B6,b6,M6,m6,xs6,rfl,hw6,fun g hg h=>ha6 g (by simp[go_sem];omega) h⟩
  ·intro u w2 hx2 hT hdd;obtain⟨t0,t1,t2,t3,t4,t5,t6,-⟩:=hT;obtain⟨y9,rfl⟩:=hx2.get;clear hx2;obtain⟨A6,a6,B6,b6,M6,m6,xs6,e6,hw6,ha6⟩:=t6;clear hdd;simp only[e6];clear e6 t0 t1 t2 t3 t4 t5;simp only[List.drop_succ_cons,List.drop_zero];go_wp2_with (refine za2 rfl 46 (.tmp 4) (.tmp 64) rfl (k6.mono ex) rfl (Lw uw A6 a6 B6 b6 M6 m6) rfl rfl (show 21<44 by decide) kr (cells_one _ rfl) ?_;intro V9 t9 b9);refine bodyPost_ret (v:=.agg ((Lw uw A6 a6 B6 b6 M6 m6):List Value).toArray) (results_one (i:=4) (by simp[results97]) rfl b9.range rfl) rfl ?_;have hV:Ext W V9:=t9.ext (x3.trans ex) om;exact⟨A6,a6,B6,b6,M6,m6,xs6,rfl,hV,(hw6.mono ex).turn t9 om (ha6 _ hk4 (Away.new HSL.out om)),fun g hg h=>ha6 g om h⟩
theorem r55_wrk_b (h:WldW w0 W w A c B d M k xs)(hw:WldOk w):Calls prog 97 #[.agg (Lw w A c B d M k),.int .i64 2] W (RetW w0 W M xs (workW w 2)):=by
 have hd0:=hw.d0;have hb:0≤w.now∧w.now≤1048576∧0≤w.delay∧w.delay≤8∧w.mail.length≤256:=⟨hw.n0,hw.n1,by omega,hw.d1,hw.len⟩
 by_cases hu:w.b.up=false
 ·rw[zj1 (by rw[zgt];exact hu)];exact r55_wrk_b_down h hu
 ·replace hu:w.b.up=true:=by simpa using hu
  by_cases hsp:w.b.node.speaks=true
  ·have e:=zhl (w:=w) (i:=2) (by rw[zgt];exact hu) (x:=w.b) (by rw[zgt,if_pos hsp]);rw[if_pos hsp,zlc] at e;rw[e];exact r55_wrk_b_speak h hb hu hsp hw.b.node rfl rfl
  ·replace hsp:w.b.node.speaks=false:=by simpa using hsp
   obtain⟨T,hT⟩:∃T,(ownB 2 (w.b.node.term+1)=true∧T=w.b.node.term+1)∨(ownB 2 (w.b.node.term+1)=false∧T=w.b.node.term+1+1):=by
    cases ho:ownB 2 (w.b.node.term+1)
    ·exact⟨_,.inr ⟨rfl,rfl⟩⟩
    ·exact⟨_,.inl ⟨rfl,rfl⟩⟩
   have el:=leadS_own (l:=w.limit) hw.b (.inr rfl) rfl hT;have e:=zhl (w:=w) (i:=2) (by rw[zgt];exact hu) (x:=leadS w.limit w.b) (by rw[zgt,if_neg (by rw[hsp];simp)]);rw[zlc] at e;by_cases hc:w.limit<min (w.b.quiet+1) 1048576∧T≤1048576
   ·rw[if_pos hc] at el;have hk:=(zh3 (l:=w.limit) hw.b).1.node;rw[el] at e hk;rw[if_pos (show(ledN w.b.node T).speaks=true from rfl)] at e;rw[hu] at e;rw[e];exact r55_wrk_b_lead h hb hw.b hu hsp rfl hT hc.1 hc.2 rfl hk rfl rfl
   ·rw[if_neg hc] at el;rw[el] at e;rw[if_neg (by show ¬w.b.node.speaks=true;rw[hsp];simp)] at e;rw[hu] at e;rw[e];exact r55_wrk_b_wait h hw.b hu hsp rfl hT hc
end
