import Derived.Test.YtnpdghjpcnjokaaGreatQg1
import Derived.Test.YtnpdghjpcnjokaaGreatGrqh
import Derived.Test.YtnpdghjpcnjokaaGreatGwkb
set_option linter.all false
namespace Go.Proofs.YtnpdghjpcnjokaaGreat
set_option maxHeartbeats 6400000
set_option maxRecDepth 100000
open Go.RowKit Go.Proofs.Tryz

section
variable {w0 W:World} {w:Wld} {A B M:Option Addr} {c d k:Nat} {xs:List (Ltr×Option Addr×Nat)}
theorem r54_recv_as {n0 n:Nod}{m:Msg}{zk zt za:Int}{ok:Bool}{er:Int}{V:World}{A E:Option Addr}{c j:Nat}(hv:recvV n0 m=(n,⟨zk,zt,za,0,[],0⟩,ok,er))(hs:za3 V A c n0.log)(hm:za3 V E j m.recs):Calls prog 137 #[.agg (Ln n0 A c),.agg (Lm m E j)] V fun e V'=> ∃D K,e=.returned (.tuple #[.agg (Ln n D K),.agg #[zk,zt,za,zI,.slice none 0 0,zI],ok,er])∧Ext V V'∧za3 V' D K n.log:=by refine(zyN n0 A c m E j V hs hm).mono ?_;rw[hv];rintro e V' ⟨D,K,rfl,hx,hq⟩;exact⟨D,K,rfl,hx,hq.recs rfl hx⟩
theorem r55_dlv_a_down (h:WldW w0 W w A c B d M k xs)(x:Ltr)(E:Option Addr)(j:Nat)(hl:LogW w0 W E x.msg.recs.length j x.msg.recs)(hd:x.dst=1)(hu:w.a.up=false):Calls prog 96 #[.agg (Lw w A c B d M k),.agg (Ll x E j)] W (RetW w0 W M xs w):=by
 have HW:=Lib.hid h;have hla:=h.at.a.len;have hlb:=h.at.b.len;have hxl:=(hl.recs h.ext (Ext.refl _)).len;have ws:IntKind.i64.wrap (x.dst - 1)=0:=by rw[hd];rfl
 have ws3:IntKind.i64.wrap (3 - x.dst)=2:=by rw[hd];rfl
 have HU:=zh hu;rw[hu];clear h hl hd hu ws3;go_enter func96,ntmps96
 go_upto_region 1 with fail
 refine zaG (fun W9 hW9=> ?_);have x9:Ext W W9:=by rw[hW9];exact ex
 have k2:BoxAt W9 W.heap.size (Lq w w.cut A c false B d w.b.up M k) 46:=by rw[hW9];exact bxA
 have k3:BoxAt W9 (W.heap.size+1) (Ll x E j) 120:=by rw[hW9];exact bxA
 have k4:BoxAt W9 (W.heap.size+2) Zz 46:=by rw[hW9];exact bxA
 have c4:=k2.c 4 rfl;have c5:=k2.c 5 rfl;have c6:=k2.c 6 rfl;have c7:=k2.c 7 rfl;have c8:=k2.c 8 rfl;have c9:=k2.c 9 rfl;have c10:=k2.c 10 rfl;have c11:=k2.c 11 rfl;have p0:=k3.c 0 rfl;have p2:=k3.c 2 rfl;have p3:=k3.c 3 rfl;have p4:=k3.c 4 rfl;have p5:=k3.c 5 rfl;have p6:=k3.c 6 rfl;have p7:=k3.c 7 rfl;have hrw:=k2.row (n:=21) rfl;have hs9:=k4.lt;clear hW9;go_wp2_with (refine za2 rfl 46 (.tmp 4) (.tmp 19) rfl (k4.mono ex) rfl (Lq w w.cut A c false B d w.b.up M k) rfl rfl (show 21<44 by decide) kr (cells_one _ rfl) ?_;intro V9 t9 b9);refine bodyPost_ret (v:=.agg ((Lq w w.cut A c false B d w.b.up M k):List Value).toArray) (results_one (i:=4) (by simp[results96]) rfl b9.range rfl) rfl ?_;have hV:Ext W V9:=t9.ext (x9.trans ex) om;exact⟨A,c,B,d,M,k,xs,by rw[HU.out],hV,HW.out.mono hV,fun _ _ h=>h⟩
theorem r55_dlv_a_err (h:WldW w0 W w A c B d M k xs)(x:Ltr)(E:Option Addr)(j:Nat)(hl:LogW w0 W E x.msg.recs.length j x.msg.recs)(hd:x.dst=1)(hu:w.a.up=true){n:Nod}{zk zt za:Int}{ok:Bool}{er:Int}(hv:recvV w.a.node x.msg=(n,⟨zk,zt,za,0,[],0⟩,ok,er))(her:er≠0):Calls prog 96 #[.agg (Lw w A c B d M k),.agg (Ll x E j)] W (RetW w0 W M xs w):=by
 have HW:=Lib.hid h;have hla:=h.at.a.len;have hlb:=h.at.b.len;have hxl:=(hl.recs h.ext (Ext.refl _)).len;have ws:IntKind.i64.wrap (x.dst - 1)=0:=by rw[hd];rfl
 have ws3:IntKind.i64.wrap (3 - x.dst)=2:=by rw[hd];rfl
 have HR:=zh (fun(V:World) (hx:Ext W V)=>r54_recv_as (V:=V) hv (h.qa.recs h.ext hx) (hl.recs h.ext hx));have hz:(er !=0)=true:=by simpa using her
 have HU:=zh hu;rw[hu];clear h hl hd hu ws3 hv her;go_enter func96,ntmps96
 go_upto_region 1 with fail
 refine zaG (fun W9 hW9=> ?_);have x9:Ext W W9:=by rw[hW9];exact ex
 have k2:BoxAt W9 W.heap.size (Lq w w.cut A c true B d w.b.up M k) 46:=by rw[hW9];exact bxA
 have k3:BoxAt W9 (W.heap.size+1) (Ll x E j) 120:=by rw[hW9];exact bxA
 have k4:BoxAt W9 (W.heap.size+2) Zz 46:=by rw[hW9];exact bxA
 have c4:=k2.c 4 rfl;have c5:=k2.c 5 rfl;have c6:=k2.c 6 rfl;have c7:=k2.c 7 rfl;have c8:=k2.c 8 rfl;have c9:=k2.c 9 rfl;have c10:=k2.c 10 rfl;have c11:=k2.c 11 rfl;have p0:=k3.c 0 rfl;have p2:=k3.c 2 rfl;have p3:=k3.c 3 rfl;have p4:=k3.c 4 rfl;have p5:=k3.c 5 rfl;have p6:=k3.c 6 rfl;have p7:=k3.c 7 rfl;have hrw:=k2.row (n:=21) rfl;have hs9:=k4.lt;clear hW9;go_wp2_with fail;go_at_call 137;refine(HR.out _ (x9.trans ex)).mono ?_;rintro e w1 ⟨D,K,rfl,hx1,hrn⟩;clear hrn;obtain⟨y1,rfl⟩:=hx1.get;clear hx1;go_wp2_with (refine za2 rfl 46 (.tmp 4) (.tmp 32) rfl (k4.mono ex) rfl (Lq w w.cut A c true B d w.b.up M k) rfl rfl (show 21<44 by decide) kr (cells_one _ rfl) ?_;intro V9 t9 b9);refine bodyPost_ret (v:=.agg ((Lq w w.cut A c true B d w.b.up M k):List Value).toArray) (results_one (i:=4) (by simp[results96]) rfl b9.range rfl) rfl ?_;have hV:Ext W V9:=t9.ext (x9.trans ex) om;exact⟨A,c,B,d,M,k,xs,by rw[HU.out],hV,HW.out.mono hV,fun _ _ h=>h⟩
theorem r55_dlv_a_ok (h:WldW w0 W w A c B d M k xs)(x:Ltr)(E:Option Addr)(j:Nat)(hl:LogW w0 W E x.msg.recs.length j x.msg.recs)(hd:x.dst=1)(hb:0≤w.now∧w.now≤1048576∧0≤w.delay∧w.delay≤8∧w.mail.length≤256)(hu:w.a.up=true){n:Nod}{zk zt za:Int}{ok:Bool}(hv:recvV w.a.node x.msg=(n,⟨zk,zt,za,0,[],0⟩,ok,0)){q:Int}(hq:(if x.msg.kind=0∧x.msg.term=n.term then 0 else w.a.quiet)=q){u:Wld}(hw0:ok=false→⟨w.now,w.limit,w.delay,w.cut,⟨n,true,q⟩,w.b,w.mail⟩=u)(hw1:ok=true→postW ⟨w.now,w.limit,w.delay,w.cut,⟨n,true,q⟩,w.b,w.mail⟩ 2 ⟨zk,zt,za,0,[],0⟩=u):Calls prog 96 #[.agg (Lw w A c B d M k),.agg (Ll x E j)] W (RetW w0 W M xs u):=by
 have HW:=Lib.hid h;have hla:=h.at.a.len;have hlb:=h.at.b.len;have hxl:=(hl.recs h.ext (Ext.refl _)).len;have ws:IntKind.i64.wrap (x.dst - 1)=0:=by rw[hd];rfl
 have ws3:IntKind.i64.wrap (3 - x.dst)=2:=by rw[hd];rfl
 have HR:=zh (fun(V:World) (hx:Ext W V)=>r54_recv_as (V:=V) hv (h.qa.recs h.ext hx) (hl.recs h.ext hx));have HB:=zh hb;have HE:=zh (show ∀r∈n.log,AcnAt w0 r.act from fun r hr=>by
  have hr2:r∈(recvV w.a.node x.msg).1.log:=by rw[hv];exact hr
  rcases zcF w.a.node x.msg r hr2 with h1|h1
  ·exact h.qa.el r h1
  ·exact hl.el r h1)
 have hsz:=h.ext.size;rw[hu];clear h hl hd hu hv hb;go_enter func96,ntmps96
 go_upto_region 1 with fail
 refine zaG (fun W9 hW9=> ?_);have x9:Ext W W9:=by rw[hW9];exact ex
 have k2:BoxAt W9 W.heap.size (Lq w w.cut A c true B d w.b.up M k) 46:=by rw[hW9];exact bxA
 have k3:BoxAt W9 (W.heap.size+1) (Ll x E j) 120:=by rw[hW9];exact bxA
 have k4:BoxAt W9 (W.heap.size+2) Zz 46:=by rw[hW9];exact bxA
 have c4:=k2.c 4 rfl;have c5:=k2.c 5 rfl;have c6:=k2.c 6 rfl;have c7:=k2.c 7 rfl;have c8:=k2.c 8 rfl;have c9:=k2.c 9 rfl;have c10:=k2.c 10 rfl;have c11:=k2.c 11 rfl;have p0:=k3.c 0 rfl;have p2:=k3.c 2 rfl;have p3:=k3.c 3 rfl;have p4:=k3.c 4 rfl;have p5:=k3.c 5 rfl;have p6:=k3.c 6 rfl;have p7:=k3.c 7 rfl;have hrw:=k2.row (n:=21) rfl;have hs9:=k4.lt;clear hW9;go_wp2_with fail;go_at_call 137;refine(HR.out _ (x9.trans ex)).mono ?_;rintro e w1 ⟨D,K,rfl,hx1,hrn⟩;have k5:BoxAt w1 W9.heap.size (Lt w.a.node w.a.node.speaks w.a.node.next A c true w.a.quiet) 42:=BoxAt.mono bxA hx1;have x91:Ext W9 w1:=Ext.trans ex hx1;replace k2:=k2.mono x91;replace k3:=k3.mono x91;replace k4:=k4.mono x91;have s1:W9.heap.size+1≤w1.heap.size:=by have:=k5.lt;omega
 have x1:Ext W w1:=x9.trans x91;have hn:LogW w0 w1 D n.log.length K n.log:=⟨hrn.sl,rfl,hrn.le,hrn.cap,HE.out⟩
 clear hx1 hrn x91 hrw p0 p2 p3 p4 p5 p6 p7 c4 c5 c6 c7 c8 c9 c10 c11;by_cases hk:x.msg.kind=0∧x.msg.term=n.term
 ·rw[if_pos hk] at hq;subst hq;have hb1:(x.msg.kind==0)=true:=by simp[hk.1]
  have hb2:(x.msg.term==n.term)=true:=by simp[hk.2]
  clear hk;cases ok
  ·have hw:=hw0 rfl;clear hw0 hw1
   go_wp2_with (first
    |(refine zab rfl 40 (.tmp 34) (.tmp 33) rfl (k5.mono ex) 0 rfl (Ln n D K) rfl (show 6≤8 by decide) (show 8<44 by decide) kr (cells_one _ rfl) (Lt n n.speaks n.next D K true w.a.quiet) rfl ?_;intro V1 t1 b1;have kn:BoxAt V1 w1.heap.size (Ln n D K) 40:=BoxAt.turn t1 om bxA;have km:BoxAt V1 (w1.heap.size+1) [zk,zt,za,zI,.slice none 0 0,zI] 117:=BoxAt.turn t1 om bxA;replace k2:=(k2.mono ex).turn t1 om;replace k3:=(k3.mono ex).turn t1 om;replace k4:=(k4.mono ex).turn t1 om;have x2:Ext W V1:=t1.ext (x1.trans ex) om;replace hn:=(hn.mono ex).turn t1;have p2:=k3.c 2 rfl;have p3:=k3.c 3 rfl;have p0:=k3.c 0 rfl;have n1:=kn.c 1 rfl)
    |(refine zae rfl 3 (.tmp 47) (.const (.int .i64 0)) rfl (b1.mono ex) 7 rfl (.int .i64 0) rfl (show 7<8 by decide) (show 8<44 by decide) kr rfl (Lt n n.speaks n.next D K true 0) rfl ?_;intro V2 t2 b2;replace km:=(km.mono ex).turn t2 om;replace k2:=(k2.mono ex).turn t2 om;replace k3:=(k3.mono ex).turn t2 om;replace k4:=(k4.mono ex).turn t2 om;replace x2:=t2.ext (x2.trans ex) om;replace hn:=(hn.mono ex).turn t2;clear p0;have p0:=k3.c 0 rfl;refine b2.cA fun z0 z1 z2 z3 z4 z5 z6 z7=>?_)
    |(refine zab rfl 42 (.tmp 53) (.tmp 51) rfl (k2.mono ex) 4 rfl (Lt n n.speaks n.next D K true 0) rfl (show 12≤21 by decide) (show 21<44 by decide) kr (cells_one _ rfl) (Lz w w.delay w.cut n n.speaks n.next D K true 0 w.b.node w.b.node.speaks w.b.node.next B d w.b.up w.b.quiet M w.mail.length k) rfl ?_;intro V3 t3 b3;have hrw:=b3.row (n:=21) rfl;replace km:=(km.mono ex).turn t3 om;obtain⟨m0,m1,m2,m3,m4,m5⟩:=km.six;replace k3:=(k3.mono ex).turn t3 om;replace k4:=(k4.mono ex).turn t3 om;clear p0;have p0:=k3.c 0 rfl;replace x2:=t3.ext (x2.trans ex) om;replace hn:=(hn.mono ex).turn t3;have hw3:=zh ((HW.out.mono x2).sta (v:=⟨w.now,w.limit,w.delay,w.cut,⟨n,true,0⟩,w.b,w.mail⟩) rfl hn (HW.out.qb.mono x2));have hs4:=k4.lt)
    |(refine za2 rfl 46 (.tmp 4) (.tmp 61) rfl (k4.mono ex) rfl (Lz w w.delay w.cut n n.speaks n.next D K true 0 w.b.node w.b.node.speaks w.b.node.next B d w.b.up w.b.quiet M w.mail.length k) rfl rfl (show 21<44 by decide) kr (cells_one _ rfl) ?_;intro V9 t9 b9))
   refine bodyPost_ret (v:=.agg ((Lz w w.delay w.cut n n.speaks n.next D K true 0 w.b.node w.b.node.speaks w.b.node.next B d w.b.up w.b.quiet M w.mail.length k):List Value).toArray) (results_one (i:=4) (by simp[results96]) rfl b9.range rfl) rfl ?_;have hV:Ext W V9:=t9.ext (x2.trans ex) om;subst hw;exact⟨D,K,B,d,M,k,xs,rfl,hV,(hw3.out.mono ex).turn t9 om (Away.new HW.out.sl om),fun _ _ h=>h⟩
  ·have hw:=hw1 rfl;clear hw0 hw1
   go_wp2_with (first
    |(refine zab rfl 40 (.tmp 34) (.tmp 33) rfl (k5.mono ex) 0 rfl (Ln n D K) rfl (show 6≤8 by decide) (show 8<44 by decide) kr (cells_one _ rfl) (Lt n n.speaks n.next D K true w.a.quiet) rfl ?_;intro V1 t1 b1;have kn:BoxAt V1 w1.heap.size (Ln n D K) 40:=BoxAt.turn t1 om bxA;have km:BoxAt V1 (w1.heap.size+1) [zk,zt,za,zI,.slice none 0 0,zI] 117:=BoxAt.turn t1 om bxA;replace k2:=(k2.mono ex).turn t1 om;replace k3:=(k3.mono ex).turn t1 om;replace k4:=(k4.mono ex).turn t1 om;have x2:Ext W V1:=t1.ext (x1.trans ex) om;replace hn:=(hn.mono ex).turn t1;have p2:=k3.c 2 rfl;have p3:=k3.c 3 rfl;have p0:=k3.c 0 rfl;have n1:=kn.c 1 rfl)
    |(refine zae rfl 3 (.tmp 47) (.const (.int .i64 0)) rfl (b1.mono ex) 7 rfl (.int .i64 0) rfl (show 7<8 by decide) (show 8<44 by decide) kr rfl (Lt n n.speaks n.next D K true 0) rfl ?_;intro V2 t2 b2;replace km:=(km.mono ex).turn t2 om;replace k2:=(k2.mono ex).turn t2 om;replace k3:=(k3.mono ex).turn t2 om;replace k4:=(k4.mono ex).turn t2 om;replace x2:=t2.ext (x2.trans ex) om;replace hn:=(hn.mono ex).turn t2;clear p0;have p0:=k3.c 0 rfl;refine b2.cA fun z0 z1 z2 z3 z4 z5 z6 z7=>?_)
    |(refine zab rfl 42 (.tmp 53) (.tmp 51) rfl (k2.mono ex) 4 rfl (Lt n n.speaks n.next D K true 0) rfl (show 12≤21 by decide) (show 21<44 by decide) kr (cells_one _ rfl) (Lz w w.delay w.cut n n.speaks n.next D K true 0 w.b.node w.b.node.speaks w.b.node.next B d w.b.up w.b.quiet M w.mail.length k) rfl ?_;intro V3 t3 b3;have hrw:=b3.row (n:=21) rfl;replace km:=(km.mono ex).turn t3 om;obtain⟨m0,m1,m2,m3,m4,m5⟩:=km.six;replace k3:=(k3.mono ex).turn t3 om;replace k4:=(k4.mono ex).turn t3 om;clear p0;have p0:=k3.c 0 rfl;replace x2:=t3.ext (x2.trans ex) om;replace hn:=(hn.mono ex).turn t3;have hw3:=zh ((HW.out.mono x2).sta (v:=⟨w.now,w.limit,w.delay,w.cut,⟨n,true,0⟩,w.b,w.mail⟩) rfl hn (HW.out.qb.mono x2));have hs4:=k4.lt)
    |(go_at_call 138;refine(r55_posted (hw3.out.mono ex) HB.out.1 HB.out.2.1 HB.out.2.2.1 HB.out.2.2.2.1 HB.out.2.2.2.2 2 ⟨zk,zt,za,0,[],0⟩ none 0 (LogW.nil _ _) hw).mono ?_;rintro e w5 ⟨A5,a5,B5,b5,M5,m5,xs5,rfl,hx5,hw5,ha5⟩;have x5:=Ext.trans (show Ext W _ from by repeat(first|exact Ext.refl _|assumption|apply Ext.xt|apply Ext.alloc|apply Ext.drew|apply Ext.drewN|refine Ext.trans ?_ (by assumption))) hx5;replace k4:=(k4.mono ex).mono hx5)
    |(refine za2 rfl 46 (.tmp 4) (.tmp 60) rfl (k4) rfl (Lw u A5 a5 B5 b5 M5 m5) rfl rfl (show 21<44 by decide) kr (cells_one _ rfl) ?_;intro V9 t9 b9))
   refine bodyPost_ret (v:=.agg ((Lw u A5 a5 B5 b5 M5 m5):List Value).toArray) (results_one (i:=4) (by simp[results96]) rfl b9.range rfl) rfl ?_;have hV:Ext W V9:=t9.ext (x5.trans ex) om;exact⟨A5,a5,B5,b5,M5,m5,xs5,rfl,hV,(hw5.mono ex).turn t9 om (ha5 _ (by have:=(show Ext _ _ from x2).size;simp[go_sem];omega) (Away.new HW.out.sl om)),fun g hg h=>ha5 g (by have:=(show Ext _ _ from x2).size;simp[go_sem];omega) h⟩
 ·rw[if_neg hk] at hq;subst hq;have hc:(x.msg.kind==0)=false∨((x.msg.kind==0)=true∧(x.msg.term==n.term)=false):=by
   by_cases h1:x.msg.kind=0
   ·exact .inr ⟨by simp[h1],by simp;exact fun h2=>hk ⟨h1,h2⟩⟩
   ·exact .inl (by simpa using h1)
  clear hk;rcases hc with hb1|⟨hb1,hb2⟩
  all_goals
   cases ok
   ·have hw:=hw0 rfl;clear hw0 hw1
    go_wp2_with (first
     |(refine zab rfl 40 (.tmp 34) (.tmp 33) rfl (k5.mono ex) 0 rfl (Ln n D K) rfl (show 6≤8 by decide) (show 8<44 by decide) kr (cells_one _ rfl) (Lt n n.speaks n.next D K true w.a.quiet) rfl ?_;intro V1 t1 b1;have kn:BoxAt V1 w1.heap.size (Ln n D K) 40:=BoxAt.turn t1 om bxA;have km:BoxAt V1 (w1.heap.size+1) [zk,zt,za,zI,.slice none 0 0,zI] 117:=BoxAt.turn t1 om bxA;replace k2:=(k2.mono ex).turn t1 om;replace k3:=(k3.mono ex).turn t1 om;replace k4:=(k4.mono ex).turn t1 om;have x2:Ext W V1:=t1.ext (x1.trans ex) om;replace hn:=(hn.mono ex).turn t1;have p2:=k3.c 2 rfl;have p3:=k3.c 3 rfl;have p0:=k3.c 0 rfl;have n1:=kn.c 1 rfl;refine b1.cA fun z0 z1 z2 z3 z4 z5 z6 z7=>?_;have hsz1:w1.heap.size+2≤V1.heap.size:=by have:=km.lt;omega)
     |(refine zab rfl 42 (.tmp 53) (.tmp 51) rfl (k2.mono ex) 4 rfl (Lt n n.speaks n.next D K true w.a.quiet) rfl (show 12≤21 by decide) (show 21<44 by decide) kr (cells_one _ rfl) (Lz w w.delay w.cut n n.speaks n.next D K true w.a.quiet w.b.node w.b.node.speaks w.b.node.next B d w.b.up w.b.quiet M w.mail.length k) rfl ?_;intro V3 t3 b3;have hrw:=b3.row (n:=21) rfl;replace km:=(km.mono ex).turn t3 om;obtain⟨m0,m1,m2,m3,m4,m5⟩:=km.six;replace k3:=(k3.mono ex).turn t3 om;replace k4:=(k4.mono ex).turn t3 om;clear p0;have p0:=k3.c 0 rfl;replace x2:=t3.ext (x2.trans ex) om;replace hn:=(hn.mono ex).turn t3;have hw3:=zh ((HW.out.mono x2).sta (v:=⟨w.now,w.limit,w.delay,w.cut,⟨n,true,w.a.quiet⟩,w.b,w.mail⟩) rfl hn (HW.out.qb.mono x2));have hs4:=k4.lt)
     |(refine za2 rfl 46 (.tmp 4) (.tmp 61) rfl (k4.mono ex) rfl (Lz w w.delay w.cut n n.speaks n.next D K true w.a.quiet w.b.node w.b.node.speaks w.b.node.next B d w.b.up w.b.quiet M w.mail.length k) rfl rfl (show 21<44 by decide) kr (cells_one _ rfl) ?_;intro V9 t9 b9))
    refine bodyPost_ret (v:=.agg ((Lz w w.delay w.cut n n.speaks n.next D K true w.a.quiet w.b.node w.b.node.speaks w.b.node.next B d w.b.up w.b.quiet M w.mail.length k):List Value).toArray) (results_one (i:=4) (by simp[results96]) rfl b9.range rfl) rfl ?_;have hV:Ext W V9:=t9.ext (x2.trans ex) om;subst hw;exact⟨D,K,B,d,M,k,xs,rfl,hV,(hw3.out.mono ex).turn t9 om (Away.new HW.out.sl om),fun _ _ h=>h⟩
   ·have hw:=hw1 rfl;clear hw0 hw1
    go_wp2_with (first
     |(refine zab rfl 40 (.tmp 34) (.tmp 33) rfl (k5.mono ex) 0 rfl (Ln n D K) rfl (show 6≤8 by decide) (show 8<44 by decide) kr (cells_one _ rfl) (Lt n n.speaks n.next D K true w.a.quiet) rfl ?_;intro V1 t1 b1;have kn:BoxAt V1 w1.heap.size (Ln n D K) 40:=BoxAt.turn t1 om bxA;have km:BoxAt V1 (w1.heap.size+1) [zk,zt,za,zI,.slice none 0 0,zI] 117:=BoxAt.turn t1 om bxA;replace k2:=(k2.mono ex).turn t1 om;replace k3:=(k3.mono ex).turn t1 om;replace k4:=(k4.mono ex).turn t1 om;have x2:Ext W V1:=t1.ext (x1.trans ex) om;replace hn:=(hn.mono ex).turn t1;have p2:=k3.c 2 rfl;have p3:=k3.c 3 rfl;have p0:=k3.c 0 rfl;have n1:=kn.c 1 rfl;refine b1.cA fun z0 z1 z2 z3 z4 z5 z6 z7=>?_;have hsz1:w1.heap.size+2≤V1.heap.size:=by have:=km.lt;omega)
     |(refine zab rfl 42 (.tmp 53) (.tmp 51) rfl (k2.mono ex) 4 rfl (Lt n n.speaks n.next D K true w.a.quiet) rfl (show 12≤21 by decide) (show 21<44 by decide) kr (cells_one _ rfl) (Lz w w.delay w.cut n n.speaks n.next D K true w.a.quiet w.b.node w.b.node.speaks w.b.node.next B d w.b.up w.b.quiet M w.mail.length k) rfl ?_;intro V3 t3 b3;have hrw:=b3.row (n:=21) rfl;replace km:=(km.mono ex).turn t3 om;obtain⟨m0,m1,m2,m3,m4,m5⟩:=km.six;replace k3:=(k3.mono ex).turn t3 om;replace k4:=(k4.mono ex).turn t3 om;clear p0;have p0:=k3.c 0 rfl;replace x2:=t3.ext (x2.trans ex) om;replace hn:=(hn.mono ex).turn t3;have hw3:=zh ((HW.out.mono x2).sta (v:=⟨w.now,w.limit,w.delay,w.cut,⟨n,true,w.a.quiet⟩,w.b,w.mail⟩) rfl hn (HW.out.qb.mono x2));have hs4:=k4.lt)
     |(go_at_call 138;refine(r55_posted (hw3.out.mono ex) HB.out.1 HB.out.2.1 HB.out.2.2.1 HB.out.2.2.2.1 HB.out.2.2.2.2 2 ⟨zk,zt,za,0,[],0⟩ none 0 (LogW.nil _ _) hw).mono ?_;rintro e w5 ⟨A5,a5,B5,b5,M5,m5,xs5,rfl,hx5,hw5,ha5⟩;have x5:=Ext.trans (show Ext W _ from by repeat(first|exact Ext.refl _|assumption|apply Ext.xt|apply Ext.alloc|apply Ext.drew|apply Ext.drewN|refine Ext.trans ?_ (by assumption))) hx5;replace k4:=(k4.mono ex).mono hx5)
     |(refine za2 rfl 46 (.tmp 4) (.tmp 60) rfl (k4) rfl (Lw u A5 a5 B5 b5 M5 m5) rfl rfl (show 21<44 by decide) kr (cells_one _ rfl) ?_;intro V9 t9 b9))
    refine bodyPost_ret (v:=.agg ((Lw u A5 a5 B5 b5 M5 m5):List Value).toArray) (results_one (i:=4) (by simp[results96]) rfl b9.range rfl) rfl ?_;have hV:Ext W V9:=t9.ext (x5.trans ex) om;exact⟨A5,a5,B5,b5,M5,m5,xs5,rfl,hV,(hw5.mono ex).turn t9 om (ha5 _ (by have:=(show Ext _ _ from x2).size;simp[go_sem];omega) (Away.new HW.out.sl om)),fun g hg h=>ha5 g (by have:=(show Ext _ _ from x2).size;simp[go_sem];omega) h⟩
theorem r55_dlv_a (h:WldW w0 W w A c B d M k xs)(x:Ltr)(E:Option Addr)(j:Nat)(hl:LogW w0 W E x.msg.recs.length j x.msg.recs)(hd:x.dst=1)(hb:0≤w.now∧w.now≤1048576∧0≤w.delay∧w.delay≤8∧w.mail.length≤256):Calls prog 96 #[.agg (Lw w A c B d M k),.agg (Ll x E j)] W (RetW w0 W M xs (zau w x)):=by
 by_cases hu:w.a.up=false
 ·have e:zau w x=w:=by unfold zau;simp only;rw[hd,zeu,if_pos (.inl hu)]
  rw[e];exact r55_dlv_a_down h x E j hl hd hu
 ·replace hu:w.a.up=true:=by simpa using hu
  obtain⟨n,z,ok,er,hv⟩:∃n z ok er,recvV w.a.node x.msg=(n,z,ok,er):=⟨_,_,_,_,rfl⟩
  have hz:=zww w.a.node x.msg;rw[hv] at hz;obtain⟨zk,zt,za,zb,zr,zc⟩:=z;obtain⟨rfl,rfl,rfl⟩:zr=[]∧zb=0∧zc=0:=hz;by_cases her:er=0
  ·subst her;obtain⟨q,hq⟩:∃q,(if x.msg.kind=0∧x.msg.term=n.term then 0 else w.a.quiet)=q:=⟨_,rfl⟩
   have e:zau w x=if ok=true then postW ⟨w.now,w.limit,w.delay,w.cut,⟨n,true,q⟩,w.b,w.mail⟩ (3 - 1) ⟨zk,zt,za,0,[],0⟩ else⟨w.now,w.limit,w.delay,w.cut,⟨n,true,q⟩,w.b,w.mail⟩:=by unfold zau;simp only;rw[hd,zeu,zgO,hv,if_neg (by rw[hu];simp),hq,hu]
   refine r55_dlv_a_ok h x E j hl hd hb hu hv hq (u:=zau w x) (fun ho=> ?_) (fun ho=> ?_)
   ·rw[e,if_neg (by rw[ho];simp)]
   ·rw[e,if_pos ho];rfl
  ·have e:zau w x=w:=by unfold zau;simp only;rw[hd,zeu,if_pos (.inr (by rw[hv];exact her))]
   rw[e];exact r55_dlv_a_err h x E j hl hd hu hv her
theorem r55_dlv_b_down (h:WldW w0 W w A c B d M k xs)(x:Ltr)(E:Option Addr)(j:Nat)(hl:LogW w0 W E x.msg.recs.length j x.msg.recs)(hd:x.dst=2)(hu:w.b.up=false):Calls prog 96 #[.agg (Lw w A c B d M k),.agg (Ll x E j)] W (RetW w0 W M xs w):=by
 have HW:=Lib.hid h;have hla:=h.at.a.len;have hlb:=h.at.b.len;have hxl:=(hl.recs h.ext (Ext.refl _)).len;have ws:IntKind.i64.wrap (x.dst - 1)=1:=by rw[hd];rfl
 have ws3:IntKind.i64.wrap (3 - x.dst)=1:=by rw[hd];rfl
 have HU:=zh hu;rw[hu];clear h hl hd hu ws3;go_enter func96,ntmps96
 go_upto_region 1 with fail
 refine zaG (fun W9 hW9=> ?_);have x9:Ext W W9:=by rw[hW9];exact ex
 have k2:BoxAt W9 W.heap.size (Lq w w.cut A c w.a.up B d false M k) 46:=by rw[hW9];exact bxA
 have k3:BoxAt W9 (W.heap.size+1) (Ll x E j) 120:=by rw[hW9];exact bxA
 have k4:BoxAt W9 (W.heap.size+2) Zz 46:=by rw[hW9];exact bxA
 have c12:=k2.c 12 rfl;have c13:=k2.c 13 rfl;have c14:=k2.c 14 rfl;have c15:=k2.c 15 rfl;have c16:=k2.c 16 rfl;have c17:=k2.c 17 rfl;have c18:=k2.c 18 rfl;have c19:=k2.c 19 rfl;have p0:=k3.c 0 rfl;have p2:=k3.c 2 rfl;have p3:=k3.c 3 rfl;have p4:=k3.c 4 rfl;have p5:=k3.c 5 rfl;have p6:=k3.c 6 rfl;have p7:=k3.c 7 rfl;have hrw:=k2.row (n:=21) rfl;have hs9:=k4.lt;clear hW9;go_wp2_with (refine za2 rfl 46 (.tmp 4) (.tmp 19) rfl (k4.mono ex) rfl (Lq w w.cut A c w.a.up B d false M k) rfl rfl (show 21<44 by decide) kr (cells_one _ rfl) ?_;intro V9 t9 b9);refine bodyPost_ret (v:=.agg ((Lq w w.cut A c w.a.up B d false M k):List Value).toArray) (results_one (i:=4) (by simp[results96]) rfl b9.range rfl) rfl ?_;have hV:Ext W V9:=t9.ext (x9.trans ex) om;exact⟨A,c,B,d,M,k,xs,by rw[HU.out],hV,HW.out.mono hV,fun _ _ h=>h⟩
theorem r55_dlv_b_err (h:WldW w0 W w A c B d M k xs)(x:Ltr)(E:Option Addr)(j:Nat)(hl:LogW w0 W E x.msg.recs.length j x.msg.recs)(hd:x.dst=2)(hu:w.b.up=true){n:Nod}{zk zt za:Int}{ok:Bool}{er:Int}(hv:recvV w.b.node x.msg=(n,⟨zk,zt,za,0,[],0⟩,ok,er))(her:er≠0):Calls prog 96 #[.agg (Lw w A c B d M k),.agg (Ll x E j)] W (RetW w0 W M xs w):=by
 have HW:=Lib.hid h;have hla:=h.at.a.len;have hlb:=h.at.b.len;have hxl:=(hl.recs h.ext (Ext.refl _)).len;have ws:IntKind.i64.wrap (x.dst - 1)=1:=by rw[hd];rfl
 have ws3:IntKind.i64.wrap (3 - x.dst)=1:=by rw[hd];rfl
 have HR:=zh (fun(V:World) (hx:Ext W V)=>r54_recv_as (V:=V) hv (h.qb.recs h.ext hx) (hl.recs h.ext hx));have hz:(er !=0)=true:=by simpa using her
 have HU:=zh hu;rw[hu];clear h hl hd hu ws3 hv her;go_enter func96,ntmps96
 go_upto_region 1 with fail
 refine zaG (fun W9 hW9=> ?_);have x9:Ext W W9:=by rw[hW9];exact ex
 have k2:BoxAt W9 W.heap.size (Lq w w.cut A c w.a.up B d true M k) 46:=by rw[hW9];exact bxA
 have k3:BoxAt W9 (W.heap.size+1) (Ll x E j) 120:=by rw[hW9];exact bxA
 have k4:BoxAt W9 (W.heap.size+2) Zz 46:=by rw[hW9];exact bxA
 have c12:=k2.c 12 rfl;have c13:=k2.c 13 rfl;have c14:=k2.c 14 rfl;have c15:=k2.c 15 rfl;have c16:=k2.c 16 rfl;have c17:=k2.c 17 rfl;have c18:=k2.c 18 rfl;have c19:=k2.c 19 rfl;have p0:=k3.c 0 rfl;have p2:=k3.c 2 rfl;have p3:=k3.c 3 rfl;have p4:=k3.c 4 rfl;have p5:=k3.c 5 rfl;have p6:=k3.c 6 rfl;have p7:=k3.c 7 rfl;have hrw:=k2.row (n:=21) rfl;have hs9:=k4.lt;clear hW9;go_wp2_with fail;go_at_call 137;refine(HR.out _ (x9.trans ex)).mono ?_;rintro e w1 ⟨D,K,rfl,hx1,hrn⟩;clear hrn;obtain⟨y1,rfl⟩:=hx1.get;clear hx1;go_wp2_with (refine za2 rfl 46 (.tmp 4) (.tmp 32) rfl (k4.mono ex) rfl (Lq w w.cut A c w.a.up B d true M k) rfl rfl (show 21<44 by decide) kr (cells_one _ rfl) ?_;intro V9 t9 b9);refine bodyPost_ret (v:=.agg ((Lq w w.cut A c w.a.up B d true M k):List Value).toArray) (results_one (i:=4) (by simp[results96]) rfl b9.range rfl) rfl ?_;have hV:Ext W V9:=t9.ext (x9.trans ex) om;exact⟨A,c,B,d,M,k,xs,by rw[HU.out],hV,HW.out.mono hV,fun _ _ h=>h⟩
theorem r55_dlv_b_ok (h:WldW w0 W w A c B d M k xs)(x:Ltr)(E:Option Addr)(j:Nat)(hl:LogW w0 W E x.msg.recs.length j x.msg.recs)(hd:x.dst=2)(hb:0≤w.now∧w.now≤1048576∧0≤w.delay∧w.delay≤8∧w.mail.length≤256)(hu:w.b.up=true){n:Nod}{zk zt za:Int}{ok:Bool}(hv:recvV w.b.node x.msg=(n,⟨zk,zt,za,0,[],0⟩,ok,0)){q:Int}(hq:(if x.msg.kind=0∧x.msg.term=n.term then 0 else w.b.quiet)=q){u:Wld}(hw0:ok=false→⟨w.now,w.limit,w.delay,w.cut,w.a,⟨n,true,q⟩,w.mail⟩=u)(hw1:ok=true→postW ⟨w.now,w.limit,w.delay,w.cut,w.a,⟨n,true,q⟩,w.mail⟩ 1 ⟨zk,zt,za,0,[],0⟩=u):Calls prog 96 #[.agg (Lw w A c B d M k),.agg (Ll x E j)] W (RetW w0 W M xs u):=by
 have HW:=Lib.hid h;have hla:=h.at.a.len;have hlb:=h.at.b.len;have hxl:=(hl.recs h.ext (Ext.refl _)).len;have ws:IntKind.i64.wrap (x.dst - 1)=1:=by rw[hd];rfl
 have ws3:IntKind.i64.wrap (3 - x.dst)=1:=by rw[hd];rfl
 have HR:=zh (fun(V:World) (hx:Ext W V)=>r54_recv_as (V:=V) hv (h.qb.recs h.ext hx) (hl.recs h.ext hx));have HB:=zh hb;have HE:=zh (show ∀r∈n.log,AcnAt w0 r.act from fun r hr=>by
  have hr2:r∈(recvV w.b.node x.msg).1.log:=by rw[hv];exact hr
  rcases zcF w.b.node x.msg r hr2 with h1|h1
  ·exact h.qb.el r h1
  ·exact hl.el r h1)
 have hsz:=h.ext.size;rw[hu];clear h hl hd hu hv hb;go_enter func96,ntmps96
 go_upto_region 1 with fail
 refine zaG (fun W9 hW9=> ?_);have x9:Ext W W9:=by rw[hW9];exact ex
 have k2:BoxAt W9 W.heap.size (Lq w w.cut A c w.a.up B d true M k) 46:=by rw[hW9];exact bxA
 have k3:BoxAt W9 (W.heap.size+1) (Ll x E j) 120:=by rw[hW9];exact bxA
 have k4:BoxAt W9 (W.heap.size+2) Zz 46:=by rw[hW9];exact bxA
 have c12:=k2.c 12 rfl;have c13:=k2.c 13 rfl;have c14:=k2.c 14 rfl;have c15:=k2.c 15 rfl;have c16:=k2.c 16 rfl;have c17:=k2.c 17 rfl;have c18:=k2.c 18 rfl;have c19:=k2.c 19 rfl;have p0:=k3.c 0 rfl;have p2:=k3.c 2 rfl;have p3:=k3.c 3 rfl;have p4:=k3.c 4 rfl;have p5:=k3.c 5 rfl;have p6:=k3.c 6 rfl;have p7:=k3.c 7 rfl;have hrw:=k2.row (n:=21) rfl;have hs9:=k4.lt;clear hW9;go_wp2_with fail;go_at_call 137;refine(HR.out _ (x9.trans ex)).mono ?_;rintro e w1 ⟨D,K,rfl,hx1,hrn⟩;have k5:BoxAt w1 W9.heap.size (Lt w.b.node w.b.node.speaks w.b.node.next B d true w.b.quiet) 42:=BoxAt.mono bxA hx1;have x91:Ext W9 w1:=Ext.trans ex hx1;replace k2:=k2.mono x91;replace k3:=k3.mono x91;replace k4:=k4.mono x91;have s1:W9.heap.size+1≤w1.heap.size:=by have:=k5.lt;omega
 have x1:Ext W w1:=x9.trans x91;have hn:LogW w0 w1 D n.log.length K n.log:=⟨hrn.sl,rfl,hrn.le,hrn.cap,HE.out⟩
 clear hx1 hrn x91 hrw p0 p2 p3 p4 p5 p6 p7 c12 c13 c14 c15 c16 c17 c18 c19;by_cases hk:x.msg.kind=0∧x.msg.term=n.term
 ·rw[if_pos hk] at hq;subst hq;have hb1:(x.msg.kind==0)=true:=by simp[hk.1]
  have hb2:(x.msg.term==n.term)=true:=by simp[hk.2]
  clear hk;cases ok
  ·have hw:=hw0 rfl;clear hw0 hw1
   go_wp2_with (first
    |(refine zab rfl 40 (.tmp 34) (.tmp 33) rfl (k5.mono ex) 0 rfl (Ln n D K) rfl (show 6≤8 by decide) (show 8<44 by decide) kr (cells_one _ rfl) (Lt n n.speaks n.next D K true w.b.quiet) rfl ?_;intro V1 t1 b1;have kn:BoxAt V1 w1.heap.size (Ln n D K) 40:=BoxAt.turn t1 om bxA;have km:BoxAt V1 (w1.heap.size+1) [zk,zt,za,zI,.slice none 0 0,zI] 117:=BoxAt.turn t1 om bxA;replace k2:=(k2.mono ex).turn t1 om;replace k3:=(k3.mono ex).turn t1 om;replace k4:=(k4.mono ex).turn t1 om;have x2:Ext W V1:=t1.ext (x1.trans ex) om;replace hn:=(hn.mono ex).turn t1;have p2:=k3.c 2 rfl;have p3:=k3.c 3 rfl;have p0:=k3.c 0 rfl;have n1:=kn.c 1 rfl)
    |(refine zae rfl 3 (.tmp 47) (.const (.int .i64 0)) rfl (b1.mono ex) 7 rfl (.int .i64 0) rfl (show 7<8 by decide) (show 8<44 by decide) kr rfl (Lt n n.speaks n.next D K true 0) rfl ?_;intro V2 t2 b2;replace km:=(km.mono ex).turn t2 om;replace k2:=(k2.mono ex).turn t2 om;replace k3:=(k3.mono ex).turn t2 om;replace k4:=(k4.mono ex).turn t2 om;replace x2:=t2.ext (x2.trans ex) om;replace hn:=(hn.mono ex).turn t2;clear p0;have p0:=k3.c 0 rfl;refine b2.cA fun z0 z1 z2 z3 z4 z5 z6 z7=>?_)
    |(refine zab rfl 42 (.tmp 53) (.tmp 51) rfl (k2.mono ex) 12 rfl (Lt n n.speaks n.next D K true 0) rfl (show 20≤21 by decide) (show 21<44 by decide) kr (cells_one _ rfl) (Lz w w.delay w.cut w.a.node w.a.node.speaks w.a.node.next A c w.a.up w.a.quiet n n.speaks n.next D K true 0 M w.mail.length k) rfl ?_;intro V3 t3 b3;have hrw:=b3.row (n:=21) rfl;replace km:=(km.mono ex).turn t3 om;obtain⟨m0,m1,m2,m3,m4,m5⟩:=km.six;replace k3:=(k3.mono ex).turn t3 om;replace k4:=(k4.mono ex).turn t3 om;clear p0;have p0:=k3.c 0 rfl;replace x2:=t3.ext (x2.trans ex) om;replace hn:=(hn.mono ex).turn t3;have hw3:=zh ((HW.out.mono x2).sta (v:=⟨w.now,w.limit,w.delay,w.cut,w.a,⟨n,true,0⟩,w.mail⟩) rfl (HW.out.qa.mono x2) hn);have hs4:=k4.lt)
    |(refine za2 rfl 46 (.tmp 4) (.tmp 61) rfl (k4.mono ex) rfl (Lz w w.delay w.cut w.a.node w.a.node.speaks w.a.node.next A c w.a.up w.a.quiet n n.speaks n.next D K true 0 M w.mail.length k) rfl rfl (show 21<44 by decide) kr (cells_one _ rfl) ?_;intro V9 t9 b9))
   refine bodyPost_ret (v:=.agg ((Lz w w.delay w.cut w.a.node w.a.node.speaks w.a.node.next A c w.a.up w.a.quiet n n.speaks n.next D K true 0 M w.mail.length k):List Value).toArray) (results_one (i:=4) (by simp[results96]) rfl b9.range rfl) rfl ?_;have hV:Ext W V9:=t9.ext (x2.trans ex) om;subst hw;exact⟨A,c,D,K,M,k,xs,rfl,hV,(hw3.out.mono ex).turn t9 om (Away.new HW.out.sl om),fun _ _ h=>h⟩
  ·have hw:=hw1 rfl;clear hw0 hw1
   go_wp2_with (first
    |(refine zab rfl 40 (.tmp 34) (.tmp 33) rfl (k5.mono ex) 0 rfl (Ln n D K) rfl (show 6≤8 by decide) (show 8<44 by decide) kr (cells_one _ rfl) (Lt n n.speaks n.next D K true w.b.quiet) rfl ?_;intro V1 t1 b1;have kn:BoxAt V1 w1.heap.size (Ln n D K) 40:=BoxAt.turn t1 om bxA;have km:BoxAt V1 (w1.heap.size+1) [zk,zt,za,zI,.slice none 0 0,zI] 117:=BoxAt.turn t1 om bxA;replace k2:=(k2.mono ex).turn t1 om;replace k3:=(k3.mono ex).turn t1 om;replace k4:=(k4.mono ex).turn t1 om;have x2:Ext W V1:=t1.ext (x1.trans ex) om;replace hn:=(hn.mono ex).turn t1;have p2:=k3.c 2 rfl;have p3:=k3.c 3 rfl;have p0:=k3.c 0 rfl;have n1:=kn.c 1 rfl)
    |(refine zae rfl 3 (.tmp 47) (.const (.int .i64 0)) rfl (b1.mono ex) 7 rfl (.int .i64 0) rfl (show 7<8 by decide) (show 8<44 by decide) kr rfl (Lt n n.speaks n.next D K true 0) rfl ?_;intro V2 t2 b2;replace km:=(km.mono ex).turn t2 om;replace k2:=(k2.mono ex).turn t2 om;replace k3:=(k3.mono ex).turn t2 om;replace k4:=(k4.mono ex).turn t2 om;replace x2:=t2.ext (x2.trans ex) om;replace hn:=(hn.mono ex).turn t2;clear p0;have p0:=k3.c 0 rfl;refine b2.cA fun z0 z1 z2 z3 z4 z5 z6 z7=>?_)
    |(refine zab rfl 42 (.tmp 53) (.tmp 51) rfl (k2.mono ex) 12 rfl (Lt n n.speaks n.next D K true 0) rfl (show 20≤21 by decide) (show 21<44 by decide) kr (cells_one _ rfl) (Lz w w.delay w.cut w.a.node w.a.node.speaks w.a.node.next A c w.a.up w.a.quiet n n.speaks n.next D K true 0 M w.mail.length k) rfl ?_;intro V3 t3 b3;have hrw:=b3.row (n:=21) rfl;replace km:=(km.mono ex).turn t3 om;obtain⟨m0,m1,m2,m3,m4,m5⟩:=km.six;replace k3:=(k3.mono ex).turn t3 om;replace k4:=(k4.mono ex).turn t3 om;clear p0;have p0:=k3.c 0 rfl;replace x2:=t3.ext (x2.trans ex) om;replace hn:=(hn.mono ex).turn t3;have hw3:=zh ((HW.out.mono x2).sta (v:=⟨w.now,w.limit,w.delay,w.cut,w.a,⟨n,true,0⟩,w.mail⟩) rfl (HW.out.qa.mono x2) hn);have hs4:=k4.lt)
    |(go_at_call 138;refine(r55_posted (hw3.out.mono ex) HB.out.1 HB.out.2.1 HB.out.2.2.1 HB.out.2.2.2.1 HB.out.2.2.2.2 1 ⟨zk,zt,za,0,[],0⟩ none 0 (LogW.nil _ _) hw).mono ?_;rintro e w5 ⟨A5,a5,B5,b5,M5,m5,xs5,rfl,hx5,hw5,ha5⟩;have x5:=Ext.trans (show Ext W _ from by repeat(first|exact Ext.refl _|assumption|apply Ext.xt|apply Ext.alloc|apply Ext.drew|apply Ext.drewN|refine Ext.trans ?_ (by assumption))) hx5;replace k4:=(k4.mono ex).mono hx5)
    |(refine za2 rfl 46 (.tmp 4) (.tmp 60) rfl (k4) rfl (Lw u A5 a5 B5 b5 M5 m5) rfl rfl (show 21<44 by decide) kr (cells_one _ rfl) ?_;intro V9 t9 b9))
   refine bodyPost_ret (v:=.agg ((Lw u A5 a5 B5 b5 M5 m5):List Value).toArray) (results_one (i:=4) (by simp[results96]) rfl b9.range rfl) rfl ?_;have hV:Ext W V9:=t9.ext (x5.trans ex) om;exact⟨A5,a5,B5,b5,M5,m5,xs5,rfl,hV,(hw5.mono ex).turn t9 om (ha5 _ (by have:=(show Ext _ _ from x2).size;simp[go_sem];omega) (Away.new HW.out.sl om)),fun g hg h=>ha5 g (by have:=(show Ext _ _ from x2).size;simp[go_sem];omega) h⟩
 ·rw[if_neg hk] at hq;subst hq;have hc:(x.msg.kind==0)=false∨((x.msg.kind==0)=true∧(x.msg.term==n.term)=false):=by
   by_cases h1:x.msg.kind=0
   ·exact .inr ⟨by simp[h1],by simp;exact fun h2=>hk ⟨h1,h2⟩⟩
   ·exact .inl (by simpa using h1)
  clear hk;rcases hc with hb1|⟨hb1,hb2⟩
  all_goals
   cases ok
   ·have hw:=hw0 rfl;clear hw0 hw1
    go_wp2_with (first
     |(refine zab rfl 40 (.tmp 34) (.tmp 33) rfl (k5.mono ex) 0 rfl (Ln n D K) rfl (show 6≤8 by decide) (show 8<44 by decide) kr (cells_one _ rfl) (Lt n n.speaks n.next D K true w.b.quiet) rfl ?_;intro V1 t1 b1;have kn:BoxAt V1 w1.heap.size (Ln n D K) 40:=BoxAt.turn t1 om bxA;have km:BoxAt V1 (w1.heap.size+1) [zk,zt,za,zI,.slice none 0 0,zI] 117:=BoxAt.turn t1 om bxA;replace k2:=(k2.mono ex).turn t1 om;replace k3:=(k3.mono ex).turn t1 om;replace k4:=(k4.mono ex).turn t1 om;have x2:Ext W V1:=t1.ext (x1.trans ex) om;replace hn:=(hn.mono ex).turn t1;have p2:=k3.c 2 rfl;have p3:=k3.c 3 rfl;have p0:=k3.c 0 rfl;have n1:=kn.c 1 rfl;refine b1.cA fun z0 z1 z2 z3 z4 z5 z6 z7=>?_;have hsz1:w1.heap.size+2≤V1.heap.size:=by have:=km.lt;omega)
     |(refine zab rfl 42 (.tmp 53) (.tmp 51) rfl (k2.mono ex) 12 rfl (Lt n n.speaks n.next D K true w.b.quiet) rfl (show 20≤21 by decide) (show 21<44 by decide) kr (cells_one _ rfl) (Lz w w.delay w.cut w.a.node w.a.node.speaks w.a.node.next A c w.a.up w.a.quiet n n.speaks n.next D K true w.b.quiet M w.mail.length k) rfl ?_;intro V3 t3 b3;have hrw:=b3.row (n:=21) rfl;replace km:=(km.mono ex).turn t3 om;obtain⟨m0,m1,m2,m3,m4,m5⟩:=km.six;replace k3:=(k3.mono ex).turn t3 om;replace k4:=(k4.mono ex).turn t3 om;clear p0;have p0:=k3.c 0 rfl;replace x2:=t3.ext (x2.trans ex) om;replace hn:=(hn.mono ex).turn t3;have hw3:=zh ((HW.out.mono x2).sta (v:=⟨w.now,w.limit,w.delay,w.cut,w.a,⟨n,true,w.b.quiet⟩,w.mail⟩) rfl (HW.out.qa.mono x2) hn);have hs4:=k4.lt)
     |(refine za2 rfl 46 (.tmp 4) (.tmp 61) rfl (k4.mono ex) rfl (Lz w w.delay w.cut w.a.node w.a.node.speaks w.a.node.next A c w.a.up w.a.quiet n n.speaks n.next D K true w.b.quiet M w.mail.length k) rfl rfl (show 21<44 by decide) kr (cells_one _ rfl) ?_;intro V9 t9 b9))
    refine bodyPost_ret (v:=.agg ((Lz w w.delay w.cut w.a.node w.a.node.speaks w.a.node.next A c w.a.up w.a.quiet n n.speaks n.next D K true w.b.quiet M w.mail.length k):List Value).toArray) (results_one (i:=4) (by simp[results96]) rfl b9.range rfl) rfl ?_;have hV:Ext W V9:=t9.ext (x2.trans ex) om;subst hw;exact⟨A,c,D,K,M,k,xs,rfl,hV,(hw3.out.mono ex).turn t9 om (Away.new HW.out.sl om),fun _ _ h=>h⟩
   ·have hw:=hw1 rfl;clear hw0 hw1
    go_wp2_with (first
     |(refine zab rfl 40 (.tmp 34) (.tmp 33) rfl (k5.mono ex) 0 rfl (Ln n D K) rfl (show 6≤8 by decide) (show 8<44 by decide) kr (cells_one _ rfl) (Lt n n.speaks n.next D K true w.b.quiet) rfl ?_;intro V1 t1 b1;have kn:BoxAt V1 w1.heap.size (Ln n D K) 40:=BoxAt.turn t1 om bxA;have km:BoxAt V1 (w1.heap.size+1) [zk,zt,za,zI,.slice none 0 0,zI] 117:=BoxAt.turn t1 om bxA;replace k2:=(k2.mono ex).turn t1 om;replace k3:=(k3.mono ex).turn t1 om;replace k4:=(k4.mono ex).turn t1 om;have x2:Ext W V1:=t1.ext (x1.trans ex) om;replace hn:=(hn.mono ex).turn t1;have p2:=k3.c 2 rfl;have p3:=k3.c 3 rfl;have p0:=k3.c 0 rfl;have n1:=kn.c 1 rfl;refine b1.cA fun z0 z1 z2 z3 z4 z5 z6 z7=>?_;have hsz1:w1.heap.size+2≤V1.heap.size:=by have:=km.lt;omega)
     |(refine zab rfl 42 (.tmp 53) (.tmp 51) rfl (k2.mono ex) 12 rfl (Lt n n.speaks n.next D K true w.b.quiet) rfl (show 20≤21 by decide) (show 21<44 by decide) kr (cells_one _ rfl) (Lz w w.delay w.cut w.a.node w.a.node.speaks w.a.node.next A c w.a.up w.a.quiet n n.speaks n.next D K true w.b.quiet M w.mail.length k) rfl ?_;intro V3 t3 b3;have hrw:=b3.row (n:=21) rfl;replace km:=(km.mono ex).turn t3 om;obtain⟨m0,m1,m2,m3,m4,m5⟩:=km.six;replace k3:=(k3.mono ex).turn t3 om;replace k4:=(k4.mono ex).turn t3 om;clear p0;have p0:=k3.c 0 rfl;replace x2:=t3.ext (x2.trans ex) om;replace hn:=(hn.mono ex).turn t3;have hw3:=zh ((HW.out.mono x2).sta (v:=⟨w.now,w.limit,w.delay,w.cut,w.a,⟨n,true,w.b.quiet⟩,w.mail⟩) rfl (HW.out.qa.mono x2) hn);have hs4:=k4.lt)
     |(go_at_call 138;refine(r55_posted (hw3.out.mono ex) HB.out.1 HB.out.2.1 HB.out.2.2.1 HB.out.2.2.2.1 HB.out.2.2.2.2 1 ⟨zk,zt,za,0,[],0⟩ none 0 (LogW.nil _ _) hw).mono ?_;rintro e w5 ⟨A5,a5,B5,b5,M5,m5,xs5,rfl,hx5,hw5,ha5⟩;have x5:=Ext.trans (show Ext W _ from by repeat(first|exact Ext.refl _|assumption|apply Ext.xt|apply Ext.alloc|apply Ext.drew|apply Ext.drewN|refine Ext.trans ?_ (by assumption))) hx5;replace k4:=(k4.mono ex).mono hx5)
     |(refine za2 rfl 46 (.tmp 4) (.tmp 60) rfl (k4) rfl (Lw u A5 a5 B5 b5 M5 m5) rfl rfl (show 21<44 by decide) kr (cells_one _ rfl) ?_;intro V9 t9 b9))
    refine bodyPost_ret (v:=.agg ((Lw u A5 a5 B5 b5 M5 m5):List Value).toArray) (results_one (i:=4) (by simp[results96]) rfl b9.range rfl) rfl ?_;have hV:Ext W V9:=t9.ext (x5.trans ex) om;exact⟨A5,a5,B5,b5,M5,m5,xs5,rfl,hV,(hw5.mono ex).turn t9 om (ha5 _ (by have:=(show Ext _ _ from x2).size;simp[go_sem];omega) (Away.new HW.out.sl om)),fun g hg h=>ha5 g (by have:=(show Ext _ _ from x2).size;simp[go_sem];omega) h⟩
theorem r55_dlv_b (h:WldW w0 W w A c B d M k xs)(x:Ltr)(E:Option Addr)(j:Nat)(hl:LogW w0 W E x.msg.recs.length j x.msg.recs)(hd:x.dst=2)(hb:0≤w.now∧w.now≤1048576∧0≤w.delay∧w.delay≤8∧w.mail.length≤256):Calls prog 96 #[.agg (Lw w A c B d M k),.agg (Ll x E j)] W (RetW w0 W M xs (zau w x)):=by
 by_cases hu:w.b.up=false
 ·have e:zau w x=w:=by unfold zau;simp only;rw[hd,zgt,if_pos (.inl hu)]
  rw[e];exact r55_dlv_b_down h x E j hl hd hu
 ·replace hu:w.b.up=true:=by simpa using hu
  obtain⟨n,z,ok,er,hv⟩:∃n z ok er,recvV w.b.node x.msg=(n,z,ok,er):=⟨_,_,_,_,rfl⟩
  have hz:=zww w.b.node x.msg;rw[hv] at hz;obtain⟨zk,zt,za,zb,zr,zc⟩:=z;obtain⟨rfl,rfl,rfl⟩:zr=[]∧zb=0∧zc=0:=hz;by_cases her:er=0
  ·subst her;obtain⟨q,hq⟩:∃q,(if x.msg.kind=0∧x.msg.term=n.term then 0 else w.b.quiet)=q:=⟨_,rfl⟩
   have e:zau w x=if ok=true then postW ⟨w.now,w.limit,w.delay,w.cut,w.a,⟨n,true,q⟩,w.mail⟩ (3 - 2) ⟨zk,zt,za,0,[],0⟩ else⟨w.now,w.limit,w.delay,w.cut,w.a,⟨n,true,q⟩,w.mail⟩:=by unfold zau;simp only;rw[hd,zgt,zlc,hv,if_neg (by rw[hu];simp),hq,hu]
   refine r55_dlv_b_ok h x E j hl hd hb hu hv hq (u:=zau w x) (fun ho=> ?_) (fun ho=> ?_)
   ·rw[e,if_neg (by rw[ho];simp)]
   ·rw[e,if_pos ho];rfl
  ·have e:zau w x=w:=by unfold zau;simp only;rw[hd,zgt,if_pos (.inr (by rw[hv];exact her))]
   rw[e];exact r55_dlv_b_err h x E j hl hd hu hv her
theorem r55_delivered (h:WldW w0 W w A c B d M k xs)(hw:WldOk w){x:Ltr}(hx:LtrOk x){E:Option Addr}{j:Nat}(hl:LogW w0 W E x.msg.recs.length j x.msg.recs):Calls prog 96 #[.agg (Lw w A c B d M k),.agg (Ll x E j)] W (RetW w0 W M xs (zau w x)):=by
 have:=hx.d0;have:=hx.d1;have hd0:=hw.d0;have hb:0≤w.now∧w.now≤1048576∧0≤w.delay∧w.delay≤8∧w.mail.length≤256:=⟨hw.n0,hw.n1,by omega,hw.d1,hw.len⟩
 by_cases hd:x.dst=1
 ·exact r55_dlv_a h x E j hl hd hb
 ·exact r55_dlv_b h x E j hl om hb
end
