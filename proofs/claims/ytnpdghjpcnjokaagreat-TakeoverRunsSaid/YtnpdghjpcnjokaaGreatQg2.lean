import Derived.Test.YtnpdghjpcnjokaaGreatQg1
import Derived.Test.YtnpdghjpcnjokaaGreatGwkd
set_option linter.all false
namespace Go.Proofs.YtnpdghjpcnjokaaGreat
set_option maxHeartbeats 6400000
set_option maxRecDepth 100000
open Go.RowKit Go.Proofs.Tryz

section
variable {w0 W:World} {w:Wld} {A B M:Option Addr} {c d k:Nat} {xs:List (Ltr×Option Addr×Nat)}
theorem r55_hap_3 (h:WldW w0 W w A c B d M k xs)(x:Evt)(hk:x.kind=3):Calls prog 95 #[.agg (Lw w A c B d M k),.agg (evtR x).toArray] W (RetW w0 W M xs ⟨w.now,w.limit,w.delay,true,w.a,w.b,w.mail⟩):=by
 have HW:=Lib.hid h;have hla:=h.at.a.len;have hlb:=h.at.b.len;have HK:=zh hk;have z3:(x.kind==3)=true:=by simp[hk]
 have z4:(x.kind==4)=false:=by simp[hk]
 have z5:(x.kind==5)=false:=by simp[hk]
 have z0:(x.kind==0)=false:=by simp[hk]
 have z1:(x.kind==1)=false:=by simp[hk]
 have z2:(x.kind==2)=false:=by simp[hk]
 clear hk;clear h;go_enter func95,ntmps95
 go_upto_region 1 with fail
 refine zaG (fun W9 hW9=> ?_);have x9:Ext W W9:=by rw[hW9];exact ex
 have k2:BoxAt W9 W.heap.size (Lq w w.cut A c w.a.up B d w.b.up M k) 46:=by rw[hW9];exact bxA
 have k4:BoxAt W9 (W.heap.size+2) Zz 46:=by rw[hW9];exact bxA
 have he:EvtAt W9 (W.heap.size+1) 0 x:=by rw[hW9];exact(EvtAt.new (W:=W.alloc (.cells ((Lq w w.cut A c w.a.up B d w.b.up M k):List Value).toArray 46)) _ sg x _).mono ex
 have e1:=he.kind;have e2:=he.station;have e3:=he.delay;have c10:=k2.c 10 rfl;have c18:=k2.c 18 rfl;have hs9:=k4.lt;clear hW9 he
 go_wp2_with (first
  |(refine zae rfl 4 (.tmp 19) (.tmp 18) rfl (k2.mono ex) 3 rfl (.bool true) rfl (show 3<21 by decide) (show 21<44 by decide) kr rfl (Lq w true A c w.a.up B d w.b.up M k) rfl ?_;intro V0 ht0 hb0;have kr0:=(k4.mono ex).turn ht0 (by simp);have hrw:=hb0.row (n:=21) rfl)
  |(refine za2 rfl 46 (.tmp 4) (.tmp 20) rfl (kr0.mono ex) rfl (Lq w true A c w.a.up B d w.b.up M k) rfl rfl (show 21<44 by decide) kr (cells_one _ rfl) ?_;intro V9 ht9 hb9))
 refine bodyPost_ret (v:=.agg ((Lq w true A c w.a.up B d w.b.up M k):List Value).toArray) (results_one (i:=4) (by simp[results95]) rfl hb9.range rfl) rfl ?_;have hV:Ext W V9:=ht9.ext ((ht0.ext (x9.trans ex) (Nat.le_refl _)).trans ex) om;exact⟨A,c,B,d,M,k,xs,rfl,hV,(HW.out.mono hV).sta rfl (HW.out.qa.mono hV) (HW.out.qb.mono hV),fun _ _ h=>h⟩
theorem r55_hap_4 (h:WldW w0 W w A c B d M k xs)(x:Evt)(hk:x.kind=4):Calls prog 95 #[.agg (Lw w A c B d M k),.agg (evtR x).toArray] W (RetW w0 W M xs ⟨w.now,w.limit,w.delay,false,w.a,w.b,w.mail⟩):=by
 have HW:=Lib.hid h;have hla:=h.at.a.len;have hlb:=h.at.b.len;have HK:=zh hk;have z3:(x.kind==3)=false:=by simp[hk]
 have z4:(x.kind==4)=true:=by simp[hk]
 have z5:(x.kind==5)=false:=by simp[hk]
 have z0:(x.kind==0)=false:=by simp[hk]
 have z1:(x.kind==1)=false:=by simp[hk]
 have z2:(x.kind==2)=false:=by simp[hk]
 clear hk;clear h;go_enter func95,ntmps95
 go_upto_region 1 with fail
 refine zaG (fun W9 hW9=> ?_);have x9:Ext W W9:=by rw[hW9];exact ex
 have k2:BoxAt W9 W.heap.size (Lq w w.cut A c w.a.up B d w.b.up M k) 46:=by rw[hW9];exact bxA
 have k4:BoxAt W9 (W.heap.size+2) Zz 46:=by rw[hW9];exact bxA
 have he:EvtAt W9 (W.heap.size+1) 0 x:=by rw[hW9];exact(EvtAt.new (W:=W.alloc (.cells ((Lq w w.cut A c w.a.up B d w.b.up M k):List Value).toArray 46)) _ sg x _).mono ex
 have e1:=he.kind;have e2:=he.station;have e3:=he.delay;have c10:=k2.c 10 rfl;have c18:=k2.c 18 rfl;have hs9:=k4.lt;clear hW9 he
 go_wp2_with (first
  |(refine zae rfl 4 (.tmp 19) (.tmp 18) rfl (k2.mono ex) 3 rfl (.bool false) rfl (show 3<21 by decide) (show 21<44 by decide) kr rfl (Lq w false A c w.a.up B d w.b.up M k) rfl ?_;intro V0 ht0 hb0;have kr0:=(k4.mono ex).turn ht0 (by simp);have hrw:=hb0.row (n:=21) rfl)
  |(refine za2 rfl 46 (.tmp 4) (.tmp 20) rfl (kr0.mono ex) rfl (Lq w false A c w.a.up B d w.b.up M k) rfl rfl (show 21<44 by decide) kr (cells_one _ rfl) ?_;intro V9 ht9 hb9))
 refine bodyPost_ret (v:=.agg ((Lq w false A c w.a.up B d w.b.up M k):List Value).toArray) (results_one (i:=4) (by simp[results95]) rfl hb9.range rfl) rfl ?_;have hV:Ext W V9:=ht9.ext ((ht0.ext (x9.trans ex) (Nat.le_refl _)).trans ex) om;exact⟨A,c,B,d,M,k,xs,rfl,hV,(HW.out.mono hV).sta rfl (HW.out.qa.mono hV) (HW.out.qb.mono hV),fun _ _ h=>h⟩
theorem r55_hap_5 (h:WldW w0 W w A c B d M k xs)(x:Evt)(hk:x.kind=5):Calls prog 95 #[.agg (Lw w A c B d M k),.agg (evtR x).toArray] W (RetW w0 W M xs ⟨w.now,w.limit,x.delay,w.cut,w.a,w.b,w.mail⟩):=by
 have HW:=Lib.hid h;have hla:=h.at.a.len;have hlb:=h.at.b.len;have HK:=zh hk;have z3:(x.kind==3)=false:=by simp[hk]
 have z4:(x.kind==4)=false:=by simp[hk]
 have z5:(x.kind==5)=true:=by simp[hk]
 have z0:(x.kind==0)=false:=by simp[hk]
 have z1:(x.kind==1)=false:=by simp[hk]
 have z2:(x.kind==2)=false:=by simp[hk]
 clear hk;clear h;go_enter func95,ntmps95
 go_upto_region 1 with fail
 refine zaG (fun W9 hW9=> ?_);have x9:Ext W W9:=by rw[hW9];exact ex
 have k2:BoxAt W9 W.heap.size (Lq w w.cut A c w.a.up B d w.b.up M k) 46:=by rw[hW9];exact bxA
 have k4:BoxAt W9 (W.heap.size+2) Zz 46:=by rw[hW9];exact bxA
 have he:EvtAt W9 (W.heap.size+1) 0 x:=by rw[hW9];exact(EvtAt.new (W:=W.alloc (.cells ((Lq w w.cut A c w.a.up B d w.b.up M k):List Value).toArray 46)) _ sg x _).mono ex
 have e1:=he.kind;have e2:=he.station;have e3:=he.delay;have c10:=k2.c 10 rfl;have c18:=k2.c 18 rfl;have hs9:=k4.lt;clear hW9 he
 go_wp2_with (first
  |(refine zae rfl 3 (.tmp 26) (.tmp 25) rfl (k2.mono ex) 2 rfl (.int .i64 x.delay) rfl (show 2<21 by decide) (show 21<44 by decide) kr rfl (Lz w x.delay w.cut w.a.node w.a.node.speaks w.a.node.next A c w.a.up w.a.quiet w.b.node w.b.node.speaks w.b.node.next B d w.b.up w.b.quiet M w.mail.length k) rfl ?_;intro V0 ht0 hb0;have kr0:=(k4.mono ex).turn ht0 (by simp);have hrw:=hb0.row (n:=21) rfl)
  |(refine za2 rfl 46 (.tmp 4) (.tmp 27) rfl (kr0.mono ex) rfl (Lz w x.delay w.cut w.a.node w.a.node.speaks w.a.node.next A c w.a.up w.a.quiet w.b.node w.b.node.speaks w.b.node.next B d w.b.up w.b.quiet M w.mail.length k) rfl rfl (show 21<44 by decide) kr (cells_one _ rfl) ?_;intro V9 ht9 hb9))
 refine bodyPost_ret (v:=.agg ((Lz w x.delay w.cut w.a.node w.a.node.speaks w.a.node.next A c w.a.up w.a.quiet w.b.node w.b.node.speaks w.b.node.next B d w.b.up w.b.quiet M w.mail.length k):List Value).toArray) (results_one (i:=4) (by simp[results95]) rfl hb9.range rfl) rfl ?_;have hV:Ext W V9:=ht9.ext ((ht0.ext (x9.trans ex) (Nat.le_refl _)).trans ex) om;exact⟨A,c,B,d,M,k,xs,rfl,hV,(HW.out.mono hV).sta rfl (HW.out.qa.mono hV) (HW.out.qb.mono hV),fun _ _ h=>h⟩
theorem r55_hap_1a (h:WldW w0 W w A c B d M k xs)(x:Evt)(hk:x.kind=1)(hs:x.station=1):Calls prog 95 #[.agg (Lw w A c B d M k),.agg (evtR x).toArray] W (RetW w0 W M xs ⟨w.now,w.limit,w.delay,w.cut,⟨w.a.node,false,w.a.quiet⟩,w.b,w.mail⟩):=by
 have HW:=Lib.hid h;have hla:=h.at.a.len;have hlb:=h.at.b.len;have HK:=zh hk;have z3:(x.kind==3)=false:=by simp[hk]
 have z4:(x.kind==4)=false:=by simp[hk]
 have z5:(x.kind==5)=false:=by simp[hk]
 have z0:(x.kind==0)=false:=by simp[hk]
 have z1:(x.kind==1)=true:=by simp[hk]
 have z2:(x.kind==2)=false:=by simp[hk]
 clear hk;have ws:IntKind.i64.wrap (x.station - 1)=0:=by rw[hs];rfl
 have HS:=zh hs;clear hs;clear h;go_enter func95,ntmps95
 go_upto_region 1 with fail
 refine zaG (fun W9 hW9=> ?_);have x9:Ext W W9:=by rw[hW9];exact ex
 have k2:BoxAt W9 W.heap.size (Lq w w.cut A c w.a.up B d w.b.up M k) 46:=by rw[hW9];exact bxA
 have k4:BoxAt W9 (W.heap.size+2) Zz 46:=by rw[hW9];exact bxA
 have he:EvtAt W9 (W.heap.size+1) 0 x:=by rw[hW9];exact(EvtAt.new (W:=W.alloc (.cells ((Lq w w.cut A c w.a.up B d w.b.up M k):List Value).toArray 46)) _ sg x _).mono ex
 have e1:=he.kind;have e2:=he.station;have e3:=he.delay;have c10:=k2.c 10 rfl;have c18:=k2.c 18 rfl;have hs9:=k4.lt;clear hW9 he
 go_wp2_with (first
  |(refine zae rfl 4 (.tmp 61) (.const (.bool false)) rfl (k2.mono ex) 10 rfl (.bool false) rfl (show 10<21 by decide) (show 21<44 by decide) kr rfl (Lq w w.cut A c false B d w.b.up M k) rfl ?_;intro V0 ht0 hb0;have kr0:=(k4.mono ex).turn ht0 (by simp);have hrw:=hb0.row (n:=21) rfl)
  |(refine za2 rfl 46 (.tmp 4) (.tmp 83) rfl (kr0.mono ex) rfl (Lq w w.cut A c false B d w.b.up M k) rfl rfl (show 21<44 by decide) kr (cells_one _ rfl) ?_;intro V9 ht9 hb9))
 refine bodyPost_ret (v:=.agg ((Lq w w.cut A c false B d w.b.up M k):List Value).toArray) (results_one (i:=4) (by simp[results95]) rfl hb9.range rfl) rfl ?_;have hV:Ext W V9:=ht9.ext ((ht0.ext (x9.trans ex) (Nat.le_refl _)).trans ex) om;exact⟨A,c,B,d,M,k,xs,rfl,hV,(HW.out.mono hV).sta rfl (HW.out.qa.mono hV) (HW.out.qb.mono hV),fun _ _ h=>h⟩
theorem r55_hap_2a_t (h:WldW w0 W w A c B d M k xs)(x:Evt)(hk:x.kind=2)(hs:x.station=1)(hu:w.a.up=true):Calls prog 95 #[.agg (Lw w A c B d M k),.agg (evtR x).toArray] W (RetW w0 W M xs w):=by
 have HW:=Lib.hid h;have hla:=h.at.a.len;have hlb:=h.at.b.len;have HK:=zh hk;have z3:(x.kind==3)=false:=by simp[hk]
 have z4:(x.kind==4)=false:=by simp[hk]
 have z5:(x.kind==5)=false:=by simp[hk]
 have z0:(x.kind==0)=false:=by simp[hk]
 have z1:(x.kind==1)=false:=by simp[hk]
 have z2:(x.kind==2)=true:=by simp[hk]
 clear hk;have ws:IntKind.i64.wrap (x.station - 1)=0:=by rw[hs];rfl
 have HS:=zh hs;clear hs;have HU:=zh hu;rw[hu];clear hu;clear h;go_enter func95,ntmps95
 go_upto_region 1 with fail
 refine zaG (fun W9 hW9=> ?_);have x9:Ext W W9:=by rw[hW9];exact ex
 have k2:BoxAt W9 W.heap.size (Lq w w.cut A c true B d w.b.up M k) 46:=by rw[hW9];exact bxA
 have k4:BoxAt W9 (W.heap.size+2) Zz 46:=by rw[hW9];exact bxA
 have he:EvtAt W9 (W.heap.size+1) 0 x:=by rw[hW9];exact(EvtAt.new (W:=W.alloc (.cells ((Lq w w.cut A c true B d w.b.up M k):List Value).toArray 46)) _ sg x _).mono ex
 have e1:=he.kind;have e2:=he.station;have e3:=he.delay;have c10:=k2.c 10 rfl;have c18:=k2.c 18 rfl;have hrw:=k2.row (n:=21) rfl;have hs9:=k4.lt;clear hW9 he
 go_wp2_with (first
  |(refine za2 rfl 46 (.tmp 4) (.tmp 83) rfl (k4.mono ex) rfl (Lq w w.cut A c true B d w.b.up M k) rfl rfl (show 21<44 by decide) kr (cells_one _ rfl) ?_;intro V9 ht9 hb9))
 refine bodyPost_ret (v:=.agg ((Lq w w.cut A c true B d w.b.up M k):List Value).toArray) (results_one (i:=4) (by simp[results95]) rfl hb9.range rfl) rfl ?_;have hV:Ext W V9:=ht9.ext (x9.trans ex) om;exact⟨A,c,B,d,M,k,xs,by rw[HU.out],hV,(HW.out.mono hV).sta rfl (HW.out.qa.mono hV) (HW.out.qb.mono hV),fun _ _ h=>h⟩
theorem r55_hap_0a_f (h:WldW w0 W w A c B d M k xs)(x:Evt)(hk:x.kind=0)(hs:x.station=1)(hu:w.a.up=false):Calls prog 95 #[.agg (Lw w A c B d M k),.agg (evtR x).toArray] W (RetW w0 W M xs w):=by
 have HW:=Lib.hid h;have hla:=h.at.a.len;have hlb:=h.at.b.len;have HK:=zh hk;have z3:(x.kind==3)=false:=by simp[hk]
 have z4:(x.kind==4)=false:=by simp[hk]
 have z5:(x.kind==5)=false:=by simp[hk]
 have z0:(x.kind==0)=true:=by simp[hk]
 have z1:(x.kind==1)=false:=by simp[hk]
 have z2:(x.kind==2)=false:=by simp[hk]
 clear hk;have ws:IntKind.i64.wrap (x.station - 1)=0:=by rw[hs];rfl
 have HS:=zh hs;clear hs;have HU:=zh hu;rw[hu];clear hu;clear h;go_enter func95,ntmps95
 go_upto_region 1 with fail
 refine zaG (fun W9 hW9=> ?_);have x9:Ext W W9:=by rw[hW9];exact ex
 have k2:BoxAt W9 W.heap.size (Lq w w.cut A c false B d w.b.up M k) 46:=by rw[hW9];exact bxA
 have k4:BoxAt W9 (W.heap.size+2) Zz 46:=by rw[hW9];exact bxA
 have he:EvtAt W9 (W.heap.size+1) 0 x:=by rw[hW9];exact(EvtAt.new (W:=W.alloc (.cells ((Lq w w.cut A c false B d w.b.up M k):List Value).toArray 46)) _ sg x _).mono ex
 have e1:=he.kind;have e2:=he.station;have e3:=he.delay;have c10:=k2.c 10 rfl;have c18:=k2.c 18 rfl;have hrw:=k2.row (n:=21) rfl;have hs9:=k4.lt;clear hW9 he
 go_wp2_with (first
  |(refine za2 rfl 46 (.tmp 4) (.tmp 83) rfl (k4.mono ex) rfl (Lq w w.cut A c false B d w.b.up M k) rfl rfl (show 21<44 by decide) kr (cells_one _ rfl) ?_;intro V9 ht9 hb9))
 refine bodyPost_ret (v:=.agg ((Lq w w.cut A c false B d w.b.up M k):List Value).toArray) (results_one (i:=4) (by simp[results95]) rfl hb9.range rfl) rfl ?_;have hV:Ext W V9:=ht9.ext (x9.trans ex) om;exact⟨A,c,B,d,M,k,xs,by rw[HU.out],hV,(HW.out.mono hV).sta rfl (HW.out.qa.mono hV) (HW.out.qb.mono hV),fun _ _ h=>h⟩
theorem r55_hap_2a_f (h:WldW w0 W w A c B d M k xs)(x:Evt)(hk:x.kind=2)(hs:x.station=1)(hu:w.a.up=false):Calls prog 95 #[.agg (Lw w A c B d M k),.agg (evtR x).toArray] W (RetW w0 W M xs ⟨w.now,w.limit,w.delay,w.cut,⟨⟨w.a.node.id,w.a.node.term,false,w.a.node.log,w.a.node.acked,0⟩,true,0⟩,w.b,w.mail⟩):=by
 have HW:=Lib.hid h;have hla:=h.at.a.len;have hlb:=h.at.b.len;have HK:=zh hk;have z3:(x.kind==3)=false:=by simp[hk]
 have z4:(x.kind==4)=false:=by simp[hk]
 have z5:(x.kind==5)=false:=by simp[hk]
 have z0:(x.kind==0)=false:=by simp[hk]
 have z1:(x.kind==1)=false:=by simp[hk]
 have z2:(x.kind==2)=true:=by simp[hk]
 clear hk;have ws:IntKind.i64.wrap (x.station - 1)=0:=by rw[hs];rfl
 have HS:=zh hs;clear hs;rw[hu];clear hu;clear h;go_enter func95,ntmps95
 go_upto_region 1 with fail
 refine zaG (fun W9 hW9=> ?_);have x9:Ext W W9:=by rw[hW9];exact ex
 have k2:BoxAt W9 W.heap.size (Lq w w.cut A c false B d w.b.up M k) 46:=by rw[hW9];exact bxA
 have k4:BoxAt W9 (W.heap.size+2) Zz 46:=by rw[hW9];exact bxA
 have he:EvtAt W9 (W.heap.size+1) 0 x:=by rw[hW9];exact(EvtAt.new (W:=W.alloc (.cells ((Lq w w.cut A c false B d w.b.up M k):List Value).toArray 46)) _ sg x _).mono ex
 have e1:=he.kind;have e2:=he.station;have e3:=he.delay;have c10:=k2.c 10 rfl;have c18:=k2.c 18 rfl;have hs9:=k4.lt;clear hW9 he
 go_wp2_with (first
  |(refine zae rfl 4 (.tmp 72) (.const (.bool true)) rfl (k2.mono ex) 10 rfl (.bool true) rfl (show 10<21 by decide) (show 21<44 by decide) kr rfl (Lq w w.cut A c true B d w.b.up M k) rfl ?_;intro V0 ht0 hb0;have kr0:=(k4.mono ex).turn ht0 (by simp))
  |(refine zae rfl 3 (.tmp 74) (.const (.int .i64 0)) rfl (hb0.mono ex) 11 rfl (.int .i64 0) rfl (show 11<21 by decide) (show 21<44 by decide) kr rfl (Lz w w.delay w.cut w.a.node w.a.node.speaks w.a.node.next A c true 0 w.b.node w.b.node.speaks w.b.node.next B d w.b.up w.b.quiet M w.mail.length k) rfl ?_;intro V1 ht1 hb1;have kr1:=(kr0.mono ex).turn ht1 (by simp))
  |(refine zae rfl 4 (.tmp 79) (.const (.bool false)) rfl (hb1.mono ex) 6 rfl (.bool false) rfl (show 6<21 by decide) (show 21<44 by decide) kr rfl (Lz w w.delay w.cut w.a.node false w.a.node.next A c true 0 w.b.node w.b.node.speaks w.b.node.next B d w.b.up w.b.quiet M w.mail.length k) rfl ?_;intro V2 ht2 hb2;have kr2:=(kr1.mono ex).turn ht2 (by simp))
  |(refine zae rfl 3 (.tmp 82) (.const (.int .i64 0)) rfl (hb2.mono ex) 9 rfl (.int .i64 0) rfl (show 9<21 by decide) (show 21<44 by decide) kr rfl (Lz w w.delay w.cut w.a.node false 0 A c true 0 w.b.node w.b.node.speaks w.b.node.next B d w.b.up w.b.quiet M w.mail.length k) rfl ?_;intro V3 ht3 hb3;have kr3:=(kr2.mono ex).turn ht3 (by simp);have hrw:=hb3.row (n:=21) rfl)
  |(refine za2 rfl 46 (.tmp 4) (.tmp 83) rfl (kr3.mono ex) rfl (Lz w w.delay w.cut w.a.node false 0 A c true 0 w.b.node w.b.node.speaks w.b.node.next B d w.b.up w.b.quiet M w.mail.length k) rfl rfl (show 21<44 by decide) kr (cells_one _ rfl) ?_;intro V9 ht9 hb9))
 refine bodyPost_ret (v:=.agg ((Lz w w.delay w.cut w.a.node false 0 A c true 0 w.b.node w.b.node.speaks w.b.node.next B d w.b.up w.b.quiet M w.mail.length k):List Value).toArray) (results_one (i:=4) (by simp[results95]) rfl hb9.range rfl) rfl ?_;have hV:Ext W V9:=ht9.ext ((ht3.ext ((ht2.ext ((ht1.ext ((ht0.ext (x9.trans ex) (Nat.le_refl _)).trans ex) (Nat.le_refl _)).trans ex) (Nat.le_refl _)).trans ex) (Nat.le_refl _)).trans ex) om;exact⟨A,c,B,d,M,k,xs,rfl,hV,(HW.out.mono hV).sta rfl (HW.out.qa.mono hV) (HW.out.qb.mono hV),fun _ _ h=>h⟩
theorem r55_hap_0a (h:WldW w0 W w A c B d M k xs)(x:Evt)(ha:AcnAt w0 x.act)(hk:x.kind=0)(hs:x.station=1)(hu:w.a.up=true){n:Nod}{er:Int}(hv:actV w.a.node x.act=(n,er)){v:Wld}(hv1:er=0→⟨w.now,w.limit,w.delay,w.cut,⟨n,true,w.a.quiet⟩,w.b,w.mail⟩=v)(hv0:er≠0→w=v):Calls prog 95 #[.agg (Lw w A c B d M k),.agg (evtR x).toArray] W (RetW w0 W M xs v):=by
 have HW:=Lib.hid h;have hla:=h.at.a.len;have hlb:=h.at.b.len;have hsz:=h.ext.size;have HK:=zh hk;have z3:(x.kind==3)=false:=by simp[hk]
 have z4:(x.kind==4)=false:=by simp[hk]
 have z5:(x.kind==5)=false:=by simp[hk]
 have z0:(x.kind==0)=true:=by simp[hk]
 have z1:(x.kind==1)=false:=by simp[hk]
 have z2:(x.kind==2)=false:=by simp[hk]
 clear hk;have ws:IntKind.i64.wrap (x.station - 1)=0:=by rw[hs];rfl
 have HS:=zh hs;clear hs;have HA:=zh (fun(V:World) (hx:Ext W V)=>(zHi w.a.node A c x.act V (h.qa.recs h.ext hx) (ha.mono (h.ext.trans hx))).mono fun _ _ q=>zaH.parts q hv (w0:=w0) (by have:=zg4 (R:=fun r=>AcnAt w0 r.act) w.a.node x.act h.qa.el ha;rwa [hv] at this));have HU:=zh hu;rw[hu];clear h hu hv ha;have HV1:=zh hv1;have HV0:=zh hv0;clear hv1 hv0;go_enter func95,ntmps95;go_wp2_with fail;refine zaG (fun W9 hW9=> ?_);have x9:Ext W W9:=by rw[hW9];exact ex
 have k2:BoxAt W9 W.heap.size (Lq w w.cut A c true B d w.b.up M k) 46:=by rw[hW9];exact bxA
 have k4:BoxAt W9 (W.heap.size+2) Zz 46:=by rw[hW9];exact bxA
 have he:EvtAt W9 (W.heap.size+1) 0 x:=by rw[hW9];exact(EvtAt.new (W:=W.alloc (.cells ((Lq w w.cut A c true B d w.b.up M k):List Value).toArray 46)) _ sg x _).mono ex
 have hr:=he.act;have hs9:W.heap.size+3≤W9.heap.size:=by have:=k4.lt;omega
 clear hW9 he;have c4:=k2.c 4 rfl;have c5:=k2.c 5 rfl;have c6:=k2.c 6 rfl;have c7:=k2.c 7 rfl;have c8:=k2.c 8 rfl;have c9:=k2.c 9 rfl;refine zrD 11 [9] [Stab.is (.pointer (some ⟨W.heap.size,4,none⟩)),Stab.is (.pointer (some ⟨W.heap.size,4,none⟩)),Stab.is (.pointer (some ⟨W.heap.size,4,none⟩)),Stab.is (.agg (Ln w.a.node A c)),Stab.is (.pointer (some ⟨W.heap.size+1,3,none⟩)),Stab.is (.agg (acnR x.act).toArray),Stab.gotn w0 n er,Stab.gotn w0 n er,Stab.nod w0 n,Stab.is (.int .i64 er),Stab.box W9.heap.size Zn 40] (fun u=>by(simp only[zc0,List.take_succ_cons,List.take_zero,Act.put,Nat.zero_add,Nat.reduceAdd]);(try simp only[lsT,lsS,lsZ]);exact rfl) kr kr (fun _ _ _ _ _ h=>h) ?_ ?_
 ·refine⟨zs_A0,(zs_A1 0),(zs_A1 1),(zs_A1 2),zs_A0,(zs_A1 4),?_,?_,?_,?_,?_,trivial⟩
  ·refine sla fun u y9 hd=>?_;have e3:u 3=.agg (Ln w.a.node A c):=hd 3 kr;have e5:u 5=.agg (acnR x.act).toArray:=hd 5 kr;simp only[e3,e5];refine za0 rfl rfl rfl ?_;intro K9 hK;go_simp;go_at_call 136;refine(HA.out _ (x9.trans ex)).mono ?_;rintro e w9 ⟨D,K,rfl,hx,hl⟩;exact hK _ _ rfl hx ⟨D,K,rfl,hl⟩
  ·refine sla fun u y9 hd=>?_;obtain⟨D6,K6,e6,h6⟩:=hd 6 kr;simp only[e6];refine za0 rfl rfl rfl ?_;intro K9 hK;go_simp;exact hK _ _ rfl ex ⟨D6,K6,rfl,h6⟩
  ·refine sla fun u y9 hd=>?_;obtain⟨D6,K6,e7,h6⟩:=hd 7 kr;simp only[e7];refine za0 rfl rfl rfl ?_;intro K9 hK;go_simp;exact hK _ _ rfl ex ⟨D6,K6,rfl,h6⟩
  ·(show PureA _ _ _ _ _ _);intro u w1 hx1 hd;obtain⟨y9,rfl⟩:=hx1.get;clear hx1
   obtain⟨D6,K6,e7,h6⟩:=hd 7 kr;simp only[e7];refine zaI (v:=.int .i64 er) rfl rfl (fun w9=> ?_) rfl;go_simp
  ·refine sla fun u y9 hd=>?_;refine za0 rfl rfl rfl ?_;intro K9 hK;go_simp;exact hK _ _ rfl ex ⟨_,rfl,(by first|exact Nat.le_refl _|omega|(simp[go_sem];done)|(simp[go_sem];omega)),BoxAt.new (by first|rfl|simp[go_sem]) _ _⟩
 ·intro u w2 hx2 hT;obtain⟨t0,t1,t2,t3,t4,t5,t6,t7,t8,t9,t10,-⟩:=hT;obtain⟨y9,rfl⟩:=hx2.get;clear hx2;obtain⟨D8,K8,e8,h8⟩:=t8;have e9:u 9=.int .i64 er:=t9;obtain⟨g10,e10,hg10,b10⟩:=t10;simp only[e8,e9,e10];clear e8 e9 e10 t0 t1 t2 t3 t4 t5 t6 t7 t9;simp only[List.drop_succ_cons,List.drop_zero];have hxx:Ext W9 (xt W9.drew y9):=ex;by_cases hc:er=0
  ·subst hc;have hve:=HV1.out rfl;subst hve
   go_wp2_with (first
    |(refine za2 rfl 40 (.tmp 6) (.tmp 49) rfl b10 rfl (Ln n D8 K8) rfl rfl (show 6<44 by decide) kr (cells_one _ rfl) ?_;intro W1 t1 b1;have x1:Ext W9 W1:=t1.ext hxx hg10;have k21:=k2.mono x1;have k41:=k4.mono x1;replace h8:=h8.turn t1;obtain⟨d0,d1,d2,d3,d4,d5⟩:=b1.six)
    |(refine zab rfl 40 (.tmp 56) (.tmp 54) rfl (k21.mono ex) 4 rfl (Ln n D8 K8) rfl (show 10≤21 by decide) (show 21<44 by decide) kr (cells_one _ rfl) (Lz w w.delay w.cut n n.speaks n.next D8 K8 true w.a.quiet w.b.node w.b.node.speaks w.b.node.next B d w.b.up w.b.quiet M w.mail.length k) rfl ?_;intro V5 t5 b5;have hrw:=b5.row (n:=21) rfl;have x5:Ext W V5:=t5.ext ((x9.trans x1).trans ex) om;replace h8:=(h8.mono ex).turn t5;replace k41:=(k41.mono ex).turn t5 om)
    |(refine za2 rfl 46 (.tmp 4) (.tmp 83) rfl (k41.mono ex) rfl (Lz w w.delay w.cut n n.speaks n.next D8 K8 true w.a.quiet w.b.node w.b.node.speaks w.b.node.next B d w.b.up w.b.quiet M w.mail.length k) rfl rfl (show 21<44 by decide) kr (cells_one _ rfl) ?_;intro V9 ht9 hb9))
   refine bodyPost_ret (v:=.agg ((Lz w w.delay w.cut n n.speaks n.next D8 K8 true w.a.quiet w.b.node w.b.node.speaks w.b.node.next B d w.b.up w.b.quiet M w.mail.length k):List Value).toArray) (results_one (i:=4) (by simp[results95]) rfl hb9.range rfl) rfl ?_;have hV:Ext W V9:=ht9.ext (x5.trans ex) om;replace h8:=(h8.mono ex).turn ht9;exact⟨D8,K8,B,d,M,k,xs,rfl,hV,(HW.out.mono hV).sta rfl h8 (HW.out.qb.mono hV),fun _ _ h=>h⟩
  ·have hve:=HV0.out hc;subst hve;have hz:(er==0)=false:=by simpa using hc
   clear hc
   go_wp2_with (first
    |(refine za2 rfl 40 (.tmp 6) (.tmp 49) rfl b10 rfl (Ln n D8 K8) rfl rfl (show 6<44 by decide) kr (cells_one _ rfl) ?_;intro W1 t1 b1;have x1:Ext W9 W1:=t1.ext hxx hg10;have k21:=k2.mono x1;have k41:=k4.mono x1;replace h8:=h8.turn t1;obtain⟨d0,d1,d2,d3,d4,d5⟩:=b1.six;have hrw:=k21.row (n:=21) rfl)
    |(refine za2 rfl 46 (.tmp 4) (.tmp 83) rfl (k41.mono ex) rfl (Lq w w.cut A c true B d w.b.up M k) rfl rfl (show 21<44 by decide) kr (cells_one _ rfl) ?_;intro V9 ht9 hb9))
   refine bodyPost_ret (v:=.agg ((Lq w w.cut A c true B d w.b.up M k):List Value).toArray) (results_one (i:=4) (by simp[results95]) rfl hb9.range rfl) rfl ?_;have hV:Ext W V9:=ht9.ext ((x9.trans x1).trans ex) om;exact⟨A,c,B,d,M,k,xs,by rw[HU.out],hV,HW.out.mono hV,fun _ _ h=>h⟩
theorem r55_hap_1b (h:WldW w0 W w A c B d M k xs)(x:Evt)(hk:x.kind=1)(hs:x.station=2):Calls prog 95 #[.agg (Lw w A c B d M k),.agg (evtR x).toArray] W (RetW w0 W M xs ⟨w.now,w.limit,w.delay,w.cut,w.a,⟨w.b.node,false,w.b.quiet⟩,w.mail⟩):=by
 have HW:=Lib.hid h;have hla:=h.at.a.len;have hlb:=h.at.b.len;have HK:=zh hk;have z3:(x.kind==3)=false:=by simp[hk]
 have z4:(x.kind==4)=false:=by simp[hk]
 have z5:(x.kind==5)=false:=by simp[hk]
 have z0:(x.kind==0)=false:=by simp[hk]
 have z1:(x.kind==1)=true:=by simp[hk]
 have z2:(x.kind==2)=false:=by simp[hk]
 clear hk;have ws:IntKind.i64.wrap (x.station - 1)=1:=by rw[hs];rfl
 have HS:=zh hs;clear hs;clear h;go_enter func95,ntmps95
 go_upto_region 1 with fail
 refine zaG (fun W9 hW9=> ?_);have x9:Ext W W9:=by rw[hW9];exact ex
 have k2:BoxAt W9 W.heap.size (Lq w w.cut A c w.a.up B d w.b.up M k) 46:=by rw[hW9];exact bxA
 have k4:BoxAt W9 (W.heap.size+2) Zz 46:=by rw[hW9];exact bxA
 have he:EvtAt W9 (W.heap.size+1) 0 x:=by rw[hW9];exact(EvtAt.new (W:=W.alloc (.cells ((Lq w w.cut A c w.a.up B d w.b.up M k):List Value).toArray 46)) _ sg x _).mono ex
 have e1:=he.kind;have e2:=he.station;have e3:=he.delay;have c10:=k2.c 10 rfl;have c18:=k2.c 18 rfl;have hs9:=k4.lt;clear hW9 he
 go_wp2_with (first
  |(refine zae rfl 4 (.tmp 61) (.const (.bool false)) rfl (k2.mono ex) 18 rfl (.bool false) rfl (show 18<21 by decide) (show 21<44 by decide) kr rfl (Lq w w.cut A c w.a.up B d false M k) rfl ?_;intro V0 ht0 hb0;have kr0:=(k4.mono ex).turn ht0 (by simp);have hrw:=hb0.row (n:=21) rfl)
  |(refine za2 rfl 46 (.tmp 4) (.tmp 83) rfl (kr0.mono ex) rfl (Lq w w.cut A c w.a.up B d false M k) rfl rfl (show 21<44 by decide) kr (cells_one _ rfl) ?_;intro V9 ht9 hb9))
 refine bodyPost_ret (v:=.agg ((Lq w w.cut A c w.a.up B d false M k):List Value).toArray) (results_one (i:=4) (by simp[results95]) rfl hb9.range rfl) rfl ?_;have hV:Ext W V9:=ht9.ext ((ht0.ext (x9.trans ex) (Nat.le_refl _)).trans ex) om;exact⟨A,c,B,d,M,k,xs,rfl,hV,(HW.out.mono hV).sta rfl (HW.out.qa.mono hV) (HW.out.qb.mono hV),fun _ _ h=>h⟩
theorem r55_hap_2b_t (h:WldW w0 W w A c B d M k xs)(x:Evt)(hk:x.kind=2)(hs:x.station=2)(hu:w.b.up=true):Calls prog 95 #[.agg (Lw w A c B d M k),.agg (evtR x).toArray] W (RetW w0 W M xs w):=by
 have HW:=Lib.hid h;have hla:=h.at.a.len;have hlb:=h.at.b.len;have HK:=zh hk;have z3:(x.kind==3)=false:=by simp[hk]
 have z4:(x.kind==4)=false:=by simp[hk]
 have z5:(x.kind==5)=false:=by simp[hk]
 have z0:(x.kind==0)=false:=by simp[hk]
 have z1:(x.kind==1)=false:=by simp[hk]
 have z2:(x.kind==2)=true:=by simp[hk]
 clear hk;have ws:IntKind.i64.wrap (x.station - 1)=1:=by rw[hs];rfl
 have HS:=zh hs;clear hs;have HU:=zh hu;rw[hu];clear hu;clear h;go_enter func95,ntmps95
 go_upto_region 1 with fail
 refine zaG (fun W9 hW9=> ?_);have x9:Ext W W9:=by rw[hW9];exact ex
 have k2:BoxAt W9 W.heap.size (Lq w w.cut A c w.a.up B d true M k) 46:=by rw[hW9];exact bxA
 have k4:BoxAt W9 (W.heap.size+2) Zz 46:=by rw[hW9];exact bxA
 have he:EvtAt W9 (W.heap.size+1) 0 x:=by rw[hW9];exact(EvtAt.new (W:=W.alloc (.cells ((Lq w w.cut A c w.a.up B d true M k):List Value).toArray 46)) _ sg x _).mono ex
 have e1:=he.kind;have e2:=he.station;have e3:=he.delay;have c10:=k2.c 10 rfl;have c18:=k2.c 18 rfl;have hrw:=k2.row (n:=21) rfl;have hs9:=k4.lt;clear hW9 he
 go_wp2_with (first
  |(refine za2 rfl 46 (.tmp 4) (.tmp 83) rfl (k4.mono ex) rfl (Lq w w.cut A c w.a.up B d true M k) rfl rfl (show 21<44 by decide) kr (cells_one _ rfl) ?_;intro V9 ht9 hb9))
 refine bodyPost_ret (v:=.agg ((Lq w w.cut A c w.a.up B d true M k):List Value).toArray) (results_one (i:=4) (by simp[results95]) rfl hb9.range rfl) rfl ?_;have hV:Ext W V9:=ht9.ext (x9.trans ex) om;exact⟨A,c,B,d,M,k,xs,by rw[HU.out],hV,(HW.out.mono hV).sta rfl (HW.out.qa.mono hV) (HW.out.qb.mono hV),fun _ _ h=>h⟩
theorem r55_hap_0b_f (h:WldW w0 W w A c B d M k xs)(x:Evt)(hk:x.kind=0)(hs:x.station=2)(hu:w.b.up=false):Calls prog 95 #[.agg (Lw w A c B d M k),.agg (evtR x).toArray] W (RetW w0 W M xs w):=by
 have HW:=Lib.hid h;have hla:=h.at.a.len;have hlb:=h.at.b.len;have HK:=zh hk;have z3:(x.kind==3)=false:=by simp[hk]
 have z4:(x.kind==4)=false:=by simp[hk]
 have z5:(x.kind==5)=false:=by simp[hk]
 have z0:(x.kind==0)=true:=by simp[hk]
 have z1:(x.kind==1)=false:=by simp[hk]
 have z2:(x.kind==2)=false:=by simp[hk]
 clear hk;have ws:IntKind.i64.wrap (x.station - 1)=1:=by rw[hs];rfl
 have HS:=zh hs;clear hs;have HU:=zh hu;rw[hu];clear hu;clear h;go_enter func95,ntmps95
 go_upto_region 1 with fail
 refine zaG (fun W9 hW9=> ?_);have x9:Ext W W9:=by rw[hW9];exact ex
 have k2:BoxAt W9 W.heap.size (Lq w w.cut A c w.a.up B d false M k) 46:=by rw[hW9];exact bxA
 have k4:BoxAt W9 (W.heap.size+2) Zz 46:=by rw[hW9];exact bxA
 have he:EvtAt W9 (W.heap.size+1) 0 x:=by rw[hW9];exact(EvtAt.new (W:=W.alloc (.cells ((Lq w w.cut A c w.a.up B d false M k):List Value).toArray 46)) _ sg x _).mono ex
 have e1:=he.kind;have e2:=he.station;have e3:=he.delay;have c10:=k2.c 10 rfl;have c18:=k2.c 18 rfl;have hrw:=k2.row (n:=21) rfl;have hs9:=k4.lt;clear hW9 he
 go_wp2_with (first
  |(refine za2 rfl 46 (.tmp 4) (.tmp 83) rfl (k4.mono ex) rfl (Lq w w.cut A c w.a.up B d false M k) rfl rfl (show 21<44 by decide) kr (cells_one _ rfl) ?_;intro V9 ht9 hb9))
 refine bodyPost_ret (v:=.agg ((Lq w w.cut A c w.a.up B d false M k):List Value).toArray) (results_one (i:=4) (by simp[results95]) rfl hb9.range rfl) rfl ?_;have hV:Ext W V9:=ht9.ext (x9.trans ex) om;exact⟨A,c,B,d,M,k,xs,by rw[HU.out],hV,(HW.out.mono hV).sta rfl (HW.out.qa.mono hV) (HW.out.qb.mono hV),fun _ _ h=>h⟩
theorem r55_hap_2b_f (h:WldW w0 W w A c B d M k xs)(x:Evt)(hk:x.kind=2)(hs:x.station=2)(hu:w.b.up=false):Calls prog 95 #[.agg (Lw w A c B d M k),.agg (evtR x).toArray] W (RetW w0 W M xs ⟨w.now,w.limit,w.delay,w.cut,w.a,⟨⟨w.b.node.id,w.b.node.term,false,w.b.node.log,w.b.node.acked,0⟩,true,0⟩,w.mail⟩):=by
 have HW:=Lib.hid h;have hla:=h.at.a.len;have hlb:=h.at.b.len;have HK:=zh hk;have z3:(x.kind==3)=false:=by simp[hk]
 have z4:(x.kind==4)=false:=by simp[hk]
 have z5:(x.kind==5)=false:=by simp[hk]
 have z0:(x.kind==0)=false:=by simp[hk]
 have z1:(x.kind==1)=false:=by simp[hk]
 have z2:(x.kind==2)=true:=by simp[hk]
 clear hk;have ws:IntKind.i64.wrap (x.station - 1)=1:=by rw[hs];rfl
 have HS:=zh hs;clear hs;rw[hu];clear hu;clear h;go_enter func95,ntmps95
 go_upto_region 1 with fail
 refine zaG (fun W9 hW9=> ?_);have x9:Ext W W9:=by rw[hW9];exact ex
 have k2:BoxAt W9 W.heap.size (Lq w w.cut A c w.a.up B d false M k) 46:=by rw[hW9];exact bxA
 have k4:BoxAt W9 (W.heap.size+2) Zz 46:=by rw[hW9];exact bxA
 have he:EvtAt W9 (W.heap.size+1) 0 x:=by rw[hW9];exact(EvtAt.new (W:=W.alloc (.cells ((Lq w w.cut A c w.a.up B d false M k):List Value).toArray 46)) _ sg x _).mono ex
 have e1:=he.kind;have e2:=he.station;have e3:=he.delay;have c10:=k2.c 10 rfl;have c18:=k2.c 18 rfl;have hs9:=k4.lt;clear hW9 he
 go_wp2_with (first
  |(refine zae rfl 4 (.tmp 72) (.const (.bool true)) rfl (k2.mono ex) 18 rfl (.bool true) rfl (show 18<21 by decide) (show 21<44 by decide) kr rfl (Lq w w.cut A c w.a.up B d true M k) rfl ?_;intro V0 ht0 hb0;have kr0:=(k4.mono ex).turn ht0 (by simp))
  |(refine zae rfl 3 (.tmp 74) (.const (.int .i64 0)) rfl (hb0.mono ex) 19 rfl (.int .i64 0) rfl (show 19<21 by decide) (show 21<44 by decide) kr rfl (Lz w w.delay w.cut w.a.node w.a.node.speaks w.a.node.next A c w.a.up w.a.quiet w.b.node w.b.node.speaks w.b.node.next B d true 0 M w.mail.length k) rfl ?_;intro V1 ht1 hb1;have kr1:=(kr0.mono ex).turn ht1 (by simp))
  |(refine zae rfl 4 (.tmp 79) (.const (.bool false)) rfl (hb1.mono ex) 14 rfl (.bool false) rfl (show 14<21 by decide) (show 21<44 by decide) kr rfl (Lz w w.delay w.cut w.a.node w.a.node.speaks w.a.node.next A c w.a.up w.a.quiet w.b.node false w.b.node.next B d true 0 M w.mail.length k) rfl ?_;intro V2 ht2 hb2;have kr2:=(kr1.mono ex).turn ht2 (by simp))
  |(refine zae rfl 3 (.tmp 82) (.const (.int .i64 0)) rfl (hb2.mono ex) 17 rfl (.int .i64 0) rfl (show 17<21 by decide) (show 21<44 by decide) kr rfl (Lz w w.delay w.cut w.a.node w.a.node.speaks w.a.node.next A c w.a.up w.a.quiet w.b.node false 0 B d true 0 M w.mail.length k) rfl ?_;intro V3 ht3 hb3;have kr3:=(kr2.mono ex).turn ht3 (by simp);have hrw:=hb3.row (n:=21) rfl)
  |(refine za2 rfl 46 (.tmp 4) (.tmp 83) rfl (kr3.mono ex) rfl (Lz w w.delay w.cut w.a.node w.a.node.speaks w.a.node.next A c w.a.up w.a.quiet w.b.node false 0 B d true 0 M w.mail.length k) rfl rfl (show 21<44 by decide) kr (cells_one _ rfl) ?_;intro V9 ht9 hb9))
 refine bodyPost_ret (v:=.agg ((Lz w w.delay w.cut w.a.node w.a.node.speaks w.a.node.next A c w.a.up w.a.quiet w.b.node false 0 B d true 0 M w.mail.length k):List Value).toArray) (results_one (i:=4) (by simp[results95]) rfl hb9.range rfl) rfl ?_;have hV:Ext W V9:=ht9.ext ((ht3.ext ((ht2.ext ((ht1.ext ((ht0.ext (x9.trans ex) (Nat.le_refl _)).trans ex) (Nat.le_refl _)).trans ex) (Nat.le_refl _)).trans ex) (Nat.le_refl _)).trans ex) om;exact⟨A,c,B,d,M,k,xs,rfl,hV,(HW.out.mono hV).sta rfl (HW.out.qa.mono hV) (HW.out.qb.mono hV),fun _ _ h=>h⟩
theorem r55_hap_0b (h:WldW w0 W w A c B d M k xs)(x:Evt)(ha:AcnAt w0 x.act)(hk:x.kind=0)(hs:x.station=2)(hu:w.b.up=true){n:Nod}{er:Int}(hv:actV w.b.node x.act=(n,er)){v:Wld}(hv1:er=0→⟨w.now,w.limit,w.delay,w.cut,w.a,⟨n,true,w.b.quiet⟩,w.mail⟩=v)(hv0:er≠0→w=v):Calls prog 95 #[.agg (Lw w A c B d M k),.agg (evtR x).toArray] W (RetW w0 W M xs v):=by
 have HW:=Lib.hid h;have hla:=h.at.a.len;have hlb:=h.at.b.len;have hsz:=h.ext.size;have HK:=zh hk;have z3:(x.kind==3)=false:=by simp[hk]
 have z4:(x.kind==4)=false:=by simp[hk]
 have z5:(x.kind==5)=false:=by simp[hk]
 have z0:(x.kind==0)=true:=by simp[hk]
 have z1:(x.kind==1)=false:=by simp[hk]
 have z2:(x.kind==2)=false:=by simp[hk]
 clear hk;have ws:IntKind.i64.wrap (x.station - 1)=1:=by rw[hs];rfl
 have HS:=zh hs;clear hs;have HA:=zh (fun(V:World) (hx:Ext W V)=>(zHi w.b.node B d x.act V (h.qb.recs h.ext hx) (ha.mono (h.ext.trans hx))).mono fun _ _ q=>zaH.parts q hv (w0:=w0) (by have:=zg4 (R:=fun r=>AcnAt w0 r.act) w.b.node x.act h.qb.el ha;rwa [hv] at this));have HU:=zh hu;rw[hu];clear h hu hv ha;have HV1:=zh hv1;have HV0:=zh hv0;clear hv1 hv0;go_enter func95,ntmps95;go_wp2_with fail;refine zaG (fun W9 hW9=> ?_);have x9:Ext W W9:=by rw[hW9];exact ex
 have k2:BoxAt W9 W.heap.size (Lq w w.cut A c w.a.up B d true M k) 46:=by rw[hW9];exact bxA
 have k4:BoxAt W9 (W.heap.size+2) Zz 46:=by rw[hW9];exact bxA
 have he:EvtAt W9 (W.heap.size+1) 0 x:=by rw[hW9];exact(EvtAt.new (W:=W.alloc (.cells ((Lq w w.cut A c w.a.up B d true M k):List Value).toArray 46)) _ sg x _).mono ex
 have hr:=he.act;have hs9:W.heap.size+3≤W9.heap.size:=by have:=k4.lt;omega
 clear hW9 he;have c12:=k2.c 12 rfl;have c13:=k2.c 13 rfl;have c14:=k2.c 14 rfl;have c15:=k2.c 15 rfl;have c16:=k2.c 16 rfl;have c17:=k2.c 17 rfl;refine zrD 11 [9] [Stab.is (.pointer (some ⟨W.heap.size,12,none⟩)),Stab.is (.pointer (some ⟨W.heap.size,12,none⟩)),Stab.is (.pointer (some ⟨W.heap.size,12,none⟩)),Stab.is (.agg (Ln w.b.node B d)),Stab.is (.pointer (some ⟨W.heap.size+1,3,none⟩)),Stab.is (.agg (acnR x.act).toArray),Stab.gotn w0 n er,Stab.gotn w0 n er,Stab.nod w0 n,Stab.is (.int .i64 er),Stab.box W9.heap.size Zn 40] (fun u=>by(simp only[zc0,List.take_succ_cons,List.take_zero,Act.put,Nat.zero_add,Nat.reduceAdd]);(try simp only[lsT,lsS,lsZ]);exact rfl) kr kr (fun _ _ _ _ _ h=>h) ?_ ?_
 ·refine⟨zs_A0,(zs_A1 0),(zs_A1 1),(zs_A1 2),zs_A0,(zs_A1 4),?_,?_,?_,?_,?_,trivial⟩
  ·refine sla fun u y9 hd=>?_;have e3:u 3=.agg (Ln w.b.node B d):=hd 3 kr;have e5:u 5=.agg (acnR x.act).toArray:=hd 5 kr;simp only[e3,e5];refine za0 rfl rfl rfl ?_;intro K9 hK;go_simp;go_at_call 136;refine(HA.out _ (x9.trans ex)).mono ?_;rintro e w9 ⟨D,K,rfl,hx,hl⟩;exact hK _ _ rfl hx ⟨D,K,rfl,hl⟩
  ·refine sla fun u y9 hd=>?_;obtain⟨D6,K6,e6,h6⟩:=hd 6 kr;simp only[e6];refine za0 rfl rfl rfl ?_;intro K9 hK;go_simp;exact hK _ _ rfl ex ⟨D6,K6,rfl,h6⟩
  ·refine sla fun u y9 hd=>?_;obtain⟨D6,K6,e7,h6⟩:=hd 7 kr;simp only[e7];refine za0 rfl rfl rfl ?_;intro K9 hK;go_simp;exact hK _ _ rfl ex ⟨D6,K6,rfl,h6⟩
  ·(show PureA _ _ _ _ _ _);intro u w1 hx1 hd;obtain⟨y9,rfl⟩:=hx1.get;clear hx1
   obtain⟨D6,K6,e7,h6⟩:=hd 7 kr;simp only[e7];refine zaI (v:=.int .i64 er) rfl rfl (fun w9=> ?_) rfl;go_simp
  ·refine sla fun u y9 hd=>?_;refine za0 rfl rfl rfl ?_;intro K9 hK;go_simp;exact hK _ _ rfl ex ⟨_,rfl,(by first|exact Nat.le_refl _|omega|(simp[go_sem];done)|(simp[go_sem];omega)),BoxAt.new (by first|rfl|simp[go_sem]) _ _⟩
 ·intro u w2 hx2 hT;obtain⟨t0,t1,t2,t3,t4,t5,t6,t7,t8,t9,t10,-⟩:=hT;obtain⟨y9,rfl⟩:=hx2.get;clear hx2;obtain⟨D8,K8,e8,h8⟩:=t8;have e9:u 9=.int .i64 er:=t9;obtain⟨g10,e10,hg10,b10⟩:=t10;simp only[e8,e9,e10];clear e8 e9 e10 t0 t1 t2 t3 t4 t5 t6 t7 t9;simp only[List.drop_succ_cons,List.drop_zero];have hxx:Ext W9 (xt W9.drew y9):=ex;by_cases hc:er=0
  ·subst hc;have hve:=HV1.out rfl;subst hve
   go_wp2_with (first
    |(refine za2 rfl 40 (.tmp 6) (.tmp 49) rfl b10 rfl (Ln n D8 K8) rfl rfl (show 6<44 by decide) kr (cells_one _ rfl) ?_;intro W1 t1 b1;have x1:Ext W9 W1:=t1.ext hxx hg10;have k21:=k2.mono x1;have k41:=k4.mono x1;replace h8:=h8.turn t1;obtain⟨d0,d1,d2,d3,d4,d5⟩:=b1.six)
    |(refine zab rfl 40 (.tmp 56) (.tmp 54) rfl (k21.mono ex) 12 rfl (Ln n D8 K8) rfl (show 18≤21 by decide) (show 21<44 by decide) kr (cells_one _ rfl) (Lz w w.delay w.cut w.a.node w.a.node.speaks w.a.node.next A c w.a.up w.a.quiet n n.speaks n.next D8 K8 true w.b.quiet M w.mail.length k) rfl ?_;intro V5 t5 b5;have hrw:=b5.row (n:=21) rfl;have x5:Ext W V5:=t5.ext ((x9.trans x1).trans ex) om;replace h8:=(h8.mono ex).turn t5;replace k41:=(k41.mono ex).turn t5 om)
    |(refine za2 rfl 46 (.tmp 4) (.tmp 83) rfl (k41.mono ex) rfl (Lz w w.delay w.cut w.a.node w.a.node.speaks w.a.node.next A c w.a.up w.a.quiet n n.speaks n.next D8 K8 true w.b.quiet M w.mail.length k) rfl rfl (show 21<44 by decide) kr (cells_one _ rfl) ?_;intro V9 ht9 hb9))
   refine bodyPost_ret (v:=.agg ((Lz w w.delay w.cut w.a.node w.a.node.speaks w.a.node.next A c w.a.up w.a.quiet n n.speaks n.next D8 K8 true w.b.quiet M w.mail.length k):List Value).toArray) (results_one (i:=4) (by simp[results95]) rfl hb9.range rfl) rfl ?_;have hV:Ext W V9:=ht9.ext (x5.trans ex) om;replace h8:=(h8.mono ex).turn ht9;exact⟨A,c,D8,K8,M,k,xs,rfl,hV,(HW.out.mono hV).sta rfl (HW.out.qa.mono hV) h8,fun _ _ h=>h⟩
  ·have hve:=HV0.out hc;subst hve;have hz:(er==0)=false:=by simpa using hc
   clear hc
   go_wp2_with (first
    |(refine za2 rfl 40 (.tmp 6) (.tmp 49) rfl b10 rfl (Ln n D8 K8) rfl rfl (show 6<44 by decide) kr (cells_one _ rfl) ?_;intro W1 t1 b1;have x1:Ext W9 W1:=t1.ext hxx hg10;have k21:=k2.mono x1;have k41:=k4.mono x1;replace h8:=h8.turn t1;obtain⟨d0,d1,d2,d3,d4,d5⟩:=b1.six;have hrw:=k21.row (n:=21) rfl)
    |(refine za2 rfl 46 (.tmp 4) (.tmp 83) rfl (k41.mono ex) rfl (Lq w w.cut A c w.a.up B d true M k) rfl rfl (show 21<44 by decide) kr (cells_one _ rfl) ?_;intro V9 ht9 hb9))
   refine bodyPost_ret (v:=.agg ((Lq w w.cut A c w.a.up B d true M k):List Value).toArray) (results_one (i:=4) (by simp[results95]) rfl hb9.range rfl) rfl ?_;have hV:Ext W V9:=ht9.ext ((x9.trans x1).trans ex) om;exact⟨A,c,B,d,M,k,xs,by rw[HU.out],hV,HW.out.mono hV,fun _ _ h=>h⟩
theorem r55_happened (h:WldW w0 W w A c B d M k xs){x:Evt}(ha:AcnAt w0 x.act)(hx:EvtOk x):Calls prog 95 #[.agg (Lw w A c B d M k),.agg (evtR x).toArray] W (RetW w0 W M xs (zap w x)):=by
 have h0:=hx.k0;have h1:=hx.k1;by_cases hk2:x.kind≤2
 ·obtain⟨s1,s2⟩:=hx.st hk2;have hs:x.station=1∨x.station=2:=by omega
  have hk:x.kind=0∨x.kind=1∨x.kind=2:=by omega
  rcases hs with hs|hs
  ·have e:=zs4 (w:=w) x hk2 hs;rw[zeu,zgO] at e;rcases hk with hk|hk|hk
   ·rw[zvo _ _ hk] at e;by_cases hu:w.a.up=false
    ·rw[if_neg (by rw[hu];simp)] at e;rw[e];exact r55_hap_0a_f h x hk hs hu
    ·replace hu:w.a.up=true:=by simpa using hu
     obtain⟨n,er,hv⟩:∃n er,actV w.a.node x.act=(n,er):=⟨_,_,rfl⟩
     rw[hv] at e;refine r55_hap_0a h x ha hk hs hu hv (fun her=> ?_) (fun her=> ?_)
     ·rw[e,if_pos ⟨hu,her⟩,hu]
     ·rw[e,if_neg (fun q=>her q.2)]
   ·rw[zvp _ _ hk] at e;rw[e];exact r55_hap_1a h x hk hs
   ·rw[zvq _ _ hk] at e;by_cases hu:w.a.up=true
    ·rw[if_pos hu] at e;rw[e];exact r55_hap_2a_t h x hk hs hu
    ·replace hu:w.a.up=false:=by simpa using hu
     rw[if_neg (by rw[hu];simp)] at e;rw[e];exact r55_hap_2a_f h x hk hs hu
  ·have e:=zs4 (w:=w) x hk2 hs;rw[zgt,zlc] at e;rcases hk with hk|hk|hk
   ·rw[zvo _ _ hk] at e;by_cases hu:w.b.up=false
    ·rw[if_neg (by rw[hu];simp)] at e;rw[e];exact r55_hap_0b_f h x hk hs hu
    ·replace hu:w.b.up=true:=by simpa using hu
     obtain⟨n,er,hv⟩:∃n er,actV w.b.node x.act=(n,er):=⟨_,_,rfl⟩
     rw[hv] at e;refine r55_hap_0b h x ha hk hs hu hv (fun her=> ?_) (fun her=> ?_)
     ·rw[e,if_pos ⟨hu,her⟩,hu]
     ·rw[e,if_neg (fun q=>her q.2)]
   ·rw[zvp _ _ hk] at e;rw[e];exact r55_hap_1b h x hk hs
   ·rw[zvq _ _ hk] at e;by_cases hu:w.b.up=true
    ·rw[if_pos hu] at e;rw[e];exact r55_hap_2b_t h x hk hs hu
    ·replace hu:w.b.up=false:=by simpa using hu
     rw[if_neg (by rw[hu];simp)] at e;rw[e];exact r55_hap_2b_f h x hk hs hu
 ·have hk:x.kind=3∨x.kind=4∨x.kind=5:=by omega
  have e:zap w x=if x.kind=3 then⟨w.now,w.limit,w.delay,true,w.a,w.b,w.mail⟩ else if x.kind=4 then⟨w.now,w.limit,w.delay,false,w.a,w.b,w.mail⟩ else⟨w.now,w.limit,x.delay,w.cut,w.a,w.b,w.mail⟩:=by unfold zap;rw[if_neg hk2]
  rcases hk with hk|hk|hk
  ·rw[e,if_pos hk];exact r55_hap_3 h x hk
  ·rw[e,if_neg om,if_pos hk];exact r55_hap_4 h x hk
  ·rw[e,if_neg om,if_neg om];exact r55_hap_5 h x hk
end
