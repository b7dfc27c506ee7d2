import Derived.Test.YtnpdghjpcnjokaaGreatGwkb
import Derived.Test.YtnpdghjpcnjokaaGreatGwkd
set_option maxHeartbeats 12800000
set_option maxRecDepth 100000
set_option linter.all false
namespace Go.Proofs.YtnpdghjpcnjokaaGreat
open Go.RowKit Go.Proofs.Tryz

section
variable {w0 W:World} {g:Nat} {w:Wld} {A B M:Option Addr} {a b m:Nat} {xs:List (Ltr×Option Addr×Nat)}
theorem zhT (w:Wld)(x:Evt):(zap w x).mail=w.mail:=by
 unfold zap;split
 ·unfold setS;split<;>rfl
 split
 ·rfl
 split<;>rfl
theorem zmS (l:List Evt)(w:Wld):(l.foldl zap w).mail=w.mail:=zfJ (P:=fun v=>v.mail=w.mail) l w rfl fun c x _ h=>(zhT c x).trans h
theorem zqE {α β:Type}{f:β→α→β}{l:List α}{k:Nat}{x:α}(h:l[k]?=some x)(b:β):(l.take (k+1)).foldl f b=f ((l.take k).foldl f b) x:=by obtain⟨hk,rfl⟩:=List.getElem?_eq_some_iff.1 h;rw[List.take_succ_eq_append_getElem hk,List.foldl_append];rfl
theorem zdX (p:Ltr→Bool):∀xs:List (Ltr×Option Addr×Nat),(xs.filter fun x=>p x.1).map (·.1)=(xs.map (·.1)).filter p
 |[]=>rfl
 |x::xs=>by
  rw[List.map_cons,List.filter_cons,List.filter_cons];split
  ·rw[List.map_cons,zdX p xs]
  ·exact zdX p xs
structure MailR (w0 W : World) (M : Option Addr) (m : Nat) (l : List Ltr) (xs : List (Ltr × Option Addr × Nat)) : Prop where
 sl:Sl W M 8 (xs.map ltrR)
 le:l.length≤m
 cap:m≤maxLen
 is:xs.map (·.1)=l
 el:∀x∈xs,LogW w0 W x.2.1 x.1.msg.recs.length x.2.2 x.1.msg.recs
theorem MailM.read {l:List Ltr}(h:MailM w0 W M m l xs):MailR w0 W M m l xs:=⟨h.own.own.sl,h.own.own.le,h.own.own.cap,h.is,h.el⟩
def StepT (w0 W:World) (g:Nat) (v:Wld) (e:Ending) (W':World):Prop:=e=.returned (.tuple #[])∧W.grownBy W' (some g)∧∃A a B b M m xs,WldC w0 W' g v A a B b M m∧MailM w0 W' M m v.mail xs
theorem Bent.grown {N:Option Addr}{W1 V:World}(h:Bent g N W1 V)(hg:W.grownBy W1 (some g))(hN:∀p,N=some p→W.heap.size≤p.block):W.grownBy V (some g):=
 ⟨h.os.trans hg.os,h.tape.trans hg.tape,h.output.trans hg.output,Nat.le_trans hg.size h.size,fun k hk hne=>by
  rw[h.keep k (Nat.lt_of_lt_of_le hk hg.size) (fun e=>hne (by rw[e])) fun p hp e=> ?_]
  ·exact hg.block k hk hne
  ·have:=hN p hp;omega⟩
theorem Sl.bent {A1 N:Option Addr}{W1 V:World}{rows:List (List Value)}(h:Sl W1 A1 8 rows)(hb:Bent g N W1 V)(hA:∀p,A1=some p→p.block<W1.heap.size∧p.block≠g∧∀q,N=some q→q.block≠p.block):Sl V A1 8 rows:=
 ⟨fun i row hr=>by obtain⟨h1,b,o,h2,h3⟩:=h.at_ i row hr;obtain⟨q1,q2,q3⟩:=hA _ h2;refine⟨h1,b,o,h2,fun j v hv=> ?_⟩;rw[World.cell?_of_block (hb.keep b q1 q2 q3)];exact h3 j v hv⟩
theorem zpg {N:Option Addr}{W1 V:World}{p:Nat}{v:Value}(h:W1.cell? ⟨p,0,none⟩=some v)(hb:Bent g N W1 V)(hp:p≠g)(hN:∀q,N=some q→q.block≠p):V.cell? ⟨p,0,none⟩=some v:=by have hlt:=World.block_lt_of_cell? W1 _ h;rw[World.cell?_of_block (hb.keep p hlt hp hN)];exact h
theorem cell_grown {W1 V:World}{p:Nat}{v:Value}(h:W1.cell? ⟨p,0,none⟩=some v)(hb:W1.grownBy V (some g))(hp:p≠g):V.cell? ⟨p,0,none⟩=some v:=by have hlt:=World.block_lt_of_cell? W1 _ h;rw[World.cell?_of_block (hb.block p hlt (fun e=>hp (by injection e)))];exact h
theorem zqu (h:WldC w0 W g w A a B b M m)(hm:MailM w0 W M m w.mail xs)(hw:WldOk w){x:Ltr}{D:Option Addr}{K:Nat}(hx:LtrOk x)(hl:LogW w0 W D x.msg.recs.length K x.msg.recs):Calls prog 93 #[.pointer (some ⟨g,0,none⟩),.agg (Ll x D K)] W (StepM w0 W g M (zau w x)):=by
 have:=hx.d0;have:=hx.d1;by_cases hd:x.dst=1
 ·exact zlg h hm hw hd hl
 ·exact zli h hm hw om hl
theorem Two2.older {w1 w2 V:World}{Y N:Option Addr}{ky kn:Nat}{ys ns:List (Ltr×Option Addr×Nat)}(h:Two2 w1 V Y ky ys N kn ns)(hx:w2.heap.size≤w1.heap.size):Two2 w2 V Y ky ys N kn ns:=⟨h.yes.older hx,h.yr,h.no.older hx,h.nr,h.apart⟩
theorem zsy {β:Type}{f:β→Ltr→β}{l:List (Ltr×Option Addr×Nat)}{k:Nat}{x:Ltr×Option Addr×Nat}(h:l[k]?=some x)(b:β):((l.take (k+1)).map (·.1)).foldl f b=f (((l.take k).map (·.1)).foldl f b) x.1:=by obtain⟨hk,rfl⟩:=List.getElem?_eq_some_iff.1 h;rw[List.take_succ_eq_append_getElem hk,List.map_append,List.foldl_append];rfl
theorem tickW_5 (w:Wld)(l:List Evt){v u q:Wld}(hv:tick1 w l=v)(hu:tick3 v=u)(hq:workW (workW u 1) 2=q):tickW w l=⟨q.now+1,q.limit,q.delay,q.cut,q.a,q.b,q.mail⟩:=by
 have e:tick5 (tick1 w l)=q:=by rw[hv];unfold tick5;rw[hu];exact hq
 rw[zk6,e]
theorem ext_size {W1 V:World}(h:Ext W1 V):W1.heap.size≤V.heap.size:=h.size
theorem zhn.from {M1 M2:Option Addr}{W1 W2:World}(h:zhn M1 W2 M2)(hs:W1.heap.size≤W2.heap.size):zhn M1 W1 M2:=h.imp id fun⟨c,e,hc⟩=>⟨c,e,Nat.le_trans hs hc⟩
def Stab.cl (W0:World) (xs:List (Ltr×Option Addr×Nat)):Stab:=⟨fun v V=> ∃D K,v=.slice D xs.length K∧Own W0 V 115 8 D xs.length K (xs.map ltrR),fun _ _ _ hx ⟨D,K,e,h⟩=>⟨D,K,e,h.mono hx⟩⟩
theorem zlm (h:WldC w0 W g w A a B b M m)(hr:MailR w0 W M m w.mail xs)(hw:WldOk w){E:Option Addr}{ce:Nat}{l:List Evt}(hs:Sl W E 48 (l.map evtR))(hel:∀x∈l,AcnAt w0 x.act)(hll:l.length≤1000000)(hev:∀x∈l,EvtOk x)(hn:w.now<1048576):Calls prog 57 #[.pointer (some ⟨g,0,none⟩),.slice E l.length ce] W (StepT w0 W g (tickW w l)):=by
 have HC:=Lib.hid h;have HR:=zh hr;have HS:=zh hs;have HEL:=zh hel;have HEV:=zh hev;have HW:=zh hw;have hxl:xs.length=w.mail.length:=by rw[←hr.is,List.length_map]
 have hml:=hw.len;have hgl:g<W.heap.size:=h.box.lt;have c20:=h.box.c 20 rfl;rw[←hxl] at c20;have HXL:=zh hxl;have hxb:xs.length≤256:=by omega
 clear h hr hs hel hev hw hxl hml;go_enter func57,ntmps57;go_wp2_with fail;refine zaG (fun W9 hW9=> ?_);have x9:Ext W W9:=by rw[hW9];exact ex
 have cp:W9.cell? ⟨W.heap.size,0,none⟩=some (.pointer (some ⟨g,0,none⟩)):=by rw[hW9];simp[go_sem]
 have h9:=HC.out.mono x9;replace c20:=x9.cell c20;clear hW9;refine zrD 6 [] [Stab.is (.pointer (some ⟨g,0,none⟩)),Stab.is (.pointer (some ⟨g,0,none⟩)),Stab.is (.pointer (some ⟨g,0,none⟩)),Stab.is (.pointer (some ⟨g,20,none⟩)),Stab.is (.slice M xs.length m),Stab.cl W9 xs] (fun u=>by(simp only[zc0,List.take_succ_cons,List.take_zero,Act.put,Nat.zero_add,Nat.reduceAdd]);(try simp only[lsT,lsS,lsZ]);exact rfl) kr kr (fun _ _ _ _ _ h=>h) ?_ ?_
 ·refine⟨?_,?_,?_,?_,?_,?_,trivial⟩
  ·refine sla fun u y9 hd=>?_;refine za0 rfl rfl rfl ?_;intro K9 hK;go_simp;exact hK _ _ rfl ex rfl
  ·refine sla fun u y9 hd=>?_;refine za0 rfl rfl rfl ?_;intro K9 hK;go_simp;exact hK _ _ rfl ex rfl
  ·refine sla fun u y9 hd=>?_;have e1:u 1=.pointer (some ⟨g,0,none⟩):=hd 1 kr;simp only[e1];refine za0 rfl rfl rfl ?_;intro K9 hK;go_simp;exact hK _ _ rfl ex rfl
  ·refine sla fun u y9 hd=>?_;have e2:u 2=.pointer (some ⟨g,0,none⟩):=hd 2 kr;simp only[e2];refine za0 rfl rfl rfl ?_;intro K9 hK;go_simp;exact hK _ _ rfl ex rfl
  ·refine sla fun u y9 hd=>?_;have e3:u 3=.pointer (some ⟨g,20,none⟩):=hd 3 kr;simp only[e3];refine za0 rfl rfl rfl ?_;intro K9 hK;go_simp;exact hK _ _ rfl ex rfl
  ·refine sla fun u y9 hd=>?_;have e4:u 4=.slice M xs.length m:=hd 4 kr;simp only[e4];refine za0 rfl rfl rfl ?_;intro K9 hK;go_simp;go_at_call 89;refine(zCt M m _ xs _ rfl (HR.out.sl.mono (x9.trans ex)) om).mono ?_;rintro e w' ⟨D,K,rfl,hx,ho⟩;exact hK _ _ rfl hx ⟨D,K,rfl,ho.older ex⟩
 ·intro u w2 hx2 hT;obtain⟨t0,t1,t2,t3,t4,t5,-⟩:=hT;obtain⟨y9,rfl⟩:=hx2.get;clear hx2;have e0:u 0=.pointer (some ⟨g,0,none⟩):=t0;obtain⟨D5,K5,e5,h5⟩:=t5;simp only[e0,e5];clear e0 e5 t0 t1 t2 t3 t4;simp only[List.drop_succ_cons,List.drop_zero];have hxx:Ext W9 (xt W9.drew y9):=ex;go_wp2_with (refine zae rfl 28 (.tmp 18) (.tmp 16) rfl (h9.box.mono ex) 20 rfl (.slice D5 w.mail.length K5) (by rw[←HXL.out];rfl) (show 20<21 by decide) (show 21<44 by decide) kr rfl (Lw w A a B b D5 K5) rfl ?_;intro W1 ht1 hb1;have hC1:WldC w0 W1 g w A a B b D5 K5:=⟨ht1.ext (h9.ext.trans ex) h9.ge,h9.ge,hb1,(h9.qa.mono ex).turn ht1,(h9.qb.mono ex).turn ht1⟩;have hg1:W.grownBy W1 (some g):=zac ((x9.trans hxx).grown _) ht1.grown;have ho1:=((h5.older h9.ext).mono ex).turnW (h9.box.mono ex) ht1.grown;have cp1:=cell_grown (Ext.cell hxx cp) ht1.grown om;clear cp c20 ht1 hb1 h5 h9 hxx);have hsz1:W.heap.size<W1.heap.size:=by have:=World.block_lt_of_cell? W1 _ cp1;exact this
  go_loopw [21] (fun i wr=> ∃k:Nat,k≤l.length∧i=.int .i64 k∧W1.grownBy wr (some g)∧∃A1 a1 B1 b1,Hid (WldC w0 wr g ((l.take k).foldl zap w) A1 a1 B1 b1 D5 K5)) (fun i _=>l.length - (intOf i).toNat)
  case atStart => exact ⟨0,by omega,rfl,(Ext.refl W1).grown _,A,a,B,b,zh hC1⟩
  case round =>
   rename_i wr;obtain⟨k,hk,rfl,hg2,A1,a1,B1,b1,HC2⟩:=hrel;have hg:=zac hg1 hg2;have hst:StayW W wr:=(HC.out.bent hg none).stay;have cp2:=cell_grown cp1 hg2 om;have ho2:=ho1.turnW hC1.box hg2;by_cases hlt:k<l.length
   ·obtain⟨x,hx⟩:∃x,l[k]?=some x:=⟨_,List.getElem?_eq_getElem hlt⟩
    have hxm:=List.mem_of_getElem? hx;have HX:=zh hx;have HAX:=zh (HEL.out x hxm);have HEX:=zh (HEV.out x hxm);obtain⟨eb,eo,hE,hrg⟩:=(hst.slE HS.out).range (i:=k) (row:=evtR x) (by rw[List.getElem?_map,hx];rfl);have hrow:=(EvtAt.of hrg).row;subst hE;have hb0:(0:Int)≤(k:Int):=by omega
    have hb2:(k:Int)<(l.length:Int):=by omega
    clear hx hxm hrg ho2 hst hg
    go_wp2_with (first
     |(refine za7 rfl 101 (.tmp 5) (.tmp 24) rfl rfl sg (evtR x) rfl rfl kr (zdt _) ?_)
     |(go_at_call 90;refine(zsr (HC2.out.mono ex) HAX.out HEX.out).mono ?_;rintro e W2 ⟨rfl,hg3,A2,a2,B2,b2,hC3⟩))
    go_light;exact⟨⟨k+1,by omega,by go_num,zac hg2 (zac (Ext.grown ex _) hg3),A2,a2,B2,b2,zh (by rw[zqE HX.out];exact hC3)⟩,by simp[intOf];omega⟩
   ·have hC2:=HC2.out;rw[List.take_of_length_le om] at hC2;have hmv:(l.foldl zap w).mail=w.mail:=zmS l w;have hvok:WldOk (l.foldl zap w):=(zjL (p:=EvtOk) (fun w x h hx=>ze7 h hx) l w HW.out HEV.out).1;have hvn:(l.foldl zap w).now=w.now:=(zjL (p:=EvtOk) (fun w x h hx=>ze7 h hx) l w HW.out HEV.out).2.now;have HV:=zh (show tick1 w l=l.foldl zap w from rfl);obtain⟨v,hv⟩:∃v,l.foldl zap w=v:=⟨_,rfl⟩
    rw[hv] at hC2 hmv hvok hvn HV;clear HC2 hv;have c0:=hC2.box.c 0 rfl;have c20:=hC2.box.c 20 rfl;rw[hmv,←HXL.out] at c20;have HO:=zh ho2;have HST:=zh hst;have HRL:=zh (show ∀x∈xs,x.1.msg.recs.length≤9223372036854775807 from fun x hx=>(((HR.out.el x hx).stayW hst).recs hC2.ext (Ext.refl wr)).len);obtain⟨ys,hys⟩:∃ys,xs.filter (dueP v.now)=ys:=⟨_,rfl⟩
    obtain⟨ns,hns⟩:∃ns,(xs.filter fun x=> !dueP v.now x)=ns:=⟨_,rfl⟩
    have HYS:=zh hys;have HNS:=zh hns;have HDV:=zh (fun(V:World) (hx:Ext wr V)=>by have:=zwT D5 K5 xs W.heap.size g v.now V (HO.out.sl.mono hx) om HRL.out (hx.cell cp2) (hx.cell c0);rwa [hys,hns] at this);clear hys hns ho2 hst
    go_wp2_with (first
     |(go_at_call 91;refine(HDV.out _ ex).mono ?_;rintro e w' ⟨Y,ky,N,kn,rfl,hx,hT⟩;have HT:=zh (hT.older (show Ext wr _ from ex).size);obtain⟨yd,rfl⟩:=hx.get;clear hx hT)
     |(refine zae rfl 28 (.tmp 41) (.tmp 39) rfl (hC2.box.mono ex) 20 rfl (.slice N (ns.map (·.1)).length kn) (by rw[List.length_map];rfl) (show 20<21 by decide) (show 21<44 by decide) kr rfl [v.now,v.limit,v.delay,v.cut,v.a.node.id,v.a.node.term,v.a.node.speaks,.slice A1 v.a.node.log.length a1,v.a.node.acked,v.a.node.next,v.a.up,v.a.quiet,v.b.node.id,v.b.node.term,v.b.node.speaks,.slice B1 v.b.node.log.length b1,v.b.node.acked,v.b.node.next,v.b.up,v.b.quiet,.slice N (ns.map (·.1)).length kn] rfl ?_;intro W3 ht3 hb3))
    have hC3:WldC w0 W3 g ⟨v.now,v.limit,v.delay,v.cut,v.a,v.b,ns.map (·.1)⟩ A1 a1 B1 b1 N kn:=⟨ht3.ext (hC2.ext.trans ex) hC2.ge,hC2.ge,hb3,(hC2.qa.mono ex).turn ht3,(hC2.qb.mono ex).turn ht3⟩
    have hg3:W.grownBy W3 (some g):=zac hg (zac (Ext.grown ex _) ht3.grown);have hN:∀p,N=some p→wr.heap.size≤p.block:=HT.out.no.since HT.out.nr;have hY:∀p,Y=some p→wr.heap.size≤p.block:=HT.out.yes.since HT.out.yr;have hgw:g<wr.heap.size:=hC2.box.lt;have hpw:W.heap.size<wr.heap.size:=World.block_lt_of_cell? wr _ cp2;have hYo:OwnM w0 W3 115 8 Y ys.length ky (ys.map ltrR):=((HT.out.yes.older hC2.ext.size).mono ex).turn ht3 (fun p hp=>by have:=hY p hp;omega);have hyx:∀x,x∈ys→x∈xs:=fun x hx=>by rw[←HYS.out] at hx;exact(List.mem_filter.1 hx).1
    have hnx:∀x,x∈ns→x∈xs:=fun x hx=>by rw[←HNS.out] at hx;exact(List.mem_filter.1 hx).1
    have hel3:∀x,x∈xs→LogW w0 W3 x.2.1 x.1.msg.recs.length x.2.2 x.1.msg.recs:=fun x hx=>(((HR.out.el x hx).stayW HST.out).mono ex).turn ht3;have hM3:MailM w0 W3 N kn (ns.map (·.1)) ns:=⟨by rw[List.length_map];exact((HT.out.no.older hC2.ext.size).mono ex).turn ht3 (fun p hp=>by have:=hN p hp;omega),HT.out.nr,rfl,fun x hx=>hel3 x (hnx x hx)⟩
    have cp3:=cell_grown cp2 (zac (Ext.grown ex _) ht3.grown) (V:=W3) om;have hapart:=HT.out.apart;have hyl:ys.length≤256:=by rw[←HYS.out];exact Nat.le_trans (List.length_filter_le _ _) hxb
    have hxv:xs.map (·.1)=v.mail:=HR.out.is.trans hmv.symm;have e2:tick2 v=⟨v.now,v.limit,v.delay,v.cut,v.a,v.b,ns.map (·.1)⟩:=by
     have e:ns.map (·.1)=lateL v.now v.mail:=by rw[←HNS.out,←hxv];exact zdX (fun x=> !decide (x.at_≤v.now)) xs
     rw[e];rfl
    have e3:ys.map (·.1)=dueL v.now v.mail:=by rw[←HYS.out,←hxv];exact zdX (fun x=>decide (x.at_≤v.now)) xs
    have hxok:∀x,x∈ys→LtrOk x.1:=fun x hx=>hvok.mail x.1 (by rw[←hxv];exact List.mem_map_of_mem (hyx x hx));have huok:WldOk (tick2 v):=⟨hvok.n0,hvok.n1,hvok.l0,hvok.l1,hvok.d0,hvok.d1,hvok.a,hvok.b,Nat.le_trans (List.length_filter_le _ _) hvok.len,fun x hx=>hvok.mail x (List.mem_filter.1 hx).1⟩
    rw[←e2] at hC3;have hum:ns.map (·.1)=(tick2 v).mail:=by rw[e2]
    rw[hum] at hM3;obtain⟨u,hu⟩:∃u,tick2 v=u:=⟨_,rfl⟩
    have HU:=zh hu;rw[hu] at hC3 hM3 huok;have H3:=zh e3;clear e2 e3 hum hu c0 c20 HT HDV ht3 hb3 hxv hC2;have hYL:=hYo.low;have hY3:=hYo.own.sl;clear hYo;go_loopw [44] (fun i z=> ∃k:Nat,k≤ys.length∧i=.int .i64 k∧Bent g N W3 z∧∃A1 a1 B1 b1 M1 m1 xs1,Hid (WldC w0 z g (((ys.take k).map (·.1)).foldl zau u) A1 a1 B1 b1 M1 m1)∧Hid (MailM w0 z M1 m1 ((((ys.take k).map (·.1)).foldl zau u).mail) xs1)∧zhn N W3 M1) (fun i _=>ys.length - (intOf i).toNat)
    case atStart => exact ⟨0,by omega,rfl,(Ext.refl W3).bent g N,A1,a1,B1,b1,N,kn,ns,zh hC3,zh hM3,.inl rfl⟩
    case round =>
     obtain⟨k,hk,rfl,hB,A2,a2,B2,b2,M2,m2,xs2,HC4,HM4,hMT⟩:=hrel;have cpz:=zpg cp3 hB om (fun q hq=>by have:=hN q hq;omega);have HWK:=zh (zjL (p:=LtrOk) (fun w x h hx=>zfH h hx) ((ys.take k).map (·.1)) u huok (fun x hx=>by obtain⟨y,hy,rfl⟩:=List.mem_map.1 hx;exact hxok y (List.mem_of_mem_take hy)));by_cases hlt:k<ys.length
     ·obtain⟨x,hx⟩:∃x,ys[k]?=some x:=⟨_,List.getElem?_eq_getElem hlt⟩
      have hxm:=List.mem_of_getElem? hx;have HX:=zh hx;have HLX:=zh (hxok x hxm);have HLL:=zh ((hel3 x (hyx x hxm)).stayW hB.stay);obtain⟨lb,lo,hE,d0,d1,d2,d3,d4,d5,d6,d7⟩:=(hY3.bent hB (fun p hp=>⟨hYL p hp,by have:=hY p hp;omega,fun q hq=>fun e=>hapart p q hp hq e.symm⟩)).row8 (i:=k) (by rw[List.getElem?_map,hx];rfl);subst hE;have hrl:=(HLL.out.recs (HC4.out.ext) (Ext.refl _)).len;have hb0:(0:Int)≤(k:Int):=by omega
      have hb2:(k:Int)<(ys.length:Int):=by omega
      clear hx hxm hyx hnx;go_wp2_with (go_at_call 93;refine(zqu (HC4.out.mono ex) (HM4.out.mono ex) HWK.out.1 HLX.out (HLL.out.mono ex)).mono ?_;rintro e Z2 ⟨rfl,hb4,A3,a3,B3,b3,M3,m3,xs3,hC5,hM5,hT5⟩);go_light;exact⟨⟨k+1,by omega,by go_num,hB.trans hMT ((Ext.bent ex g M2).trans (.inl rfl) hb4),A3,a3,B3,b3,M3,m3,xs3,zh (by rw[zsy HX.out];exact hC5),zh (by rw[zsy HX.out];exact hM5),hMT.trans hB.size (hT5.from (ext_size ex))⟩,by simp[intOf];omega⟩
     ·have hC4:=HC4.out;have hM4:=HM4.out;have hok4:=HWK.out.1;have hto4:=HWK.out.2;rw[List.take_of_length_le om,H3.out,←HU.out] at hC4 hM4 hok4 hto4;have e4:(dueL v.now v.mail).foldl zau (tick2 v)=tick3 v:=rfl;rw[e4] at hC4 hM4 hok4 hto4;have hn4:(tick3 v).now=w.now:=hto4.now.trans hvn;obtain⟨u3,hu3⟩:∃u3,tick3 v=u3:=⟨_,rfl⟩
      have HU3:=zh hu3;rw[hu3] at hC4 hM4 hok4 hn4;clear hu3 e4 hto4 HC4 HM4 HWK hyx hnx;have HOK:=zh hok4;have hok5:=zgf hok4 (i:=1) (.inl rfl);have HOK5:=zh hok5.1;have hn5:(workW (workW u3 1) 2).now=w.now:=((zgf hok5.1 (i:=2) (.inr rfl)).2.now.trans hok5.2.now).trans hn4;clear hok4 hok5;go_wp2;go_loopw [52] (fun i z=>Bent g N W3 z∧∃q A1 a1 B1 b1 M1 m1 xs1,Hid (WldC w0 z g q A1 a1 B1 b1 M1 m1)∧Hid (MailM w0 z M1 m1 q.mail xs1)∧zhn N W3 M1∧((i=.int .i64 0∧q=u3)∨(i=.int .i64 1∧q=workW u3 1)∨(i=.int .i64 2∧q=workW (workW u3 1) 2))) (fun i _=>2 - (intOf i).toNat)
      case atStart => exact ⟨hB,_,A2,a2,B2,b2,M2,m2,xs2,zh hC4,zh hM4,hMT,.inl ⟨rfl,rfl⟩⟩
      case round =>
       obtain⟨hB5,q,A4,a4,B4,b4,M4,m4,xs4,HC5,HM5,hMT5,hi⟩:=hrel;have cpz2:=zpg cp3 hB5 om (fun q hq=>by have:=hN q hq;omega);rcases hi with⟨rfl,rfl⟩|⟨rfl,rfl⟩|⟨rfl,rfl⟩
       ·go_wp2_with (go_at_call 94;refine(zCf (HC5.out.mono ex) (HM5.out.mono ex) HOK.out).mono ?_;rintro e Z2 ⟨rfl,hb4,A3,a3,B3,b3,M3,m3,xs3,hC5,hM5,hT5⟩);go_light;exact⟨⟨hB5.trans hMT5 ((Ext.bent ex g M4).trans (.inl rfl) hb4),_,A3,a3,B3,b3,M3,m3,xs3,zh hC5,zh hM5,hMT5.trans hB5.size (hT5.from (ext_size ex)),.inr (.inl ⟨rfl,rfl⟩)⟩,by simp[intOf]⟩
       ·go_wp2_with (go_at_call 94;refine(zCg (HC5.out.mono ex) (HM5.out.mono ex) HOK5.out).mono ?_;rintro e Z2 ⟨rfl,hb4,A3,a3,B3,b3,M3,m3,xs3,hC5,hM5,hT5⟩);go_light;exact⟨⟨hB5.trans hMT5 ((Ext.bent ex g M4).trans (.inl rfl) hb4),_,A3,a3,B3,b3,M3,m3,xs3,zh hC5,zh hM5,hMT5.trans hB5.size (hT5.from (ext_size ex)),.inr (.inr ⟨rfl,rfl⟩)⟩,by simp[intOf]⟩
       ·obtain⟨q5,hq5⟩:∃q5,workW (workW u3 1) 2=q5:=⟨_,rfl⟩
        have hC6:=HC5.out;have hM6:=HM5.out;rw[hq5] at hC6 hM6 hn5;have f0:=hC6.box.c 0 rfl;have HQ5:=zh hq5;have hwn0:=HW.out.n0;have hw9:IntKind.i64.wrap (q5.now+1)=q5.now+1:=IntWalk.i64_in _ om;have hqa:0≤q5.now:=by omega
        have hqb:q5.now<1048576:=by omega
        clear hq5 HC5 HM5 hn5 hn4 hvn;go_wp2_with (refine zae rfl 3 (.tmp 66) (.tmp 64) rfl (hC6.box.mono ex) 0 rfl (.int .i64 (q5.now+1)) rfl (show 0<21 by decide) (show 21<44 by decide) kr rfl [.int .i64 (q5.now+1),q5.limit,q5.delay,q5.cut,q5.a.node.id,q5.a.node.term,q5.a.node.speaks,.slice A4 q5.a.node.log.length a4,q5.a.node.acked,q5.a.node.next,q5.a.up,q5.a.quiet,q5.b.node.id,q5.b.node.term,q5.b.node.speaks,.slice B4 q5.b.node.log.length b4,q5.b.node.acked,q5.b.node.next,q5.b.up,q5.b.quiet,.slice M4 q5.mail.length m4] rfl ?_;intro W7 ht7 hb7)
        (first|go_end0|(refine bodyPost_ret (results_none rfl _ _ _) rfl ?_))
        have hv5:tickW w l=⟨q5.now+1,q5.limit,q5.delay,q5.cut,q5.a,q5.b,q5.mail⟩:=tickW_5 w l HV.out HU3.out HQ5.out;rw[hv5];have hC7:WldC w0 W7 g ⟨q5.now+1,q5.limit,q5.delay,q5.cut,q5.a,q5.b,q5.mail⟩ A4 a4 B4 b4 M4 m4:=⟨ht7.ext (hC6.ext.trans ex) hC6.ge,hC6.ge,hb7,(hC6.qa.mono ex).turn ht7,(hC6.qb.mono ex).turn ht7⟩
        have hM7:=MailM.turn (w:=q5) (hM6.mono ex) (hC6.mono ex) ht7.grown;exact⟨rfl,zac (hB5.grown hg3 (fun p hp=>by have:=hN p hp;have:=hg.size;omega)) (zac (Ext.grown ex _) ht7.grown),A4,a4,B4,b4,M4,m4,xs4,hC7,hM7⟩
end

theorem zh1:zbz prog 101 48 576=true:=by kernel_rfl
theorem Own.low' {w0 w:World}{E:TypeId}{size:Nat}{A:Option Addr}{n k:Nat}{rows:List (List Value)}(h:Own w0 w E size A n k rows)(hr:A=none∨k≠0):∀p,A=some p→p.block<w.heap.size:=fun p hp=>by
 rcases h.at_ with h0|⟨g,cur,h1,h2,h3,-⟩
 ·rcases hr with hr|hr
  ·rw[hr] at hp;cases hp
  ·exact absurd h0 hr
 ·rw[h1] at hp;injection hp with hp;subst hp;exact(Array.getElem?_eq_some_iff.1 h3).1
def zv6 (ps:Array (Nat×Value)):Sem Value:=Instr.buildSlice 31 1 ps
@[go_sem ↓ high] theorem zD1 (ps : Array (Nat × Value)) : Instr.buildSlice 31 1 ps = zv6 ps:=rfl
@[go_sem] theorem zAY (w : World) (x : Evt) : (zv6 #[(0,.agg (evtR x).toArray)]).run prog w = .ok (.slice (some ⟨w.heap.size,0,none⟩) 1 1) (w.alloc (.cells (evtR x).toArray 101)) :=
 zdn w _ _ (evtR x).toArray 48 underlying31 kr kr (zvj x) dk dk
structure Two3 (w W : World) (Y : Option Addr) (ky : Nat) (ys : List Evt) (N : Option Addr) (kn : Nat) (ns : List Evt) : Prop where
 yes:Own w W 101 48 Y ys.length ky (ys.map evtR)
 yr:Y=none∨ky≠0
 no:Own w W 101 48 N ns.length kn (ns.map evtR)
 nr:N=none∨kn≠0
 apart:∀p q,Y=some p→N=some q→p.block≠q.block
section
variable {w W V:World} {Y N:Option Addr} {ky kn:Nat} {ys ns:List Evt}
theorem Two3.mono (h:Two3 w W Y ky ys N kn ns)(hx:Ext W V):Two3 w V Y ky ys N kn ns:=⟨h.yes.mono hx,h.yr,h.no.mono hx,h.nr,h.apart⟩
theorem Two3.nil (w W:World):Two3 w W none 0 [] none 0 []:=⟨Own.nil none,.inl rfl,Own.nil none,.inl rfl,fun _ _ h=>by cases h⟩
theorem Two3.swap (h:Two3 w W Y ky ys N kn ns):Two3 w W N kn ns Y ky ys:=⟨h.no,h.nr,h.yes,h.yr,fun p q hp hq e=>h.apart q p hq hp e.symm⟩
theorem Two3.more {Y':Option Addr}{k':Nat}{x:Evt}(h:Two3 w W Y ky ys N kn ns)(ho:Own w V 101 48 Y' (ys.length+1) k' (ys.map evtR++[evtR x]))(hg:W.grownBy V (Y.map (·.block)))(hA:Y'=Y∨Y'=some ⟨W.heap.size,0,none⟩):Two3 w V Y' k' (ys++[x]) N kn ns:=by
 have e1:ys.map evtR++[evtR x]=(ys++[x]).map evtR:=by rw[List.map_append];rfl
 rw[e1] at ho;refine⟨by rw[List.length_append];exact ho,.inr (by have:=ho.le;omega),h.no.kept hg (fun q hq e=> ?_),h.nr,fun p q hp hq e=> ?_⟩
 ·cases hY:Y with
  |none=>rw[hY] at e;cases e
  |some p=>rw[hY] at e;simp only[Option.map_some,Option.some.injEq] at e;exact h.apart p q hY hq e.symm
 ·rcases hA with rfl|rfl
  ·exact h.apart p q hp hq e
  ·injection hp with hp;subst hp;have:=h.no.low' h.nr q hq;simp only at e;omega
end
theorem zAB (x:Evt)(g:Nat)(now:Int)(w:World)(hg:w.cell? ⟨g,0,none⟩=some (.int .i64 now)):Calls prog 99 #[.agg (evtR x).toArray,.pointer (some ⟨g,0,none⟩)] w fun e w'=>e=.returned (.bool (x.tick==now))∧Ext w w':=by go_enter func99,ntmps99;go_wp2;go_ret;exact⟨rfl,ex⟩
def nowP (now:Int) (x:Evt):Bool:=x.tick==now
theorem nowP_at (l:List Evt)(now:Int):l.filter (nowP now)=atL l now:=by unfold atL;congr 1
theorem zir (A:Option Addr)(c:Nat)(l:List Evt)(g:Nat)(now:Int)(w:World)(hs:Sl w A 48 (l.map evtR))(hx:l.length≤1000)(hg:w.cell? ⟨g,0,none⟩=some (.int .i64 now)):
  Calls prog 98 #[.slice A l.length c,.func (Fn.func 99) #[] #[.pointer (some ⟨g,0,none⟩)]] w fun e w'=> ∃Y ky N n kn,e=.returned (.tuple #[.slice Y (atL l now).length ky,.slice N n kn])∧Ext w w'∧Own w w' 101 48 Y (atL l now).length ky ((atL l now).map evtR):=by
 have HS:=zh hs;have HG:=zh hg;clear hs hg;go_enter func98,ntmps98;go_wp2;go_loopw [12,6,7] (fun i y n wr=> ∃k:Nat,k≤l.length∧i=.int .i64 k∧Ext w wr∧∃Y ky ys N kn ns,y=.slice Y ys.length ky∧n=.slice N ns.length kn∧Hid (ys=(l.take k).filter (nowP now)∧ns=(l.take k).filter fun x=> !nowP now x)∧Hid (Two3 w wr Y ky ys N kn ns)) (fun i _ _ _=>l.length - (intOf i).toNat)
 case atStart => exact ⟨0,by omega,rfl,ex,none,0,[],none,0,[],rfl,rfl,zh ⟨rfl,rfl⟩,zh (Two3.nil _ _)⟩
 case round =>
  obtain⟨k,hk,rfl,hxx,Y,ky,ys,N,kn,ns,rfl,rfl,HE,HT⟩:=hrel;obtain⟨y0,rfl⟩:=hxx.get;clear hxx;by_cases hlt:k<l.length
  ·obtain⟨x,hxk⟩:∃x,l[k]?=some x:=⟨_,List.getElem?_eq_getElem hlt⟩
   have HK:=zh hxk;obtain⟨b,o,rfl,hrg⟩:=HS.out.range (i:=k) (row:=evtR x) (by rw[List.getElem?_map,hxk];rfl);have hrow:=(EvtAt.of hrg).row;have hb0:(0:Int)≤(k:Int):=by omega
   have hb2:(k:Int)<(l.length:Int):=by omega
   have hyl:ys.length≤1000:=by rw[HE.out.1];exact Nat.le_trans (List.length_filter_le _ _) (by rw[List.length_take];omega)
   have hnl:ns.length≤1000:=by rw[HE.out.2];exact Nat.le_trans (List.length_filter_le _ _) (by rw[List.length_take];omega)
   clear hxk hrg;cases hd:x.tick==now with
   |true=>
    have HD:=zh hd
    go_wp2_with (first
     |(refine za7 rfl 101 (.tmp 9) (.tmp 15) rfl rfl sg (evtR x) rfl rfl kr (zdt _) ?_)
     |(go_at_call 99;refine zzg (zAB x g now _ (Ext.cell ex HG.out)) fun y=>?_)
     |(at_builtin;refine za6 (w0:=w) rfl _ _ 31 31 rfl 101 101 48 576 underlying31 underlying31 zh1 dk ex Y ys.length ky (ys.map evtR) rfl (HT.out.yes.mono ex) _ 1 1 [evtR x] rfl (Sl.alloc' sg (by simp) (by simp[zcm])) rfl (zdh [x]) (by unfold maxLen;omega) om _ rfl _ rfl ?_;intro A' k' w1 hx1 hown hgr hA;have HT2:=zh (Two3.more (HT.out.mono ex) hown hgr hA);obtain⟨y1,rfl⟩:=hx1.get;clear hown hx1 hgr hA))
    go_light;refine⟨⟨k+1,by omega,by go_num,ex,_,_,_,_,_,_,by rw[List.length_append];rfl,rfl,zh ⟨?_,?_⟩,HT2⟩,by simp[intOf];omega⟩
    ·rw[zdi HK.out,if_pos (show nowP now x=true from HD.out),←HE.out.1]
    ·rw[zdi HK.out,if_neg (by unfold nowP;rw[HD.out];simp),←HE.out.2]
   |false=>
    have HD:=zh hd
    go_wp2_with (first
     |(refine za7 rfl 101 (.tmp 9) (.tmp 15) rfl rfl sg (evtR x) rfl rfl kr (zdt _) ?_)
     |(go_at_call 99;refine zzg (zAB x g now _ (Ext.cell ex HG.out)) fun y=>?_)
     |(at_builtin;refine za6 (w0:=w) rfl _ _ 31 31 rfl 101 101 48 576 underlying31 underlying31 zh1 dk ex N ns.length kn (ns.map evtR) rfl (HT.out.no.mono ex) _ 1 1 [evtR x] rfl (Sl.alloc' sg (by simp) (by simp[zcm])) rfl (zdh [x]) (by unfold maxLen;omega) om _ rfl _ rfl ?_;intro A' k' w1 hx1 hown hgr hA;have HT2:=zh (Two3.more (HT.out.swap.mono ex) hown hgr hA).swap;obtain⟨y1,rfl⟩:=hx1.get;clear hown hx1 hgr hA))
    go_light;refine⟨⟨k+1,by omega,by go_num,ex,_,_,_,_,_,_,rfl,by rw[List.length_append];rfl,zh ⟨?_,?_⟩,HT2⟩,by simp[intOf];omega⟩
    ·rw[zdi HK.out,if_neg (by unfold nowP;rw[HD.out];simp),←HE.out.1]
    ·rw[zdi HK.out,if_pos (by unfold nowP;rw[HD.out];rfl),←HE.out.2]
  ·have e1:ys=atL l now:=by rw[←nowP_at,HE.out.1,List.take_of_length_le om]
   subst e1;go_wp2;go_ret2;exact⟨_,_,_,_,_,rfl,ex,HT.out.yes.mono ex⟩

section
variable {w0 W:World} {g:Nat} {w:Wld} {A B M:Option Addr} {a b m:Nat} {xs:List (Ltr×Option Addr×Nat)}
theorem info_Int:zbz prog 3 1 8=true:=by kernel_rfl
theorem zero_Int:zgg prog 3 =true:=by kernel_rfl
def intRw (v:Int):List Value:=[v]
theorem zDH (os:List Int):∀r∈os.map intRw,∀u∈r,u.oneCell'=true:=fun r hr u hu=>by obtain⟨x,-,rfl⟩:=List.mem_map.1 hr;simp only[intRw,List.mem_cons,List.not_mem_nil,or_false] at hu;subst hu;rfl
theorem zs5 (os:List Int):∀r∈os.map intRw,∀u∈r,noStr u=true:=fun r hr u hu=>by obtain⟨x,-,rfl⟩:=List.mem_map.1 hr;simp only[intRw,List.mem_cons,List.not_mem_nil,or_false] at hu;subst hu;rfl
abbrev StayI (W W':World):Prop:=Stay 3 66 W W'
structure Out (w0 W : World) (po : Nat) (os : List Int) (O : Option Addr) (ko : Nat) : Prop where
 ge:w0.heap.size≤po
 box:BoxAt W po [.slice O os.length ko] 66
 own:OwnM w0 W 3 1 O os.length ko (os.map intRw)
 room:O=none∨ko≠0
theorem Out.mono {w0 W V:World}{po:Nat}{os:List Int}{O:Option Addr}{ko:Nat}(h:Out w0 W po os O ko)(hx:Ext W V):Out w0 V po os O ko:=⟨h.ge,h.box.mono hx,h.own.mono hx,h.room⟩
theorem OwnM.grownT {w0 W V:World}{E T:TypeId}{size:Nat}{O:Option Addr}{n k:Nat}{rows:List (List Value)}{cs:List Value}{b:Nat}(h:OwnM w0 W E size O n k rows)(hr:O=none∨k≠0)(hb:BoxAt W b cs T)(hT:E≠T)(hg:W.grownBy V (some b)):OwnM w0 V E size O n k rows:=
 h.kept hg fun p hp e=>by
  injection e with e;rcases h.own.at_ with h0|⟨q,cur,h1,h2,h3,h4⟩
  ·rcases hr with hr|hr
   ·rw[hr] at hp;cases hp
   ·exact hr h0
  ·rw[h1] at hp;injection hp with hp;subst hp;have e:q=b:=e;subst e;unfold BoxAt at hb;rw[h3] at hb;injection hb with hb;injection hb with e1 e2;exact hT e2
theorem OwnM.stayed {w0 W V:World}{E T1 T2:TypeId}{size:Nat}{O:Option Addr}{n k:Nat}{rows:List (List Value)}(h:OwnM w0 W E size O n k rows)(hs:Stay T1 T2 W V)(h1:E≠T1)(h2:E≠T2):Sl V O size rows:=by
 have:Own w0 V E size O n k rows:=by
  refine⟨h.own.len,h.own.row,h.own.one,h.own.le,h.own.cap,?_⟩;rcases h.own.at_ with h0|⟨g,cur,e1,e2,e3,e4⟩
  ·exact .inl h0
  ·refine .inr ⟨g,cur,e1,e2,hs.keep g _ e3 ?_,e4⟩;rintro⟨cs',T',fr,e,hT,-⟩;injection e with e5 e6;subst e6;rcases hT with hT|hT
   ·exact h1 hT
   ·exact h2 hT
 exact this.sl
def Stab.ints (v:Int):Stab:=⟨fun x W=> ∃D,x=.slice D 1 1∧Sl W D 1 [[v]],fun _ _ _ hx ⟨D,e,h⟩=>⟨D,e,h.mono hx⟩⟩
theorem out_ne {w0 W:World}{O:Option Addr}{n k po:Nat}{rows:List (List Value)}{cs:List Value}(h:OwnM w0 W 3 1 O n k rows)(hk:k≠0)(hb:BoxAt W po cs 66):∀p,O=some p→p.block≠po:=fun p hp e=>by
 rcases h.own.at_ with h0|⟨q,cur,h1,h2,h3,h4⟩
 ·exact hk h0
 ·rw[h1] at hp;injection hp with hp;subst hp;have e:q=po:=e;subst e;unfold BoxAt at hb;rw[h3] at hb;injection hb with hb;injection hb with e1 e2;cases e2
theorem out_box {w0 W V:World}{po:Nat}{os:List Int}{O:Option Addr}{ko:Nat}(h:Out w0 W po os O ko)(hg:W.grownBy V (O.map (·.block))):BoxAt V po [.slice O os.length ko] 66:=by
 unfold BoxAt;rw[hg.block po h.box.lt ?_]
 ·exact h.box
 ·intro e;cases O with
  |none=>cases e
  |some p=>
   simp only[Option.map_some,Option.some.injEq] at e;rcases h.room with hr|hr
   ·cases hr
   ·exact out_ne h.own hr h.box p rfl e.symm
theorem zCd {po:Nat}{os:List Int}{O:Option Addr}{ko:Nat}(h:WldC w0 W g w A a B b M m)(ho:Out w0 W po os O ko)(hl:os.length≤5000):Calls prog 63 #[.pointer (some ⟨g,0,none⟩),.pointer (some ⟨po,0,none⟩)] W fun e W'=>e=.returned (.tuple #[])∧Ext w0 W'∧StayI W W'∧∃O' ko',Out w0 W' po (os++[zc6 w]) O' ko':=by
 have HC:=Lib.hid h;have HO:=zh ho;have c0:=ho.box.c 0 rfl;obtain⟨v,hv⟩:∃v,zc6 w=v:=⟨_,rfl⟩
 have HS:=zh (fun(V:World) (hx:Ext W V)=>by have:=zqz (w:=w) (A:=A) (B:=B) (c:=a) (d:=b) (M:=M) (k:=m) (h.box.mono hx);rwa [hv] at this);rw[hv];clear h ho hv;go_enter func63,ntmps63;go_wp2_with fail;refine zod 4 [] [] [Stab.is (.slice O os.length ko),Stab.is (.pointer (some ⟨g,0,none⟩)),Stab.is (.int .i64 v),Stab.ints v] (fun u=>by(simp only[zc0,List.take_succ_cons,List.take_zero,Act.put,Nat.zero_add,Nat.reduceAdd]);(try simp only[lsT,lsS,lsZ]);exact rfl) kr kr kr (fun _ _ _ _ _ h=>h) ?_ ?_ ?_
 ·intro j9 hj9;cases hj9
 ·refine⟨?_,?_,?_,?_,trivial⟩
  ·refine slb fun u y9 hd=>?_;refine slr rfl rfl rfl rfl ?_;intro K9 hK;go_simp;exact hK _ _ rfl ex rfl
  ·refine slb fun u y9 hd=>?_;refine slr rfl rfl rfl rfl ?_;intro K9 hK;go_simp;exact hK _ _ rfl ex rfl
  ·refine slb fun u y9 hd=>?_;have e1:u 1=.pointer (some ⟨g,0,none⟩):=hd 1 kr;simp only[e1];refine slr rfl rfl rfl rfl ?_;intro K9 hK;go_simp;go_at_call 39;refine(HS.out _ ex).mono ?_;rintro e w' ⟨rfl,hx⟩;exact hK _ _ rfl hx rfl
  ·refine slb fun u y9 hd=>?_;have e2:u 2=.int .i64 v:=hd 2 kr;simp only[e2];refine slr rfl rfl rfl rfl ?_;intro K9 hK;go_simp;exact hK _ _ rfl ex ⟨_,rfl,Sl.alloc' sg (by simp) (by simp)⟩
 ·intro u w2 hx2 hT hdd;obtain⟨t0,t1,t2,t3,-⟩:=hT;obtain⟨y9,rfl⟩:=hx2.get;clear hx2;have e0:u 0=.slice O os.length ko:=t0;have e1:u 1=.pointer (some ⟨g,0,none⟩):=t1;have e2:u 2=.int .i64 v:=t2;obtain⟨D3,e3,h3⟩:=t3;clear hdd;simp only[e0,e1,e2,e3];clear e0 e1 e2 e3 t0 t1 t2;simp only[List.drop_succ_cons,List.drop_zero];have hxx:Ext W (xt W.drew y9):=ex
  go_wp2_with (first
   |(at_builtin;refine zeI (w0:=w0) rfl 66 _ _ 66 66 rfl 3 3 1 8 underlying66 underlying66 info_Int zero_Int dk (HC.out.ext.trans ex) O os.length ko (os.map intRw) rfl (HO.out.own.mono ex) HO.out.room (zs5 _) _ 1 1 [intRw v] rfl h3 rfl dk (zDH [v]) (zs5 [v]) (by unfold maxLen;omega) om _ rfl _ rfl ?_;intro O5 k5 V5 hx5 hown5 hk5 hs5 hgr5 hA5;have hb5:BoxAt V5 po [.slice O os.length ko] 66:=out_box (HO.out.mono ex) hgr5)
   |(refine zae rfl 66 (.tmp 1) (.tmp 7) rfl hb5 0 rfl (.slice O5 (os++[v]).length k5) (by rw[List.length_append];rfl) (show 0<1 by decide) (show 1<44 by decide) kr rfl [.slice O5 (os++[v]).length k5] rfl ?_;intro V6 ht6 hb6))
  (first|go_end0|(refine bodyPost_ret (results_none rfl _ _ _) rfl ?_))
  exact⟨rfl,ht6.ext hx5 HO.out.ge,((Ext.stay ex).trans hs5).trans (ht6.stay hb5 (.inr rfl) (by intro i s hs;cases i<;>simp at hs)),O5,k5,HO.out.ge,hb6,by rw[List.length_append,List.map_append];exact hown5.turn ht6 (out_ne hown5 hk5 hb5),.inr hk5⟩
end

section
variable {w0 W:World} {g:Nat} {w:Wld} {A B M:Option Addr} {a b m:Nat} {xs:List (Ltr×Option Addr×Nat)}
theorem MailR.mono {l:List Ltr}{V:World}(h:MailR w0 W M m l xs)(hx:Ext W V):MailR w0 V M m l xs:=⟨h.sl.mono hx,h.le,h.cap,h.is,fun x hm=>(h.el x hm).mono hx⟩
theorem BoxAt.grownB {V:World}{b:Nat}{cs:List Value}{T:TypeId}(h:BoxAt W b cs T)(hg:W.grownBy V (some g))(hne:b≠g):BoxAt V b cs T:=by unfold BoxAt;rw[hg.block b h.lt fun e=>hne (by injection e)];exact h
theorem Out.grownO {V:World}{po:Nat}{os:List Int}{O:Option Addr}{ko:Nat}{cs:List Value}(h:Out w0 W po os O ko)(hb:BoxAt W g cs 30)(hg:W.grownBy V (some g))(hne:po≠g):Out w0 V po os O ko:=⟨h.ge,h.box.grownB hg hne,h.own.grownT h.room hb dk hg,h.room⟩
theorem WldC.stayI {V:World}(h:WldC w0 W g w A a B b M m)(hs:StayI W V)(hx:Ext w0 V):WldC w0 V g w A a B b M m:=⟨hx,h.ge,hs.box h.box dk dk,hs.logw h.qa,hs.logw h.qb⟩
theorem MailM.stayI {V:World}{l:List Ltr}(h:MailM w0 W M m l xs)(hs:StayI W V):MailR w0 V M m l xs:=⟨h.own.stayed hs dk dk,h.own.own.le,h.own.own.cap,h.is,fun x hx=>hs.logw (h.el x hx)⟩
noncomputable def trs (l:List Evt) (w:Wld) (k:Nat):List Int:=(List.range k).map fun i=>zc6 (seqW l w (i+1))
theorem trs_succ (l:List Evt)(w:Wld)(k:Nat):trs l w (k+1)=trs l w k++[zc6 (seqW l w (k+1))]:=by unfold trs;rw[List.range_succ,List.map_append];rfl
theorem zFA (l:List Evt)(w:Wld)(k:Nat):(trs l w k).length=k:=by unfold trs;rw[List.length_map,List.length_range]
theorem trs_all (l:List Evt)(w:Wld)(k:Nat):trs l w k=zce l k w:=by
 refine List.ext_getElem? fun i=> ?_;by_cases hi:i<k
 ·rw[zgS l k w i hi];unfold trs;rw[List.getElem?_map,List.getElem?_range hi];rfl
 ·rw[List.getElem?_eq_none (by rw[zFA];omega),List.getElem?_eq_none (by rw[zmH];omega)]
theorem zAz (p:Value)(W:World):Calls prog 60 #[p] W fun e W'=>e=.returned (.tuple #[])∧W=W':=by
 go_enter func60,ntmps60;go_wp2
 (first|go_end0|(refine bodyPost_ret (results_none rfl _ _ _) rfl ?_))
 exact⟨rfl,rfl⟩
theorem zfI {l:List Evt}(h:evtsE l=0):l.length≤1000:=by
 unfold evtsE at h;by_cases hc:256<l.length
 ·rw[if_pos hc] at h;cases h
 ·omega
theorem zFq {V:World}(hx:Ext w0 V)(hok:WldOk w)(ha:LogW w0 V A w.a.node.log.length a w.a.node.log)(hb:LogW w0 V B w.b.node.log.length b w.b.node.log)(hm:MailR w0 V M m w.mail xs){E:Option Addr}{ce:Nat}{l:List Evt}(hs:zbR V E ce l)(hel:∀x∈l,AcnAt w0 x.act)(hl0:evtsE l=0){T:Nat}(hT:T≤4096)(hn:w.now+T≤1048576){po:Nat}{O:Option Addr}{ko:Nat}(ho:Out w0 V po [] O ko):Calls prog 59 #[.agg (Lw w A a B b M m),.slice E l.length ce,T,.func (Fn.func 63) #[] #[.pointer (some ⟨po,0,none⟩)]] V fun e V1=>(∃A1 a1 B1 b1 M1 m1,e=.returned (.tuple #[.agg (Lw (seqW l w T) A1 a1 B1 b1 M1 m1),zI]))∧Ext w0 V1∧∃O1 ko1,Out w0 V1 po (zce l T w) O1 ko1:=by
 have hwa:WldAt V w A a B b M m xs:=⟨ha.recs hx (Ext.refl V),hb.recs hx (Ext.refl V),⟨hm.sl,by rw[←List.length_map (f:=(·.1)),hm.is];exact hm.le,hm.cap,fun x hx2=>(hm.el x hx2).recs hx (Ext.refl V)⟩,hm.is⟩
 have hla:=(ha.recs hx (Ext.refl V)).len;have hlb:=(hb.recs hx (Ext.refl V)).len;have hml:=hok.len;have hevl:=zfI hl0;have HWE:=zh (show ∀x∈l,EvtOk x from zei hl0);have HEA:=zh hel;have HES:=zh hs.sl;have HCK:=zh (fun(X:World) (hx:Ext V X)=>by have:=zeq (hwa.mono hx);rwa [(zge w).2 hok] at this);have HRT:=zh (fun(X:World) (hx:Ext V X)=>by have:=zgQ X (hs.mono hx);rwa [hl0] at this);have H3:=zh (show za5 (T:Int) 0 4096=true from decide_eq_true ⟨by omega,by omega⟩);have hd:decide ((1048576:Int)<w.now+T)=false:=decide_eq_false om;have hw0:=hok.n0;have hwr:IntKind.i64.wrap (w.now+T)=w.now+T:=IntWalk.i64_in _ om;have HQ:=zh (And.intro ha hb);have HMR:=zh hm;have HOK:=zh hok;have HX:=zh hx;have HO:=zh ho;have hpo:po<V.heap.size:=ho.box.lt;clear ho;clear hwa ha hb hm hs hel hl0 hok hx;go_enter func59,ntmps59
 go_wp2_with (first
  |(go_at_call 14;refine zzg (HCK.out _ ex) fun ya=>?_)
  |(go_at_call 16;refine zzg (HRT.out _ ex) fun yb=>?_)
  |(go_at_call 33;refine(zCe _ _ _ _).mono ?_;rintro e w' ⟨he,rfl⟩;simp only[H3.out] at he;subst he))
 go_loopw [39] (fun i wr=> ∃k:Nat,k≤T∧i=.int .i64 k∧Hid (Ext w0 wr)∧Hid (BoxAt wr (V.heap.size+1) Zw 30)∧Hid (Sl wr E 48 (l.map evtR))∧∃A1 a1 B1 b1 M1 m1 xs1,Hid (WldC w0 wr V.heap.size (seqW l w k) A1 a1 B1 b1 M1 m1)∧Hid (MailR w0 wr M1 m1 (seqW l w k).mail xs1)∧∃O1 ko1,Hid (Out w0 wr po (trs l w k) O1 ko1)) (fun i _=>T - (intOf i).toNat)
 case atStart => exact ⟨0,by omega,rfl,zh (HX.out.trans ex),zh bxA,zh (HES.out.mono ex),A,a,B,b,M,m,xs,zh ⟨HX.out.trans ex,HX.out.size,bxA,HQ.out.1.mono ex,HQ.out.2.mono ex⟩,zh (HMR.out.mono ex),O,ko,zh (HO.out.mono ex)⟩
 case round =>
  obtain⟨k,hk,rfl,HX2,HZ,HE2,A1,a1,B1,b1,M1,m1,xs1,HC2,HM2,O1,ko1,HO2⟩:=hrel;by_cases hlt:k<T
  ·have hsq:=zhe HWE.out HOK.out k om;have HWK:=zh hsq.1;have hvn:=hsq.2.1;have c0:=HC2.out.box.c 0 rfl;have HSS:=zh (show seqW l w (k+1)=tickW (seqW l w k) (atL l (seqW l w k).now) from rfl);obtain⟨v,hv⟩:∃v,seqW l w k=v:=⟨_,rfl⟩
   rw[hv] at hvn c0 HC2 HM2 HWK HSS;have hvn1:v.now<1048576:=by omega
   have HEV:=zh (zjj HWE.out v.now);have HEC:=zh (show ∀x∈atL l v.now,AcnAt w0 x.act from fun x hx=>HEA.out x (List.mem_filter.1 hx).1);have hal:(atL l v.now).length≤1000:=Nat.le_trans (List.length_filter_le _ _) hevl;clear hv hsq hvn
   go_wp2_with (first
    |(go_at_call 98;refine(zir E ce l V.heap.size v.now _ (HE2.out.mono ex) hevl (Ext.cell ex c0)).mono ?_;rintro e w' ⟨Y,ky,N,n,kn,rfl,hx,hown⟩;have HY:=zh hown.sl;obtain⟨yd,rfl⟩:=hx.get;clear hx hown)
    |(go_at_call 57;refine(zlm (HC2.out.mono ex) (HM2.out.mono ex) HWK.out (HY.out.mono ex) HEC.out om HEV.out hvn1).mono ?_;rintro e W2 ⟨rfl,hg2,A2,a2,B2,b2,M2,m2,xs2,hC3,hM3⟩;have hZ3:=(HZ.out.mono ex).grownB hg2 om;have hE3:=((HC2.out.mono ex).bent hg2 none).stay.slE (HE2.out.mono ex);have hO3:=(HO2.out.mono ex).grownO (HC2.out.mono ex).box hg2 om)
    |(go_at_call 63;refine(zCd (hC3.mono ex) (hO3.mono ex) (by rw[zFA];omega)).mono ?_;rintro e W3 ⟨rfl,hx3,hs3,O3,ko3,hO4⟩))
   go_light;exact⟨⟨k+1,by omega,by go_num,zh (hx3.trans ex),zh ((hs3.box (hZ3.mono ex) dk dk).mono ex),zh ((hs3.slE (hE3.mono ex)).mono ex),A2,a2,B2,b2,M2,m2,xs2,zh (by rw[HSS.out];exact((hC3.mono ex).stayI hs3 hx3).mono ex),zh (by rw[HSS.out];exact((hM3.mono ex).stayI hs3).mono ex),O3,ko3,zh (by rw[trs_succ,HSS.out];exact hO4.mono ex)⟩,by simp[intOf];omega⟩
  ·have hkT:k=T:=by omega
   subst hkT;have hrw:=HC2.out.box.row (n:=21) rfl;obtain⟨v,hv⟩:∃v,seqW l w k=v:=⟨_,rfl⟩
   have HVV:=zh hv;rw[hv] at hrw HC2 HM2;clear hv;go_wp2_with (refine za2 rfl 30 (.tmp 8) (.tmp 52) rfl (HZ.out.mono ex) rfl (Lw v A1 a1 B1 b1 M1 m1) rfl rfl (show 21<44 by decide) kr (zbm v A1 a1 B1 b1 M1 m1) ?_;intro W7 ht7 hb7);have hx7:Ext w0 W7:=ht7.ext (HX2.out.trans ex) (by have:=HX.out.size;omega);refine bodyPost_ret (v:=.tuple #[.agg [.int .i64 v.now,.int .i64 v.limit,.int .i64 v.delay,.bool v.cut,.int .i64 v.a.node.id,.int .i64 v.a.node.term,.bool v.a.node.speaks,.slice A1 v.a.node.log.length a1,.int .i64 v.a.node.acked,.int .i64 v.a.node.next,.bool v.a.up,.int .i64 v.a.quiet,.int .i64 v.b.node.id,.int .i64 v.b.node.term,.bool v.b.node.speaks,.slice B1 v.b.node.log.length b1,.int .i64 v.b.node.acked,.int .i64 v.b.node.next,.bool v.b.up,.int .i64 v.b.quiet,.slice M1 v.mail.length m1].toArray,zI]) (zf1 (i:=8) (j:=9) (by simp[results59]) rfl rfl hb7.range rfl) rfl ?_;rw[HVV.out];exact⟨⟨A1,a1,B1,b1,M1,m1,rfl⟩,hx7,O1,ko1,by rw[←trs_all];exact(HO2.out.mono ex).grownO (HZ.out.mono ex) ht7.grown om⟩
end

section
variable {w0 W:World} {g:Nat} {w:Wld} {A B M:Option Addr} {a b m:Nat} {xs:List (Ltr×Option Addr×Nat)}
theorem WldAt.mailR {W V:World}(h:WldAt W w A a B b M m xs)(hx:Ext W V):MailR W V M m w.mail xs:=⟨h.mail.sl.mono hx,by rw[←h.is,List.length_map];exact h.mail.le,h.mail.cap,h.is,fun x hm=>LogW.of (h.mail.el x hm) hx⟩
theorem zg1 (h:WldAt W w A a B b M m xs)(hok:WldOk w){E:Option Addr}{ce:Nat}{l:List Evt}(hs:zbR W E ce l)(hl0:evtsE l=0){T:Nat}(hT:T≤4096)(hn:w.now+T≤1048576):Calls prog 24 #[.agg (Lw w A a B b M m),.slice E l.length ce,T] W fun e W1=> ∃O ko,e=.returned (.tuple #[.slice O T ko,zI])∧Ext W W1∧Sl W1 O 1 ((zce l T w).map intRw)∧T≤ko∧ko≤maxLen:=by
 have HRUN:=zh (fun(V:World) (hx:Ext W V) (po:Nat) (ho:Out W V po [] none 0)=>zFq (w0:=W) hx hok (LogW.of h.a hx) (LogW.of h.b hx) (h.mailR hx) (hs.mono hx) hs.el hl0 hT hn ho);have hla:=h.a.len;have hlb:=h.b.len;have hml:=hok.len;have hll:=zfI hl0;have HTL:=zh (zmH l T w);clear h hok hs hl0;go_enter func24,ntmps24
 go_wp2_with (first
  |(go_at_call 59;refine(HRUN.out _ ex _ ⟨by simp[go_sem],bxA,OwnM.nil _ _ _ _,.inl rfl⟩).mono ?_;rintro e V1 ⟨⟨A1,a1,B1,b1,M1,m1,rfl⟩,hx1,O1,ko1,hO1⟩;have c0:=hO1.box.c 0 rfl;rw[HTL.out] at c0)
  |(refine za7 rfl 30 (.tmp 9) (.tmp 17) rfl rfl sg (Lw (seqW l w T) A1 a1 B1 b1 M1 m1) rfl rfl kr (zbm _ _ _ _ _ _ _) ?_))
 go_ret2;have ho:=hO1.own.own;exact⟨O1,ko1,rfl,hx1.trans ex,ho.sl.mono ex,by have:=ho.le;rw[HTL.out] at this;exact this,ho.cap⟩
end
