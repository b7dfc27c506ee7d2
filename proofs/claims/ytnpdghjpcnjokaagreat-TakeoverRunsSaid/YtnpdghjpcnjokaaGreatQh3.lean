import Derived.Test.YtnpdghjpcnjokaaGreatQg2
import Derived.Test.YtnpdghjpcnjokaaGreatQh1
import Derived.Test.YtnpdghjpcnjokaaGreatQh2
import Derived.Test.YtnpdghjpcnjokaaGreatGwke
set_option linter.all false
namespace Go.Proofs.YtnpdghjpcnjokaaGreat
set_option maxHeartbeats 12800000
set_option maxRecDepth 100000
open Go.RowKit Go.Proofs.Tryz

structure Two5 (w W : World) (Y : Option Addr) (ky : Nat) (ys : List (Ltr × Option Addr × Nat)) (N : Option Addr) (kn : Nat) (ns : List (Ltr × Option Addr × Nat)) : Prop where
 yes:OwnM w W 120 8 Y ys.length ky (ys.map ltrR)
 yr:Y=none∨ky≠0
 no:OwnM w W 120 8 N ns.length kn (ns.map ltrR)
 nr:N=none∨kn≠0
 apart:∀p q,Y=some p→N=some q→p.block≠q.block
theorem Two5.mono {w W V:World}{Y N:Option Addr}{ky kn:Nat}{ys ns:List (Ltr×Option Addr×Nat)}(h:Two5 w W Y ky ys N kn ns)(hx:Ext W V):Two5 w V Y ky ys N kn ns:=⟨h.yes.mono hx,h.yr,h.no.mono hx,h.nr,h.apart⟩
theorem Two5.nil (w W:World):Two5 w W none 0 [] none 0 []:=⟨OwnM.nil _ _ _ _,.inl rfl,OwnM.nil _ _ _ _,.inl rfl,fun _ _ h=>by cases h⟩
theorem Two5.more {w W V:World}{Y N Y':Option Addr}{ky kn k':Nat}{ys ns:List (Ltr×Option Addr×Nat)}{x:Ltr×Option Addr×Nat}(h:Two5 w W Y ky ys N kn ns)(ho:OwnM w V 120 8 Y' (ys.length+1) k' (ys.map ltrR++[ltrR x]))(hk:k'≠0)(hg:W.grownBy V (Y.map (·.block)))(hA:Y'=Y∨Y'=some ⟨W.heap.size,0,none⟩):Two5 w V Y' k' (ys++[x]) N kn ns:=by
 have e1:ys.map ltrR++[ltrR x]=(ys++[x]).map ltrR:=by rw[List.map_append];rfl
 rw[e1] at ho;refine⟨by rw[List.length_append];exact ho,.inr hk,h.no.kept hg (fun q hq e=> ?_),h.nr,fun p q hp hq e=> ?_⟩
 ·cases hY:Y with
  |none=>rw[hY] at e;cases e
  |some p=>rw[hY] at e;simp only[Option.map_some,Option.some.injEq] at e;exact h.apart p q hY hq e.symm
 ·rcases hA with rfl|rfl
  ·exact h.apart p q hp hq e
  ·injection hp with hp;subst hp;have:=h.no.low q hq;simp only at e;omega
theorem Two5.swap {w W:World}{Y N:Option Addr}{ky kn:Nat}{ys ns:List (Ltr×Option Addr×Nat)}(h:Two5 w W Y ky ys N kn ns):Two5 w W N kn ns Y ky ys:=⟨h.no,h.nr,h.yes,h.yr,fun p q hp hq e=>h.apart q p hq hp e.symm⟩

structure TW (w0 W : World) (z : Nat) (M : Option Addr) (xs : List (Ltr × Option Addr × Nat)) (V : World) (v : Wld) (A : Option Addr) (a : Nat) (B : Option Addr) (b : Nat) (N : Option Addr) (n : Nat) (ys : List (Ltr × Option Addr × Nat)) : Prop where
 ext:Ext W V
 box:BoxAt V W.heap.size (Lw v A a B b N n) 46
 res:z=2→BoxAt V (W.heap.size+1) Zz 46
 size:W.heap.size+z≤V.heap.size
 ww:WldW w0 V v A a B b N n ys
 far:∀g,g<W.heap.size→Away g M xs→Away g N ys
 aw:∀g,W.heap.size≤g→g<W.heap.size+z→Away g N ys
section
variable {w0 W:World} {w:Wld} {A B M:Option Addr} {c d k:Nat} {xs:List (Ltr×Option Addr×Nat)}
theorem TW.step {z:Nat}(hz:0<z){V V1 V2:World}{v uw:Wld}{A1 B1 N1 A2 B2 N2:Option Addr}{a1 b1 n1 a2 b2 n2:Nat}{ys zs:List (Ltr×Option Addr×Nat)}(h:TW w0 W z M xs V v A1 a1 B1 b1 N1 n1 ys)(hw0:w0.heap.size≤W.heap.size)(hx:Ext V V1)(hw:WldW w0 V1 uw A2 a2 B2 b2 N2 n2 zs)(ha:∀g,g<V.heap.size→Away g N1 ys→Away g N2 zs)(t:Turn W.heap.size V1 V2)(b:BoxAt V2 W.heap.size (Lw uw A2 a2 B2 b2 N2 n2) 46):TW w0 W z M xs V2 uw A2 a2 B2 b2 N2 n2 zs:=by have hS:=h.size;have hx1:=hx.size;have ht:=t.size;exact⟨t.ext (h.ext.trans hx) (Nat.le_refl _),b,fun e=>((h.res e).mono hx).turn t om,by omega,hw.turn t hw0 (ha _ om (h.aw _ om om)),fun g hg hA=>ha g om (h.far g hg hA),fun g h1 h2=>ha g om (h.aw g h1 h2)⟩
theorem r55_happened_as (h:WldW w0 W w A c B d M k xs){x:Evt}(ha:AcnAt w0 x.act)(hx:EvtOk x){uw:Wld}(hu:zap w x=uw):Calls prog 95 #[.agg (Lw w A c B d M k),.agg (evtR x).toArray] W (RetW w0 W M xs uw):=by rw[←hu];exact r55_happened h ha hx
theorem r55_delivered_as (h:WldW w0 W w A c B d M k xs)(hw:WldOk w){x:Ltr}(hx:LtrOk x){E:Option Addr}{j:Nat}(hl:LogW w0 W E x.msg.recs.length j x.msg.recs){uw:Wld}(hu:zau w x=uw):Calls prog 96 #[.agg (Lw w A c B d M k),.agg (Ll x E j)] W (RetW w0 W M xs uw):=by rw[←hu];exact r55_delivered h hw hx hl
theorem r55_wrk_a_as (h:WldW w0 W w A c B d M k xs)(hw:WldOk w){uw:Wld}(hu:workW w 1=uw):Calls prog 97 #[.agg (Lw w A c B d M k),.int .i64 1] W (RetW w0 W M xs uw):=by rw[←hu];exact r55_wrk_a h hw
theorem r55_wrk_b_as (h:WldW w0 W w A c B d M k xs)(hw:WldOk w){uw:Wld}(hu:workW w 2=uw):Calls prog 97 #[.agg (Lw w A c B d M k),.int .i64 2] W (RetW w0 W M xs uw):=by rw[←hu];exact r55_wrk_b h hw
theorem r55_Ticked (h:WldW w0 W w A c B d M k xs)(hw:WldOk w){E:Option Addr}{ce:Nat}{l:List Evt}(hs:Sl W E 48 (l.map evtR))(hel:∀x∈l,AcnAt w0 x.act)(hll:l.length≤1000000)(hev:∀x∈l,EvtOk x)(hn:w.now<1048576):Calls prog 58 #[.agg (Lw w A c B d M k),.slice E l.length ce] W (RetW w0 W M xs (tickW w l)):=by
 have HW:=Lib.hid h;have HOK:=zh hw;have HS:=zh hs;have HEL:=zh hel;have HEV:=zh hev;have hla:=h.at.a.len;have hlb:=h.at.b.len;have hmw:=hw.len;have hlm:=h.len;have hsz:=h.ext.size;clear h hw hs hel hev;go_enter func58,ntmps58;go_wp2;go_loopw [5] (fun i wr=> ∃j:Nat,j≤l.length∧i=.int .i64 j∧∃A1 a1 B1 b1 N1 n1 ys1,Hid (TW w0 W 2 M xs wr ((l.take j).foldl zap w) A1 a1 B1 b1 N1 n1 ys1)) (fun i _=>l.length - (intOf i).toNat)
 case atStart => exact ⟨0,by omega,rfl,A,c,B,d,M,k,xs,zh ⟨ex,by repeat (first | exact BoxAt.new (by first | rfl | (simp [go_sem];done) | (simp [go_sem];omega)) _ _ | apply BoxAt.xt | apply BoxAt.drew | apply BoxAt.drewN | apply BoxAt.alloc),fun _ => by repeat (first | exact BoxAt.new (by first | rfl | (simp [go_sem];done) | (simp [go_sem];omega)) _ _ | apply BoxAt.xt | apply BoxAt.drew | apply BoxAt.drewN | apply BoxAt.alloc),by simp [go_sem],HW.out.mono ex,fun _ _ h => h,fun g h1 _ => Away.new HW.out.sl h1⟩⟩
 case round =>
  rename_i wr;obtain⟨j,hj,rfl,A1,a1,B1,b1,N1,n1,ys1,HT⟩:=hrel;by_cases hlt:j<l.length
  ·obtain⟨x,hx⟩:∃x,l[j]?=some x:=⟨_,List.getElem?_eq_getElem hlt⟩
   have hxm:=List.mem_of_getElem? hx;have HX:=zh hx;have HAX:=zh (HEL.out x hxm);have HEX:=zh (HEV.out x hxm);obtain⟨eb,eo,hE,hrg⟩:=(HS.out.mono HT.out.ext).range (i:=j) (row:=evtR x) (by rw[List.getElem?_map,hx];rfl);have hrow:=(EvtAt.of hrg).row;subst hE;have hb0:(0:Int)≤(j:Int):=by omega
   have hb2:(j:Int)<(l.length:Int):=by omega
   obtain⟨v,hv⟩:∃v,(l.take j).foldl zap w=v:=⟨_,rfl⟩
   rw[hv] at HT;have HVV:=zh hv;obtain⟨uw,hu⟩:∃uw,zap v x=uw:=⟨_,rfl⟩
   have HU:=zh hu;have hrw:=HT.out.box.row (n:=21) rfl;have hs2:=HT.out.size;clear hx hxm hrg hv hu;go_wp2_with fail;refine zGr 6 [] [] [Stab.is (.agg ((Lw v A1 a1 B1 b1 N1 n1):List Value).toArray),Stab.is (.slice (some ⟨eb,eo,none⟩) l.length ce),Stab.is (.int .i64 j),Stab.is (.pointer (some ⟨eb,eo+j * 48,none⟩)),Stab.is (.agg (evtR x).toArray),Stab.retw w0 wr.heap.size N1 ys1 uw] (fun u=>by(simp only[zc0,List.take_succ_cons,List.take_zero,Act.put,Nat.zero_add,Nat.reduceAdd]);(try simp only[lsT,lsS,lsZ]);exact rfl) kr kr kr (fun _ _ _ _ _ h=>h) ?_ ?_ ?_
   ·intro j9 hj9;cases hj9
   ·refine⟨zs_B0,zs_B0,zs_B0,(zs_B2 1 2),(zs_B1 3),?_,trivial⟩
    ·refine slb fun u y9 hd=>?_;have e0:u 0=.agg ((Lw v A1 a1 B1 b1 N1 n1):List Value).toArray:=hd 0 kr;have e4:u 4=.agg (evtR x).toArray:=hd 4 kr;simp only[e0,e4];refine slr rfl rfl rfl rfl ?_;intro K9 hK;go_simp;go_at_call 95;refine(r55_happened_as (HT.out.ww.mono ex) HAX.out HEX.out HU.out).mono ?_;rintro e w9 ⟨A6,a6,B6,b6,M6,m6,xs6,rfl,hx,hw6,ha6⟩;exact hK _ _ rfl hx ⟨A6,a6,B6,b6,M6,m6,xs6,rfl,hw6,fun g hg h=>ha6 g (by simp[go_sem];omega) h⟩
   ·intro u w2 hx2 hT hdd;obtain⟨t0,t1,t2,t3,t4,t5,-⟩:=hT;obtain⟨y9,rfl⟩:=hx2.get;clear hx2;obtain⟨A6,a6,B6,b6,M6,m6,xs6,e5,hw6,ha6⟩:=t5;clear hdd;simp only[e5];clear e5 t0 t1 t2 t3 t4;simp only[List.drop_succ_cons,List.drop_zero];go_wp2_with (refine za2 rfl 46 (.tmp 2) (.tmp 21) rfl (HT.out.box.mono ex) rfl (Lw uw A6 a6 B6 b6 M6 m6) rfl rfl (show 21<44 by decide) kr (cells_one _ rfl) ?_;intro V1 t1 b1);go_light;exact⟨⟨j+1,by omega,by go_num,A6,a6,B6,b6,M6,m6,xs6,zh (by rw[zqE HX.out,HVV.out,HU.out];exact HT.out.step dk hsz ex (hw6.mono ex) ha6 t1 b1)⟩,by simp[intOf];omega⟩
  ·have hT:=HT.out;rw[List.take_of_length_le om] at hT;have hmv:(l.foldl zap w).mail=w.mail:=zmS l w;have hvok:WldOk (l.foldl zap w):=(zjL (p:=EvtOk) (fun w x h hx=>ze7 h hx) l w HOK.out HEV.out).1;have hvn:(l.foldl zap w).now=w.now:=(zjL (p:=EvtOk) (fun w x h hx=>ze7 h hx) l w HOK.out HEV.out).2.now;have HV:=zh (show tick1 w l=l.foldl zap w from rfl);obtain⟨v,hv⟩:∃v,l.foldl zap w=v:=⟨_,rfl⟩
   rw[hv] at hT hmv hvok hvn HV;clear HT hv;have hyl:ys1.length=v.mail.length:=hT.ww.len;have hmy:=hvok.len;have c0:=hT.box.c 0 rfl;have c20:=hT.box.c 20 rfl;rw[←hyl] at c20;have HT:=zh hT;have HVO:=zh hvok;have HVN:=zh hvn;have HYL:=zh hyl;have HRL:=zh (show ∀x∈ys1,x.1.msg.recs.length≤9223372036854775807 from fun x hx=>((hT.ww.el x hx).recs hT.ww.ext (Ext.refl wr)).len);have hyb:ys1.length≤256:=by omega
   clear hT hvok hvn hmv hyl hmy;go_wp2;go_loopw [8,6,7] (fun i y n z=> ∃j:Nat,j≤ys1.length∧i=.int .i64 j∧Ext wr z∧∃Y ky ys N kn ns,y=.slice Y ys.length ky∧n=.slice N ns.length kn∧Hid (ys=(ys1.take j).filter (dueP v.now)∧ns=(ys1.take j).filter fun x=> !dueP v.now x)∧Hid (Two5 wr z Y ky ys N kn ns)) (fun i _ _ _=>ys1.length - (intOf i).toNat)
   case atStart => exact ⟨0,by omega,rfl,Ext.refl _,none,0,[],none,0,[],rfl,rfl,zh ⟨rfl,rfl⟩,zh (Two5.nil _ _)⟩
   case round =>
    obtain⟨j2,hj2,rfl,hxx,Y,ky,ys,N,kn,ns,rfl,rfl,HE,HT2⟩:=hrel;obtain⟨y0,rfl⟩:=hxx.get;clear hxx;have hyn:ys.length≤256:=by rw[HE.out.1];exact Nat.le_trans (List.length_filter_le _ _) (by rw[List.length_take];omega)
    have hnn:ns.length≤256:=by rw[HE.out.2];exact Nat.le_trans (List.length_filter_le _ _) (by rw[List.length_take];omega)
    by_cases hlt2:j2<ys1.length
    ·obtain⟨x,hxk⟩:∃x,ys1[j2]?=some x:=⟨_,List.getElem?_eq_getElem hlt2⟩
     have hrl:=HRL.out x (List.mem_of_getElem? hxk);have HK:=zh hxk;obtain⟨lb,lo,rfl,d0,d1,d2,d3,d4,d5,d6,d7⟩:=HT.out.ww.sl.row8 (i:=j2) (by rw[List.getElem?_map,hxk];rfl);have hb0:(0:Int)≤(j2:Int):=by omega
     have hb2:(j2:Int)<(ys1.length:Int):=by omega
     clear hxk;by_cases hd:x.1.at_≤v.now
     ·have hd1:decide (x.1.at_≤v.now)=true:=decide_eq_true hd;have HD:=zh hd1;clear hd;go_wp2;(refine zcL kr kr ?_;(repeat(go_big_quiet_step (fail)));refine wqN fun y=>?_);go_wp2_with (at_builtin;refine zeI (w0:=wr) rfl 46 _ _ 44 44 rfl 120 120 8 80 underlying44 underlying44 info_L5 zero_L5 dk ex Y ys.length ky (ys.map ltrR) rfl (HT2.out.yes.mono ex) HT2.out.yr (zgy _) _ 1 1 [ltrR x] rfl (Sl.alloc' sg rfl (by simp[ltrR])) rfl dk (zon [x]) (zgy [x]) (by unfold maxLen;omega) om _ rfl _ rfl ?_;intro A' k' w1 hx1 hown hk0 hst hgr hA;have HT3:=zh (Two5.more (HT2.out.mono ex) hown hk0 hgr hA);obtain⟨y1,rfl⟩:=hx1.get;clear hown hx1 hgr hA hst hk0);go_light;refine⟨⟨j2+1,by omega,by go_num,ex,_,_,_,_,_,_,by rw[List.length_append];rfl,rfl,zh ⟨?_,?_⟩,HT3⟩,by simp[intOf];omega⟩
      ·rw[zdi HK.out,if_pos (show dueP v.now x=true from HD.out),←HE.out.1]
      ·rw[zdi HK.out,if_neg (by unfold dueP;rw[HD.out];simp),←HE.out.2]
     ·have hd1:decide (x.1.at_≤v.now)=false:=decide_eq_false hd;have HD:=zh hd1;clear hd;go_wp2;(refine zcL kr kr ?_;(repeat(go_big_quiet_step (fail)));refine wqN fun y=>?_);go_wp2_with (at_builtin;refine zeI (w0:=wr) rfl 46 _ _ 44 44 rfl 120 120 8 80 underlying44 underlying44 info_L5 zero_L5 dk ex N ns.length kn (ns.map ltrR) rfl (HT2.out.no.mono ex) HT2.out.nr (zgy _) _ 1 1 [ltrR x] rfl (Sl.alloc' sg rfl (by simp[ltrR])) rfl dk (zon [x]) (zgy [x]) (by unfold maxLen;omega) om _ rfl _ rfl ?_;intro A' k' w1 hx1 hown hk0 hst hgr hA;have HT3:=zh (Two5.more (HT2.out.swap.mono ex) hown hk0 hgr hA).swap;obtain⟨y1,rfl⟩:=hx1.get;clear hown hx1 hgr hA hst hk0);go_light;refine⟨⟨j2+1,by omega,by go_num,ex,_,_,_,_,_,_,rfl,by rw[List.length_append];rfl,zh ⟨?_,?_⟩,HT3⟩,by simp[intOf];omega⟩
      ·rw[zdi HK.out,if_neg (by unfold dueP;rw[HD.out];simp),←HE.out.1]
      ·rw[zdi HK.out,if_pos (by unfold dueP;rw[HD.out];rfl),←HE.out.2]
    ·have hys:ys=ys1.filter (dueP v.now):=by rw[HE.out.1,List.take_of_length_le om]
     have hns:ns=ys1.filter fun x=> !dueP v.now x:=by rw[HE.out.2,List.take_of_length_le om]
     have HY0:=zh hys;have HN0:=zh hns;clear HE hys hns;go_wp2_with (refine zae rfl 44 (.tmp 55) (.tmp 54) rfl (HT.out.box.mono ex) 20 rfl (.slice N (ns.map (·.1)).length kn) (by rw[List.length_map];rfl) (show 20<21 by decide) (show 21<44 by decide) kr rfl (Lz v v.delay v.cut v.a.node v.a.node.speaks v.a.node.next A1 a1 v.a.up v.a.quiet v.b.node v.b.node.speaks v.b.node.next B1 b1 v.b.up v.b.quiet N (ns.map (·.1)).length kn) rfl ?_;intro W3 t3 b3);have hys:=HY0.out;have hns:=HN0.out;have hN:∀p,N=some p→wr.heap.size≤p.block:=HT2.out.no.since HT2.out.nr;have hY:∀p,Y=some p→wr.heap.size≤p.block:=HT2.out.yes.since HT2.out.yr;have hs2:=HT.out.size;have hyx:∀x,x∈ys→x∈ys1:=fun x hx=>by rw[hys] at hx;exact(List.mem_filter.1 hx).1
     have hnx:∀x,x∈ns→x∈ys1:=fun x hx=>by rw[hns] at hx;exact(List.mem_filter.1 hx).1
     have hel3:∀x,x∈ys1→LogW w0 W3 x.2.1 x.1.msg.recs.length x.2.2 x.1.msg.recs:=fun x hx=>((HT.out.ww.el x hx).mono ex).turn t3;have hYo:=((HT2.out.yes.mono ex).turn t3 (fun p hp=>by have:=hY p hp;omega)).own;have hNo:=((HT2.out.no.mono ex).turn t3 (fun p hp=>by have:=hN p hp;omega)).own;have hYs:=hYo.sl;have hT3:TW w0 W 2 M xs W3 ⟨v.now,v.limit,v.delay,v.cut,v.a,v.b,ns.map (·.1)⟩ A1 a1 B1 b1 N kn ns:=⟨t3.ext (HT.out.ext.trans ex) (Nat.le_refl _),b3,fun e=>((HT.out.res e).mono ex).turn t3 om,by have h1:=t3.size;have h2:=(show Ext wr (xt wr y0) from ex).size;omega,⟨t3.ext (HT.out.ww.ext.trans ex) hsz,(HT.out.ww.qa.mono ex).turn t3,(HT.out.ww.qb.mono ex).turn t3,hNo.sl,hNo.le,hNo.cap,rfl,fun x hx=>hel3 x (hnx x hx)⟩,fun g hg _=> .inr fun p hp=>by have:=hN p hp;omega,fun g _ hg=> .inr fun p hp=>by have:=hN p hp;omega⟩
     have hxv:ys1.map (·.1)=v.mail:=HT.out.ww.is;have e2:tick2 v=⟨v.now,v.limit,v.delay,v.cut,v.a,v.b,ns.map (·.1)⟩:=by
      have e:ns.map (·.1)=lateL v.now v.mail:=by rw[hns,←hxv];exact zdX (fun x=> !decide (x.at_≤v.now)) ys1
      rw[e];rfl
     have e3:ys.map (·.1)=dueL v.now v.mail:=by rw[hys,←hxv];exact zdX (fun x=>decide (x.at_≤v.now)) ys1
     have hxok:∀x,x∈ys→LtrOk x.1:=fun x hx=>HVO.out.mail x.1 (by rw[←hxv];exact List.mem_map_of_mem (hyx x hx));have huok:WldOk (tick2 v):=⟨HVO.out.n0,HVO.out.n1,HVO.out.l0,HVO.out.l1,HVO.out.d0,HVO.out.d1,HVO.out.a,HVO.out.b,Nat.le_trans (List.length_filter_le _ _) HVO.out.len,fun x hx=>HVO.out.mail x (List.mem_filter.1 hx).1⟩
     rw[←e2] at hT3;obtain⟨u0,hu0⟩:∃uw,tick2 v=uw:=⟨_,rfl⟩
     rw[hu0] at hT3 huok;have HU0:=zh hu0;have H3:=zh e3;have HXO:=zh hxok;have HUO:=zh huok;have HE3:=zh (fun x hx=>hel3 x (hyx x hx));have HYS:=zh hYs;have HTT:=zh hT3;have hYb:∀p,Y=some p→p.block≠W.heap.size:=fun p hp=>by have:=hY p hp;omega
     have HYB:=zh hYb;clear e2 e3 hxok huok hYs hel3 hyx hnx hT3 hYo hNo hN hY hxv hu0 hys hns HT2 c0 c20 hYb t3 b3 HT HRL;go_wp2;go_loopw [9] (fun i wr=> ∃z,z=wr∧∃j:Nat,j≤ys.length∧i=.int .i64 j∧Hid (Sl z Y 8 (ys.map ltrR))∧Hid (∀x∈ys,LogW w0 z x.2.1 x.1.msg.recs.length x.2.2 x.1.msg.recs)∧∃A1 a1 B1 b1 N1 n1 ys1,Hid (TW w0 W 2 M xs z (((ys.take j).map (·.1)).foldl zau u0) A1 a1 B1 b1 N1 n1 ys1)) (fun i _=>ys.length - (intOf i).toNat)
     case atStart => exact ⟨_,rfl,0,by omega,rfl,HYS,HE3,A1,a1,B1,b1,N,kn,ns,HTT⟩
     case round =>
      clear HTT HE3 HYS;obtain⟨z,rfl,j3,hj3,rfl,HYS,HE3,A1,a1,B1,b1,N1,n1,ys1,HT⟩:=hrel;have HWK:=zh (zjL (p:=LtrOk) (fun w x h hx=>zfH h hx) ((ys.take j3).map (·.1)) u0 HUO.out (fun x hx=>by obtain⟨y,hy,rfl⟩:=List.mem_map.1 hx;exact HXO.out y (List.mem_of_mem_take hy)));by_cases hlt3:j3<ys.length
      ·obtain⟨x,hx⟩:∃x,ys[j3]?=some x:=⟨_,List.getElem?_eq_getElem hlt3⟩
       have hxm:=List.mem_of_getElem? hx;have HX:=zh hx;have HLX:=zh (HXO.out x hxm);have HLL:=zh (HE3.out x hxm);obtain⟨lb,lo,hE,d0,d1,d2,d3,d4,d5,d6,d7⟩:=HYS.out.row8 (i:=j3) (by rw[List.getElem?_map,hx];rfl);have hrl:=(HLL.out.recs HT.out.ww.ext (Ext.refl _)).len;subst hE;have hb0:(0:Int)≤(j3:Int):=by omega
       have hb2:(j3:Int)<(ys.length:Int):=by omega
       obtain⟨v3,hv3⟩:∃v,((ys.take j3).map (·.1)).foldl zau u0=v:=⟨_,rfl⟩
       rw[hv3] at HT HWK;have HVV:=zh hv3;obtain⟨uw,hu⟩:∃uw,zau v3 x.1=uw:=⟨_,rfl⟩
       have HU:=zh hu;have hrw:=HT.out.box.row (n:=21) rfl;have hs3:=HT.out.size;clear hx hxm hv3 hu;go_wp2_with fail;refine zGr 6 [] [] [Stab.is (.agg ((Lw v3 A1 a1 B1 b1 N1 n1):List Value).toArray),Stab.is (.slice (some ⟨lb,lo,none⟩) ys.length ky),Stab.is (.int .i64 j3),Stab.is (.pointer (some ⟨lb,lo+j3 * 8,none⟩)),Stab.is (.agg #[x.1.dst,x.1.at_,x.1.msg.kind,x.1.msg.term,x.1.msg.at_,x.1.msg.before,.slice x.2.1 x.1.msg.recs.length x.2.2,x.1.msg.acked]),Stab.retw w0 z.heap.size N1 ys1 uw] (fun u=>by(simp only[zc0,List.take_succ_cons,List.take_zero,Act.put,Nat.zero_add,Nat.reduceAdd]);(try simp only[lsT,lsS,lsZ]);exact rfl) kr kr kr (fun _ _ _ _ _ h=>h) ?_ ?_ ?_
       ·intro j9 hj9;cases hj9
       ·refine⟨zs_B0,zs_B0,zs_B0,(zs_B2 1 2),(zs_B1 3),?_,trivial⟩
        ·refine slb fun u y9 hd=>?_;have e0:u 0=.agg ((Lw v3 A1 a1 B1 b1 N1 n1):List Value).toArray:=hd 0 kr;have e4:u 4=.agg #[x.1.dst,x.1.at_,x.1.msg.kind,x.1.msg.term,x.1.msg.at_,x.1.msg.before,.slice x.2.1 x.1.msg.recs.length x.2.2,x.1.msg.acked]:=hd 4 kr;simp only[e0,e4];refine slr rfl rfl rfl rfl ?_;intro K9 hK;go_simp;go_at_call 96;refine(r55_delivered_as (HT.out.ww.mono ex) HWK.out.1 HLX.out (HLL.out.mono ex) HU.out).mono ?_;rintro e w9 ⟨A6,a6,B6,b6,M6,m6,xs6,rfl,hx,hw6,ha6⟩;exact hK _ _ rfl hx ⟨A6,a6,B6,b6,M6,m6,xs6,rfl,hw6,fun g hg h=>ha6 g (by simp[go_sem];omega) h⟩
       ·intro u w2 hx2 hT hdd;obtain⟨t0,t1,t2,t3,t4,t5,-⟩:=hT;obtain⟨y9,rfl⟩:=hx2.get;clear hx2;obtain⟨A6,a6,B6,b6,M6,m6,xs6,e5,hw6,ha6⟩:=t5;clear hdd;simp only[e5];clear e5 t0 t1 t2 t3 t4;simp only[List.drop_succ_cons,List.drop_zero];go_wp2_with (refine za2 rfl 46 (.tmp 2) (.tmp 67) rfl (HT.out.box.mono ex) rfl (Lw uw A6 a6 B6 b6 M6 m6) rfl rfl (show 21<44 by decide) kr (cells_one _ rfl) ?_;intro V1 t1 b1);go_light;exact⟨⟨_,rfl,j3+1,by omega,by go_num,zh ((HYS.out.mono ex).away (.inr HYB.out) t1),zh (fun y hy=>((HE3.out y hy).mono ex).turn t1),A6,a6,B6,b6,M6,m6,xs6,zh (by rw[zsy HX.out,HVV.out,HU.out];exact HT.out.step dk hsz ex (hw6.mono ex) ha6 t1 b1)⟩,by simp[intOf];omega⟩
      ·have hT4:=HT.out;have hok4:=HWK.out.1;have hto4:=HWK.out.2;rw[List.take_of_length_le om,H3.out,←HU0.out] at hT4 hok4 hto4;have e4:(dueL v.now v.mail).foldl zau (tick2 v)=tick3 v:=rfl;rw[e4] at hT4 hok4 hto4;have hn4:(tick3 v).now=w.now:=hto4.now.trans HVN.out;obtain⟨u3,hu3⟩:∃u3,tick3 v=u3:=⟨_,rfl⟩
       have HU3:=zh hu3;rw[hu3] at hT4 hok4 hn4;have hok5:=zgf hok4 (i:=1) (.inl rfl);have hn5:(workW (workW u3 1) 2).now=w.now:=((zgf hok5.1 (i:=2) (.inr rfl)).2.now.trans hok5.2.now).trans hn4;have HOK4:=zh hok4;have HOK5:=zh hok5.1;obtain⟨u4,hu4⟩:∃u4,workW u3 1=u4:=⟨_,rfl⟩
       rw[hu4] at hn5 HOK5;obtain⟨q5,hq5⟩:∃q5,workW u4 2=q5:=⟨_,rfl⟩
       rw[hq5] at hn5;have HU4:=zh hu4;have HQ5:=zh hq5;have HTT:=zh hT4;have hrw:=hT4.box.row (n:=21) rfl;have hs3:=hT4.size;have hwn0:=HOK.out.n0;have hw9:IntKind.i64.wrap (q5.now+1)=q5.now+1:=IntWalk.i64_in _ om;have hqa:0≤q5.now:=by omega
       have hqb:q5.now<1048576:=by omega
       clear hT4 hok4 hto4 e4 hu3 hok5 hu4 hq5 hn5 hn4 HT HWK HE3 HYS;go_wp2_with fail;go_at_call 97;refine(r55_wrk_a_as (HTT.out.ww.mono ex) HOK4.out HU4.out).mono ?_;rintro e w5 ⟨A5,a5,B5,b5,M5,m5,xs5,rfl,hx5,hw5,ha5⟩;have x5:=Ext.trans (show Ext z _ from ex) hx5;clear hx5;go_wp2_with fail;go_at_call 97;refine(r55_wrk_b_as (hw5.mono ex) HOK5.out HQ5.out).mono ?_;rintro e w6 ⟨A6,a6,B6,b6,M6,m6,xs6,rfl,hx6,hw6,ha6⟩;have x6:=Ext.trans (show Ext z _ from by repeat(first|exact Ext.refl _|assumption|apply Ext.xt|apply Ext.alloc|apply Ext.drew|apply Ext.drewN|refine Ext.trans ?_ (by assumption))) hx6;have x56:=(show Ext w5 w6 from Ext.trans ex hx6).size;have hx5s:=x5.size;clear hx6
       go_wp2_with (first
        |(refine za2 rfl 46 (.tmp 2) (.tmp 70) rfl (HTT.out.box.mono (by repeat(first|exact Ext.refl _|assumption|apply Ext.xt|apply Ext.alloc|apply Ext.drew|apply Ext.drewN|refine Ext.trans ?_ (by assumption)))) rfl (Lw q5 A6 a6 B6 b6 M6 m6) rfl rfl (show 21<44 by decide) kr (cells_one _ rfl) ?_;intro V1 t1 b1;have hT5:=HTT.out.step dk hsz (show Ext z _ from by repeat(first|exact Ext.refl _|assumption|apply Ext.xt|apply Ext.alloc|apply Ext.drew|apply Ext.drewN|refine Ext.trans ?_ (by assumption))) (hw6.mono ex) (fun g hg h=>ha6 g (by first|omega|(simp[go_sem];omega)) (ha5 g (by first|omega|(simp[go_sem];omega)) h)) t1 b1;have f0:=b1.c 0 rfl)
        |(refine zae rfl 3 (.tmp 74) (.tmp 73) rfl (hT5.box.mono ex) 0 rfl (.int .i64 (q5.now+1)) rfl (show 0<21 by decide) (show 21<44 by decide) kr rfl [.int .i64 (q5.now+1),q5.limit,q5.delay,q5.cut,q5.a.node.id,q5.a.node.term,q5.a.node.speaks,.slice A6 q5.a.node.log.length a6,q5.a.node.acked,q5.a.node.next,q5.a.up,q5.a.quiet,q5.b.node.id,q5.b.node.term,q5.b.node.speaks,.slice B6 q5.b.node.log.length b6,q5.b.node.acked,q5.b.node.next,q5.b.up,q5.b.quiet,.slice M6 q5.mail.length m6] rfl ?_;intro V7 t7 b7;have hrw:=b7.row (n:=21) rfl)
        |(refine za2 rfl 46 (.tmp 4) (.tmp 75) rfl ((((hT5.res rfl).mono ex).turn t7 om).mono ex) rfl [.int .i64 (q5.now+1),q5.limit,q5.delay,q5.cut,q5.a.node.id,q5.a.node.term,q5.a.node.speaks,.slice A6 q5.a.node.log.length a6,q5.a.node.acked,q5.a.node.next,q5.a.up,q5.a.quiet,q5.b.node.id,q5.b.node.term,q5.b.node.speaks,.slice B6 q5.b.node.log.length b6,q5.b.node.acked,q5.b.node.next,q5.b.up,q5.b.quiet,.slice M6 q5.mail.length m6] rfl rfl (show 21<44 by decide) kr (cells_one _ rfl) ?_;intro V9 t9 b9))
       refine bodyPost_ret (v:=.agg ([.int .i64 (q5.now+1),q5.limit,q5.delay,q5.cut,q5.a.node.id,q5.a.node.term,q5.a.node.speaks,.slice A6 q5.a.node.log.length a6,q5.a.node.acked,q5.a.node.next,q5.a.up,q5.a.quiet,q5.b.node.id,q5.b.node.term,q5.b.node.speaks,.slice B6 q5.b.node.log.length b6,q5.b.node.acked,q5.b.node.next,q5.b.up,q5.b.quiet,.slice M6 q5.mail.length m6]:List Value).toArray) (results_one (i:=4) (by simp[results58]) rfl b9.range rfl) rfl ?_;rw[tickW_5 w l HV.out HU3.out (show workW (workW u3 1) 2=q5 by rw[HU4.out];exact HQ5.out)];have x7:Ext W V7:=t7.ext (hT5.ext.trans ex) (Nat.le_refl _);have hV:Ext W V9:=t9.ext (x7.trans ex) om;have h7:=((hT5.ww.mono ex).turn t7 hsz (hT5.aw _ (Nat.le_refl _) om))
       have h9:=((h7.mono ex).turn t9 om (hT5.aw _ om om))
       exact⟨A6,a6,B6,b6,M6,m6,xs6,rfl,hV,⟨h9.ext,h9.qa,h9.qb,h9.sl,h9.le,h9.cap,h9.is,h9.el⟩,hT5.far⟩
end
