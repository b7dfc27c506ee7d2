import Derived.Test.YtnpdghjpcnjokaaGreatGwke
set_option maxHeartbeats 6400000
set_option maxRecDepth 100000
set_option linter.all false
namespace Go.Proofs.YtnpdghjpcnjokaaGreat
open Go.RowKit Go.Proofs.Tryz

section
variable {w0 W:World} {g:Nat} {w:Wld} {A B M:Option Addr} {a b m:Nat} {xs:List (Ltr×Option Addr×Nat)}
theorem Ext.over {a b c:World}(h:Ext a b){row:Option Nat}(hg:b.grownBy c row)(hr:∀k,row=some k→a.heap.size≤k):Ext a c:=Below.grown h hg h.size hr
def OffZ (M:Option Addr) (rows:List (List Value)) (z:Nat):Prop:=rows=[]∨∀p,M=some p→p.block≠z
theorem OffZ.sl {W V:World}{M:Option Addr}{rows:List (List Value)}{z:Nat}(h:OffZ M rows z)(hs:Sl W M 8 rows)(hg:W.grownBy V (some z)):Sl V M 8 rows:=by
 rcases h with h|h
 ·rw[h];exact Sl.nil V M 8
 ·exact hs.kept hg fun a ha e=>h a ha (by injection e)
theorem OffZ.start {V:World}{M:Option Addr}{rows:List (List Value)}{z:Nat}(hs:Sl V M 8 rows)(hz:V.heap.size≤z):OffZ M rows z:=by
 cases rows with
 |nil=>exact .inl rfl
 |cons r rs=>
  refine .inr fun p hp=> ?_;obtain⟨hl,b,o,hM,hc⟩:=hs.at_ 0 r rfl;rw[hM] at hp;injection hp with hp;subst hp;cases r with
  |nil=>cases hl
  |cons v vs=>have:b<V.heap.size:=lt_of_some (p:=⟨b,_,none⟩) (by rw[hc 0 v rfl];rfl);show b≠z;omega
theorem MailM.offZ {w0 W:World}{M:Option Addr}{m:Nat}{l:List Ltr}{xs:List (Ltr×Option Addr×Nat)}{z:Nat}{cs:List Value}(h:MailM w0 W M m l xs)(hb:BoxAt W z cs 30):OffZ M (xs.map ltrR) z:=by
 rcases h.own.own.at_ with h0|⟨q,cur,h1,h2,h3,h4⟩
 ·have hl:=h.own.own.le;have hi:=congrArg List.length h.is;rw[List.length_map] at hi;refine .inl ?_;rw[List.length_eq_zero_iff.1 (show xs.length=0 by omega)];rfl
 ·refine .inr fun p hp=> ?_;rw[h1] at hp;injection hp with hp;subst hp;intro e;have e:q=z:=e;subst e;unfold BoxAt at hb;rw[h3] at hb;injection hb with hb;injection hb with e1 e2;cases e2
theorem zxe {V:World}(hx:Ext w0 V)(hok:WldOk w)(ha:LogW w0 V A w.a.node.log.length a w.a.node.log)(hb:LogW w0 V B w.b.node.log.length b w.b.node.log)(hm:MailR w0 V M m w.mail xs){E:Option Addr}{ce:Nat}{l:List Evt}(hs:zbR V E ce l)(hel:∀x∈l,AcnAt w0 x.act)(hl0:evtsE l=0){T:Nat}(hT:T≤4096)(hn:w.now+T≤1048576){Z:Nat→Prop}{cs:Nat→List Value}(hbz:∀z,Z z→BoxAt V z (cs z) 30)(hoz:∀z,Z z→OffZ M (xs.map ltrR) z):Calls prog 59 #[.agg (Lw w A a B b M m),.slice E l.length ce,T,.func (Fn.func 60) #[] #[]] V fun e V1=>(∃A1 a1 B1 b1 M1 m1 xs1,e=.returned (.tuple #[.agg (Lw (seqW l w T) A1 a1 B1 b1 M1 m1),zI])∧LogW w0 V1 A1 (seqW l w T).a.node.log.length a1 (seqW l w T).a.node.log∧LogW w0 V1 B1 (seqW l w T).b.node.log.length b1 (seqW l w T).b.node.log∧MailR w0 V1 M1 m1 (seqW l w T).mail xs1∧∀z,Z z→OffZ M1 (xs1.map ltrR) z)∧Ext V V1∧∀z,Z z→BoxAt V1 z (cs z) 30:=by
 have hwa:WldAt V w A a B b M m xs:=⟨ha.recs hx (Ext.refl V),hb.recs hx (Ext.refl V),⟨hm.sl,by rw[←List.length_map (f:=(·.1)),hm.is];exact hm.le,hm.cap,fun x hx2=>(hm.el x hx2).recs hx (Ext.refl V)⟩,hm.is⟩
 have hla:=(ha.recs hx (Ext.refl V)).len;have hlb:=(hb.recs hx (Ext.refl V)).len;have hml:=hok.len;have hevl:=zfI hl0;have HWE:=zh (show ∀x∈l,EvtOk x from zei hl0);have HEA:=zh hel;have HES:=zh hs.sl;have HCK:=zh (fun(X:World) (hx:Ext V X)=>by have:=zeq (hwa.mono hx);rwa [(zge w).2 hok] at this);have HRT:=zh (fun(X:World) (hx:Ext V X)=>by have:=zgQ X (hs.mono hx);rwa [hl0] at this);have H3:=zh (show za5 (T:Int) 0 4096=true from decide_eq_true ⟨by omega,by omega⟩);have hd:decide ((1048576:Int)<w.now+T)=false:=decide_eq_false om;have hw0:=hok.n0;have hwr:IntKind.i64.wrap (w.now+T)=w.now+T:=IntWalk.i64_in _ om;have HQ:=zh (And.intro ha hb);have HMR:=zh hm;have HOK:=zh hok;have HX:=zh hx;have HZL:=zh (fun z (hz:Z z)=>(hbz z hz).lt);have HBZ:=zh hbz;have HOZ:=zh hoz;clear hbz hoz;clear hwa ha hb hm hs hel hl0 hok hx;go_enter func59,ntmps59
 go_wp2_with (first
  |(go_at_call 14;refine zzg (HCK.out _ ex) fun ya=>?_)
  |(go_at_call 16;refine zzg (HRT.out _ ex) fun yb=>?_)
  |(go_at_call 33;refine(zCe _ _ _ _).mono ?_;rintro e w' ⟨he,rfl⟩;simp only[H3.out] at he;subst he))
 go_loopw [39] (fun i wr=> ∃k:Nat,k≤T∧i=.int .i64 k∧Hid (Ext V wr)∧Hid (BoxAt wr (V.heap.size+1) Zw 30)∧Hid (Sl wr E 48 (l.map evtR))∧∃A1 a1 B1 b1 M1 m1 xs1,Hid (WldC w0 wr V.heap.size (seqW l w k) A1 a1 B1 b1 M1 m1)∧Hid (MailR w0 wr M1 m1 (seqW l w k).mail xs1)∧Hid (OffZ M1 (xs1.map ltrR) (V.heap.size+1))∧Hid (∀z,Z z→OffZ M1 (xs1.map ltrR) z)∧Hid (∀z,Z z→BoxAt wr z (cs z) 30)) (fun i _=>T - (intOf i).toNat)
 case atStart => exact ⟨0,by omega,rfl,zh ex,zh bxA,zh (HES.out.mono ex),A,a,B,b,M,m,xs,zh ⟨HX.out.trans ex,HX.out.size,bxA,HQ.out.1.mono ex,HQ.out.2.mono ex⟩,zh (HMR.out.mono ex),zh (OffZ.start HMR.out.sl om),HOZ,zh (fun z hz => (HBZ.out z hz).mono ex)⟩
 case round =>
  obtain⟨k,hk,rfl,HX2,HZ,HE2,A1,a1,B1,b1,M1,m1,xs1,HC2,HM2,HOF,HOZ2,HBZ2⟩:=hrel;by_cases hlt:k<T
  ·have hsq:=zhe HWE.out HOK.out k om;have HWK:=zh hsq.1;have hvn:=hsq.2.1;have c0:=HC2.out.box.c 0 rfl;have HSS:=zh (show seqW l w (k+1)=tickW (seqW l w k) (atL l (seqW l w k).now) from rfl);obtain⟨v,hv⟩:∃v,seqW l w k=v:=⟨_,rfl⟩
   rw[hv] at hvn c0 HC2 HM2 HWK HSS;have hvn1:v.now<1048576:=by omega
   have HEV:=zh (zjj HWE.out v.now);have HEC:=zh (show ∀x∈atL l v.now,AcnAt w0 x.act from fun x hx=>HEA.out x (List.mem_filter.1 hx).1);have hal:(atL l v.now).length≤1000:=Nat.le_trans (List.length_filter_le _ _) hevl;clear hv hsq hvn
   go_wp2_with (first
    |(go_at_call 98;refine(zir E ce l V.heap.size v.now _ (HE2.out.mono ex) hevl (Ext.cell ex c0)).mono ?_;rintro e w' ⟨Y,ky,N,n,kn,rfl,hx,hown⟩;have HY:=zh hown.sl;obtain⟨yd,rfl⟩:=hx.get;clear hx hown)
    |(go_at_call 57;refine(zlm (HC2.out.mono ex) (HM2.out.mono ex) HWK.out (HY.out.mono ex) HEC.out om HEV.out hvn1).mono ?_;rintro e W2 ⟨rfl,hg2,A2,a2,B2,b2,M2,m2,xs2,hC3,hM3⟩;have hXV:=zh (Ext.over (HX2.out.trans ex) hg2 (fun k hk=>by injection hk with hk;omega));have hZ3:=(HZ.out.mono ex).grownB hg2 om;have hB3:=zh (fun z (hz:Z z)=>((HBZ2.out z hz).mono ex).grownB hg2 (by have:=HZL.out z hz;omega));have hE3:=((HC2.out.mono ex).bent hg2 none).stay.slE (HE2.out.mono ex))
    |(go_at_call 60;refine(zAz _ _).mono ?_;rintro e W3 ⟨rfl,rfl⟩))
   go_light;exact⟨⟨k+1,by omega,by go_num,zh (hXV.out.trans ex),zh (hZ3.mono ex),zh (hE3.mono ex),A2,a2,B2,b2,M2,m2,xs2,zh (by rw[HSS.out];exact hC3.mono ex),zh (by rw[HSS.out];exact hM3.read.mono ex),zh (hM3.offZ hZ3),zh (fun z hz=>hM3.offZ (hB3.out z hz)),zh (fun z hz=>(hB3.out z hz).mono ex)⟩,by simp[intOf];omega⟩
  ·have hkT:k=T:=by omega
   subst hkT;have hrw:=HC2.out.box.row (n:=21) rfl;obtain⟨v,hv⟩:∃v,seqW l w k=v:=⟨_,rfl⟩
   have HVV:=zh hv;rw[hv] at hrw HC2 HM2;clear hv;go_wp2_with (refine za2 rfl 30 (.tmp 8) (.tmp 52) rfl (HZ.out.mono ex) rfl (Lw v A1 a1 B1 b1 M1 m1) rfl rfl (show 21<44 by decide) kr (zbm v A1 a1 B1 b1 M1 m1) ?_;intro W7 ht7 hb7);have hx7:Ext V W7:=ht7.ext (HX2.out.trans ex) om;refine bodyPost_ret (v:=.tuple #[.agg [.int .i64 v.now,.int .i64 v.limit,.int .i64 v.delay,.bool v.cut,.int .i64 v.a.node.id,.int .i64 v.a.node.term,.bool v.a.node.speaks,.slice A1 v.a.node.log.length a1,.int .i64 v.a.node.acked,.int .i64 v.a.node.next,.bool v.a.up,.int .i64 v.a.quiet,.int .i64 v.b.node.id,.int .i64 v.b.node.term,.bool v.b.node.speaks,.slice B1 v.b.node.log.length b1,.int .i64 v.b.node.acked,.int .i64 v.b.node.next,.bool v.b.up,.int .i64 v.b.quiet,.slice M1 v.mail.length m1].toArray,zI]) (zf1 (i:=8) (j:=9) (by simp[results59]) rfl rfl hb7.range rfl) rfl ?_;rw[HVV.out];exact⟨⟨A1,a1,B1,b1,M1,m1,xs1,rfl,(HC2.out.qa.mono ex).turn ht7,(HC2.out.qb.mono ex).turn ht7,⟨HOF.out.sl (HM2.out.sl.mono ex) ht7.grown,HM2.out.le,HM2.out.cap,HM2.out.is,fun x hx=>((HM2.out.el x hx).mono ex).turn ht7⟩,HOZ2.out⟩,hx7,fun z hz=>((HBZ2.out z hz).mono ex).turn ht7 (by have:=HZL.out z hz;omega)⟩
end

section
variable {w0 W:World} {g:Nat} {w:Wld} {A B M:Option Addr} {a b m:Nat} {xs:List (Ltr×Option Addr×Nat)}
theorem MailR.off {w0 V V1:World}{z:Nat}{M:Option Addr}{m:Nat}{l:List Ltr}{xs:List (Ltr×Option Addr×Nat)}(hm:MailR w0 V M m l xs)(ho:OffZ M (xs.map ltrR) z)(ht:Turn z V V1):MailR w0 V1 M m l xs:=
 ⟨ho.sl hm.sl ht.grown,hm.le,hm.cap,hm.is,fun x hx2=>(hm.el x hx2).turn ht⟩
theorem zlq {w0 V:World}{w:Wld}{A B M:Option Addr}{a b m:Nat}{xs:List (Ltr×Option Addr×Nat)}(ha:LogW w0 V A w.a.node.log.length a w.a.node.log)(hb:LogW w0 V B w.b.node.log.length b w.b.node.log)(hm:MailR w0 V M m w.mail xs)(hx:Ext w0 V):WldAt V w A a B b M m xs:=
 ⟨ha.recs hx (Ext.refl V),hb.recs hx (Ext.refl V),⟨hm.sl,by rw[←List.length_map (f:=(·.1)),hm.is];exact hm.le,hm.cap,fun x hx2=>(hm.el x hx2).recs hx (Ext.refl V)⟩,hm.is⟩
theorem zAA {V:World}(hx:Ext w0 V)(hok:WldOk w)(ha:LogW w0 V A w.a.node.log.length a w.a.node.log)(hb:LogW w0 V B w.b.node.log.length b w.b.node.log)(hm:MailR w0 V M m w.mail xs){E:Option Addr}{ce:Nat}{l:List Evt}(hs:zbR V E ce l)(hel:∀x∈l,AcnAt w0 x.act)(hl0:evtsE l=0){T:Nat}(hT:T≤4096)(hn:w.now+T≤1048576){Z:Nat→Prop}{cs:Nat→List Value}(hbz:∀z,Z z→BoxAt V z (cs z) 30)(hoz:∀z,Z z→OffZ M (xs.map ltrR) z):Calls prog 22 #[.agg (Lw w A a B b M m),.slice E l.length ce,T] V fun e V1=>(∃A1 a1 B1 b1 M1 m1 xs1,e=.returned (.tuple #[.agg (Lw (seqW l w T) A1 a1 B1 b1 M1 m1),zI])∧LogW w0 V1 A1 (seqW l w T).a.node.log.length a1 (seqW l w T).a.node.log∧LogW w0 V1 B1 (seqW l w T).b.node.log.length b1 (seqW l w T).b.node.log∧MailR w0 V1 M1 m1 (seqW l w T).mail xs1∧∀z,Z z→OffZ M1 (xs1.map ltrR) z)∧Ext V V1∧∀z,Z z→BoxAt V1 z (cs z) 30:=by
 have HZL:=zh (fun z (hz:Z z)=>(hbz z hz).lt)
 have HRUN:=zh (fun(W:World) (hxw:Ext V W) (cz:List Value) (hcz:BoxAt W (V.heap.size+1) cz 30)=>zxe (w0:=w0) (V:=W) (hx.trans hxw) hok (ha.mono hxw) (hb.mono hxw) (hm.mono hxw) (hs.mono hxw) hel hl0 hT hn (Z:=fun z=>Z z∨z=V.heap.size+1) (cs:=fun z=>if z=V.heap.size+1 then cz else cs z)
  (fun z hz=>by
   by_cases e:z=V.heap.size+1
   ·rw[if_pos e,e];exact hcz
   ·rw[if_neg e];exact(hbz z (hz.resolve_right e)).mono hxw)
  (fun z hz=>by
   by_cases e:z=V.heap.size+1
   ·exact OffZ.start hm.sl om
   ·exact hoz z (hz.resolve_right e)))
 have hla:=(ha.recs hx (Ext.refl V)).len;have hlb:=(hb.recs hx (Ext.refl V)).len;have hml:=hok.len;have hll:=zfI hl0;have hsz:=hx.size;clear hx ha hb hm hok hs hel hl0 hbz hoz;go_enter func22,ntmps22
 go_wp2_with (first
  |(go_at_call 59;refine(HRUN.out _ ex Zw bxA).mono ?_;rintro e V1 ⟨⟨A1,a1,B1,b1,M1,m1,xs1,rfl,ha1,hb1,hm1,ho1⟩,hx1,hz1⟩;replace hx1:=Ext.trans (show Ext V _ from ex) hx1;have hzb:=hz1 _ (Or.inr rfl);rw[if_pos rfl] at hzb)
  |(refine za2 rfl 30 (.tmp 6) (.tmp 12) rfl hzb rfl (Lw (seqW l w T) A1 a1 B1 b1 M1 m1) rfl rfl (show 21<44 by decide) kr (zbm _ _ _ _ _ _ _) ?_;intro W7 ht7 hb7))
 have hx7:Ext V W7:=ht7.ext hx1 om;refine bodyPost_ret (v:=.tuple #[.agg [.int .i64 (seqW l w T).now,.int .i64 (seqW l w T).limit,.int .i64 (seqW l w T).delay,.bool (seqW l w T).cut,.int .i64 (seqW l w T).a.node.id,.int .i64 (seqW l w T).a.node.term,.bool (seqW l w T).a.node.speaks,.slice A1 (seqW l w T).a.node.log.length a1,.int .i64 (seqW l w T).a.node.acked,.int .i64 (seqW l w T).a.node.next,.bool (seqW l w T).a.up,.int .i64 (seqW l w T).a.quiet,.int .i64 (seqW l w T).b.node.id,.int .i64 (seqW l w T).b.node.term,.bool (seqW l w T).b.node.speaks,.slice B1 (seqW l w T).b.node.log.length b1,.int .i64 (seqW l w T).b.node.acked,.int .i64 (seqW l w T).b.node.next,.bool (seqW l w T).b.up,.int .i64 (seqW l w T).b.quiet,.slice M1 (seqW l w T).mail.length m1].toArray,zI]) (zf1 (i:=6) (j:=7) (by simp[results22]) rfl rfl hb7.range rfl) rfl ?_;refine⟨⟨A1,a1,B1,b1,M1,m1,xs1,rfl,ha1.turn ht7,hb1.turn ht7,hm1.off (ho1 _ (.inr rfl)) ht7,fun z hz=>ho1 z (.inl hz)⟩,hx7,fun z hz=> ?_⟩;have h1:=hz1 z (.inl hz);have h2:=HZL.out z hz;rw[if_neg om] at h1;exact h1.turn ht7 om
theorem zqs (h:WldAt W w A a B b M m xs)(hok:WldOk w){E:Option Addr}{ce:Nat}{l:List Evt}(hs:zbR W E ce l)(hl0:evtsE l=0){T:Nat}(hT:T≤4096)(hn:w.now+T≤1048576):Calls prog 22 #[.agg (Lw w A a B b M m),.slice E l.length ce,T] W fun e W1=>(∃A1 a1 B1 b1 M1 m1 xs1,e=.returned (.tuple #[.agg (Lw (seqW l w T) A1 a1 B1 b1 M1 m1),zI])∧WldAt W1 (seqW l w T) A1 a1 B1 b1 M1 m1 xs1)∧Ext W W1:=by refine(zAA (w0:=W) (Ext.refl W) hok (LogW.of h.a (Ext.refl W)) (LogW.of h.b (Ext.refl W)) (h.mailR (Ext.refl W)) hs hs.el hl0 hT hn (Z:=fun _=>False) (cs:=fun _=>[]) (fun _ h=>h.elim) (fun _ h=>h.elim)).mono fun e W1 h1=> ?_;obtain⟨⟨A1,a1,B1,b1,M1,m1,xs1,he,ha1,hb1,hm1,-⟩,hx1,-⟩:=h1;exact⟨⟨A1,a1,B1,b1,M1,m1,xs1,he,zlq ha1 hb1 hm1 hx1⟩,hx1⟩
end
