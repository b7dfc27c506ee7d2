import Derived.Test.YtnpdghjpcnjokaaGreatGwka
set_option maxHeartbeats 6400000
set_option maxRecDepth 100000
set_option linter.all false
namespace Go.Proofs.YtnpdghjpcnjokaaGreat
open Go.RowKit Go.Proofs.Tryz

theorem Stay.slE {T1 T2:TypeId}{W W':World}{A:Option Addr}{l:List Evt}(h:Stay T1 T2 W W')(hs:Sl W A 48 (l.map evtR)):Sl W' A 48 (l.map evtR):=
 ⟨fun i row hr=>by
  obtain⟨h1,b,o,h2,h3⟩:=hs.at_ i row hr;refine⟨h1,b,o,h2,fun j v hv=>h.cell (h3 j v hv) fun ob hb hm=> ?_⟩;obtain⟨cs,T,fr,rfl,-,hno⟩:=hm;rw[List.getElem?_map] at hr;cases hl:l[i]? with
  |none=>rw[hl] at hr;cases hr
  |some r=>
   rw[hl] at hr;injection hr with hr;have h4:row[6]?=some (.string r.act.cue):=by rw[←hr];rfl
   have:=h3 6 _ h4;rw[cell_of_row W b _ cs T fr hb] at this;exact hno _ _ this⟩
theorem Own.turnW {w0 W V:World}{g:Nat}{cs:List Value}{M:Option Addr}{n m:Nat}{rows:List (List Value)}(h:Own w0 W 115 8 M n m rows)(hb:BoxAt W g cs 30)(ht:W.grownBy V (some g)):Own w0 V 115 8 M n m rows:=by
 refine⟨h.len,h.row,h.one,h.le,h.cap,?_⟩;rcases h.at_ with h0|⟨k,cur,h1,h2,h3,h4⟩
 ·exact .inl h0
 ·refine .inr ⟨k,cur,h1,h2,?_,h4⟩;rw[ht.block k (Array.getElem?_eq_some_iff.1 h3).1 fun e=> ?_]
  ·exact h3
  ·injection e with e;subst e;unfold BoxAt at hb;rw[h3] at hb;injection hb with hb;injection hb with e1 e2;cases e2
theorem OwnM.older {w0 w1 W:World}{E:TypeId}{size:Nat}{A:Option Addr}{n k:Nat}{rows:List (List Value)}(h:OwnM w1 W E size A n k rows)(hx:w0.heap.size≤w1.heap.size):OwnM w0 W E size A n k rows:=by
 refine⟨⟨h.own.len,h.own.row,h.own.one,h.own.le,h.own.cap,?_⟩,h.mute,h.low⟩;rcases h.own.at_ with h0|⟨g,cur,h1,h2,h3⟩
 ·exact .inl h0
 ·exact .inr ⟨g,cur,h1,Nat.le_trans hx h2,h3⟩
theorem OwnM.since {w0 W:World}{E:TypeId}{size:Nat}{A:Option Addr}{n k:Nat}{rows:List (List Value)}(h:OwnM w0 W E size A n k rows)(hr:A=none∨k≠0):∀p,A=some p→w0.heap.size≤p.block:=fun p hp=>by
 rcases h.own.at_ with h0|⟨g,cur,h1,h2,-⟩
 ·rcases hr with hr|hr
  ·rw[hr] at hp;cases hp
  ·exact absurd h0 hr
 ·rw[h1] at hp;injection hp with hp;subst hp;exact h2
@[go_sem] theorem nil_Ltr (A : Option Addr) (n c n' c' : Nat) (w : World) : (binOp .eql 28 (.slice A n c) (.slice none n' c')).run prog w = .ok (.bool A.isNone) w:=Lib.run_eql_slice_nil w _ _ A n c n' c' underlying28
theorem zCt (A:Option Addr)(k n:Nat)(xs:List (Ltr×Option Addr×Nat))(w:World)(hn:xs.length=n)(hs:Sl w A 8 (xs.map ltrR))(hl:n≤1000000):Calls prog 89 #[.slice A n k] w fun e w'=> ∃D K,e=.returned (.slice D n K)∧Ext w w'∧Own w w' 115 8 D n K (xs.map ltrR):=by
 subst hn;cases A with
 |none=>
  have hnil:xs=[]:=by simpa using hs.none_nil
  subst hnil;go_enter func89,ntmps89;go_wp2;go_ret;exact⟨_,_,rfl,ex,Own.nil _⟩
 |some a=>go_enter func89,ntmps89;go_wp2_with (at_builtin;refine za6 (w0:=w) rfl _ _ 28 28 rfl 115 115 8 80 underlying28 underlying28 zoi dk ex _ 0 0 [] rfl (Own.nil _) (some a) xs.length _ (xs.map ltrR) rfl (hs.mono ex) (by simp) (zon xs) (by unfold maxLen;omega) om xs.length om (xs.map ltrR) rfl ?_;intro A' k' w1 hx1 hown hg hA;have HO:=zh hown;obtain⟨y,rfl⟩:=hx1.get;clear hown hx1 hg hA);go_ret;exact⟨_,_,rfl,ex,HO.out⟩
theorem zxf (x:Ltr)(D:Option Addr)(K:Nat)(pw g:Nat)(now:Int)(w:World)(hp:w.cell? ⟨pw,0,none⟩=some (.pointer (some ⟨g,0,none⟩)))(hg:w.cell? ⟨g,0,none⟩=some (.int .i64 now)):Calls prog 92 #[.agg (Ll x D K),.pointer (some ⟨pw,0,none⟩)] w fun e w'=>e=.returned (.bool (decide (x.at_≤now)))∧Ext w w':=by go_enter func92,ntmps92;go_wp2;(refine zcL kr kr ?_;(repeat(go_big_quiet_step (fail)));refine wqN fun y=>?_);go_wp2;go_ret;exact⟨rfl,ex⟩
section
variable {P:Program} {ops:Array Oper} {rest:List Oper} {o:Oper} {a:Act} {Q:Exit→Act→World→Prop} {w0 W:World}
theorem zeI (hgd:o.guard=none) (T2:TypeId) (s x:Operand) (t tx:TypeId) (ho:o.op=.call {callee:=.builtin .append,args:=#[s,x],argTypes:=#[t,tx]}) (E e':TypeId) (size bytes:Nat) (ht:P.underlying t=some (.slice E)) (htx:P.underlying tx=some (.slice e'))
  (hI:zbz P E size bytes=true) (hZ:zgg P E=true) (hpos:0<size) (hx:Ext w0 W) (A:Option Addr) (n k:Nat) (rows:List (List Value)) (hs:a.eval s=.slice A n k) (hown:OwnM w0 W E size A n k rows) (hAk:A=none∨k≠0) (hrs:∀r∈rows,∀u∈r,noStr u=true)
  (B:Option Addr) (m c:Nat) (news:List (List Value)) (hxv:a.eval x=.slice B m c) (hsl:Sl W B size news) (hm:news.length=m) (hmp:0<m) (hn1:∀r∈news,∀u∈r,u.oneCell'=true) (hns:∀r∈news,∀u∈r,noStr u=true) (h63:n+m≤maxLen) (hbytes:(n+m) * bytes≤140737488355328) (N:Nat) (hN:n+m=N) (all:List (List Value)) (hall:rows++news=all)
  (h:∀A' k' w',Ext w0 w'→OwnM w0 w' E size A' N k' all→k'≠0→Stay E T2 W w'→W.grownBy w' (A.map (·.block))→(A'=A∨A'=some ⟨W.heap.size,0,none⟩)→wpList P ops Q rest (a.put o.dst (.slice A' N k')) w'):wpList P ops Q (o::rest) a W:=
 wpList_plain hgd fun _ hK=>zcw T2 s x t tx ho E e' size bytes ht htx hI hZ hpos hx A n k rows hs hown hAk hrs B m c news hxv hsl hm hmp hn1 hns h63 hbytes N hN all hall fun A' k' w' h1 h2 h3 h4 h5 h6=>hK _ _ (h A' k' w' h1 h2 h3 h4 h5 h6)
end
structure Two2 (w W : World) (Y : Option Addr) (ky : Nat) (ys : List (Ltr × Option Addr × Nat)) (N : Option Addr) (kn : Nat) (ns : List (Ltr × Option Addr × Nat)) : Prop where
 yes:OwnM w W 115 8 Y ys.length ky (ys.map ltrR)
 yr:Y=none∨ky≠0
 no:OwnM w W 115 8 N ns.length kn (ns.map ltrR)
 nr:N=none∨kn≠0
 apart:∀p q,Y=some p→N=some q→p.block≠q.block
theorem Two2.mono {w W V:World}{Y N:Option Addr}{ky kn:Nat}{ys ns:List (Ltr×Option Addr×Nat)}(h:Two2 w W Y ky ys N kn ns)(hx:Ext W V):Two2 w V Y ky ys N kn ns:=⟨h.yes.mono hx,h.yr,h.no.mono hx,h.nr,h.apart⟩
theorem Two2.nil (w W:World):Two2 w W none 0 [] none 0 []:=⟨OwnM.nil _ _ _ _,.inl rfl,OwnM.nil _ _ _ _,.inl rfl,fun _ _ h=>by cases h⟩
theorem Two2.more {w W V:World}{Y N Y':Option Addr}{ky kn k':Nat}{ys ns:List (Ltr×Option Addr×Nat)}{x:Ltr×Option Addr×Nat}(h:Two2 w W Y ky ys N kn ns)(ho:OwnM w V 115 8 Y' (ys.length+1) k' (ys.map ltrR++[ltrR x]))(hk:k'≠0)(hg:W.grownBy V (Y.map (·.block)))(hA:Y'=Y∨Y'=some ⟨W.heap.size,0,none⟩):Two2 w V Y' k' (ys++[x]) N kn ns:=by
 have e1:ys.map ltrR++[ltrR x]=(ys++[x]).map ltrR:=by rw[List.map_append];rfl
 rw[e1] at ho;refine⟨by rw[List.length_append];exact ho,.inr hk,h.no.kept hg (fun q hq e=> ?_),h.nr,fun p q hp hq e=> ?_⟩
 ·cases hY:Y with
  |none=>rw[hY] at e;cases e
  |some p=>rw[hY] at e;simp only[Option.map_some,Option.some.injEq] at e;exact h.apart p q hY hq e.symm
 ·rcases hA with rfl|rfl
  ·exact h.apart p q hp hq e
  ·injection hp with hp;subst hp;have:=h.no.low q hq;simp only at e;omega
theorem Two2.swap {w W:World}{Y N:Option Addr}{ky kn:Nat}{ys ns:List (Ltr×Option Addr×Nat)}(h:Two2 w W Y ky ys N kn ns):Two2 w W N kn ns Y ky ys:=⟨h.no,h.nr,h.yes,h.yr,fun p q hp hq e=>h.apart q p hq hp e.symm⟩
def dueP (now:Int) (x:Ltr×Option Addr×Nat):Bool:=decide (x.1.at_≤now)
theorem zdi {α:Type}{p:α→Bool}{l:List α}{k:Nat}{x:α}(h:l[k]?=some x):(l.take (k+1)).filter p=if p x=true then(l.take k).filter p++[x] else(l.take k).filter p:=by
 obtain⟨hk,rfl⟩:=List.getElem?_eq_some_iff.1 h;rw[List.take_succ_eq_append_getElem hk,List.filter_append];split
 ·rename_i hp;rw[List.filter_cons,if_pos hp,List.filter_nil]
 ·rename_i hp;rw[List.filter_cons,if_neg hp,List.filter_nil,List.append_nil]
theorem zwT (A:Option Addr)(c:Nat)(xs:List (Ltr×Option Addr×Nat))(pw g:Nat)(now:Int)(w:World)(hs:Sl w A 8 (xs.map ltrR))(hx:xs.length≤1000000)(hr:∀x∈xs,x.1.msg.recs.length≤9223372036854775807)(hp:w.cell? ⟨pw,0,none⟩=some (.pointer (some ⟨g,0,none⟩)))(hg:w.cell? ⟨g,0,none⟩=some (.int .i64 now)):
  Calls prog 91 #[.slice A xs.length c,.func (Fn.func 92) #[] #[.pointer (some ⟨pw,0,none⟩)]] w fun e w'=> ∃Y ky N kn,e=.returned (.tuple #[.slice Y (xs.filter (dueP now)).length ky,.slice N (xs.filter fun x=> !dueP now x).length kn])∧Ext w w'∧Two2 w w' Y ky (xs.filter (dueP now)) N kn (xs.filter fun x=> !dueP now x):=by
 have HS:=zh hs;have HR:=zh hr;have HP:=zh hp;have HG:=zh hg;clear hs hr hp hg;go_enter func91,ntmps91;go_wp2;go_loopw [12,6,7] (fun i y n wr=> ∃k:Nat,k≤xs.length∧i=.int .i64 k∧Ext w wr∧∃Y ky ys N kn ns,y=.slice Y ys.length ky∧n=.slice N ns.length kn∧Hid (ys=(xs.take k).filter (dueP now)∧ns=(xs.take k).filter fun x=> !dueP now x)∧Hid (Two2 w wr Y ky ys N kn ns)) (fun i _ _ _=>xs.length - (intOf i).toNat)
 case atStart => exact ⟨0,by omega,rfl,ex,none,0,[],none,0,[],rfl,rfl,zh ⟨rfl,rfl⟩,zh (Two2.nil _ _)⟩
 case round =>
  obtain⟨k,hk,rfl,hxx,Y,ky,ys,N,kn,ns,rfl,rfl,HE,HT⟩:=hrel;obtain⟨y0,rfl⟩:=hxx.get;clear hxx;by_cases hlt:k<xs.length
  ·obtain⟨x,hxk⟩:∃x,xs[k]?=some x:=⟨_,List.getElem?_eq_getElem hlt⟩
   have hrl:=HR.out x (List.mem_of_getElem? hxk);have HK:=zh hxk;obtain⟨b,o,rfl,c0,c1,c2,c3,c4,c5,c6,c7⟩:=HS.out.row8 (i:=k) (by rw[List.getElem?_map,hxk];rfl);have hb0:(0:Int)≤(k:Int):=by omega
   have hb2:(k:Int)<(xs.length:Int):=by omega
   have hyl:ys.length≤1000000:=by rw[HE.out.1];exact Nat.le_trans (List.length_filter_le _ _) (by rw[List.length_take];omega)
   have hnl:ns.length≤1000000:=by rw[HE.out.2];exact Nat.le_trans (List.length_filter_le _ _) (by rw[List.length_take];omega)
   clear hxk;by_cases hd:x.1.at_≤now
   ·have hd1:decide (x.1.at_≤now)=true:=decide_eq_true hd;have HD:=zh hd1;clear hd
    go_wp2_with (first
     |(go_at_call 92;refine zzg (zxf x.1 x.2.1 x.2.2 pw g now _ (Ext.cell ex HP.out) (Ext.cell ex HG.out)) fun y=>?_)
     |(at_builtin;refine zeI (w0:=w) rfl 30 _ _ 28 28 rfl 115 115 8 80 underlying28 underlying28 zoi zuA dk ex Y ys.length ky (ys.map ltrR) rfl (HT.out.yes.mono ex) HT.out.yr (zgy _) _ 1 1 [ltrR x] rfl (Sl.alloc' sg rfl (by simp[ltrR])) rfl dk (zon [x]) (zgy [x]) (by unfold maxLen;omega) om _ rfl _ rfl ?_;intro A' k' w1 hx1 hown hk0 hst hgr hA;have HT2:=zh (Two2.more (HT.out.mono ex) hown hk0 hgr hA);obtain⟨y1,rfl⟩:=hx1.get;clear hown hx1 hgr hA hst hk0))
    go_light;refine⟨⟨k+1,by omega,by go_num,ex,_,_,_,_,_,_,by rw[List.length_append];rfl,rfl,zh ⟨?_,?_⟩,HT2⟩,by simp[intOf];omega⟩
    ·rw[zdi HK.out,if_pos (show dueP now x=true from HD.out),←HE.out.1]
    ·rw[zdi HK.out,if_neg (by unfold dueP;rw[HD.out];simp),←HE.out.2]
   ·have hd1:decide (x.1.at_≤now)=false:=decide_eq_false hd;have HD:=zh hd1;clear hd
    go_wp2_with (first
     |(go_at_call 92;refine zzg (zxf x.1 x.2.1 x.2.2 pw g now _ (Ext.cell ex HP.out) (Ext.cell ex HG.out)) fun y=>?_)
     |(at_builtin;refine zeI (w0:=w) rfl 30 _ _ 28 28 rfl 115 115 8 80 underlying28 underlying28 zoi zuA dk ex N ns.length kn (ns.map ltrR) rfl (HT.out.no.mono ex) HT.out.nr (zgy _) _ 1 1 [ltrR x] rfl (Sl.alloc' sg rfl (by simp[ltrR])) rfl dk (zon [x]) (zgy [x]) (by unfold maxLen;omega) om _ rfl _ rfl ?_;intro A' k' w1 hx1 hown hk0 hst hgr hA;have HT2:=zh (Two2.more (HT.out.swap.mono ex) hown hk0 hgr hA).swap;obtain⟨y1,rfl⟩:=hx1.get;clear hown hx1 hgr hA hst hk0))
    go_light;refine⟨⟨k+1,by omega,by go_num,ex,_,_,_,_,_,_,rfl,by rw[List.length_append];rfl,zh ⟨?_,?_⟩,HT2⟩,by simp[intOf];omega⟩
    ·rw[zdi HK.out,if_neg (by unfold dueP;rw[HD.out];simp),←HE.out.1]
    ·rw[zdi HK.out,if_pos (by unfold dueP;rw[HD.out];rfl),←HE.out.2]
  ·have e1:ys=xs.filter (dueP now):=by rw[HE.out.1,List.take_of_length_le om]
   have e2:ns=xs.filter fun x=> !dueP now x:=by rw[HE.out.2,List.take_of_length_le om]
   subst e1 e2;go_wp2;go_ret2;exact⟨_,_,_,_,rfl,ex,HT.out.mono ex⟩

section
variable {w0 W:World} {g:Nat} {w:Wld} {A B M:Option Addr} {a b m:Nat} {xs:List (Ltr×Option Addr×Nat)}
theorem StepC.of {v:Wld}{V W':World}{e:Ending}(hx:Ext W V)(h:StepC w0 V g v M m e W'):StepC w0 W g v M m e W':=⟨h.1,zac (hx.grown _) h.2.1,h.2.2⟩
theorem EvtAt.mono {V:World}{b o:Nat}{x:Evt}(h:EvtAt W b o x)(hx:Ext W V):EvtAt V b o x:=⟨zfq hx h.row,zfq hx h.act,hx.cell h.tick,hx.cell h.kind,hx.cell h.station,hx.cell h.delay⟩
theorem EvtAt.new (b:Nat)(hb:W.heap.size=b)(x:Evt)(T:TypeId):EvtAt (W.alloc (.cells (evtR x).toArray T)) b 0 x:=EvtAt.of (zag W hb (evtR x) T)
theorem zC8 (h:WldC w0 W g w A a B b M m){be:Nat}{x:Evt}(he:EvtAt W be 0 x)(ha:AcnAt w0 x.act){n:Nod}{er:Int}{bu:Bool}(hv:actV w.a.node x.act=(n,er))(hu:w.a.up=bu){v:Wld}(hv1:bu=true→er=0→v=⟨w.now,w.limit,w.delay,w.cut,⟨n,true,w.a.quiet⟩,w.b,w.mail⟩)(hv0:¬(bu=true∧er=0)→v=w):Calls prog 127 #[.pointer (some ⟨g,4,none⟩),.pointer (some ⟨be,0,none⟩)] W (StepC w0 W g v M m):=by
 have HC:=Lib.hid h;have HV1:=zh hv1;have HV0:=zh hv0;clear hv1 hv0;have hla:=(h.qa.recs h.ext (Ext.refl W)).len;have hlb:=(h.qb.recs h.ext (Ext.refl W)).len;have HA:=zh (fun(V:World) (hx:Ext W V)=>(zgl w.a.node A a x.act V (h.qa.recs h.ext hx) (ha.mono (h.ext.trans hx))).mono fun _ _ q=>zaH.parts q hv (w0:=w0) (by have:=zg4 (R:=fun r=>AcnAt w0 r.act) w.a.node x.act h.qa.el ha;rwa [hv] at this));have hr:=he.act;refine h.box.cB fun c0 c1 c2 c3 c4 c5 c6 c7 c8 c9 c10 c11 c12 c13 c14 c15 c16 c17 c18 c19 c20=>?_;rw[hu] at c10;have HU:=zh hu;clear hu;have hgl:g<W.heap.size:=h.box.lt;clear h hv he ha;go_enter func127,ntmps127;go_wp2_with fail;refine zaG (fun W9 hW9=> ?_);have x9:Ext W W9:=by rw[hW9];exact ex
 have h9:=HC.out.mono x9;replace hr:=zfq x9 hr;have hs9:W.heap.size≤W9.heap.size:=x9.size;clear hW9 c0 c1 c2 c3 c4 c5 c6 c7 c8 c9 c10 c11 c12 c13 c14 c15 c16 c17 c18 c19 c20;refine h9.box.cB fun c0 c1 c2 c3 c4 c5 c6 c7 c8 c9 c10 c11 c12 c13 c14 c15 c16 c17 c18 c19 c20=>?_;rw[HU.out] at c10;refine zrD 11 [9] [Stab.is (.pointer (some ⟨g,4,none⟩)),Stab.is (.pointer (some ⟨g,4,none⟩)),Stab.is (.pointer (some ⟨g,4,none⟩)),Stab.is (.agg (Ln w.a.node A a)),Stab.is (.pointer (some ⟨be,3,none⟩)),Stab.is (.agg (acnR x.act).toArray),Stab.gotn w0 n er,Stab.gotn w0 n er,Stab.nod w0 n,Stab.is (.int .i64 er),Stab.box W9.heap.size Zn 24] (fun u=>by(simp only[zc0,List.take_succ_cons,List.take_zero,Act.put,Nat.zero_add,Nat.reduceAdd]);(try simp only[lsT,lsS,lsZ]);exact rfl) kr kr (fun _ _ _ _ _ h=>h) ?_ ?_
 ·refine⟨?_,?_,?_,?_,?_,?_,?_,?_,?_,?_,?_,trivial⟩
  ·refine sla fun u y9 hd=>?_;refine za0 rfl rfl rfl ?_;intro K9 hK;go_simp;exact hK _ _ rfl ex rfl
  ·refine sla fun u y9 hd=>?_;have e0:u 0=.pointer (some ⟨g,4,none⟩):=hd 0 kr;simp only[e0];refine za0 rfl rfl rfl ?_;intro K9 hK;go_simp;exact hK _ _ rfl ex rfl
  ·refine sla fun u y9 hd=>?_;have e1:u 1=.pointer (some ⟨g,4,none⟩):=hd 1 kr;simp only[e1];refine za0 rfl rfl rfl ?_;intro K9 hK;go_simp;exact hK _ _ rfl ex rfl
  ·refine sla fun u y9 hd=>?_;have e2:u 2=.pointer (some ⟨g,4,none⟩):=hd 2 kr;simp only[e2];refine za0 rfl rfl rfl ?_;intro K9 hK;go_simp;exact hK _ _ rfl ex rfl
  ·refine sla fun u y9 hd=>?_;refine za0 rfl rfl rfl ?_;intro K9 hK;go_simp;exact hK _ _ rfl ex rfl
  ·refine sla fun u y9 hd=>?_;have e4:u 4=.pointer (some ⟨be,3,none⟩):=hd 4 kr;simp only[e4];refine za0 rfl rfl rfl ?_;intro K9 hK;go_simp;exact hK _ _ rfl ex rfl
  ·refine sla fun u y9 hd=>?_;have e3:u 3=.agg (Ln w.a.node A a):=hd 3 kr;have e5:u 5=.agg (acnR x.act).toArray:=hd 5 kr;simp only[e3,e5];refine za0 rfl rfl rfl ?_;intro K9 hK;go_simp;go_at_call 70;refine(HA.out _ (x9.trans ex)).mono ?_;rintro e w' ⟨D,K,rfl,hx,hl⟩;exact hK _ _ rfl hx ⟨D,K,rfl,hl⟩
  ·refine sla fun u y9 hd=>?_;obtain⟨D6,K6,e6,h6⟩:=hd 6 kr;simp only[e6];refine za0 rfl rfl rfl ?_;intro K9 hK;go_simp;exact hK _ _ rfl ex ⟨D6,K6,rfl,h6⟩
  ·refine sla fun u y9 hd=>?_;obtain⟨D6,K6,e7,h6⟩:=hd 7 kr;simp only[e7];refine za0 rfl rfl rfl ?_;intro K9 hK;go_simp;exact hK _ _ rfl ex ⟨D6,K6,rfl,h6⟩
  ·(show PureA _ _ _ _ _ _);intro u w1 hx1 hd;obtain⟨y9,rfl⟩:=hx1.get;clear hx1
   obtain⟨D6,K6,e7,h6⟩:=hd 7 kr;simp only[e7];refine zaI (v:=.int .i64 er) rfl rfl (fun w9=> ?_) rfl;go_simp
  ·refine sla fun u y9 hd=>?_;refine za0 rfl rfl rfl ?_;intro K9 hK;go_simp;exact hK _ _ rfl ex ⟨_,rfl,(by first|exact Nat.le_refl _|omega|(simp[go_sem];done)|(simp[go_sem];omega)),BoxAt.new (by first|rfl|simp[go_sem]) _ _⟩
 ·intro u w2 hx2 hT;obtain⟨t0,t1,t2,t3,t4,t5,t6,t7,t8,t9,t10,-⟩:=hT;obtain⟨y9,rfl⟩:=hx2.get;clear hx2;obtain⟨D8,K8,e8,h8⟩:=t8;have e9:u 9=.int .i64 er:=t9;obtain⟨g10,e10,hg10,b10⟩:=t10;simp only[e8,e9,e10];clear e8 e9 e10 t0 t1 t2 t3 t4 t5 t6 t7 t9;simp only[List.drop_succ_cons,List.drop_zero];have hxx:Ext W9 (xt W9.drew y9):=ex;by_cases hc:bu=true∧er=0;rotate_left
  ·have hve:=(HV0.out hc).symm;subst hve;cases bu with
   |false=>
    go_wp2_with (refine za2 rfl 24 (.tmp 3) (.tmp 13) rfl b10 rfl (Ln n D8 K8) rfl rfl (show 6<44 by decide) kr (zaa n D8 K8) ?_;intro W1 ht1 hb1;have x1:Ext W9 W1:=ht1.ext hxx hg10;have h1:=h9.mono x1;clear c0 c1 c2 c3 c4 c5 c6 c7 c8 c9 c10 c11 c12 c13 c14 c15 c16 c17 c18 c19 c20;obtain⟨d0,d1,d2,d3,d4,d5⟩:=hb1.six;have c10:=h1.box.c 10 rfl;rw[HU.out] at c10)
    (first|go_end0|(refine bodyPost_ret (results_none rfl _ _ _) rfl ?_))
    exact⟨rfl,zac ((x9.trans x1).grown _) (Ext.grown ex _),_,_,_,_,h1.mono ex⟩
   |true=>
    have hz:(er==0)=false:=by simpa using hc
    clear hc;go_wp2_with (refine za2 rfl 24 (.tmp 3) (.tmp 13) rfl b10 rfl (Ln n D8 K8) rfl rfl (show 6<44 by decide) kr (zaa n D8 K8) ?_;intro W1 ht1 hb1;have x1:Ext W9 W1:=ht1.ext hxx hg10;have h1:=h9.mono x1;clear c0 c1 c2 c3 c4 c5 c6 c7 c8 c9 c10 c11 c12 c13 c14 c15 c16 c17 c18 c19 c20;obtain⟨d0,d1,d2,d3,d4,d5⟩:=hb1.six;have c10:=h1.box.c 10 rfl;rw[HU.out] at c10)
    (first|go_end0|(refine bodyPost_ret (results_none rfl _ _ _) rfl ?_))
    exact⟨rfl,zac ((x9.trans x1).grown _) (Ext.grown ex _),_,_,_,_,h1.mono ex⟩
  obtain⟨hc1,hc2⟩:=hc;subst hc1;subst hc2;have hve:=HV1.out rfl rfl;subst hve
  go_wp2_with (first
   |(refine za2 rfl 24 (.tmp 3) (.tmp 13) rfl b10 rfl (Ln n D8 K8) rfl rfl (show 6<44 by decide) kr (zaa n D8 K8) ?_;intro W1 ht1 hb1;have x1:Ext W9 W1:=ht1.ext hxx hg10;have h1:=h9.mono x1;clear c0 c1 c2 c3 c4 c5 c6 c7 c8 c9 c10 c11 c12 c13 c14 c15 c16 c17 c18 c19 c20;obtain⟨d0,d1,d2,d3,d4,d5⟩:=hb1.six;have c10:=h1.box.c 10 rfl;rw[HU.out] at c10;have hbo:BoxAt W1 g (Lv w w.a.node A a true w.a.quiet w.b.node B b w.b.up w.b.quiet M m) 30:=(by have:=h1.box;rw[HU.out] at this;exact this))
   |(refine zab rfl 24 (.tmp 26) (.tmp 24) rfl (hbo.mono ex) 4 rfl (Ln n D8 K8) rfl (show 10≤21 by decide) (show 21<44 by decide) kr (zaa n D8 K8) (Lv w n D8 K8 true w.a.quiet w.b.node B b w.b.up w.b.quiet M m) rfl ?_;intro W5 ht5 hb5))
  (first|go_end0|(refine bodyPost_ret (results_none rfl _ _ _) rfl ?_))
  exact⟨rfl,zac ((x9.trans x1).grown _) (zac (Ext.grown ex _) ht5.grown),_,_,_,_,⟨ht5.ext (h1.ext.trans ex) h1.ge,h1.ge,hb5,((h8.turn ht1).mono ex).turn ht5,(h1.qb.mono ex).turn ht5⟩⟩
theorem zC9 (h:WldC w0 W g w A a B b M m){be:Nat}{x:Evt}(he:EvtAt W be 0 x)(ha:AcnAt w0 x.act){n:Nod}{er:Int}{bu:Bool}(hv:actV w.b.node x.act=(n,er))(hu:w.b.up=bu){v:Wld}(hv1:bu=true→er=0→v=⟨w.now,w.limit,w.delay,w.cut,w.a,⟨n,true,w.b.quiet⟩,w.mail⟩)(hv0:¬(bu=true∧er=0)→v=w):Calls prog 127 #[.pointer (some ⟨g,12,none⟩),.pointer (some ⟨be,0,none⟩)] W (StepC w0 W g v M m):=by
 have HC:=Lib.hid h;have HV1:=zh hv1;have HV0:=zh hv0;clear hv1 hv0;have hla:=(h.qa.recs h.ext (Ext.refl W)).len;have hlb:=(h.qb.recs h.ext (Ext.refl W)).len;have HA:=zh (fun(V:World) (hx:Ext W V)=>(zgl w.b.node B b x.act V (h.qb.recs h.ext hx) (ha.mono (h.ext.trans hx))).mono fun _ _ q=>zaH.parts q hv (w0:=w0) (by have:=zg4 (R:=fun r=>AcnAt w0 r.act) w.b.node x.act h.qb.el ha;rwa [hv] at this));have hr:=he.act;refine h.box.cB fun c0 c1 c2 c3 c4 c5 c6 c7 c8 c9 c10 c11 c12 c13 c14 c15 c16 c17 c18 c19 c20=>?_;rw[hu] at c18;have HU:=zh hu;clear hu;have hgl:g<W.heap.size:=h.box.lt;clear h hv he ha;go_enter func127,ntmps127;go_wp2_with fail;refine zaG (fun W9 hW9=> ?_);have x9:Ext W W9:=by rw[hW9];exact ex
 have h9:=HC.out.mono x9;replace hr:=zfq x9 hr;have hs9:W.heap.size≤W9.heap.size:=x9.size;clear hW9 c0 c1 c2 c3 c4 c5 c6 c7 c8 c9 c10 c11 c12 c13 c14 c15 c16 c17 c18 c19 c20;refine h9.box.cB fun c0 c1 c2 c3 c4 c5 c6 c7 c8 c9 c10 c11 c12 c13 c14 c15 c16 c17 c18 c19 c20=>?_;rw[HU.out] at c18;refine zrD 11 [9] [Stab.is (.pointer (some ⟨g,12,none⟩)),Stab.is (.pointer (some ⟨g,12,none⟩)),Stab.is (.pointer (some ⟨g,12,none⟩)),Stab.is (.agg (Ln w.b.node B b)),Stab.is (.pointer (some ⟨be,3,none⟩)),Stab.is (.agg (acnR x.act).toArray),Stab.gotn w0 n er,Stab.gotn w0 n er,Stab.nod w0 n,Stab.is (.int .i64 er),Stab.box W9.heap.size Zn 24] (fun u=>by(simp only[zc0,List.take_succ_cons,List.take_zero,Act.put,Nat.zero_add,Nat.reduceAdd]);(try simp only[lsT,lsS,lsZ]);exact rfl) kr kr (fun _ _ _ _ _ h=>h) ?_ ?_
 ·refine⟨?_,?_,?_,?_,?_,?_,?_,?_,?_,?_,?_,trivial⟩
  ·refine sla fun u y9 hd=>?_;refine za0 rfl rfl rfl ?_;intro K9 hK;go_simp;exact hK _ _ rfl ex rfl
  ·refine sla fun u y9 hd=>?_;have e0:u 0=.pointer (some ⟨g,12,none⟩):=hd 0 kr;simp only[e0];refine za0 rfl rfl rfl ?_;intro K9 hK;go_simp;exact hK _ _ rfl ex rfl
  ·refine sla fun u y9 hd=>?_;have e1:u 1=.pointer (some ⟨g,12,none⟩):=hd 1 kr;simp only[e1];refine za0 rfl rfl rfl ?_;intro K9 hK;go_simp;exact hK _ _ rfl ex rfl
  ·refine sla fun u y9 hd=>?_;have e2:u 2=.pointer (some ⟨g,12,none⟩):=hd 2 kr;simp only[e2];refine za0 rfl rfl rfl ?_;intro K9 hK;go_simp;exact hK _ _ rfl ex rfl
  ·refine sla fun u y9 hd=>?_;refine za0 rfl rfl rfl ?_;intro K9 hK;go_simp;exact hK _ _ rfl ex rfl
  ·refine sla fun u y9 hd=>?_;have e4:u 4=.pointer (some ⟨be,3,none⟩):=hd 4 kr;simp only[e4];refine za0 rfl rfl rfl ?_;intro K9 hK;go_simp;exact hK _ _ rfl ex rfl
  ·refine sla fun u y9 hd=>?_;have e3:u 3=.agg (Ln w.b.node B b):=hd 3 kr;have e5:u 5=.agg (acnR x.act).toArray:=hd 5 kr;simp only[e3,e5];refine za0 rfl rfl rfl ?_;intro K9 hK;go_simp;go_at_call 70;refine(HA.out _ (x9.trans ex)).mono ?_;rintro e w' ⟨D,K,rfl,hx,hl⟩;exact hK _ _ rfl hx ⟨D,K,rfl,hl⟩
  ·refine sla fun u y9 hd=>?_;obtain⟨D6,K6,e6,h6⟩:=hd 6 kr;simp only[e6];refine za0 rfl rfl rfl ?_;intro K9 hK;go_simp;exact hK _ _ rfl ex ⟨D6,K6,rfl,h6⟩
  ·refine sla fun u y9 hd=>?_;obtain⟨D6,K6,e7,h6⟩:=hd 7 kr;simp only[e7];refine za0 rfl rfl rfl ?_;intro K9 hK;go_simp;exact hK _ _ rfl ex ⟨D6,K6,rfl,h6⟩
  ·(show PureA _ _ _ _ _ _);intro u w1 hx1 hd;obtain⟨y9,rfl⟩:=hx1.get;clear hx1
   obtain⟨D6,K6,e7,h6⟩:=hd 7 kr;simp only[e7];refine zaI (v:=.int .i64 er) rfl rfl (fun w9=> ?_) rfl;go_simp
  ·refine sla fun u y9 hd=>?_;refine za0 rfl rfl rfl ?_;intro K9 hK;go_simp;exact hK _ _ rfl ex ⟨_,rfl,(by first|exact Nat.le_refl _|omega|(simp[go_sem];done)|(simp[go_sem];omega)),BoxAt.new (by first|rfl|simp[go_sem]) _ _⟩
 ·intro u w2 hx2 hT;obtain⟨t0,t1,t2,t3,t4,t5,t6,t7,t8,t9,t10,-⟩:=hT;obtain⟨y9,rfl⟩:=hx2.get;clear hx2;obtain⟨D8,K8,e8,h8⟩:=t8;have e9:u 9=.int .i64 er:=t9;obtain⟨g10,e10,hg10,b10⟩:=t10;simp only[e8,e9,e10];clear e8 e9 e10 t0 t1 t2 t3 t4 t5 t6 t7 t9;simp only[List.drop_succ_cons,List.drop_zero];have hxx:Ext W9 (xt W9.drew y9):=ex;by_cases hc:bu=true∧er=0;rotate_left
  ·have hve:=(HV0.out hc).symm;subst hve;cases bu with
   |false=>
    go_wp2_with (refine za2 rfl 24 (.tmp 3) (.tmp 13) rfl b10 rfl (Ln n D8 K8) rfl rfl (show 6<44 by decide) kr (zaa n D8 K8) ?_;intro W1 ht1 hb1;have x1:Ext W9 W1:=ht1.ext hxx hg10;have h1:=h9.mono x1;clear c0 c1 c2 c3 c4 c5 c6 c7 c8 c9 c10 c11 c12 c13 c14 c15 c16 c17 c18 c19 c20;obtain⟨d0,d1,d2,d3,d4,d5⟩:=hb1.six;have c18:=h1.box.c 18 rfl;rw[HU.out] at c18)
    (first|go_end0|(refine bodyPost_ret (results_none rfl _ _ _) rfl ?_))
    exact⟨rfl,zac ((x9.trans x1).grown _) (Ext.grown ex _),_,_,_,_,h1.mono ex⟩
   |true=>
    have hz:(er==0)=false:=by simpa using hc
    clear hc;go_wp2_with (refine za2 rfl 24 (.tmp 3) (.tmp 13) rfl b10 rfl (Ln n D8 K8) rfl rfl (show 6<44 by decide) kr (zaa n D8 K8) ?_;intro W1 ht1 hb1;have x1:Ext W9 W1:=ht1.ext hxx hg10;have h1:=h9.mono x1;clear c0 c1 c2 c3 c4 c5 c6 c7 c8 c9 c10 c11 c12 c13 c14 c15 c16 c17 c18 c19 c20;obtain⟨d0,d1,d2,d3,d4,d5⟩:=hb1.six;have c18:=h1.box.c 18 rfl;rw[HU.out] at c18)
    (first|go_end0|(refine bodyPost_ret (results_none rfl _ _ _) rfl ?_))
    exact⟨rfl,zac ((x9.trans x1).grown _) (Ext.grown ex _),_,_,_,_,h1.mono ex⟩
  obtain⟨hc1,hc2⟩:=hc;subst hc1;subst hc2;have hve:=HV1.out rfl rfl;subst hve
  go_wp2_with (first
   |(refine za2 rfl 24 (.tmp 3) (.tmp 13) rfl b10 rfl (Ln n D8 K8) rfl rfl (show 6<44 by decide) kr (zaa n D8 K8) ?_;intro W1 ht1 hb1;have x1:Ext W9 W1:=ht1.ext hxx hg10;have h1:=h9.mono x1;clear c0 c1 c2 c3 c4 c5 c6 c7 c8 c9 c10 c11 c12 c13 c14 c15 c16 c17 c18 c19 c20;obtain⟨d0,d1,d2,d3,d4,d5⟩:=hb1.six;have c18:=h1.box.c 18 rfl;rw[HU.out] at c18;have hbo:BoxAt W1 g (Lv w w.a.node A a w.a.up w.a.quiet w.b.node B b true w.b.quiet M m) 30:=(by have:=h1.box;rw[HU.out] at this;exact this))
   |(refine zab rfl 24 (.tmp 26) (.tmp 24) rfl (hbo.mono ex) 12 rfl (Ln n D8 K8) rfl (show 18≤21 by decide) (show 21<44 by decide) kr (zaa n D8 K8) (Lv w w.a.node A a w.a.up w.a.quiet n D8 K8 true w.b.quiet M m) rfl ?_;intro W5 ht5 hb5))
  (first|go_end0|(refine bodyPost_ret (results_none rfl _ _ _) rfl ?_))
  exact⟨rfl,zac ((x9.trans x1).grown _) (zac (Ext.grown ex _) ht5.grown),_,_,_,_,⟨ht5.ext (h1.ext.trans ex) h1.ge,h1.ge,hb5,(h1.qa.mono ex).turn ht5,((h8.turn ht1).mono ex).turn ht5⟩⟩
theorem zCa (h:WldC w0 W g w A a B b M m):Calls prog 128 #[.pointer (some ⟨g,4,none⟩)] W (StepC w0 W g ⟨w.now,w.limit,w.delay,w.cut,⟨w.a.node,false,w.a.quiet⟩,w.b,w.mail⟩ M m):=by
 have HC:=Lib.hid h;clear h;go_enter func128,ntmps128;go_wp2_with (refine zae rfl 4 (.tmp 4) (.const (.bool false)) rfl (HC.out.box.mono ex) 10 rfl (.bool false) rfl (show 10<21 by decide) (show 21<44 by decide) kr rfl (Lv w w.a.node A a false w.a.quiet w.b.node B b w.b.up w.b.quiet M m) rfl ?_;intro W1 ht1 hb1)
 (first|go_end0|(refine bodyPost_ret (results_none rfl _ _ _) rfl ?_))
 exact⟨rfl,zac (Ext.grown ex _) ht1.grown,_,_,_,_,⟨(ht1.ext (HC.out.ext.trans ex) HC.out.ge),HC.out.ge,hb1,(HC.out.qa.mono ex).turn ht1,(HC.out.qb.mono ex).turn ht1⟩⟩
theorem zqx (h:WldC w0 W g w A a B b M m)(hu:w.a.up=true):Calls prog 129 #[.pointer (some ⟨g,4,none⟩)] W (StepC w0 W g w M m):=by
 have HC:=Lib.hid h;have c10:=h.box.c 10 rfl;rw[hu] at c10;clear h hu;go_enter func129,ntmps129;go_wp2
 (first|go_end0|(refine bodyPost_ret (results_none rfl _ _ _) rfl ?_))
 exact⟨rfl,Ext.grown ex _,_,_,_,_,HC.out.mono ex⟩
theorem zo4 (h:WldC w0 W g w A a B b M m)(hu:w.a.up=false):Calls prog 129 #[.pointer (some ⟨g,4,none⟩)] W (StepC w0 W g ⟨w.now,w.limit,w.delay,w.cut,⟨⟨w.a.node.id,w.a.node.term,false,w.a.node.log,w.a.node.acked,0⟩,true,0⟩,w.b,w.mail⟩ M m):=by
 have HC:=Lib.hid h;have c10:=h.box.c 10 rfl;rw[hu] at c10;clear h hu;go_enter func129,ntmps129
 go_wp2_with (first
  |(refine zae rfl 4 (.tmp 10) (.const (.bool true)) rfl (HC.out.box.mono ex) 10 rfl (.bool true) rfl (show 10<21 by decide) (show 21<44 by decide) kr rfl (Lv w w.a.node A a true w.a.quiet w.b.node B b w.b.up w.b.quiet M m) rfl ?_;intro W1 ht1 hb1)
  |(refine zae rfl 3 (.tmp 12) (.const (.int .i64 0)) rfl (hb1.mono ex) 11 rfl (.int .i64 0) rfl (show 11<21 by decide) (show 21<44 by decide) kr rfl (Lv w w.a.node A a true 0 w.b.node B b w.b.up w.b.quiet M m) rfl ?_;intro W2 ht2 hb2)
  |(refine zae rfl 4 (.tmp 17) (.const (.bool false)) rfl (hb2.mono ex) 6 rfl (.bool false) rfl (show 6<21 by decide) (show 21<44 by decide) kr rfl [w.now,w.limit,w.delay,w.cut,w.a.node.id,w.a.node.term,.bool false,.slice A w.a.node.log.length a,w.a.node.acked,w.a.node.next,.bool true,zI,w.b.node.id,w.b.node.term,w.b.node.speaks,.slice B w.b.node.log.length b,w.b.node.acked,w.b.node.next,w.b.up,w.b.quiet,.slice M w.mail.length m] rfl ?_;intro W3 ht3 hb3)
  |(refine zae rfl 3 (.tmp 20) (.const (.int .i64 0)) rfl (hb3.mono ex) 9 rfl (.int .i64 0) rfl (show 9<21 by decide) (show 21<44 by decide) kr rfl [w.now,w.limit,w.delay,w.cut,w.a.node.id,w.a.node.term,.bool false,.slice A w.a.node.log.length a,w.a.node.acked,zI,.bool true,zI,w.b.node.id,w.b.node.term,w.b.node.speaks,.slice B w.b.node.log.length b,w.b.node.acked,w.b.node.next,w.b.up,w.b.quiet,.slice M w.mail.length m] rfl ?_;intro W4 ht4 hb4))
 (first|go_end0|(refine bodyPost_ret (results_none rfl _ _ _) rfl ?_))
 have f1:WldC w0 W1 g ⟨w.now,w.limit,w.delay,w.cut,⟨w.a.node,true,w.a.quiet⟩,w.b,w.mail⟩ A a B b M m:=⟨ht1.ext (HC.out.ext.trans ex) HC.out.ge,HC.out.ge,hb1,(HC.out.qa.mono ex).turn ht1,(HC.out.qb.mono ex).turn ht1⟩
 have f2:WldC w0 W2 g ⟨w.now,w.limit,w.delay,w.cut,⟨w.a.node,true,0⟩,w.b,w.mail⟩ A a B b M m:=⟨ht2.ext (f1.ext.trans ex) f1.ge,f1.ge,hb2,(f1.qa.mono ex).turn ht2,(f1.qb.mono ex).turn ht2⟩
 have f3:WldC w0 W3 g ⟨w.now,w.limit,w.delay,w.cut,⟨⟨w.a.node.id,w.a.node.term,false,w.a.node.log,w.a.node.acked,w.a.node.next⟩,true,0⟩,w.b,w.mail⟩ A a B b M m:=⟨ht3.ext (f2.ext.trans ex) f2.ge,f2.ge,hb3,(f2.qa.mono ex).turn ht3,(f2.qb.mono ex).turn ht3⟩
 exact⟨rfl,zac (Ext.grown ex _) (zac ht1.grown (zac (Ext.grown ex _) (zac ht2.grown (zac (Ext.grown ex _) (zac ht3.grown (zac (Ext.grown ex _) ht4.grown)))))),_,_,_,_,⟨ht4.ext (f3.ext.trans ex) f3.ge,f3.ge,hb4,(f3.qa.mono ex).turn ht4,(f3.qb.mono ex).turn ht4⟩⟩
theorem zCb (h:WldC w0 W g w A a B b M m):Calls prog 128 #[.pointer (some ⟨g,12,none⟩)] W (StepC w0 W g ⟨w.now,w.limit,w.delay,w.cut,w.a,⟨w.b.node,false,w.b.quiet⟩,w.mail⟩ M m):=by
 have HC:=Lib.hid h;clear h;go_enter func128,ntmps128;go_wp2_with (refine zae rfl 4 (.tmp 4) (.const (.bool false)) rfl (HC.out.box.mono ex) 18 rfl (.bool false) rfl (show 18<21 by decide) (show 21<44 by decide) kr rfl (Lv w w.a.node A a w.a.up w.a.quiet w.b.node B b false w.b.quiet M m) rfl ?_;intro W1 ht1 hb1)
 (first|go_end0|(refine bodyPost_ret (results_none rfl _ _ _) rfl ?_))
 exact⟨rfl,zac (Ext.grown ex _) ht1.grown,_,_,_,_,⟨(ht1.ext (HC.out.ext.trans ex) HC.out.ge),HC.out.ge,hb1,(HC.out.qa.mono ex).turn ht1,(HC.out.qb.mono ex).turn ht1⟩⟩
theorem zqy (h:WldC w0 W g w A a B b M m)(hu:w.b.up=true):Calls prog 129 #[.pointer (some ⟨g,12,none⟩)] W (StepC w0 W g w M m):=by
 have HC:=Lib.hid h;have c18:=h.box.c 18 rfl;rw[hu] at c18;clear h hu;go_enter func129,ntmps129;go_wp2
 (first|go_end0|(refine bodyPost_ret (results_none rfl _ _ _) rfl ?_))
 exact⟨rfl,Ext.grown ex _,_,_,_,_,HC.out.mono ex⟩
theorem zo5 (h:WldC w0 W g w A a B b M m)(hu:w.b.up=false):Calls prog 129 #[.pointer (some ⟨g,12,none⟩)] W (StepC w0 W g ⟨w.now,w.limit,w.delay,w.cut,w.a,⟨⟨w.b.node.id,w.b.node.term,false,w.b.node.log,w.b.node.acked,0⟩,true,0⟩,w.mail⟩ M m):=by
 have HC:=Lib.hid h;have c18:=h.box.c 18 rfl;rw[hu] at c18;clear h hu;go_enter func129,ntmps129
 go_wp2_with (first
  |(refine zae rfl 4 (.tmp 10) (.const (.bool true)) rfl (HC.out.box.mono ex) 18 rfl (.bool true) rfl (show 18<21 by decide) (show 21<44 by decide) kr rfl (Lv w w.a.node A a w.a.up w.a.quiet w.b.node B b true w.b.quiet M m) rfl ?_;intro W1 ht1 hb1)
  |(refine zae rfl 3 (.tmp 12) (.const (.int .i64 0)) rfl (hb1.mono ex) 19 rfl (.int .i64 0) rfl (show 19<21 by decide) (show 21<44 by decide) kr rfl (Lv w w.a.node A a w.a.up w.a.quiet w.b.node B b true 0 M m) rfl ?_;intro W2 ht2 hb2)
  |(refine zae rfl 4 (.tmp 17) (.const (.bool false)) rfl (hb2.mono ex) 14 rfl (.bool false) rfl (show 14<21 by decide) (show 21<44 by decide) kr rfl [w.now,w.limit,w.delay,w.cut,w.a.node.id,w.a.node.term,w.a.node.speaks,.slice A w.a.node.log.length a,w.a.node.acked,w.a.node.next,w.a.up,w.a.quiet,w.b.node.id,w.b.node.term,.bool false,.slice B w.b.node.log.length b,w.b.node.acked,w.b.node.next,.bool true,zI,.slice M w.mail.length m] rfl ?_;intro W3 ht3 hb3)
  |(refine zae rfl 3 (.tmp 20) (.const (.int .i64 0)) rfl (hb3.mono ex) 17 rfl (.int .i64 0) rfl (show 17<21 by decide) (show 21<44 by decide) kr rfl [w.now,w.limit,w.delay,w.cut,w.a.node.id,w.a.node.term,w.a.node.speaks,.slice A w.a.node.log.length a,w.a.node.acked,w.a.node.next,w.a.up,w.a.quiet,w.b.node.id,w.b.node.term,.bool false,.slice B w.b.node.log.length b,w.b.node.acked,zI,.bool true,zI,.slice M w.mail.length m] rfl ?_;intro W4 ht4 hb4))
 (first|go_end0|(refine bodyPost_ret (results_none rfl _ _ _) rfl ?_))
 have f1:WldC w0 W1 g ⟨w.now,w.limit,w.delay,w.cut,w.a,⟨w.b.node,true,w.b.quiet⟩,w.mail⟩ A a B b M m:=⟨ht1.ext (HC.out.ext.trans ex) HC.out.ge,HC.out.ge,hb1,(HC.out.qa.mono ex).turn ht1,(HC.out.qb.mono ex).turn ht1⟩
 have f2:WldC w0 W2 g ⟨w.now,w.limit,w.delay,w.cut,w.a,⟨w.b.node,true,0⟩,w.mail⟩ A a B b M m:=⟨ht2.ext (f1.ext.trans ex) f1.ge,f1.ge,hb2,(f1.qa.mono ex).turn ht2,(f1.qb.mono ex).turn ht2⟩
 have f3:WldC w0 W3 g ⟨w.now,w.limit,w.delay,w.cut,w.a,⟨⟨w.b.node.id,w.b.node.term,false,w.b.node.log,w.b.node.acked,w.b.node.next⟩,true,0⟩,w.mail⟩ A a B b M m:=⟨ht3.ext (f2.ext.trans ex) f2.ge,f2.ge,hb3,(f2.qa.mono ex).turn ht3,(f2.qb.mono ex).turn ht3⟩
 exact⟨rfl,zac (Ext.grown ex _) (zac ht1.grown (zac (Ext.grown ex _) (zac ht2.grown (zac (Ext.grown ex _) (zac ht3.grown (zac (Ext.grown ex _) ht4.grown)))))),_,_,_,_,⟨ht4.ext (f3.ext.trans ex) f3.ge,f3.ge,hb4,(f3.qa.mono ex).turn ht4,(f3.qb.mono ex).turn ht4⟩⟩
theorem tak_hap5 (h:WldC w0 W g w A a B b M m){bw:Nat}(hb:W.cell? ⟨bw,0,none⟩=some (.pointer (some ⟨g,0,none⟩))):Calls prog 130 #[.pointer (some ⟨bw,0,none⟩)] W (StepC w0 W g ⟨w.now,w.limit,w.delay,true,w.a,w.b,w.mail⟩ M m):=by
 have HC:=Lib.hid h;clear h;go_enter func130,ntmps130;go_wp2_with (refine zae rfl 4 (.tmp 3) (.const (.bool true)) rfl (HC.out.box.mono ex) 3 rfl (.bool true) rfl (show 3<21 by decide) (show 21<44 by decide) kr rfl [w.now,w.limit,w.delay,.bool true,w.a.node.id,w.a.node.term,w.a.node.speaks,.slice A w.a.node.log.length a,w.a.node.acked,w.a.node.next,w.a.up,w.a.quiet,w.b.node.id,w.b.node.term,w.b.node.speaks,.slice B w.b.node.log.length b,w.b.node.acked,w.b.node.next,w.b.up,w.b.quiet,.slice M w.mail.length m] rfl ?_;intro W1 ht1 hb1)
 (first|go_end0|(refine bodyPost_ret (results_none rfl _ _ _) rfl ?_))
 exact⟨rfl,zac (Ext.grown ex _) ht1.grown,_,_,_,_,⟨(ht1.ext (HC.out.ext.trans ex) HC.out.ge),HC.out.ge,hb1,(HC.out.qa.mono ex).turn ht1,(HC.out.qb.mono ex).turn ht1⟩⟩
theorem tak_hap6 (h:WldC w0 W g w A a B b M m){bw:Nat}(hb:W.cell? ⟨bw,0,none⟩=some (.pointer (some ⟨g,0,none⟩))):Calls prog 131 #[.pointer (some ⟨bw,0,none⟩)] W (StepC w0 W g ⟨w.now,w.limit,w.delay,false,w.a,w.b,w.mail⟩ M m):=by
 have HC:=Lib.hid h;clear h;go_enter func131,ntmps131;go_wp2_with (refine zae rfl 4 (.tmp 3) (.const (.bool false)) rfl (HC.out.box.mono ex) 3 rfl (.bool false) rfl (show 3<21 by decide) (show 21<44 by decide) kr rfl [w.now,w.limit,w.delay,.bool false,w.a.node.id,w.a.node.term,w.a.node.speaks,.slice A w.a.node.log.length a,w.a.node.acked,w.a.node.next,w.a.up,w.a.quiet,w.b.node.id,w.b.node.term,w.b.node.speaks,.slice B w.b.node.log.length b,w.b.node.acked,w.b.node.next,w.b.up,w.b.quiet,.slice M w.mail.length m] rfl ?_;intro W1 ht1 hb1)
 (first|go_end0|(refine bodyPost_ret (results_none rfl _ _ _) rfl ?_))
 exact⟨rfl,zac (Ext.grown ex _) ht1.grown,_,_,_,_,⟨(ht1.ext (HC.out.ext.trans ex) HC.out.ge),HC.out.ge,hb1,(HC.out.qa.mono ex).turn ht1,(HC.out.qb.mono ex).turn ht1⟩⟩
theorem tak_hap7 (h:WldC w0 W g w A a B b M m){bw be:Nat}{x:Evt}(hb:W.cell? ⟨bw,0,none⟩=some (.pointer (some ⟨g,0,none⟩)))(he:EvtAt W be 0 x):Calls prog 132 #[.pointer (some ⟨be,0,none⟩),.pointer (some ⟨bw,0,none⟩)] W (StepC w0 W g ⟨w.now,w.limit,x.delay,w.cut,w.a,w.b,w.mail⟩ M m):=by
 have HC:=Lib.hid h;have hd:=he.delay;simp only[Nat.zero_add] at hd;clear h he;go_enter func132,ntmps132;go_wp2_with (refine zae rfl 3 (.tmp 6) (.tmp 4) rfl (HC.out.box.mono ex) 2 rfl (.int .i64 x.delay) rfl (show 2<21 by decide) (show 21<44 by decide) kr rfl [w.now,w.limit,x.delay,w.cut,w.a.node.id,w.a.node.term,w.a.node.speaks,.slice A w.a.node.log.length a,w.a.node.acked,w.a.node.next,w.a.up,w.a.quiet,w.b.node.id,w.b.node.term,w.b.node.speaks,.slice B w.b.node.log.length b,w.b.node.acked,w.b.node.next,w.b.up,w.b.quiet,.slice M w.mail.length m] rfl ?_;intro W1 ht1 hb1)
 (first|go_end0|(refine bodyPost_ret (results_none rfl _ _ _) rfl ?_))
 exact⟨rfl,zac (Ext.grown ex _) ht1.grown,_,_,_,_,⟨(ht1.ext (HC.out.ext.trans ex) HC.out.ge),HC.out.ge,hb1,(HC.out.qa.mono ex).turn ht1,(HC.out.qb.mono ex).turn ht1⟩⟩
theorem zg2 (fv:Value)(hf:fv.oneCell'=true)(bw be:Nat)(W:World):Calls prog 125 #[fv,.pointer (some ⟨bw,0,none⟩),.pointer (some ⟨be,0,none⟩)] W fun e W'=>e=.returned (.func (Fn.func 126) #[] #[.pointer (some ⟨W.heap.size,0,none⟩),.pointer (some ⟨bw,0,none⟩),.pointer (some ⟨be,0,none⟩)])∧W'=W.alloc (.cells #[fv] 208):=by go_enter func125,ntmps125;go_wp2;go_ret;exact⟨rfl,rfl⟩
section
variable {v:Wld} {bf bw be:Nat}
theorem zze (hK:∀V,Ext W V→Calls prog 127 #[.pointer (some ⟨g,4,none⟩),.pointer (some ⟨be,0,none⟩)] V (StepC w0 V g v M m))(hF:W.cell? ⟨bf,0,none⟩=some (.func (Fn.func 127) #[] #[.pointer (some ⟨be,0,none⟩)]))(hb:W.cell? ⟨bw,0,none⟩=some (.pointer (some ⟨g,0,none⟩)))(he:W.cell? ⟨be,2,none⟩=some (.int .i64 1)):Calls prog 126 #[.pointer (some ⟨bf,0,none⟩),.pointer (some ⟨bw,0,none⟩),.pointer (some ⟨be,0,none⟩)] W (StepC w0 W g v M m):=by
 have HK:=zh hK;clear hK;go_enter func126,ntmps126;go_wp2;(refine zrE 8 kr kr ?_;simp only[List.take_succ_cons,List.take_zero,List.drop_succ_cons,List.drop_zero];(repeat(go_big_quiet_step (fail)));refine wqN fun y=>?_);go_wp2_with (go_at_call 127;refine(HK.out _ ex).mono ?_;rintro e w' ⟨rfl,hS⟩)
 (first|go_end0|(refine bodyPost_ret (results_none rfl _ _ _) rfl ?_))
 exact StepC.of ex ⟨rfl,hS⟩
theorem zzf (hK:∀V,Ext W V→Calls prog 127 #[.pointer (some ⟨g,12,none⟩),.pointer (some ⟨be,0,none⟩)] V (StepC w0 V g v M m))(hF:W.cell? ⟨bf,0,none⟩=some (.func (Fn.func 127) #[] #[.pointer (some ⟨be,0,none⟩)]))(hb:W.cell? ⟨bw,0,none⟩=some (.pointer (some ⟨g,0,none⟩)))(he:W.cell? ⟨be,2,none⟩=some (.int .i64 2)):Calls prog 126 #[.pointer (some ⟨bf,0,none⟩),.pointer (some ⟨bw,0,none⟩),.pointer (some ⟨be,0,none⟩)] W (StepC w0 W g v M m):=by
 have HK:=zh hK;clear hK;go_enter func126,ntmps126;go_wp2;(refine zrE 8 kr kr ?_;simp only[List.take_succ_cons,List.take_zero,List.drop_succ_cons,List.drop_zero];(repeat(go_big_quiet_step (fail)));refine wqN fun y=>?_);go_wp2_with (go_at_call 127;refine(HK.out _ ex).mono ?_;rintro e w' ⟨rfl,hS⟩)
 (first|go_end0|(refine bodyPost_ret (results_none rfl _ _ _) rfl ?_))
 exact StepC.of ex ⟨rfl,hS⟩
theorem zzg_ (hK:∀V,Ext W V→Calls prog 128 #[.pointer (some ⟨g,4,none⟩)] V (StepC w0 V g v M m))(hF:W.cell? ⟨bf,0,none⟩=some (.func (Fn.func 128) #[] #[]))(hb:W.cell? ⟨bw,0,none⟩=some (.pointer (some ⟨g,0,none⟩)))(he:W.cell? ⟨be,2,none⟩=some (.int .i64 1)):Calls prog 126 #[.pointer (some ⟨bf,0,none⟩),.pointer (some ⟨bw,0,none⟩),.pointer (some ⟨be,0,none⟩)] W (StepC w0 W g v M m):=by
 have HK:=zh hK;clear hK;go_enter func126,ntmps126;go_wp2;(refine zrE 8 kr kr ?_;simp only[List.take_succ_cons,List.take_zero,List.drop_succ_cons,List.drop_zero];(repeat(go_big_quiet_step (fail)));refine wqN fun y=>?_);go_wp2_with (go_at_call 128;refine(HK.out _ ex).mono ?_;rintro e w' ⟨rfl,hS⟩)
 (first|go_end0|(refine bodyPost_ret (results_none rfl _ _ _) rfl ?_))
 exact StepC.of ex ⟨rfl,hS⟩
theorem zzh (hK:∀V,Ext W V→Calls prog 128 #[.pointer (some ⟨g,12,none⟩)] V (StepC w0 V g v M m))(hF:W.cell? ⟨bf,0,none⟩=some (.func (Fn.func 128) #[] #[]))(hb:W.cell? ⟨bw,0,none⟩=some (.pointer (some ⟨g,0,none⟩)))(he:W.cell? ⟨be,2,none⟩=some (.int .i64 2)):Calls prog 126 #[.pointer (some ⟨bf,0,none⟩),.pointer (some ⟨bw,0,none⟩),.pointer (some ⟨be,0,none⟩)] W (StepC w0 W g v M m):=by
 have HK:=zh hK;clear hK;go_enter func126,ntmps126;go_wp2;(refine zrE 8 kr kr ?_;simp only[List.take_succ_cons,List.take_zero,List.drop_succ_cons,List.drop_zero];(repeat(go_big_quiet_step (fail)));refine wqN fun y=>?_);go_wp2_with (go_at_call 128;refine(HK.out _ ex).mono ?_;rintro e w' ⟨rfl,hS⟩)
 (first|go_end0|(refine bodyPost_ret (results_none rfl _ _ _) rfl ?_))
 exact StepC.of ex ⟨rfl,hS⟩
theorem zqv (hK:∀V,Ext W V→Calls prog 129 #[.pointer (some ⟨g,4,none⟩)] V (StepC w0 V g v M m))(hF:W.cell? ⟨bf,0,none⟩=some (.func (Fn.func 129) #[] #[]))(hb:W.cell? ⟨bw,0,none⟩=some (.pointer (some ⟨g,0,none⟩)))(he:W.cell? ⟨be,2,none⟩=some (.int .i64 1)):Calls prog 126 #[.pointer (some ⟨bf,0,none⟩),.pointer (some ⟨bw,0,none⟩),.pointer (some ⟨be,0,none⟩)] W (StepC w0 W g v M m):=by
 have HK:=zh hK;clear hK;go_enter func126,ntmps126;go_wp2;(refine zrE 8 kr kr ?_;simp only[List.take_succ_cons,List.take_zero,List.drop_succ_cons,List.drop_zero];(repeat(go_big_quiet_step (fail)));refine wqN fun y=>?_);go_wp2_with (go_at_call 129;refine(HK.out _ ex).mono ?_;rintro e w' ⟨rfl,hS⟩)
 (first|go_end0|(refine bodyPost_ret (results_none rfl _ _ _) rfl ?_))
 exact StepC.of ex ⟨rfl,hS⟩
theorem zqw (hK:∀V,Ext W V→Calls prog 129 #[.pointer (some ⟨g,12,none⟩)] V (StepC w0 V g v M m))(hF:W.cell? ⟨bf,0,none⟩=some (.func (Fn.func 129) #[] #[]))(hb:W.cell? ⟨bw,0,none⟩=some (.pointer (some ⟨g,0,none⟩)))(he:W.cell? ⟨be,2,none⟩=some (.int .i64 2)):Calls prog 126 #[.pointer (some ⟨bf,0,none⟩),.pointer (some ⟨bw,0,none⟩),.pointer (some ⟨be,0,none⟩)] W (StepC w0 W g v M m):=by
 have HK:=zh hK;clear hK;go_enter func126,ntmps126;go_wp2;(refine zrE 8 kr kr ?_;simp only[List.take_succ_cons,List.take_zero,List.drop_succ_cons,List.drop_zero];(repeat(go_big_quiet_step (fail)));refine wqN fun y=>?_);go_wp2_with (go_at_call 129;refine(HK.out _ ex).mono ?_;rintro e w' ⟨rfl,hS⟩)
 (first|go_end0|(refine bodyPost_ret (results_none rfl _ _ _) rfl ?_))
 exact StepC.of ex ⟨rfl,hS⟩
end
end

section
variable {w0 W:World} {g:Nat} {w:Wld} {A B M:Option Addr} {a b m:Nat} {xs:List (Ltr×Option Addr×Nat)}
theorem zue (h:WldC w0 W g w A a B b M m){x:Evt}(ha:AcnAt w0 x.act)(hk:x.kind=0)(hs:x.station=1){n:Nod}{er:Int}{u:Bool}(hv:actV w.a.node x.act=(n,er))(hu:w.a.up=u){v:Wld}(hv1:u=true→er=0→v=⟨w.now,w.limit,w.delay,w.cut,⟨n,true,w.a.quiet⟩,w.b,w.mail⟩)(hv0:¬(u=true∧er=0)→v=w):Calls prog 90 #[.pointer (some ⟨g,0,none⟩),.agg (evtR x).toArray] W (StepC w0 W g v M m):=by
 have HC:=Lib.hid h;have HA:=zh ha;have HV:=zh hv;have HU:=zh hu;have HV1:=zh hv1;have HV0:=zh hv0;clear hv hu hv1 hv0;have HE:=zh (fun(V:World) (hx:Ext ((W.alloc (.cells #[.pointer (some ⟨g,0,none⟩)] 140)).alloc (.cells (evtR x).toArray 101)) V)=>(EvtAt.new (W.heap.size+1) (by simp) x 101).mono hx);have HST:=zh (fun(V:World) (hx:Ext ((W.alloc (.cells #[.pointer (some ⟨g,0,none⟩)] 140)).alloc (.cells (evtR x).toArray 101)) V)=>(show V.cell? ⟨W.heap.size+1,2,none⟩=some (.int .i64 1) from by have:=(HE.out V hx).station;rw[hs] at this;exact this));clear hs;clear h ha;go_enter func90,ntmps90
 go_wp2_with (first
  |(go_at_call 125;refine(zg2 _ rfl _ _ _).mono ?_;rintro e w' ⟨rfl,rfl⟩)
  |(go_at_call 126;refine(zze (g:=g) (w0:=w0) (fun V hx=>zC8 (HC.out.mono (by repeat(first|exact Ext.refl _|assumption|apply Ext.xt|apply Ext.alloc|apply Ext.drew|apply Ext.drewN|refine Ext.trans ?_ (by assumption)))) (HE.out _ (by repeat(first|exact Ext.refl _|assumption|apply Ext.xt|apply Ext.alloc|apply Ext.drew|apply Ext.drewN|refine Ext.trans ?_ (by assumption)))) HA.out HV.out HU.out HV1.out HV0.out) sg sg (HST.out _ ex)).mono ?_;rintro e w' ⟨rfl,hS⟩))
 (first|go_end0|(refine bodyPost_ret (results_none rfl _ _ _) rfl ?_))
 exact StepC.of ex ⟨rfl,hS⟩
theorem zuf (h:WldC w0 W g w A a B b M m){x:Evt}(ha:AcnAt w0 x.act)(hk:x.kind=0)(hs:x.station=2){n:Nod}{er:Int}{u:Bool}(hv:actV w.b.node x.act=(n,er))(hu:w.b.up=u){v:Wld}(hv1:u=true→er=0→v=⟨w.now,w.limit,w.delay,w.cut,w.a,⟨n,true,w.b.quiet⟩,w.mail⟩)(hv0:¬(u=true∧er=0)→v=w):Calls prog 90 #[.pointer (some ⟨g,0,none⟩),.agg (evtR x).toArray] W (StepC w0 W g v M m):=by
 have HC:=Lib.hid h;have HA:=zh ha;have HV:=zh hv;have HU:=zh hu;have HV1:=zh hv1;have HV0:=zh hv0;clear hv hu hv1 hv0;have HE:=zh (fun(V:World) (hx:Ext ((W.alloc (.cells #[.pointer (some ⟨g,0,none⟩)] 140)).alloc (.cells (evtR x).toArray 101)) V)=>(EvtAt.new (W.heap.size+1) (by simp) x 101).mono hx);have HST:=zh (fun(V:World) (hx:Ext ((W.alloc (.cells #[.pointer (some ⟨g,0,none⟩)] 140)).alloc (.cells (evtR x).toArray 101)) V)=>(show V.cell? ⟨W.heap.size+1,2,none⟩=some (.int .i64 2) from by have:=(HE.out V hx).station;rw[hs] at this;exact this));clear hs;clear h ha;go_enter func90,ntmps90
 go_wp2_with (first
  |(go_at_call 125;refine(zg2 _ rfl _ _ _).mono ?_;rintro e w' ⟨rfl,rfl⟩)
  |(go_at_call 126;refine(zzf (g:=g) (w0:=w0) (fun V hx=>zC9 (HC.out.mono (by repeat(first|exact Ext.refl _|assumption|apply Ext.xt|apply Ext.alloc|apply Ext.drew|apply Ext.drewN|refine Ext.trans ?_ (by assumption)))) (HE.out _ (by repeat(first|exact Ext.refl _|assumption|apply Ext.xt|apply Ext.alloc|apply Ext.drew|apply Ext.drewN|refine Ext.trans ?_ (by assumption)))) HA.out HV.out HU.out HV1.out HV0.out) sg sg (HST.out _ ex)).mono ?_;rintro e w' ⟨rfl,hS⟩))
 (first|go_end0|(refine bodyPost_ret (results_none rfl _ _ _) rfl ?_))
 exact StepC.of ex ⟨rfl,hS⟩
theorem zug (h:WldC w0 W g w A a B b M m){x:Evt}(ha:AcnAt w0 x.act)(hk:x.kind=1)(hs:x.station=1):Calls prog 90 #[.pointer (some ⟨g,0,none⟩),.agg (evtR x).toArray] W (StepC w0 W g ⟨w.now,w.limit,w.delay,w.cut,⟨w.a.node,false,w.a.quiet⟩,w.b,w.mail⟩ M m):=by
 have HC:=Lib.hid h;have HA:=zh ha;have HE:=zh (fun(V:World) (hx:Ext ((W.alloc (.cells #[.pointer (some ⟨g,0,none⟩)] 140)).alloc (.cells (evtR x).toArray 101)) V)=>(EvtAt.new (W.heap.size+1) (by simp) x 101).mono hx);have HST:=zh (fun(V:World) (hx:Ext ((W.alloc (.cells #[.pointer (some ⟨g,0,none⟩)] 140)).alloc (.cells (evtR x).toArray 101)) V)=>(show V.cell? ⟨W.heap.size+1,2,none⟩=some (.int .i64 1) from by have:=(HE.out V hx).station;rw[hs] at this;exact this));clear hs;clear h ha;go_enter func90,ntmps90
 go_wp2_with (first
  |(go_at_call 125;refine(zg2 _ rfl _ _ _).mono ?_;rintro e w' ⟨rfl,rfl⟩)
  |(go_at_call 126;refine(zzg_ (g:=g) (w0:=w0) (fun V hx=>zCa (HC.out.mono (by repeat(first|exact Ext.refl _|assumption|apply Ext.xt|apply Ext.alloc|apply Ext.drew|apply Ext.drewN|refine Ext.trans ?_ (by assumption))))) sg sg (HST.out _ ex)).mono ?_;rintro e w' ⟨rfl,hS⟩))
 (first|go_end0|(refine bodyPost_ret (results_none rfl _ _ _) rfl ?_))
 exact StepC.of ex ⟨rfl,hS⟩
theorem zlk (h:WldC w0 W g w A a B b M m){x:Evt}(ha:AcnAt w0 x.act)(hk:x.kind=2)(hs:x.station=1)(hu:w.a.up=true):Calls prog 90 #[.pointer (some ⟨g,0,none⟩),.agg (evtR x).toArray] W (StepC w0 W g w M m):=by
 have HC:=Lib.hid h;have HA:=zh ha;have HU:=zh hu;clear hu;have HE:=zh (fun(V:World) (hx:Ext ((W.alloc (.cells #[.pointer (some ⟨g,0,none⟩)] 140)).alloc (.cells (evtR x).toArray 101)) V)=>(EvtAt.new (W.heap.size+1) (by simp) x 101).mono hx);have HST:=zh (fun(V:World) (hx:Ext ((W.alloc (.cells #[.pointer (some ⟨g,0,none⟩)] 140)).alloc (.cells (evtR x).toArray 101)) V)=>(show V.cell? ⟨W.heap.size+1,2,none⟩=some (.int .i64 1) from by have:=(HE.out V hx).station;rw[hs] at this;exact this));clear hs;clear h ha;go_enter func90,ntmps90
 go_wp2_with (first
  |(go_at_call 125;refine(zg2 _ rfl _ _ _).mono ?_;rintro e w' ⟨rfl,rfl⟩)
  |(go_at_call 126;refine(zqv (g:=g) (w0:=w0) (fun V hx=>zqx (HC.out.mono (by repeat(first|exact Ext.refl _|assumption|apply Ext.xt|apply Ext.alloc|apply Ext.drew|apply Ext.drewN|refine Ext.trans ?_ (by assumption)))) HU.out) sg sg (HST.out _ ex)).mono ?_;rintro e w' ⟨rfl,hS⟩))
 (first|go_end0|(refine bodyPost_ret (results_none rfl _ _ _) rfl ?_))
 exact StepC.of ex ⟨rfl,hS⟩
theorem zk4 (h:WldC w0 W g w A a B b M m){x:Evt}(ha:AcnAt w0 x.act)(hk:x.kind=2)(hs:x.station=1)(hu:w.a.up=false):Calls prog 90 #[.pointer (some ⟨g,0,none⟩),.agg (evtR x).toArray] W (StepC w0 W g ⟨w.now,w.limit,w.delay,w.cut,⟨⟨w.a.node.id,w.a.node.term,false,w.a.node.log,w.a.node.acked,0⟩,true,0⟩,w.b,w.mail⟩ M m):=by
 have HC:=Lib.hid h;have HA:=zh ha;have HU:=zh hu;clear hu;have HE:=zh (fun(V:World) (hx:Ext ((W.alloc (.cells #[.pointer (some ⟨g,0,none⟩)] 140)).alloc (.cells (evtR x).toArray 101)) V)=>(EvtAt.new (W.heap.size+1) (by simp) x 101).mono hx);have HST:=zh (fun(V:World) (hx:Ext ((W.alloc (.cells #[.pointer (some ⟨g,0,none⟩)] 140)).alloc (.cells (evtR x).toArray 101)) V)=>(show V.cell? ⟨W.heap.size+1,2,none⟩=some (.int .i64 1) from by have:=(HE.out V hx).station;rw[hs] at this;exact this));clear hs;clear h ha;go_enter func90,ntmps90
 go_wp2_with (first
  |(go_at_call 125;refine(zg2 _ rfl _ _ _).mono ?_;rintro e w' ⟨rfl,rfl⟩)
  |(go_at_call 126;refine(zqv (g:=g) (w0:=w0) (fun V hx=>zo4 (HC.out.mono (by repeat(first|exact Ext.refl _|assumption|apply Ext.xt|apply Ext.alloc|apply Ext.drew|apply Ext.drewN|refine Ext.trans ?_ (by assumption)))) HU.out) sg sg (HST.out _ ex)).mono ?_;rintro e w' ⟨rfl,hS⟩))
 (first|go_end0|(refine bodyPost_ret (results_none rfl _ _ _) rfl ?_))
 exact StepC.of ex ⟨rfl,hS⟩
theorem zuh (h:WldC w0 W g w A a B b M m){x:Evt}(ha:AcnAt w0 x.act)(hk:x.kind=1)(hs:x.station=2):Calls prog 90 #[.pointer (some ⟨g,0,none⟩),.agg (evtR x).toArray] W (StepC w0 W g ⟨w.now,w.limit,w.delay,w.cut,w.a,⟨w.b.node,false,w.b.quiet⟩,w.mail⟩ M m):=by
 have HC:=Lib.hid h;have HA:=zh ha;have HE:=zh (fun(V:World) (hx:Ext ((W.alloc (.cells #[.pointer (some ⟨g,0,none⟩)] 140)).alloc (.cells (evtR x).toArray 101)) V)=>(EvtAt.new (W.heap.size+1) (by simp) x 101).mono hx);have HST:=zh (fun(V:World) (hx:Ext ((W.alloc (.cells #[.pointer (some ⟨g,0,none⟩)] 140)).alloc (.cells (evtR x).toArray 101)) V)=>(show V.cell? ⟨W.heap.size+1,2,none⟩=some (.int .i64 2) from by have:=(HE.out V hx).station;rw[hs] at this;exact this));clear hs;clear h ha;go_enter func90,ntmps90
 go_wp2_with (first
  |(go_at_call 125;refine(zg2 _ rfl _ _ _).mono ?_;rintro e w' ⟨rfl,rfl⟩)
  |(go_at_call 126;refine(zzh (g:=g) (w0:=w0) (fun V hx=>zCb (HC.out.mono (by repeat(first|exact Ext.refl _|assumption|apply Ext.xt|apply Ext.alloc|apply Ext.drew|apply Ext.drewN|refine Ext.trans ?_ (by assumption))))) sg sg (HST.out _ ex)).mono ?_;rintro e w' ⟨rfl,hS⟩))
 (first|go_end0|(refine bodyPost_ret (results_none rfl _ _ _) rfl ?_))
 exact StepC.of ex ⟨rfl,hS⟩
theorem zll (h:WldC w0 W g w A a B b M m){x:Evt}(ha:AcnAt w0 x.act)(hk:x.kind=2)(hs:x.station=2)(hu:w.b.up=true):Calls prog 90 #[.pointer (some ⟨g,0,none⟩),.agg (evtR x).toArray] W (StepC w0 W g w M m):=by
 have HC:=Lib.hid h;have HA:=zh ha;have HU:=zh hu;clear hu;have HE:=zh (fun(V:World) (hx:Ext ((W.alloc (.cells #[.pointer (some ⟨g,0,none⟩)] 140)).alloc (.cells (evtR x).toArray 101)) V)=>(EvtAt.new (W.heap.size+1) (by simp) x 101).mono hx);have HST:=zh (fun(V:World) (hx:Ext ((W.alloc (.cells #[.pointer (some ⟨g,0,none⟩)] 140)).alloc (.cells (evtR x).toArray 101)) V)=>(show V.cell? ⟨W.heap.size+1,2,none⟩=some (.int .i64 2) from by have:=(HE.out V hx).station;rw[hs] at this;exact this));clear hs;clear h ha;go_enter func90,ntmps90
 go_wp2_with (first
  |(go_at_call 125;refine(zg2 _ rfl _ _ _).mono ?_;rintro e w' ⟨rfl,rfl⟩)
  |(go_at_call 126;refine(zqw (g:=g) (w0:=w0) (fun V hx=>zqy (HC.out.mono (by repeat(first|exact Ext.refl _|assumption|apply Ext.xt|apply Ext.alloc|apply Ext.drew|apply Ext.drewN|refine Ext.trans ?_ (by assumption)))) HU.out) sg sg (HST.out _ ex)).mono ?_;rintro e w' ⟨rfl,hS⟩))
 (first|go_end0|(refine bodyPost_ret (results_none rfl _ _ _) rfl ?_))
 exact StepC.of ex ⟨rfl,hS⟩
theorem zk5 (h:WldC w0 W g w A a B b M m){x:Evt}(ha:AcnAt w0 x.act)(hk:x.kind=2)(hs:x.station=2)(hu:w.b.up=false):Calls prog 90 #[.pointer (some ⟨g,0,none⟩),.agg (evtR x).toArray] W (StepC w0 W g ⟨w.now,w.limit,w.delay,w.cut,w.a,⟨⟨w.b.node.id,w.b.node.term,false,w.b.node.log,w.b.node.acked,0⟩,true,0⟩,w.mail⟩ M m):=by
 have HC:=Lib.hid h;have HA:=zh ha;have HU:=zh hu;clear hu;have HE:=zh (fun(V:World) (hx:Ext ((W.alloc (.cells #[.pointer (some ⟨g,0,none⟩)] 140)).alloc (.cells (evtR x).toArray 101)) V)=>(EvtAt.new (W.heap.size+1) (by simp) x 101).mono hx);have HST:=zh (fun(V:World) (hx:Ext ((W.alloc (.cells #[.pointer (some ⟨g,0,none⟩)] 140)).alloc (.cells (evtR x).toArray 101)) V)=>(show V.cell? ⟨W.heap.size+1,2,none⟩=some (.int .i64 2) from by have:=(HE.out V hx).station;rw[hs] at this;exact this));clear hs;clear h ha;go_enter func90,ntmps90
 go_wp2_with (first
  |(go_at_call 125;refine(zg2 _ rfl _ _ _).mono ?_;rintro e w' ⟨rfl,rfl⟩)
  |(go_at_call 126;refine(zqw (g:=g) (w0:=w0) (fun V hx=>zo5 (HC.out.mono (by repeat(first|exact Ext.refl _|assumption|apply Ext.xt|apply Ext.alloc|apply Ext.drew|apply Ext.drewN|refine Ext.trans ?_ (by assumption)))) HU.out) sg sg (HST.out _ ex)).mono ?_;rintro e w' ⟨rfl,hS⟩))
 (first|go_end0|(refine bodyPost_ret (results_none rfl _ _ _) rfl ?_))
 exact StepC.of ex ⟨rfl,hS⟩
theorem zxb (h:WldC w0 W g w A a B b M m){x:Evt}(ha:AcnAt w0 x.act)(hk:x.kind=3):Calls prog 90 #[.pointer (some ⟨g,0,none⟩),.agg (evtR x).toArray] W (StepC w0 W g ⟨w.now,w.limit,w.delay,true,w.a,w.b,w.mail⟩ M m):=by
 have HC:=Lib.hid h;have HA:=zh ha;have HE:=zh (fun(V:World) (hx:Ext ((W.alloc (.cells #[.pointer (some ⟨g,0,none⟩)] 140)).alloc (.cells (evtR x).toArray 101)) V)=>(EvtAt.new (W.heap.size+1) (by simp) x 101).mono hx);clear h ha;go_enter func90,ntmps90
 go_wp2_with (first
  |(go_at_call 125;refine(zg2 _ rfl _ _ _).mono ?_;rintro e w' ⟨rfl,rfl⟩)
  |(go_at_call 130;refine(tak_hap5 (HC.out.mono ex) sg).mono ?_;rintro e w' ⟨rfl,hS⟩))
 (first|go_end0|(refine bodyPost_ret (results_none rfl _ _ _) rfl ?_))
 exact StepC.of ex ⟨rfl,hS⟩
theorem zxc (h:WldC w0 W g w A a B b M m){x:Evt}(ha:AcnAt w0 x.act)(hk:x.kind=4):Calls prog 90 #[.pointer (some ⟨g,0,none⟩),.agg (evtR x).toArray] W (StepC w0 W g ⟨w.now,w.limit,w.delay,false,w.a,w.b,w.mail⟩ M m):=by
 have HC:=Lib.hid h;have HA:=zh ha;have HE:=zh (fun(V:World) (hx:Ext ((W.alloc (.cells #[.pointer (some ⟨g,0,none⟩)] 140)).alloc (.cells (evtR x).toArray 101)) V)=>(EvtAt.new (W.heap.size+1) (by simp) x 101).mono hx);clear h ha;go_enter func90,ntmps90
 go_wp2_with (first
  |(go_at_call 125;refine(zg2 _ rfl _ _ _).mono ?_;rintro e w' ⟨rfl,rfl⟩)
  |(go_at_call 131;refine(tak_hap6 (HC.out.mono ex) sg).mono ?_;rintro e w' ⟨rfl,hS⟩))
 (first|go_end0|(refine bodyPost_ret (results_none rfl _ _ _) rfl ?_))
 exact StepC.of ex ⟨rfl,hS⟩
theorem zxd (h:WldC w0 W g w A a B b M m){x:Evt}(ha:AcnAt w0 x.act)(hk:x.kind=5):Calls prog 90 #[.pointer (some ⟨g,0,none⟩),.agg (evtR x).toArray] W (StepC w0 W g ⟨w.now,w.limit,x.delay,w.cut,w.a,w.b,w.mail⟩ M m):=by
 have HC:=Lib.hid h;have HA:=zh ha;have HE:=zh (fun(V:World) (hx:Ext ((W.alloc (.cells #[.pointer (some ⟨g,0,none⟩)] 140)).alloc (.cells (evtR x).toArray 101)) V)=>(EvtAt.new (W.heap.size+1) (by simp) x 101).mono hx);clear h ha;go_enter func90,ntmps90
 go_wp2_with (first
  |(go_at_call 125;refine(zg2 _ rfl _ _ _).mono ?_;rintro e w' ⟨rfl,rfl⟩)
  |(go_at_call 132;refine(tak_hap7 (HC.out.mono ex) sg (HE.out _ ex)).mono ?_;rintro e w' ⟨rfl,hS⟩))
 (first|go_end0|(refine bodyPost_ret (results_none rfl _ _ _) rfl ?_))
 exact StepC.of ex ⟨rfl,hS⟩
theorem zs4 (x:Evt){i:Int}(hk:x.kind≤2)(hs:x.station=i):zap w x=setS w i (zcf (getS w i) x):=by unfold zap;rw[if_pos hk,hs]
theorem zvo (s:Sta)(x:Evt)(hk:x.kind=0):zcf s x=if s.up=true∧(actV s.node x.act).2=0 then⟨(actV s.node x.act).1,s.up,s.quiet⟩ else s:=by unfold zcf;rw[if_pos hk]
theorem zvp (s:Sta)(x:Evt)(hk:x.kind=1):zcf s x=⟨s.node,false,s.quiet⟩:=by unfold zcf;rw[if_neg om,if_pos hk]
theorem zvq (s:Sta)(x:Evt)(hk:x.kind=2):zcf s x=if s.up=true then s else⟨⟨s.node.id,s.node.term,false,s.node.log,s.node.acked,0⟩,true,0⟩:=by unfold zcf;rw[if_neg om,if_neg om]
theorem zsr (h:WldC w0 W g w A a B b M m){x:Evt}(ha:AcnAt w0 x.act)(hx:EvtOk x):Calls prog 90 #[.pointer (some ⟨g,0,none⟩),.agg (evtR x).toArray] W (StepC w0 W g (zap w x) M m):=by
 have h0:=hx.k0;have h1:=hx.k1;by_cases hk2:x.kind≤2
 ·obtain⟨s1,s2⟩:=hx.st hk2;have hs:x.station=1∨x.station=2:=by omega
  have hk:x.kind=0∨x.kind=1∨x.kind=2:=by omega
  rcases hs with hs|hs
  ·have e:=zs4 (w:=w) x hk2 hs;rw[zeu,zgO] at e;rcases hk with hk|hk|hk
   ·rw[zvo _ _ hk] at e;obtain⟨n,er,hv⟩:∃n er,actV w.a.node x.act=(n,er):=⟨_,_,rfl⟩
    rw[hv] at e;refine zue h ha hk hs hv rfl (fun hu her=> ?_) (fun hc=> ?_)
    ·rw[e,if_pos ⟨hu,her⟩,hu]
    ·rw[e,if_neg hc]
   ·rw[zvp _ _ hk] at e;rw[e];exact zug h ha hk hs
   ·rw[zvq _ _ hk] at e;cases hu:w.a.up with
    |true=>rw[if_pos hu] at e;rw[e];exact zlk h ha hk hs hu
    |false=>rw[if_neg (by rw[hu];simp)] at e;rw[e];exact zk4 h ha hk hs hu
  ·have e:=zs4 (w:=w) x hk2 hs;rw[zgt,zlc] at e;rcases hk with hk|hk|hk
   ·rw[zvo _ _ hk] at e;obtain⟨n,er,hv⟩:∃n er,actV w.b.node x.act=(n,er):=⟨_,_,rfl⟩
    rw[hv] at e;refine zuf h ha hk hs hv rfl (fun hu her=> ?_) (fun hc=> ?_)
    ·rw[e,if_pos ⟨hu,her⟩,hu]
    ·rw[e,if_neg hc]
   ·rw[zvp _ _ hk] at e;rw[e];exact zuh h ha hk hs
   ·rw[zvq _ _ hk] at e;cases hu:w.b.up with
    |true=>rw[if_pos hu] at e;rw[e];exact zll h ha hk hs hu
    |false=>rw[if_neg (by rw[hu];simp)] at e;rw[e];exact zk5 h ha hk hs hu
 ·have hk:x.kind=3∨x.kind=4∨x.kind=5:=by omega
  have e:zap w x=if x.kind=3 then⟨w.now,w.limit,w.delay,true,w.a,w.b,w.mail⟩ else if x.kind=4 then⟨w.now,w.limit,w.delay,false,w.a,w.b,w.mail⟩ else⟨w.now,w.limit,x.delay,w.cut,w.a,w.b,w.mail⟩:=by unfold zap;rw[if_neg hk2]
  rcases hk with hk|hk|hk
  ·rw[if_pos hk] at e;rw[e];exact zxb h ha hk
  ·rw[if_neg om,if_pos hk] at e;rw[e];exact zxc h ha hk
  ·rw[if_neg om,if_neg om] at e;rw[e];exact zxd h ha hk
end
