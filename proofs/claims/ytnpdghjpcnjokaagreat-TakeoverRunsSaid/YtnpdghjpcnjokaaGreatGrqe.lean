import Derived.Test.YtnpdghjpcnjokaaGreatGopq
import Derived.Test.YtnpdghjpcnjokaaGreatGrpj
set_option maxHeartbeats 12800000
set_option maxRecDepth 100000
set_option linter.all false
namespace Go.Proofs.YtnpdghjpcnjokaaGreat
open Go.RowKit Go.Proofs.Tryz

def none60 (ps:Array (Nat×Value)):Sem Value:=Instr.buildSlice 38 0 ps
@[go_sem ↓ high] theorem none60_at (ps : Array (Nat × Value)) : Instr.buildSlice 38 0 ps = none60 ps:=rfl
theorem zu6 {P:Program}(w:World)(t e:TypeId)(n:Nat)(hu:P.underlying t=some (.slice e))(hsz:(P.info? e).map (·.size)=some n):
  (Instr.buildSlice t 0 #[]).run P w=.ok (.slice (some ⟨w.heap.size,0,none⟩) 0 0) (w.alloc (.cells #[] e)):=by
 cases hie:P.info? e with
 |none=>simp[hie] at hsz
 |some ie=>have e:∀f:Nat→Value,Array.map f (Array.range 0)=#[]:=fun f=>Array.eq_empty_of_size_eq_zero (by simp);simp[Instr.buildSlice,run_underlying hu,sizeOf,typeInfo,hie,newRow,Instr.fill,e]
@[go_sem] theorem none60_run (w : World) : (none60 #[]).run prog w = .ok (.slice (some ⟨w.heap.size,0,none⟩) 0 0) (w.alloc (.cells #[] 187)) :=
 zu6 w _ _ 45 underlying38 kr
theorem zea (A:Option Addr)(c n:Nat)(a:List Rec)(hn:a.length=n)(B:Option Addr)(d k:Nat)(b:List Rec)(hk:b.length=k)(w:World)(h1:Sl w A 45 (a.map recR))(h2:Sl w B 45 (b.map recR))(hb:n+k≤1000000):
  Calls prog 184 #[.slice A n c,.slice B k d] w (RetQ w (n+k) (a++b)):=by
 subst hn hk;have H1:=zh h1;have H2:=zh h2;clear h1 h2;go_enter func184,ntmps184
 go_wp2_with (first
  |(have hh:=HO1;clear hh;at_builtin;refine za6 (w0:=w) rfl _ _ 38 38 rfl 187 187 45 552 underlying38 underlying38 zDC dk ex _ a.length _ (a.map recR) rfl (HO1.out.mono ex) _ b.length _ (b.map recR) rfl (H2.out.mono ex) (by simp) (zij b) (by unfold maxLen;omega) om (a.length+b.length) rfl ((a++b).map recR) (by simp) ?_;intro D2 K2 w2 hx2 hown hg hA;have HO2:=zh hown;obtain⟨y2,rfl⟩:=hx2.get;clear hown hx2 hg hA)
  |(at_builtin;refine za6 (w0:=w) rfl _ _ 38 38 rfl 187 187 45 552 underlying38 underlying38 zDC dk ex _ 0 0 [] rfl (Own.nil _) _ a.length _ (a.map recR) rfl (H1.out.mono ex) (by simp) (zij a) (by unfold maxLen;omega) om a.length om (a.map recR) rfl ?_;intro D1 K1 w1 hx1 hown hg hA;have HO1:=zh hown;obtain⟨y1,rfl⟩:=hx1.get;clear hown hx1 hg hA))
 go_ret;exact⟨_,_,rfl,ex,HO2.out⟩
theorem zgI (i t:Int)(sp:Bool)(A:Option Addr)(N c:Nat)(ak nx:Int)(k a:Int)(w:World):
  Calls prog 213 #[.agg #[i,t,sp,.slice A N c,ak,nx],k,a] w fun e w'=>e=.returned (.agg #[k,t,a,zI,.slice none 0 0,zI])∧Ext w w':=by
 go_enter func213,ntmps213;go_wp2;exact bodyPost_ret (v:=.agg #[k,t,a,zI,.slice none 0 0,zI]) (by simp[results,results213,go_sem]) rfl ⟨rfl,ex⟩
theorem zHk (id:Int)(w:World):Calls prog 37 #[id] w (zaH w (newV id)):=by
 cases h:za5 id 1 2 with
 |false=>
  have HR:=zh (zDY h);have:=zaF h;clear h;by_cases h1:id<1
  ·go_enter func37,ntmps37;go_wp2;exact bodyPost_ret (v:=.tuple #[.agg Zn,.int .i64 2]) (by simp[results,results37,go_sem]) rfl (zaH.err HR.out ex)
  ·have h2:2<id:=by omega
   go_enter func37,ntmps37;go_wp2;exact bodyPost_ret (v:=.tuple #[.agg Zn,.int .i64 2]) (by simp[results,results37,go_sem]) rfl (zaH.err HR.out ex)
 |true=>
  have HR:=zh (ztx h);have:=za8 h;have h1:¬id<1:=by omega
  have h2:¬2<id:=by omega
  clear h;go_enter func37,ntmps37;go_wp2;refine bodyPost_ret (v:=.tuple #[.agg #[id,zI,.bool false,.slice none 0 0,zI,zI],zI]) (by simp[results,results37,go_sem]) rfl ?_;rw[HR.out];exact⟨none,0,rfl,ex,za3.nil _⟩
theorem zHj (n:Nod)(A:Option Addr)(c:Nat)(t:Int)(w:World):Calls prog 38 #[.agg (Ln n A c),t] w fun e w'=>e=.returned (.agg #[n.id,t,.bool true,.slice A n.log.length c,n.acked,n.log.length])∧Ext w w':=by go_enter func38,ntmps38;go_wp2;exact bodyPost_ret (v:=.agg #[n.id,t,.bool true,.slice A n.log.length c,n.acked,n.log.length]) (by simp[results,results38,go_sem]) rfl ⟨rfl,ex⟩
def zlP (w:World) (m:Msg) (e:Ending) (w':World):Prop:=∃A c,e=.returned (.agg (Lm m A c))∧Ext w w'∧Own w w' 187 45 A m.recs.length c (m.recs.map recR)∧∀r∈m.recs,AcnAt w r.act
theorem zlP.of {w w':World}{m:Msg}{k t a b d:Int}{len c:Nat}{D:Option Addr}{l:List Rec}(hm:m=⟨k,t,a,b,l,d⟩)(hl:l.length=len)(hx:Ext w w')(hr:Own w w' 187 45 D len c (l.map recR))(he:∀r∈l,AcnAt w r.act):
  zlP w m (.returned (.agg #[k,t,a,b,.slice D len c,d])) w':=by
 subst hm hl;exact⟨D,c,rfl,hx,hr,he⟩
theorem zGX (n:Nod)(A:Option Addr)(c:Nat)(w:World)(hs:za3 w A c n.log)(hn:NodOk n):Calls prog 139 #[.agg (Ln n A c)] w (zlP w (sentM n)):=by
 have hl:=hs.len;have h256:=hn.len;have h0:=hn.n0;have h1:=hn.n1;obtain⟨j,hj⟩:∃j:Nat,n.next=j:=⟨n.next.toNat,by omega⟩
 have hcap:=hs.le;obtain⟨q,hq⟩:∃q:Nat,min (j+16) n.log.length=q:=⟨_,rfl⟩
 have hjq:j≤q:=by omega
 have hjc:(j:Int)≤(q:Int):=by omega
 have hqc:(q:Int)≤(c:Int):=by omega
 have hql:q≤n.log.length:=by omega
 by_cases hj0:0<j
 ·obtain⟨r,hr⟩:∃r,n.log[j - 1]?=some r:=⟨_,List.getElem?_eq_getElem om⟩
  have HE:=zh (zop n j q hj hq r.term (by rw[if_pos om,hj,show((j:Int) - 1)=((j - 1:Nat):Int) by omega,zdq hr]));obtain⟨hp1,hp2⟩:=hs.part j q hql (q - j) rfl;obtain⟨b,o,rfl,hrec,-⟩:=hs.get hr;have HP1:=zh hp1;have HP2:=zh hp2;have ht:=hrec.term;have hi1:(0:Int)≤(j:Int) - 1:=by omega
  have hi2:(j:Int) - 1<(n.log.length:Int):=by omega
  have hmin:min ((j:Int)+16) (n.log.length:Int)=(q:Int):=by omega
  rw[hj] at h0 h1 ⊢
  clear hp1 hp2 hn hr hrec hq hj hs;go_enter func139,ntmps139;go_wp2_with (go_at_call 184;refine(zea none 0 0 [] rfl _ _ (q - j) ((n.log.take q).drop j) HP2.out _ (Sl.nil _ _ _) (HP1.out.sl.mono ex) om).mono ?_;rintro e w' ⟨D,n',rfl,hx,hown⟩;rw[Nat.zero_add] at hown;simp only[Nat.zero_add];have HO:=zh hown;obtain⟨yc,rfl⟩:=hx.get;clear hx hown);refine bodyPost_ret (v:=.agg #[zI,n.term,j,r.term,.slice D (q - j) n',n.acked]) (by simp[results,results139,go_sem]) rfl ?_;exact zlP.of HE.out HP2.out ex (Own.older (Own.shift HO.out sg) ex) HP1.out.el
 ·obtain rfl:j=0:=by omega
  have HE:=zh (zop n 0 q hj hq 0 (by rw[if_neg om]));obtain⟨hp1,hp2⟩:=hs.part 0 q hql q (Nat.sub_zero q);have HP1:=zh hp1;have HP2:=zh hp2;rw[zb2] at HP1;have hmin:min 16 (n.log.length:Int)=(q:Int):=by omega
  rw[hj] at h0 h1 ⊢
  clear hp1 hp2 hn hq hj hs hj0;go_enter func139,ntmps139;go_wp2_with (go_at_call 184;refine(zea none 0 0 [] rfl _ _ q ((n.log.take q).drop 0) HP2.out _ (Sl.nil _ _ _) (HP1.out.sl.mono ex) om).mono ?_;rintro e w' ⟨D,n',rfl,hx,hown⟩;rw[Nat.zero_add] at hown;simp only[Nat.zero_add];have HO:=zh hown;obtain⟨yc,rfl⟩:=hx.get;clear hx hown);refine bodyPost_ret (v:=.agg #[zI,n.term,zI,zI,.slice D q n',n.acked]) (by simp[results,results139,go_sem]) rfl ?_;exact zlP.of HE.out HP2.out ex (Own.older (Own.shift HO.out sg) ex) HP1.out.el
theorem zq1 (n:Nod)(m:Msg)(hm:sentM n=m)(A:Option Addr)(c:Nat)(w:World)(hs:za3 w A c n.log)(hn:NodOk n):Calls prog 139 #[.agg (Ln n A c)] w (zlP w m):=by subst hm;exact zGX n A c w hs hn
def zg3 (w:World) (v:Msg×Int) (e:Ending) (w':World):Prop:=∃A c,e=.returned (.tuple #[.agg (Lm v.1 A c),v.2])∧Ext w w'∧Own w w' 187 45 A v.1.recs.length c (v.1.recs.map recR)∧∀r∈v.1.recs,AcnAt w r.act

theorem zvx {l r:List Rec}{p i:Nat}{x y:Rec}(h:i≤keepN (l.drop p) r)(hx:l[p+i]?=some x)(hy:r[i]?=some y)(ht:x.term=y.term):i+1≤keepN (l.drop p) r:=by
 have h1:=(List.getElem?_eq_some_iff.1 hx).1;have h2:=(List.getElem?_eq_some_iff.1 hy).1;refine ziG _ _ _ (by rw[List.length_drop];omega) om fun j hj=> ?_;by_cases hji:j<i
 ·exact ze8 _ _ j om
 ·obtain rfl:j=i:=by omega
  rw[List.getElem?_drop,hx,hy];simp[ht]
theorem keep_other {l r:List Rec}{p i:Nat}{x y:Rec}(h:i≤keepN (l.drop p) r)(hx:l[p+i]?=some x)(hy:r[i]?=some y)(ht:¬x.term=y.term):keepN (l.drop p) r=i:=by
 by_cases hlt:i<keepN (l.drop p) r
 ·have:=ze8 _ _ i hlt;rw[List.getElem?_drop,hx,hy] at this;exact absurd (by simpa using this) ht
 ·omega
theorem zvy {l r:List Rec}{p i:Nat}(hp:p≤l.length)(h:i≤keepN (l.drop p) r)(hl:l.length≤p+i):keepN (l.drop p) r=i:=by have:=(zcy (l.drop p) r).1;rw[List.length_drop] at this;omega
theorem zA7 {l r:List Rec}{p i:Nat}(h:i≤keepN (l.drop p) r)(hl:r.length≤i):keepN (l.drop p) r=r.length:=by have:=(zcy (l.drop p) r).2;omega
def lostB (p:Nat) (l r:List Rec) (f:Int):Bool:=decide (keepN (l.drop p) r<r.length∧(p:Int)+keepN (l.drop p) r<min f l.length)
def zek (p:Nat) (l r:List Rec):List Rec:=if keepN (l.drop p) r<r.length then l.take (p+keepN (l.drop p) r)++r.drop (keepN (l.drop p) r) else l
theorem ziK (n:Nod)(m:Msg)(p:Nat)(hp:m.at_=p):zek p n.log m.recs=tookL n m:=by unfold zek tookL;rw[show m.at_.toNat=p by omega]
def LogQ (w X W:World) (D:Option Addr) (N K:Nat) (l:List Rec):Prop:=za3 w D K l∨(Own X W 187 45 D N K (l.map recR)∧∀r∈l,AcnAt w r.act)
theorem LogQ.recs {w X W:World}{D:Option Addr}{N K:Nat}{l:List Rec}(h:LogQ w X W D N K l)(hn:l.length=N)(hx:Ext w W):za3 W D K l:=by
 rcases h with h|⟨h,he⟩
 ·exact h.mono hx
 ·exact Own.recs h hn fun r hr=>(he r hr).mono hx
theorem LogQ.base {w X X' W:World}{D:Option Addr}{N K:Nat}{l:List Rec}(h:LogQ w X' W D N K l)(hs:X.heap.size≤X'.heap.size):LogQ w X W D N K l:=by
 rcases h with h|⟨h,he⟩
 ·exact .inl h
 ·refine .inr ⟨⟨h.len,h.row,h.one,h.le,h.cap,?_⟩,he⟩;rcases h.at_ with h0|⟨g,cur,h1,h2,h3⟩
  ·exact .inl h0
  ·exact .inr ⟨g,cur,h1,by omega,h3⟩
theorem LogQ.mono {w X W W':World}{D:Option Addr}{N K:Nat}{l:List Rec}(h:LogQ w X W D N K l)(hx:Ext W W'):LogQ w X W' D N K l:=by
 rcases h with h|⟨h,he⟩
 ·exact .inl h
 ·exact .inr ⟨h.mono hx,he⟩
theorem LogQ.along {w X X' W:World}{y:Gr}{D:Option Addr}{N K:Nat}{l:List Rec}(h:LogQ w X (xt X y) D N K l)(hx:Ext (xt X' y) W)(hs:X.heap.size=X'.heap.size):LogQ w X' W D N K l:=by
 rcases h with h|⟨h,he⟩
 ·exact .inl h
 ·exact .inr ⟨h.along hx hs,he⟩
def RetLogQ (w:World) (A:Option Addr) (c:Nat) (l L:List Rec) (e:Ending) (w':World):Prop:=∃D K,e=.returned (.slice D L.length K)∧Ext w w'∧((D=A∧K=c∧L=l)∨Own w w' 187 45 D L.length K (L.map recR))
theorem zh4 {p:Nat}{l r:List Rec}{P:Rec→Prop}(h1:∀x∈l,P x)(h2:∀x∈r,P x):∀x∈zek p l r,P x:=by
 intro x hx;unfold zek at hx;split at hx
 ·rcases List.mem_append.1 hx with hx|hx
  ·exact h1 x (List.mem_of_mem_take hx)
  ·exact h2 x (List.mem_of_mem_drop hx)
 ·exact h1 x hx
theorem LogQ.got {w X W:World}{A D:Option Addr}{c K N:Nat}{l L:List Rec}(h:(D=A∧K=c∧L=l)∨Own X W 187 45 D N K (L.map recR))(hs:za3 w A c l)(hel:∀r∈L,AcnAt w r.act):LogQ w X W D N K L:=by
 rcases h with⟨rfl,rfl,rfl⟩|h
 ·exact .inl hs
 ·exact .inr ⟨h,hel⟩
def Stab.ownQ (X:World) (n:Nat) (l:List Rec):Stab:=⟨fun v W=> ∃D K,v=.slice D n K∧Own X W 187 45 D n K (l.map recR),fun _ _ _ hx ⟨D,K,e,h⟩=>⟨D,K,e,h.mono hx⟩⟩
section
variable (A:Option Addr) (c:Nat) (l:List Rec) (m:Msg) (B:Option Addr) (d:Nat) (w:World) (p:Nat)
theorem r54_lost (hs:za3 w A c l)(hm:za3 w B d m.recs)(hpl:p≤l.length)(h256:l.length≤256)(hrl:m.recs.length≤16)(f:Int):
  Calls prog 242 #[.slice A l.length c,.agg #[m.kind,m.term,p,m.before,.slice B m.recs.length d,m.acked],f] w fun e w'=>e=.returned (.bool (lostB p l m.recs f))∧Ext w w':=by
 have hl:=hs.len;have HS:=zh hs;have HM:=zh hm;obtain⟨v,hv⟩:∃v,lostB p l m.recs f=v:=⟨_,rfl⟩
 have HV:=zh hv;rw[hv];clear hv hs hm;go_enter func242,ntmps242;go_wp2;go_loopw [7] (fun i wr=> ∃k:Nat,k≤m.recs.length∧i=.int .i64 k∧Ext w wr∧Hid (k≤keepN (l.drop p) m.recs)∧wr.cell? ⟨w.heap.size,2,none⟩=some (.int .i64 p)∧wr.cell? ⟨w.heap.size,4,none⟩=some (.slice B m.recs.length d)) (fun i _=>m.recs.length - (intOf i).toNat)
 case atStart => exact ⟨0,by omega,rfl,ex,zh (Nat.zero_le _),by simp [go_sem],by simp [go_sem]⟩
 case round =>
  obtain⟨k,hk,rfl,hx,HK,c2,c4⟩:=hrel;obtain⟨y0,rfl⟩:=hx.get;clear hx;by_cases hlt:k<m.recs.length
  ·obtain⟨y,hy⟩:∃y,m.recs[k]?=some y:=⟨_,List.getElem?_eq_getElem hlt⟩
   have hw:IntKind.i64.wrap ((p:Int)+(k:Int))=(p:Int)+(k:Int):=IntWalk.i64_in _ om;by_cases hll:p+k<l.length
   ·obtain⟨x,hx⟩:∃x,l[p+k]?=some x:=⟨_,List.getElem?_eq_getElem hll⟩
    obtain⟨b,o,rfl,hrx,-⟩:=HS.out.get hx;obtain⟨b2,o2,rfl,hry,-⟩:=HM.out.get hy;have t1:=hrx.term;have t2:=hry.term;have i1:(0:Int)≤(k:Int):=by omega
    have i2:(k:Int)<(m.recs.length:Int):=by omega
    have i3:(0:Int)≤(p:Int)+(k:Int):=by omega
    have i4:(p:Int)+(k:Int)<(l.length:Int):=by omega
    have i5:((p:Int)+(k:Int)).toNat=p+k:=by omega
    have i6:¬(l.length:Int)≤(p:Int)+(k:Int):=by omega
    clear hrx hry;by_cases ht:x.term=y.term
    ·have hz:(x.term !=y.term)=false:=by simpa using ht
     have HK2:=zh (zvx HK.out hx hy ht);clear hx hy ht;go_wp2_with fail;(refine zcL kr kr ?_;(repeat(go_big_quiet_step (fail)));refine wqN fun y=>?_);go_wp2;go_light;exact⟨⟨k+1,by omega,by go_num,ex,HK2,by simp[go_sem,c2],by simp[go_sem,c4]⟩,by simp[intOf];omega⟩
    ·have hz:(x.term !=y.term)=true:=by simpa using ht
     have he:=keep_other HK.out hx hy ht;have HR:=zh (show decide ((p:Int)+(k:Int)<f)=v by rw[←HV.out];unfold lostB;rw[he];apply decide_eq_decide.2;omega)
     clear hx hy ht he;go_wp2_with fail;(refine zcL kr kr ?_;(repeat(go_big_quiet_step (fail)));refine wqN fun y=>?_);go_wp2;go_ret;exact⟨ret_b HR.out,ex⟩
   ·have he:=zvy hpl HK.out om;have HR:=zh (show false=v by rw[←HV.out];unfold lostB;rw[he];symm;apply decide_eq_false;omega)
    have i6:(l.length:Int)≤(p:Int)+(k:Int):=by omega
    clear he hy;go_wp2;go_ret;exact⟨ret_b HR.out,ex⟩
  ·have he:=zA7 HK.out om;have HR:=zh (show false=v by rw[←HV.out];unfold lostB;rw[he];symm;apply decide_eq_false;omega)
   clear he;go_wp2;go_ret;exact⟨ret_b HR.out,ex⟩
theorem zBR (hs:za3 w A c l)(hm:za3 w B d m.recs)(hpl:p≤l.length)(h256:l.length≤256)(hrl:m.recs.length≤16):
  Calls prog 243 #[.slice A l.length c,.agg #[m.kind,m.term,p,m.before,.slice B m.recs.length d,m.acked]] w (RetLogQ w A c l (zek p l m.recs)):=by
 have hl:=hs.len;have hcap:=hs.le;have hcap2:=hm.le;have HS:=zh hs;have HM:=zh hm;obtain⟨v,hv⟩:∃v,zek p l m.recs=v:=⟨_,rfl⟩
 have HV:=zh hv;rw[hv];have hs0:=hs;have hm0:=hm;clear hv hs hm;go_enter func243,ntmps243;go_wp2;go_loopw [5] (fun i wr=> ∃k:Nat,k≤m.recs.length∧i=.int .i64 k∧Ext w wr∧Hid (k≤keepN (l.drop p) m.recs)∧wr.cell? ⟨w.heap.size,2,none⟩=some (.int .i64 p)∧wr.cell? ⟨w.heap.size,4,none⟩=some (.slice B m.recs.length d)) (fun i _=>m.recs.length - (intOf i).toNat)
 case atStart => exact ⟨0,by omega,rfl,ex,zh (Nat.zero_le _),by simp [go_sem],by simp [go_sem]⟩
 case round =>
  obtain⟨k,hk,rfl,hx,HK,c2,c4⟩:=hrel;obtain⟨y0,rfl⟩:=hx.get;clear hx;by_cases hlt:k<m.recs.length
  ·obtain⟨y,hy⟩:∃y,m.recs[k]?=some y:=⟨_,List.getElem?_eq_getElem hlt⟩
   have hw:IntKind.i64.wrap ((p:Int)+(k:Int))=(p:Int)+(k:Int):=IntWalk.i64_in _ om;have i1:(0:Int)≤(k:Int):=by omega
   have i2:(k:Int)<(m.recs.length:Int):=by omega
   have i3:(0:Int)≤(p:Int)+(k:Int):=by omega
   have i5:((p:Int)+(k:Int)).toNat=p+k:=by omega
   have i7:(k:Int)≤(m.recs.length:Int):=by omega
   have i8:(m.recs.length:Int)≤(d:Int):=by omega
   have hq2:=hm0.part k m.recs.length (Nat.le_refl _) (m.recs.length - k) rfl;rw[List.take_length] at hq2;have HQ2:=zh hq2.1;have HL2:=zh hq2.2;clear hq2;by_cases hll:p+k<l.length
   ·obtain⟨x,hx⟩:∃x,l[p+k]?=some x:=⟨_,List.getElem?_eq_getElem hll⟩
    have hq1:=hs0.part 0 (p+k) om (p+k) (Nat.sub_zero _);rw[List.drop_zero,zb2,Nat.sub_zero] at hq1;have HQ1:=zh hq1.1;have HL1:=zh hq1.2;clear hq1;obtain⟨b,o,rfl,hrx,-⟩:=HS.out.get hx;obtain⟨b2,o2,rfl,hry,-⟩:=HM.out.get hy;have t1:=hrx.term;have t2:=hry.term;have i4:(p:Int)+(k:Int)<(l.length:Int):=by omega
    have i6:¬(l.length:Int)≤(p:Int)+(k:Int):=by omega
    have i6d:decide ((l.length:Int)≤(p:Int)+(k:Int))=false:=decide_eq_false i6;have i9:(p:Int)+(k:Int)≤(c:Int):=by omega
    clear hrx hry;by_cases ht:x.term=y.term
    ·have hz:(x.term !=y.term)=false:=by simpa using ht
     have HK2:=zh (zvx HK.out hx hy ht);clear hx hy ht;go_wp2_with fail;(refine zcL kr kr ?_;(repeat(go_big_quiet_step (fail)));refine wqN fun y=>?_);go_wp2;go_light;exact⟨⟨k+1,by omega,by go_num,ex,HK2,by simp[go_sem,c2],by simp[go_sem,c4]⟩,by simp[intOf];omega⟩
    ·have hz:(x.term !=y.term)=true:=by simpa using ht
     have he:=keep_other HK.out hx hy ht;have HR:=zh (show v=l.take (p+k)++m.recs.drop k by rw[←HV.out];unfold zek;rw[he,if_pos hlt]);clear hx hy ht he;go_wp2_with fail;(refine zcL kr kr ?_;(repeat(go_big_quiet_step (fail)));refine wqN fun y=>?_);go_wp2;refine zrD 9 [] [Stab.is (.slice (some ⟨b,o,none⟩) l.length c),Stab.is (.int .i64 ((p:Int)+(k:Int))),Stab.is (.slice (some ⟨b,o,none⟩) (p+k) c),Stab.is (.pointer (some ⟨w.heap.size,4,none⟩)),Stab.is (.slice (some ⟨b2,o2,none⟩) m.recs.length d),Stab.is (.int .i64 k),Stab.is (.slice (partA (some ⟨b2,o2,none⟩) k d 45) (m.recs.length - k) (d - k)),Stab.ownQ w (p+k+(m.recs.length - k)) (l.take (p+k)++m.recs.drop k),Stab.ownQ w (p+k+(m.recs.length - k)) (l.take (p+k)++m.recs.drop k)] (fun u=>by(simp only[zc0,List.take_succ_cons,List.take_zero,Act.put,Nat.zero_add,Nat.reduceAdd]);(try simp only[lsT,lsS,lsZ]);exact rfl) kr kr (fun _ _ _ _ _ h=>h) ?_ ?_
     ·refine⟨?_,?_,?_,?_,?_,?_,?_,?_,?_,trivial⟩
      ·refine sla fun u y9 hd=>?_;refine za0 rfl rfl rfl ?_;intro K hK;go_simp;exact hK _ _ rfl ex rfl
      ·refine sla fun u y9 hd=>?_;refine za0 rfl rfl rfl ?_;intro K hK;go_simp;exact hK _ _ rfl ex rfl
      ·refine sla fun u y9 hd=>?_;have e0:u 0=.slice (some ⟨b,o,none⟩) l.length c:=hd 0 kr;have e1:u 1=.int .i64 ((p:Int)+(k:Int)):=hd 1 kr;simp only[e0,e1];refine za0 rfl rfl rfl ?_;intro K hK;go_simp;exact hK _ _ rfl ex rfl
      ·refine sla fun u y9 hd=>?_;refine za0 rfl rfl rfl ?_;intro K hK;go_simp;exact hK _ _ rfl ex rfl
      ·refine sla fun u y9 hd=>?_;have e3:u 3=.pointer (some ⟨w.heap.size,4,none⟩):=hd 3 kr;simp only[e3];refine za0 rfl rfl rfl ?_;intro K hK;go_simp;exact hK _ _ rfl ex rfl
      ·refine sla fun u y9 hd=>?_;refine za0 rfl rfl rfl ?_;intro K hK;go_simp;exact hK _ _ rfl ex rfl
      ·refine sla fun u y9 hd=>?_;have e4:u 4=.slice (some ⟨b2,o2,none⟩) m.recs.length d:=hd 4 kr;have e5:u 5=.int .i64 k:=hd 5 kr;simp only[e4,e5];refine za0 rfl rfl rfl ?_;intro K hK;go_simp;exact hK _ _ rfl ex rfl
      ·refine sla fun u y9 hd=>?_;have e2:u 2=.slice (some ⟨b,o,none⟩) (p+k) c:=hd 2 kr;have e6:u 6=.slice (partA (some ⟨b2,o2,none⟩) k d 45) (m.recs.length - k) (d - k):=hd 6 kr;simp only[e2,e6];refine za0 rfl rfl rfl ?_;intro K hK;go_simp;go_at_call 184;refine(zea _ _ (p+k) (l.take (p+k)) HL1.out _ _ (m.recs.length - k) (m.recs.drop k) HL2.out _ (HQ1.out.sl.mono ex) (HQ2.out.sl.mono ex) om).mono ?_;rintro e w' ⟨D,K,rfl,hx,hown⟩;exact hK _ _ rfl hx ⟨D,K,rfl,Own.older hown ex⟩
      ·refine sla fun u y9 hd=>?_;obtain⟨D7,K7,e7,h7⟩:=hd 7 kr;simp only[e7];refine za0 rfl rfl rfl ?_;intro K hK;go_simp;exact hK _ _ rfl ex ⟨D7,K7,rfl,h7⟩
     ·intro u w2 hx2 hT;obtain⟨t0,t1,t2,t3,t4,t5,t6,t7,t8,-⟩:=hT;obtain⟨y9,rfl⟩:=hx2.get;clear hx2;obtain⟨D7,K7,e8,h7⟩:=t8;simp only[e8];clear e8 t0 t1 t2 t3 t4 t5 t6 t7;simp only[List.drop_succ_cons,List.drop_zero];refine wpList_nil ?_;go_wp2_with fail;go_ret;rw[HR.out];exact⟨D7,K7,by simp;omega,ex,.inr (by rw[show(l.take (p+k)++m.recs.drop k).length=p+k+(m.recs.length - k) by simp;omega];exact h7.mono ex)⟩
   ·have he:=zvy hpl HK.out om;have hpe:p+k=l.length:=by have:=(zcy (l.drop p) m.recs).1;rw[he,List.length_drop] at this;omega
    have HR:=zh (show v=l.take (p+k)++m.recs.drop k by rw[←HV.out];unfold zek;rw[he,if_pos hlt]);have hq1:=hs0.part 0 (p+k) om (p+k) (Nat.sub_zero _);rw[List.drop_zero,zb2,Nat.sub_zero] at hq1;have HQ1:=zh hq1.1;have HL1:=zh hq1.2;have i6:(l.length:Int)≤(p:Int)+(k:Int):=by omega
    have i6d:decide ((l.length:Int)≤(p:Int)+(k:Int))=true:=decide_eq_true i6;have HPE:=zh hpe;have i9:(p:Int)+(k:Int)≤(c:Int):=by omega
    clear he hy hq1 hpe;go_wp2_with fail;(refine zcL kr kr ?_;(repeat(go_big_quiet_step (fail)));refine wqN fun y=>?_);go_wp2;refine zrD 9 [] [Stab.is (.slice A l.length c),Stab.is (.int .i64 ((p:Int)+(k:Int))),Stab.is (.slice A (p+k) c),Stab.is (.pointer (some ⟨w.heap.size,4,none⟩)),Stab.is (.slice B m.recs.length d),Stab.is (.int .i64 k),Stab.is (.slice (partA B k d 45) (m.recs.length - k) (d - k)),Stab.ownQ w (p+k+(m.recs.length - k)) (l.take (p+k)++m.recs.drop k),Stab.ownQ w (p+k+(m.recs.length - k)) (l.take (p+k)++m.recs.drop k)] (fun u=>by(simp only[zc0,List.take_succ_cons,List.take_zero,Act.put,Nat.zero_add,Nat.reduceAdd]);(try simp only[lsT,lsS,lsZ]);exact rfl) kr kr (fun _ _ _ _ _ h=>h) ?_ ?_
    ·refine⟨?_,?_,?_,?_,?_,?_,?_,?_,?_,trivial⟩
     ·refine sla fun u y9 hd=>?_;refine za0 rfl rfl rfl ?_;intro K hK;go_simp;exact hK _ _ rfl ex rfl
     ·refine sla fun u y9 hd=>?_;refine za0 rfl rfl rfl ?_;intro K hK;go_simp;exact hK _ _ rfl ex rfl
     ·refine sla fun u y9 hd=>?_;have e0:u 0=.slice A l.length c:=hd 0 kr;have e1:u 1=.int .i64 ((p:Int)+(k:Int)):=hd 1 kr;simp only[e0,e1];refine za0 rfl rfl rfl ?_;intro K hK;go_simp;exact hK _ _ rfl ex rfl
     ·refine sla fun u y9 hd=>?_;refine za0 rfl rfl rfl ?_;intro K hK;go_simp;exact hK _ _ rfl ex rfl
     ·refine sla fun u y9 hd=>?_;have e3:u 3=.pointer (some ⟨w.heap.size,4,none⟩):=hd 3 kr;simp only[e3];refine za0 rfl rfl rfl ?_;intro K hK;go_simp;exact hK _ _ rfl ex rfl
     ·refine sla fun u y9 hd=>?_;refine za0 rfl rfl rfl ?_;intro K hK;go_simp;exact hK _ _ rfl ex rfl
     ·refine sla fun u y9 hd=>?_;have e4:u 4=.slice B m.recs.length d:=hd 4 kr;have e5:u 5=.int .i64 k:=hd 5 kr;simp only[e4,e5];refine za0 rfl rfl rfl ?_;intro K hK;go_simp;exact hK _ _ rfl ex rfl
     ·refine sla fun u y9 hd=>?_;have e2:u 2=.slice A (p+k) c:=hd 2 kr;have e6:u 6=.slice (partA B k d 45) (m.recs.length - k) (d - k):=hd 6 kr;simp only[e2,e6];refine za0 rfl rfl rfl ?_;intro K hK;go_simp;go_at_call 184;refine(zea _ _ (p+k) (l.take (p+k)) HL1.out _ _ (m.recs.length - k) (m.recs.drop k) HL2.out _ (HQ1.out.sl.mono ex) (HQ2.out.sl.mono ex) (by have:=HPE.out;omega)).mono ?_;rintro e w' ⟨D,K,rfl,hx,hown⟩;exact hK _ _ rfl hx ⟨D,K,rfl,Own.older hown ex⟩
     ·refine sla fun u y9 hd=>?_;obtain⟨D7,K7,e7,h7⟩:=hd 7 kr;simp only[e7];refine za0 rfl rfl rfl ?_;intro K hK;go_simp;exact hK _ _ rfl ex ⟨D7,K7,rfl,h7⟩
    ·intro u w2 hx2 hT;obtain⟨t0,t1,t2,t3,t4,t5,t6,t7,t8,-⟩:=hT;obtain⟨y9,rfl⟩:=hx2.get;clear hx2;obtain⟨D7,K7,e8,h7⟩:=t8;simp only[e8];clear e8 t0 t1 t2 t3 t4 t5 t6 t7;simp only[List.drop_succ_cons,List.drop_zero];refine wpList_nil ?_;go_wp2_with fail;go_ret;rw[HR.out];exact⟨D7,K7,by have:=HPE.out;simp;omega,ex,.inr (by rw[show(l.take (p+k)++m.recs.drop k).length=p+k+(m.recs.length - k) by have:=HPE.out;simp;omega];exact h7.mono ex)⟩
  ·have he:=zA7 HK.out om;have HR:=zh (show v=l by rw[←HV.out];unfold zek;rw[if_neg om]);clear he;go_wp2;go_ret;rw[HR.out];exact⟨A,c,rfl,ex,.inl ⟨rfl,rfl,rfl⟩⟩
end

def zd7 (w W:World) (v:Nod×Msg×Bool×Int) (e:Ending) (w':World):Prop:=∃A c,e=.returned (.tuple #[.agg (Ln v.1 A c),.agg (La v.2.1),v.2.2.2])∧Ext W w'∧LogQ w W w' A v.1.log.length c v.1.log
theorem zd7.old {w W w':World}{v:Nod×Msg×Bool×Int}{n:Nod}{k t a:Int}{ok:Bool}{x:Int}(hv:v=(n,⟨k,t,a,0,[],0⟩,ok,x)){A:Option Addr}{c:Nat}(hx:Ext W w')(hr:za3 w A c n.log):
  zd7 w W v (.returned (.tuple #[.agg (Ln n A c),.agg #[k,t,a,zI,.slice none 0 0,zI],x])) w':=by
 subst hv;exact⟨A,c,rfl,hx,.inl hr⟩
theorem zfo (A:Option Addr)(c n:Nat)(l:List Rec)(hn:l.length=n)(low high v:Int)(hv:recsE low high l=v)(w:World)(hs:za3 w A c l):
  Calls prog 83 #[.slice A n c,low,high] w fun e w'=>e=.returned (.int .i64 v)∧Ext w w':=by
 subst hn hv;exact zaM A c l low high w hs
theorem zdm (A:Option Addr)(c:Nat)(l:List Rec)(m:Msg)(B:Option Addr)(d:Nat)(w:World)(p:Nat)(hs:za3 w A c l)(hm:za3 w B d m.recs)(hpl:p≤l.length)(h256:l.length≤256)(hrl:m.recs.length≤16)(f:Int)(v:Bool)(hv:lostB p l m.recs f=v):
  Calls prog 242 #[.slice A l.length c,.agg #[m.kind,m.term,p,m.before,.slice B m.recs.length d,m.acked],f] w fun e w'=>e=.returned (.bool v)∧Ext w w':=by
 subst hv;exact r54_lost A c l m B d w p hs hm hpl h256 hrl f
theorem zdx (A:Option Addr)(c:Nat)(l:List Rec)(m:Msg)(B:Option Addr)(d:Nat)(w:World)(p:Nat)(hs:za3 w A c l)(hm:za3 w B d m.recs)(hpl:p≤l.length)(h256:l.length≤256)(hrl:m.recs.length≤16)(L:List Rec)(N:Nat)(hL:zek p l m.recs=L)(hN:L.length=N):
  Calls prog 243 #[.slice A l.length c,.agg #[m.kind,m.term,p,m.before,.slice B m.recs.length d,m.acked]] w fun e w'=> ∃D K,e=.returned (.slice D N K)∧Ext w w'∧((D=A∧K=c∧L=l)∨Own w w' 187 45 D N K (L.map recR)):=by
 subst hL hN;exact zBR A c l m B d w p hs hm hpl h256 hrl
section
variable (n:Nod) (A:Option Addr) (c:Nat) (m:Msg) (p:Nat) (B:Option Addr) (d:Nat) (w:World) (y0:Gr)
theorem zEj (hp:m.at_=p)(hs:za3 w A c n.log)(h:n.log.length<p):Calls prog 214 #[.agg (Ln n A c),.agg #[m.kind,m.term,p,m.before,.slice B m.recs.length d,m.acked]] (xt w y0) (zd7 w (xt w y0) (takeV n m)):=by have hl:=hs.len;have HS:=zh hs;have HR:=zh (zdp (n:=n) (m:=m) om);clear hs hp;go_enter func214,ntmps214;go_wp2;(refine zrE 6 kr kr ?_;simp only[List.take_succ_cons,List.take_zero,List.drop_succ_cons,List.drop_zero];(repeat(go_big_quiet_step ((go_at_call 213;exact Calls.grows (zgI _ _ _ _ _ _ _ _ _ _ _)))));refine wqN fun y=>?_);go_wp2_with fail;refine bodyPost_ret (v:=.tuple #[.agg (Ln n A c),.agg #[.int .i64 2,n.term,n.log.length,zI,.slice none 0 0,zI],zI]) (by simp[results,results214,go_sem]) rfl ?_;exact zd7.old HR.out ex HS.out
theorem zyH (hp:m.at_=p)(hs:za3 w A c n.log)(h:p≤n.log.length)(h0:0<p)(r:Rec)(hr:n.log[p - 1]?=some r)(hne:r.term≠m.before):Calls prog 214 #[.agg (Ln n A c),.agg #[m.kind,m.term,p,m.before,.slice B m.recs.length d,m.acked]] (xt w y0) (zd7 w (xt w y0) (takeV n m)):=by
 have hl:=hs.len;have HR:=zh (zc7 (n:=n) (m:=m) om om (by rw[hp,show((p:Int) - 1)=((p - 1:Nat):Int) by omega,zdq hr];exact hne));rw[hp] at HR;obtain⟨b,o,rfl,hrec,-⟩:=hs.get hr;have HS:=zh hs;have ht:=hrec.term;have hz:(r.term !=m.before)=true:=by simpa using hne
 have hd:decide (n.log.length<p)=false:=decide_eq_false om;have hi1:(0:Int)≤(p:Int) - 1:=by omega
 have hi2:(p:Int) - 1<(n.log.length:Int):=by omega
 have hi3:((p:Int) - 1).toNat=p - 1:=by omega
 have hw:IntKind.i64.wrap ((p:Int) - 1)=(p:Int) - 1:=IntWalk.i64_in _ om;clear hs hp hrec hr hne;go_enter func214,ntmps214;go_wp2;(refine zcL kr kr ?_;(repeat(go_big_quiet_step (fail)));refine wqN fun y=>?_);go_wp2;(refine zrE 6 kr kr ?_;simp only[List.take_succ_cons,List.take_zero,List.drop_succ_cons,List.drop_zero];(repeat(go_big_quiet_step ((go_at_call 213;exact Calls.grows (zgI _ _ _ _ _ _ _ _ _ _ _)))));refine wqN fun y=>?_);go_wp2_with fail;refine bodyPost_ret (v:=.tuple #[.agg (Ln n (some ⟨b,o,none⟩) c),.agg #[.int .i64 2,n.term,.int .i64 ((p:Int) - 1),zI,.slice none 0 0,zI],zI]) (by simp[results,results214,go_sem]) rfl ?_;exact zd7.old HR.out ex HS.out
theorem zBI (hp:m.at_=p)(hs:za3 w A c n.log)(hm:za3 w B d m.recs)(h256:n.log.length≤256)(hrl:m.recs.length≤16)(hpl:p≤n.log.length)(h2:¬(0<m.at_∧zaQ n.log (m.at_ - 1)≠m.before))(hg:(0<p∧∃(r:Rec) (b o:Nat),A=some ⟨b,o,none⟩∧w.cell? ⟨b,o+(p - 1) * 45,none⟩=some (.int .i64 r.term)∧(r.term !=m.before)=false)∨¬0<p)(h3:keepN (n.log.drop m.at_.toNat) m.recs<m.recs.length∧m.at_+keepN (n.log.drop m.at_.toNat) m.recs<min n.acked n.log.length):Calls prog 214 #[.agg (Ln n A c),.agg #[m.kind,m.term,p,m.before,.slice B m.recs.length d,m.acked]] (xt w y0) (zd7 w (xt w y0) (takeV n m)):=by
 have hl:=hs.len;have hl2:=hm.len;have HS:=zh hs;have HM:=zh hm;have hat:m.at_.toNat=p:=by omega
 obtain⟨L,hL⟩:∃L,tookL n m=L:=⟨_,rfl⟩
 obtain⟨N,hN⟩:∃N,L.length=N:=⟨_,rfl⟩
 have HL:=zh (show zek p n.log m.recs=L by rw[ziK n m p hp];exact hL);have HN:=zh hN;have hd:decide (n.log.length<p)=false:=decide_eq_false om;have hpn:(0:Int)≤(p:Int):=by omega
 have HEL:=zh (show ∀r∈L,AcnAt w r.act by rw[←HL.out];exact zh4 hs.el hm.el);have HR:=zh (zsw (n:=n) (m:=m) om h2 h3);have HB:=zh (show lostB p n.log m.recs n.acked=true by unfold lostB;rw[hat,hp] at h3;exact decide_eq_true h3);clear hs hm hp h2 h3 hL hN hat;rcases hg with⟨h0,r,b,o,rfl,ht,hz⟩|h0
 ·have hi1:(0:Int)≤(p:Int) - 1:=by omega
  have hi2:(p:Int) - 1<(n.log.length:Int):=by omega
  have hi3:((p:Int) - 1).toNat=p - 1:=by omega
  have hw:IntKind.i64.wrap ((p:Int) - 1)=(p:Int) - 1:=IntWalk.i64_in _ om;go_enter func214,ntmps214;go_wp2;(refine zcL kr kr ?_;(repeat(go_big_quiet_step (fail)));refine wqN fun y=>?_);go_wp2_with (first|(go_at_call 242;refine zzg (zdm _ c n.log m B d _ p (HS.out.mono ex) (HM.out.mono ex) hpl h256 hrl n.acked true HB.out) fun y=>?_));refine bodyPost_ret (v:=.tuple #[.agg (Ln n (some ⟨b,o,none⟩) c),.agg Zm,.int .i64 19]) (by simp[results,results214,go_sem]) rfl ?_;exact zd7.old HR.out ex HS.out
 ·have h0':¬(0:Int)<(p:Int):=by omega
  go_enter func214,ntmps214;go_wp2;(refine zcL kr kr ?_;(repeat(go_big_quiet_step (fail)));refine wqN fun y=>?_);go_wp2_with (first|(go_at_call 242;refine zzg (zdm _ c n.log m B d _ p (HS.out.mono ex) (HM.out.mono ex) hpl h256 hrl n.acked true HB.out) fun y=>?_));refine bodyPost_ret (v:=.tuple #[.agg (Ln n A c),.agg Zm,.int .i64 19]) (by simp[results,results214,go_sem]) rfl ?_;exact zd7.old HR.out ex HS.out
theorem zBJ (hp:m.at_=p)(hs:za3 w A c n.log)(hm:za3 w B d m.recs)(h256:n.log.length≤256)(hrl:m.recs.length≤16)(hpl:p≤n.log.length)(h2:¬(0<m.at_∧zaQ n.log (m.at_ - 1)≠m.before))(hg:(0<p∧∃(r:Rec) (b o:Nat),A=some ⟨b,o,none⟩∧w.cell? ⟨b,o+(p - 1) * 45,none⟩=some (.int .i64 r.term)∧(r.term !=m.before)=false)∨¬0<p)(h3:¬(keepN (n.log.drop m.at_.toNat) m.recs<m.recs.length∧m.at_+keepN (n.log.drop m.at_.toNat) m.recs<min n.acked n.log.length))(h4:256<(tookL n m).length):Calls prog 214 #[.agg (Ln n A c),.agg #[m.kind,m.term,p,m.before,.slice B m.recs.length d,m.acked]] (xt w y0) (zd7 w (xt w y0) (takeV n m)):=by
 have hl:=hs.len;have hl2:=hm.len;have HS:=zh hs;have HM:=zh hm;have hat:m.at_.toNat=p:=by omega
 obtain⟨L,hL⟩:∃L,tookL n m=L:=⟨_,rfl⟩
 obtain⟨N,hN⟩:∃N,L.length=N:=⟨_,rfl⟩
 have HL:=zh (show zek p n.log m.recs=L by rw[ziK n m p hp];exact hL);have HN:=zh hN;have hd:decide (n.log.length<p)=false:=decide_eq_false om;have hpn:(0:Int)≤(p:Int):=by omega
 have HEL:=zh (show ∀r∈L,AcnAt w r.act by rw[←HL.out];exact zh4 hs.el hm.el);have HR:=zh (zsx (n:=n) (m:=m) om h2 h3 h4);rw[hL,hN] at h4;have HB:=zh (show lostB p n.log m.recs n.acked=false by unfold lostB;rw[hat,hp] at h3;exact decide_eq_false h3);clear hs hm hp h2 h3 hL hN hat;rcases hg with⟨h0,r,b,o,rfl,ht,hz⟩|h0
 ·have hi1:(0:Int)≤(p:Int) - 1:=by omega
  have hi2:(p:Int) - 1<(n.log.length:Int):=by omega
  have hi3:((p:Int) - 1).toNat=p - 1:=by omega
  have hw:IntKind.i64.wrap ((p:Int) - 1)=(p:Int) - 1:=IntWalk.i64_in _ om;go_enter func214,ntmps214;go_wp2;(refine zcL kr kr ?_;(repeat(go_big_quiet_step (fail)));refine wqN fun y=>?_);go_wp2_with (first|(go_at_call 242;refine zzg (zdm _ c n.log m B d _ p (HS.out.mono ex) (HM.out.mono ex) hpl h256 hrl n.acked false HB.out) fun y=>?_)|(go_at_call 243;refine(zdx _ c n.log m B d _ p (HS.out.mono ex) (HM.out.mono ex) hpl h256 hrl L N HL.out HN.out).mono ?_;rintro e w' ⟨D,K,rfl,hx,hlog⟩;have HLG:=zh (LogQ.got hlog HS.out HEL.out);obtain⟨ym,rfl⟩:=hx.get;clear hx hlog));refine bodyPost_ret (v:=.tuple #[.agg (Ln n (some ⟨b,o,none⟩) c),.agg Zm,.int .i64 5]) (by simp[results,results214,go_sem]) rfl ?_;exact zd7.old HR.out ex HS.out
 ·have h0':¬(0:Int)<(p:Int):=by omega
  go_enter func214,ntmps214;go_wp2;(refine zcL kr kr ?_;(repeat(go_big_quiet_step (fail)));refine wqN fun y=>?_);go_wp2_with (first|(go_at_call 242;refine zzg (zdm _ c n.log m B d _ p (HS.out.mono ex) (HM.out.mono ex) hpl h256 hrl n.acked false HB.out) fun y=>?_)|(go_at_call 243;refine(zdx _ c n.log m B d _ p (HS.out.mono ex) (HM.out.mono ex) hpl h256 hrl L N HL.out HN.out).mono ?_;rintro e w' ⟨D,K,rfl,hx,hlog⟩;have HLG:=zh (LogQ.got hlog HS.out HEL.out);obtain⟨ym,rfl⟩:=hx.get;clear hx hlog));refine bodyPost_ret (v:=.tuple #[.agg (Ln n A c),.agg Zm,.int .i64 5]) (by simp[results,results214,go_sem]) rfl ?_;exact zd7.old HR.out ex HS.out
theorem zyG (hp:m.at_=p)(hs:za3 w A c n.log)(hm:za3 w B d m.recs)(h256:n.log.length≤256)(hrl:m.recs.length≤16)(hpl:p≤n.log.length)(h2:¬(0<m.at_∧zaQ n.log (m.at_ - 1)≠m.before))(hg:(0<p∧∃(r:Rec) (b o:Nat),A=some ⟨b,o,none⟩∧w.cell? ⟨b,o+(p - 1) * 45,none⟩=some (.int .i64 r.term)∧(r.term !=m.before)=false)∨¬0<p)(h3:¬(keepN (n.log.drop m.at_.toNat) m.recs<m.recs.length∧m.at_+keepN (n.log.drop m.at_.toNat) m.recs<min n.acked n.log.length))(h4:¬256<(tookL n m).length)(h5:recsE 1 n.term (tookL n m)≠0):Calls prog 214 #[.agg (Ln n A c),.agg #[m.kind,m.term,p,m.before,.slice B m.recs.length d,m.acked]] (xt w y0) (zd7 w (xt w y0) (takeV n m)):=by
 have hl:=hs.len;have hl2:=hm.len;have HS:=zh hs;have HM:=zh hm;have hat:m.at_.toNat=p:=by omega
 obtain⟨L,hL⟩:∃L,tookL n m=L:=⟨_,rfl⟩
 obtain⟨N,hN⟩:∃N,L.length=N:=⟨_,rfl⟩
 have HL:=zh (show zek p n.log m.recs=L by rw[ziK n m p hp];exact hL);have HN:=zh hN;have hd:decide (n.log.length<p)=false:=decide_eq_false om;have hpn:(0:Int)≤(p:Int):=by omega
 have HEL:=zh (show ∀r∈L,AcnAt w r.act by rw[←HL.out];exact zh4 hs.el hm.el);have HR:=zh (zqC (n:=n) (m:=m) om h2 h3 h4 h5);rw[hL] at h5;rw[hL,hN] at h4;have hz5:(recsE 1 n.term L !=0)=true:=by simpa using h5
 clear h5;have HB:=zh (show lostB p n.log m.recs n.acked=false by unfold lostB;rw[hat,hp] at h3;exact decide_eq_false h3);clear hs hm hp h2 h3 hL hN hat;rcases hg with⟨h0,r,b,o,rfl,ht,hz⟩|h0
 ·have hi1:(0:Int)≤(p:Int) - 1:=by omega
  have hi2:(p:Int) - 1<(n.log.length:Int):=by omega
  have hi3:((p:Int) - 1).toNat=p - 1:=by omega
  have hw:IntKind.i64.wrap ((p:Int) - 1)=(p:Int) - 1:=IntWalk.i64_in _ om;go_enter func214,ntmps214;go_wp2;(refine zcL kr kr ?_;(repeat(go_big_quiet_step (fail)));refine wqN fun y=>?_);go_wp2_with (first|(go_at_call 242;refine zzg (zdm _ c n.log m B d _ p (HS.out.mono ex) (HM.out.mono ex) hpl h256 hrl n.acked false HB.out) fun y=>?_)|(go_at_call 243;refine(zdx _ c n.log m B d _ p (HS.out.mono ex) (HM.out.mono ex) hpl h256 hrl L N HL.out HN.out).mono ?_;rintro e w' ⟨D,K,rfl,hx,hlog⟩;have HLG:=zh (LogQ.got hlog HS.out HEL.out);obtain⟨ym,rfl⟩:=hx.get;clear hx hlog)|(go_at_call 83;refine zzg (zfo D K N L HN.out 1 n.term _ rfl _ (LogQ.recs (HLG.out.mono ex) HN.out ex)) fun y=>?_));refine bodyPost_ret (v:=.tuple #[.agg (Ln n (some ⟨b,o,none⟩) c),.agg Zm,.int .i64 9]) (by simp[results,results214,go_sem]) rfl ?_;exact zd7.old HR.out ex HS.out
 ·have h0':¬(0:Int)<(p:Int):=by omega
  go_enter func214,ntmps214;go_wp2;(refine zcL kr kr ?_;(repeat(go_big_quiet_step (fail)));refine wqN fun y=>?_);go_wp2_with (first|(go_at_call 242;refine zzg (zdm _ c n.log m B d _ p (HS.out.mono ex) (HM.out.mono ex) hpl h256 hrl n.acked false HB.out) fun y=>?_)|(go_at_call 243;refine(zdx _ c n.log m B d _ p (HS.out.mono ex) (HM.out.mono ex) hpl h256 hrl L N HL.out HN.out).mono ?_;rintro e w' ⟨D,K,rfl,hx,hlog⟩;have HLG:=zh (LogQ.got hlog HS.out HEL.out);obtain⟨ym,rfl⟩:=hx.get;clear hx hlog)|(go_at_call 83;refine zzg (zfo D K N L HN.out 1 n.term _ rfl _ (LogQ.recs (HLG.out.mono ex) HN.out ex)) fun y=>?_));refine bodyPost_ret (v:=.tuple #[.agg (Ln n A c),.agg Zm,.int .i64 9]) (by simp[results,results214,go_sem]) rfl ?_;exact zd7.old HR.out ex HS.out
theorem zBH (hp:m.at_=p)(hs:za3 w A c n.log)(hm:za3 w B d m.recs)(h256:n.log.length≤256)(hrl:m.recs.length≤16)(hpl:p≤n.log.length)(h2:¬(0<m.at_∧zaQ n.log (m.at_ - 1)≠m.before))(hg:(0<p∧∃(r:Rec) (b o:Nat),A=some ⟨b,o,none⟩∧w.cell? ⟨b,o+(p - 1) * 45,none⟩=some (.int .i64 r.term)∧(r.term !=m.before)=false)∨¬0<p)(h3:¬(keepN (n.log.drop m.at_.toNat) m.recs<m.recs.length∧m.at_+keepN (n.log.drop m.at_.toNat) m.recs<min n.acked n.log.length))(h4:¬256<(tookL n m).length)(h5:recsE 1 n.term (tookL n m)=0):Calls prog 214 #[.agg (Ln n A c),.agg #[m.kind,m.term,p,m.before,.slice B m.recs.length d,m.acked]] (xt w y0) (zd7 w (xt w y0) (takeV n m)):=by
 have hl:=hs.len;have hl2:=hm.len;have HS:=zh hs;have HM:=zh hm;have hat:m.at_.toNat=p:=by omega
 obtain⟨L,hL⟩:∃L,tookL n m=L:=⟨_,rfl⟩
 obtain⟨N,hN⟩:∃N,L.length=N:=⟨_,rfl⟩
 have HL:=zh (show zek p n.log m.recs=L by rw[ziK n m p hp];exact hL);have HN:=zh hN;have hd:decide (n.log.length<p)=false:=decide_eq_false om;have hpn:(0:Int)≤(p:Int):=by omega
 have HEL:=zh (show ∀r∈L,AcnAt w r.act by rw[←HL.out];exact zh4 hs.el hm.el);have HR:=zh (zsv (n:=n) (m:=m) om h2 h3 h4 h5);unfold tookN ansM at HR;rw[hL,hp] at HR;rw[hL] at h5;rw[hL,hN] at h4;have hz5:(recsE 1 n.term L !=0)=false:=by simpa using h5
 clear h5;have hrb:(m.recs.length:Int)≤16:=by omega
 have hpb:(p:Int)≤256:=by omega
 have hwe:IntKind.i64.wrap ((p:Int)+(m.recs.length:Int))=(p:Int)+(m.recs.length:Int):=IntWalk.i64_in _ om;have HB:=zh (show lostB p n.log m.recs n.acked=false by unfold lostB;rw[hat,hp] at h3;exact decide_eq_false h3);clear hs hm hp h2 h3 hL hN hat;rcases hg with⟨h0,r,b,o,rfl,ht,hz⟩|h0
 ·have hi1:(0:Int)≤(p:Int) - 1:=by omega
  have hi2:(p:Int) - 1<(n.log.length:Int):=by omega
  have hi3:((p:Int) - 1).toNat=p - 1:=by omega
  have hw:IntKind.i64.wrap ((p:Int) - 1)=(p:Int) - 1:=IntWalk.i64_in _ om;go_enter func214,ntmps214;go_wp2;(refine zcL kr kr ?_;(repeat(go_big_quiet_step (fail)));refine wqN fun y=>?_);go_wp2_with (first|(go_at_call 242;refine zzg (zdm _ c n.log m B d _ p (HS.out.mono ex) (HM.out.mono ex) hpl h256 hrl n.acked false HB.out) fun y=>?_)|(go_at_call 243;refine(zdx _ c n.log m B d _ p (HS.out.mono ex) (HM.out.mono ex) hpl h256 hrl L N HL.out HN.out).mono ?_;rintro e w' ⟨D,K,rfl,hx,hlog⟩;have HLG:=zh (LogQ.got hlog HS.out HEL.out);obtain⟨ym,rfl⟩:=hx.get;clear hx hlog)|(go_at_call 83;refine zzg (zfo D K N L HN.out 1 n.term _ rfl _ (LogQ.recs (HLG.out.mono ex) HN.out ex)) fun y=>?_));(refine zrE 4 kr kr ?_;simp only[List.take_succ_cons,List.take_zero,List.drop_succ_cons,List.drop_zero];(repeat(go_big_quiet_step ((go_at_call 213;exact Calls.grows (zgI _ _ _ _ _ _ _ _ _ _ _)))));refine wqN fun y=>?_);go_wp2_with fail;refine bodyPost_ret (v:=.tuple #[.agg #[n.id,n.term,n.speaks,.slice D N K,.int .i64 (max n.acked (min m.acked ((p:Int)+(m.recs.length:Int)))),n.next],.agg #[.int .i64 1,n.term,.int .i64 ((p:Int)+(m.recs.length:Int)),zI,.slice none 0 0,zI],zI]) (by simp[results,results214,go_sem]) rfl ?_;have hz9:=HR.out;rw[hz9];clear hz9;rw[←HN.out] at HLG ⊢
  exact⟨D,K,rfl,ex,LogQ.base (LogQ.along HLG.out ex sg) (by simp[go_sem]<;>omega)⟩
 ·have h0':¬(0:Int)<(p:Int):=by omega
  go_enter func214,ntmps214;go_wp2;(refine zcL kr kr ?_;(repeat(go_big_quiet_step (fail)));refine wqN fun y=>?_);go_wp2_with (first|(go_at_call 242;refine zzg (zdm _ c n.log m B d _ p (HS.out.mono ex) (HM.out.mono ex) hpl h256 hrl n.acked false HB.out) fun y=>?_)|(go_at_call 243;refine(zdx _ c n.log m B d _ p (HS.out.mono ex) (HM.out.mono ex) hpl h256 hrl L N HL.out HN.out).mono ?_;rintro e w' ⟨D,K,rfl,hx,hlog⟩;have HLG:=zh (LogQ.got hlog HS.out HEL.out);obtain⟨ym,rfl⟩:=hx.get;clear hx hlog)|(go_at_call 83;refine zzg (zfo D K N L HN.out 1 n.term _ rfl _ (LogQ.recs (HLG.out.mono ex) HN.out ex)) fun y=>?_));(refine zrE 4 kr kr ?_;simp only[List.take_succ_cons,List.take_zero,List.drop_succ_cons,List.drop_zero];(repeat(go_big_quiet_step ((go_at_call 213;exact Calls.grows (zgI _ _ _ _ _ _ _ _ _ _ _)))));refine wqN fun y=>?_);go_wp2_with fail;refine bodyPost_ret (v:=.tuple #[.agg #[n.id,n.term,n.speaks,.slice D N K,.int .i64 (max n.acked (min m.acked ((p:Int)+(m.recs.length:Int)))),n.next],.agg #[.int .i64 1,n.term,.int .i64 ((p:Int)+(m.recs.length:Int)),zI,.slice none 0 0,zI],zI]) (by simp[results,results214,go_sem]) rfl ?_;have hz9:=HR.out;rw[hz9];clear hz9;rw[←HN.out] at HLG ⊢
  exact⟨D,K,rfl,ex,LogQ.base (LogQ.along HLG.out ex sg) (by simp[go_sem]<;>omega)⟩
end
theorem r54_take (n:Nod)(A:Option Addr)(c:Nat)(m:Msg)(B:Option Addr)(d:Nat)(w W:World)(hx:Ext w W)(hs:za3 w A c n.log)(hm:za3 w B d m.recs)(h256:n.log.length≤256)(hrl:m.recs.length≤16)(ha:0≤m.at_):
  Calls prog 214 #[.agg (Ln n A c),.agg (Lm m B d)] W (zd7 w W (takeV n m)):=by
 obtain⟨y0,rfl⟩:=hx.get;obtain⟨p,hp⟩:∃p:Nat,m.at_=p:=⟨m.at_.toNat,by omega⟩
 rw[hp];by_cases hpl:p≤n.log.length
 ·by_cases hb:0<p∧zaQ n.log ((p:Int) - 1)≠m.before
  ·obtain⟨r,hr⟩:∃r,n.log[p - 1]?=some r:=⟨_,List.getElem?_eq_getElem om⟩
   exact zyH n A c m p B d w y0 hp hs hpl hb.1 r hr (by have:=hb.2;rwa [show((p:Int) - 1)=((p - 1:Nat):Int) by omega,zdq hr] at this)
  ·have h2:¬(0<m.at_∧zaQ n.log (m.at_ - 1)≠m.before):=by rw[hp];intro h;exact hb ⟨by omega,h.2⟩
   have hg:(0<p∧∃(r:Rec) (b o:Nat),A=some ⟨b,o,none⟩∧w.cell? ⟨b,o+(p - 1) * 45,none⟩=some (.int .i64 r.term)∧(r.term !=m.before)=false)∨¬0<p:=by
    by_cases h0:0<p
    ·obtain⟨r,hr⟩:∃r,n.log[p - 1]?=some r:=⟨_,List.getElem?_eq_getElem om⟩
     obtain⟨b,o,hA,hrec,-⟩:=hs.get hr;refine .inl ⟨h0,r,b,o,hA,hrec.term,?_⟩;have he:zaQ n.log ((p:Int) - 1)=m.before:=by
      by_cases he:zaQ n.log ((p:Int) - 1)=m.before
      ·exact he
      ·exact absurd ⟨h0,he⟩ hb
     rw[show((p:Int) - 1)=((p - 1:Nat):Int) by omega,zdq hr] at he;simpa using he
    ·exact .inr h0
   by_cases h3:keepN (n.log.drop m.at_.toNat) m.recs<m.recs.length∧m.at_+keepN (n.log.drop m.at_.toNat) m.recs<min n.acked n.log.length
   ·exact zBI n A c m p B d w y0 hp hs hm h256 hrl hpl h2 hg h3
   ·by_cases h4:256<(tookL n m).length
    ·exact zBJ n A c m p B d w y0 hp hs hm h256 hrl hpl h2 hg h3 h4
    ·by_cases h5:recsE 1 n.term (tookL n m)=0
     ·exact zBH n A c m p B d w y0 hp hs hm h256 hrl hpl h2 hg h3 h4 h5
     ·exact zyG n A c m p B d w y0 hp hs hm h256 hrl hpl h2 hg h3 h4 h5
 ·exact zEj n A c m p B d w y0 hp hs om

section
variable (n:Nod) (A:Option Addr) (c:Nat) (a:Acn) (w:World) (hs:za3 w A c n.log) (ha:AcnAt w a)
include hs
theorem zEB (h:nodE n≠0):Calls prog 136 #[.agg (Ln n A c),.agg (acnR a).toArray] w (zaH w (actV n a)):=by
 have HS:=zh hs;have hz:(nodE n !=0)=true:=by simpa using h
 have HR:=zh (actV_a (a:=a) h);clear h hs;go_enter func136,ntmps136;go_wp2_with (go_at_call 49;refine zzg (zay n A c _ (HS.out.mono ex)) fun y=>?_);exact bodyPost_ret (v:=.tuple #[.agg Zn,.int .i64 (nodE n)]) (by simp[results,results136,go_sem]) rfl (zaH.err HR.out ex)
theorem zEC (h:nodE n=0)(h1:n.speaks=false):Calls prog 136 #[.agg (Ln n A c),.agg (acnR a).toArray] w (zaH w (actV n a)):=by
 have HS:=zh hs;have hz:(nodE n !=0)=false:=by simpa using h
 have HR:=zh (actV_b (a:=a) h h1);have HC:=zh (fun W (hx:Ext w W)=>zay n A c W (hs.mono hx));rw[h1] at HC ⊢
 clear h hs h1;go_enter func136,ntmps136;go_wp2_with (go_at_call 49;refine zzg (HC.out _ ex) fun y=>?_);exact bodyPost_ret (v:=.tuple #[.agg Zn,.int .i64 16]) (by simp[results,results136,go_sem]) rfl (zaH.err HR.out ex)
include ha
theorem zED (h:nodE n=0)(h1:n.speaks=true)(h2:acnE a≠0):Calls prog 136 #[.agg (Ln n A c),.agg (acnR a).toArray] w (zaH w (actV n a)):=by
 have HS:=zh hs;have HA:=zh ha;have hz:(nodE n !=0)=false:=by simpa using h
 have hz2:(acnE a !=0)=true:=by simpa using h2
 have HR:=zh (actV_c (a:=a) h h1 h2);have HC:=zh (fun W (hx:Ext w W)=>zay n A c W (hs.mono hx));rw[h1] at HC ⊢
 clear h hs h1 h2 ha;go_enter func136,ntmps136;go_wp2_with (first|(go_at_call 49;refine zzg (HC.out _ ex) fun y=>?_)|(go_at_call 87;refine zzg (zaj a _ (HA.out.mono ex)) fun y=>?_));exact bodyPost_ret (v:=.tuple #[.agg Zn,.int .i64 (acnE a)]) (by simp[results,results136,go_sem]) rfl (zaH.err HR.out ex)
theorem zEE (h:nodE n=0)(h1:n.speaks=true)(h2:acnE a=0)(h3:early n.log a=true):Calls prog 136 #[.agg (Ln n A c),.agg (acnR a).toArray] w (zaH w (actV n a)):=by
 have HS:=zh hs;have HA:=zh ha;have hl:=hs.len;have hz:(nodE n !=0)=false:=by simpa using h
 have hz2:(acnE a !=0)=false:=by simpa using h2
 have HR:=zh (actV_d (a:=a) h h1 h2 h3);have hpos:0<n.log.length:=by
  by_cases h0:0<n.log.length
  ·exact h0
  ·rw[zvi h0] at h3;cases h3
 obtain⟨r,hr⟩:∃r,n.log[n.log.length - 1]?=some r:=⟨_,List.getElem?_eq_getElem om⟩
 rw[ziz hr] at h3;have HC:=zh (fun W (hx:Ext w W)=>zay n A c W (hs.mono hx));obtain⟨b,o,rfl,hrec,-⟩:=hs.get hr;have hr1:=hrec.act;have hat:w.cell? ⟨b,o+(n.log.length - 1) * 45+1,none⟩=some (.int .i64 r.act.at_):=hrec.at_;have hd:decide (0<(n.log.length:Int))=true:=decide_eq_true om;have hi1:(0:Int)≤(n.log.length:Int) - 1:=by omega
 have hi2:(n.log.length:Int) - 1<(n.log.length:Int):=by omega
 have hi3:((n.log.length:Int) - 1).toNat=n.log.length - 1:=by omega
 have hw:IntKind.i64.wrap ((n.log.length:Int) - 1)=(n.log.length:Int) - 1:=IntWalk.i64_in _ om;rw[h1] at HC ⊢
 clear h hs h1 h2 ha hr hrec;go_enter func136,ntmps136;go_wp2_with (first|(go_at_call 49;refine zzg (HC.out _ ex) fun y=>?_)|(go_at_call 87;refine zzg (zaj a _ (HA.out.mono ex)) fun y=>?_));(refine zcL kr kr ?_;(repeat(go_big_quiet_step (fail)));refine wqN fun y=>?_);go_wp2;exact bodyPost_ret (v:=.tuple #[.agg Zn,.int .i64 9]) (by simp[results,results136,go_sem]) rfl (zaH.err HR.out ex)
theorem zBP (h:nodE n=0)(h1:n.speaks=true)(h2:acnE a=0)(h3:early n.log a=false)(hpos:0<n.log.length):Calls prog 136 #[.agg (Ln n A c),.agg (acnR a).toArray] w (zaH w (actV n a)):=by
 have HS:=zh hs;have HA:=zh ha;have hl:=hs.len;have hz:(nodE n !=0)=false:=by simpa using h
 have hz2:(acnE a !=0)=false:=by simpa using h2
 have H5:=zh (fun h4:n.log.length=256=>actV_e (a:=a) h h1 h2 h3 h4);have H6:=zh (fun h4:¬n.log.length=256=>zzJ (a:=a) h h1 h2 h3 h4);have h256:=((zal n).1 h).len;have HEl:=zh (show ∀r∈n.log++[⟨n.term,a⟩],AcnAt w r.act from fun r hr=>by
  rcases List.mem_append.1 hr with hr|hr
  ·exact hs.el r hr
  ·rw[List.mem_singleton.1 hr];exact ha)
 obtain⟨r,hr⟩:∃r,n.log[n.log.length - 1]?=some r:=⟨_,List.getElem?_eq_getElem om⟩
 rw[ziz hr] at h3;have HC:=zh (fun W (hx:Ext w W)=>zay n A c W (hs.mono hx));obtain⟨b,o,rfl,hrec,-⟩:=hs.get hr;have hr1:=hrec.act;have hat:w.cell? ⟨b,o+(n.log.length - 1) * 45+1,none⟩=some (.int .i64 r.act.at_):=hrec.at_;have hd:decide (0<(n.log.length:Int))=true:=decide_eq_true om;have hi1:(0:Int)≤(n.log.length:Int) - 1:=by omega
 have hi2:(n.log.length:Int) - 1<(n.log.length:Int):=by omega
 have hi3:((n.log.length:Int) - 1).toNat=n.log.length - 1:=by omega
 have hw:IntKind.i64.wrap ((n.log.length:Int) - 1)=(n.log.length:Int) - 1:=IntWalk.i64_in _ om;have HSp:=zh h1;rw[h1] at HC ⊢
 clear h hs h1 h2 ha hr hrec;go_enter func136,ntmps136;go_wp2_with (first|(go_at_call 49;refine zzg (HC.out _ ex) fun y=>?_)|(go_at_call 87;refine zzg (zaj a _ (HA.out.mono ex)) fun y=>?_)|(go_at_call 184;refine(zea _ c n.log.length n.log rfl _ 1 1 [⟨n.term,a⟩] rfl _ (HS.out.sl.mono ex) (Sl.alloc' sg (by simp) (by simp[ziQ])) om).mono ?_;rintro e w' ⟨D,K,rfl,hx,hown⟩;have HO:=zh hown;obtain⟨yj,rfl⟩:=hx.get;clear hx hown));(refine zcL kr kr ?_;(repeat(go_big_quiet_step (fail)));refine wqN fun y=>?_);go_wp2_with (first|(go_at_call 49;refine zzg (HC.out _ ex) fun y=>?_)|(go_at_call 87;refine zzg (zaj a _ (HA.out.mono ex)) fun y=>?_)|(go_at_call 184;refine(zea _ c n.log.length n.log rfl _ 1 1 [⟨n.term,a⟩] rfl _ (HS.out.sl.mono ex) (Sl.alloc' sg (by simp) (by simp[ziQ])) om).mono ?_;rintro e w' ⟨D,K,rfl,hx,hown⟩;have HO:=zh hown;obtain⟨yj,rfl⟩:=hx.get;clear hx hown))
 ·exact bodyPost_ret (v:=.tuple #[.agg Zn,.int .i64 5]) (by simp[results,results136,go_sem]) rfl (zaH.err (H5.out (by first|omega|(simp_all;omega))) ex)
 ·refine bodyPost_ret (v:=.tuple #[.agg #[n.id,n.term,.bool true,.slice D (n.log.length+1) K,n.acked,n.next],zI]) (by simp[results,results136,go_sem]) rfl ?_;rw[H6.out (by first|omega|(simp_all;omega))];have HO9:=HO.out;rw[show n.log++[⟨n.term,a⟩]=(actN n a).log from rfl] at HO9;exact⟨D,K,by(first|(simp[actN];done)|simp[actN,HSp.out]),ex,Own.recs (Own.along HO9 ex sg) (by simp[actN]) (fun r hr=>(HEl.out r hr).mono ex)⟩
theorem zBO (h:nodE n=0)(h1:n.speaks=true)(h2:acnE a=0)(h3:early n.log a=false)(hpos:¬0<n.log.length):Calls prog 136 #[.agg (Ln n A c),.agg (acnR a).toArray] w (zaH w (actV n a)):=by
 obtain⟨id,t,sp,l,ak,nx⟩:=n;obtain rfl:l=[]:=List.eq_nil_of_length_eq_zero (by simpa using hpos);obtain rfl:sp=true:=h1;have h1:(⟨id,t,true,[],ak,nx⟩:Nod).speaks=true:=rfl;have HSp:=zh (show true=true from rfl);clear hpos;have HS:=zh hs;have HA:=zh ha;have hz:(nodE (⟨id,t,true,[],ak,nx⟩:Nod) !=0)=false:=by simpa using h
 have hz2:(acnE a !=0)=false:=by simpa using h2
 have H4:=zh (zzJ (a:=a) h h1 h2 h3 (by simp));have HEl:=zh (show ∀r∈([]:List Rec)++[(⟨t,a⟩:Rec)],AcnAt w r.act from fun r hr=>by
  rcases List.mem_append.1 hr with hr|hr
  ·exact hs.el r hr
  ·rw[List.mem_singleton.1 hr];exact ha)
 have HC:=zh (fun W (hx:Ext w W)=>zay (⟨id,t,true,[],ak,nx⟩:Nod) A c W (hs.mono hx));clear h hs h1 h2 ha h3;go_enter func136,ntmps136;go_wp2_with (first|(go_at_call 49;refine zzg (HC.out _ ex) fun y=>?_)|(go_at_call 87;refine zzg (zaj a _ (HA.out.mono ex)) fun y=>?_)|(go_at_call 184;refine(zea A c 0 [] rfl _ 1 1 [⟨t,a⟩] rfl _ (Sl.nil _ _ _) (Sl.alloc' sg (by simp) (by simp[ziQ])) om).mono ?_;rintro e w' ⟨D,K,rfl,hx,hown⟩;rw[Nat.zero_add] at hown;simp only[Nat.zero_add];have HO:=zh hown;obtain⟨yj,rfl⟩:=hx.get;clear hx hown));(refine zcL kr kr ?_;(repeat(go_big_quiet_step (fail)));refine wqN fun y=>?_);go_wp2_with (first|(go_at_call 49;refine zzg (HC.out _ ex) fun y=>?_)|(go_at_call 87;refine zzg (zaj a _ (HA.out.mono ex)) fun y=>?_)|(go_at_call 184;refine(zea A c 0 [] rfl _ 1 1 [⟨t,a⟩] rfl _ (Sl.nil _ _ _) (Sl.alloc' sg (by simp) (by simp[ziQ])) om).mono ?_;rintro e w' ⟨D,K,rfl,hx,hown⟩;rw[Nat.zero_add] at hown;simp only[Nat.zero_add];have HO:=zh hown;obtain⟨yj,rfl⟩:=hx.get;clear hx hown));refine bodyPost_ret (v:=.tuple #[.agg #[id,t,.bool true,.slice D 1 K,ak,nx],zI]) (by simp[results,results136,go_sem]) rfl ?_;rw[H4.out];have HO9:=HO.out;rw[show[]++[(⟨t,a⟩:Rec)]=(actN ⟨id,t,true,[],ak,nx⟩ a).log from rfl] at HO9;exact⟨D,K,by simp[actN],ex,Own.recs (Own.along HO9 ex sg) (by simp[actN]) (fun r hr=>(HEl.out r hr).mono ex)⟩
theorem zHi:Calls prog 136 #[.agg (Ln n A c),.agg (acnR a).toArray] w (zaH w (actV n a)):=by
 by_cases h:nodE n=0
 ·cases h1:n.speaks with
  |false=>have:=zEC n A c a w hs h h1;rwa [h1] at this
  |true=>
   rw[←h1];by_cases h2:acnE a=0
   ·cases h3:early n.log a with
    |true=>exact zEE n A c a w hs ha h h1 h2 h3
    |false=>
     by_cases hpos:0<n.log.length
     ·exact zBP n A c a w hs ha h h1 h2 h3 hpos
     ·exact zBO n A c a w hs ha h h1 h2 h3 hpos
   ·exact zED n A c a w hs ha h h1 h2
 ·exact zEB n A c a w hs h
end
