import Derived.Test.YtnpdghjpcnjokaaGreatGrpn
namespace Go.Proofs.YtnpdghjpcnjokaaGreat
set_option maxHeartbeats 6400000
set_option maxRecDepth 100000
open Go.RowKit Go.Proofs.Tryz

theorem zmu {l m:List Rec}(h:l.length≠m.length):zaR l m=false:=by
 cases hc:zaR l m with
 |false=>rfl
 |true=>exact absurd ((zby l m).1 hc).1 h
theorem zqf {l m:List Rec}{k:Nat}{x y:Rec}(hx:l[k]?=some x)(hy:m[k]?=some y)(h:sameR x y=false):zaR l m=false:=by
 cases hc:zaR l m with
 |false=>rfl
 |true=>have:=((zby l m).1 hc).2 k x y hx hy;rw[h] at this;cases this
def zhC (l m:List Rec) (k:Nat):Prop:=∀(i:Nat) (x y:Rec),i<k→l[i]?=some x→m[i]?=some y→sameR x y=true
theorem zhC.more {l m:List Rec}{k:Nat}{x y:Rec}(h:zhC l m k)(hx:l[k]?=some x)(hy:m[k]?=some y)(he:sameR x y=true):zhC l m (k+1):=fun i a b hi ha hb=>by
 by_cases h0:i<k
 ·exact h i a b h0 ha hb
 ·obtain rfl:i=k:=by omega
  rw[hx] at ha;rw[hy] at hb;injection ha with ha;injection hb with hb;subst ha hb;exact he
theorem zhC.all {l m:List Rec}(h:zhC l m l.length)(hl:l.length=m.length):zaR l m=true:=
 (zby l m).2 ⟨hl,fun i x y hx hy=>h i x y (List.getElem?_eq_some_iff.1 hx).1 hx hy⟩
theorem zsl {x y:Rec}(h:x.term≠y.term):sameR x y=false:=by unfold sameR;rw[decide_eq_false h];rfl
theorem zqe {x y:Rec}(h:x.term=y.term):sameR x y=sameA x.act y.act:=by unfold sameR;rw[decide_eq_true h];rfl
theorem zjV (a b:Acn)(v:Bool)(hv:sameA a b=v)(w:World)(ha:AcnAt w a)(hb:AcnAt w b):Calls prog 88 #[.agg (acnR a).toArray,.agg (acnR b).toArray] w fun r w'=>r=.returned (.bool v)∧Ext w w':=by subst hv;exact zcz a b w ha hb
theorem zdl (A:Option Addr)(c n:Nat)(l:List Rec)(hn:l.length=n)(B:Option Addr)(d k:Nat)(m:List Rec)(hk:m.length=k)(w:World)(h1:za3 w A c l)(h2:za3 w B d m):
  Calls prog 74 #[.slice A n c,.slice B k d] w fun e w'=>e=.returned (.bool (zaR l m))∧Ext w w':=by
 subst hn hk;have hl:=h1.len;have hl2:=h2.len;have H1:=zh h1;have H2:=zh h2;clear h1 h2;by_cases hlen:l.length=m.length
 ·have hz:((l.length:Int) !=(m.length:Int))=false:=by rw[hlen];simp
  have HL:=zh hlen;clear hlen;go_enter func74,ntmps74;go_wp2;go_loopw [5] (fun i wr=> ∃k:Nat,k≤l.length∧i=.int .i64 k∧Ext w wr∧Hid (zhC l m k)) (fun i _=>l.length - (intOf i).toNat)
  case atStart => exact ⟨0,by omega,rfl,Ext.refl _,zh (fun i _ _ hi => by omega)⟩
  case round =>
   obtain⟨k,hk,rfl,hx,HE⟩:=hrel;obtain⟨y0,rfl⟩:=hx.get;clear hx;by_cases hlt:k<l.length
   ·have hlt2:k<m.length:=by have:=HL.out;omega
    obtain⟨x,hx⟩:∃x,l[k]?=some x:=⟨_,List.getElem?_eq_getElem hlt⟩
    obtain⟨z,hz2⟩:∃z,m[k]?=some z:=⟨_,List.getElem?_eq_getElem hlt2⟩
    obtain⟨b1,o1,rfl,hr1,ha1⟩:=H1.out.get hx;obtain⟨b2,o2,rfl,hr2,ha2⟩:=H2.out.get hz2;have hq1:=hr1.act;have hq2:=hr2.act;have ht1:=hr1.term;have ht2:=hr2.term;have HA1:=zh ha1;have HA2:=zh ha2;have hb0:(0:Int)≤(k:Int):=by omega
    have hb1:(k:Int)<(l.length:Int):=by omega
    have hb2:(k:Int)<(m.length:Int):=by omega
    clear hr1 hr2 ha1 ha2;by_cases he:x.term=z.term
    ·have hzt:(x.term !=z.term)=false:=by simpa using he
     cases hs:sameA x.act z.act with
     |true=>have HM:=zh (HE.out.more hx hz2 ((zqe he).trans hs));have HS:=zh hs;clear hx hz2 he hs hlt2;go_wp2;(refine zcL kr kr ?_;(repeat(go_big_quiet_step ((go_at_call 88;exact Calls.grows (zjV x.act z.act true HS.out _ (HA1.out.mono ex) (HA2.out.mono ex))))));refine wqN fun y=>?_);go_wp2;go_light;exact⟨⟨k+1,by omega,by go_num,ex,HM⟩,by simp[intOf];omega⟩
     |false=>have HV:=zh (zqf hx hz2 ((zqe he).trans hs));have HS:=zh hs;clear hx hz2 he hs hlt2;go_wp2;(refine zcL kr kr ?_;(repeat(go_big_quiet_step ((go_at_call 88;exact Calls.grows (zjV x.act z.act false HS.out _ (HA1.out.mono ex) (HA2.out.mono ex))))));refine wqN fun y=>?_);go_wp2;go_ret;exact⟨ret_b HV.out.symm,ex⟩
    ·have hzt:(x.term !=z.term)=true:=by simpa using he
     have HV:=zh (zqf hx hz2 (zsl he));clear hx hz2 he hlt2;go_wp2;(refine zcL kr kr ?_;(repeat(go_big_quiet_step (fail)));refine wqN fun y=>?_);go_wp2;go_ret;exact⟨ret_b HV.out.symm,ex⟩
   ·have HV:=zh (show zaR l m=true from zhC.all (by have:k=l.length:=om;rw[←this];exact HE.out) HL.out);go_wp2;go_ret;exact⟨ret_b HV.out.symm,ex⟩
 ·have hz:((l.length:Int) !=(m.length:Int))=true:=by simp only[bne_iff_ne,ne_eq,Int.natCast_inj];exact hlen
  have HV:=zh (zmu hlen);clear hlen;go_enter func74,ntmps74;go_wp2;go_ret;exact⟨ret_b HV.out.symm,ex⟩
theorem zeM {a b:Nod}(h:¬(a.id=b.id∧a.term=b.term∧a.speaks=b.speaks∧a.acked=b.acked∧a.next=b.next)):false=sameN a b:=by
 unfold sameN;symm;simp only[Bool.and_eq_false_iff,decide_eq_false_iff_not,beq_eq_false_iff_ne];by_cases h1:a.id=b.id
 ·by_cases h2:a.term=b.term
  ·by_cases h3:a.speaks=b.speaks
   ·by_cases h4:a.acked=b.acked
    ·by_cases h5:a.next=b.next
     ·exact absurd ⟨h1,h2,h3,h4,h5⟩ h
     ·exact .inl (.inr h5)
    ·exact .inl (.inl (.inr h4))
   ·exact .inl (.inl (.inl (.inr h3)))
  ·exact .inl (.inl (.inl (.inl (.inr h2))))
 ·exact .inl (.inl (.inl (.inl (.inl h1))))
theorem zwL {a b:Nod}(h:a.id=b.id∧a.term=b.term∧a.speaks=b.speaks∧a.acked=b.acked∧a.next=b.next):zaR a.log b.log=sameN a b:=by obtain⟨h1,h2,h3,h4,h5⟩:=h;unfold sameN;simp[h1,h2,h3,h4,h5]
theorem zl9 {a b:Msg}(h:¬(a.kind=b.kind∧a.term=b.term∧a.at_=b.at_∧a.before=b.before∧a.acked=b.acked)):false=sameM a b:=by
 unfold sameM;symm;simp only[Bool.and_eq_false_iff,decide_eq_false_iff_not];by_cases h1:a.kind=b.kind
 ·by_cases h2:a.term=b.term
  ·by_cases h3:a.at_=b.at_
   ·by_cases h4:a.before=b.before
    ·by_cases h5:a.acked=b.acked
     ·exact absurd ⟨h1,h2,h3,h4,h5⟩ h
     ·exact .inl (.inr h5)
    ·exact .inl (.inl (.inr h4))
   ·exact .inl (.inl (.inl (.inr h3)))
  ·exact .inl (.inl (.inl (.inl (.inr h2))))
 ·exact .inl (.inl (.inl (.inl (.inl h1))))
theorem zF6 {a b:Msg}(h:a.kind=b.kind∧a.term=b.term∧a.at_=b.at_∧a.before=b.before∧a.acked=b.acked):zaR a.recs b.recs=sameM a b:=by obtain⟨h1,h2,h3,h4,h5⟩:=h;unfold sameM;simp[h1,h2,h3,h4,h5]
theorem ztS (a b:Nod)(A:Option Addr)(c:Nat)(B:Option Addr)(d:Nat)(w:World)(ha:za3 w A c a.log)(hb:za3 w B d b.log):Calls prog 55 #[.agg (Ln a A c),.agg (Ln b B d)] w fun e w'=>e=.returned (.bool (sameN a b))∧Ext w w':=by
 have HA:=zh ha;have HB:=zh hb;have hl1:=ha.len;have hl2:=hb.len;clear ha hb;go_enter func55,ntmps55;go_wp2_with (go_at_call 74;refine zzg (zdl A c _ a.log rfl B d _ b.log rfl _ (HA.out.mono ex) (HB.out.mono ex)) fun y=>?_)
 all_goals
  go_ret;refine⟨ret_b ?_,ex⟩;go_light
  first
   |exact zwL ⟨‹a.id=b.id›,‹a.term=b.term›,‹a.speaks=b.speaks›,‹a.acked=b.acked›,‹a.next=b.next›⟩
   |exact zeM fun h=>‹¬a.id=b.id› h.1
   |exact zeM fun h=>‹¬a.term=b.term› h.2.1
   |exact zeM fun h=>‹¬a.speaks=b.speaks› h.2.2.1
   |exact zeM fun h=>‹¬a.acked=b.acked› h.2.2.2.1
   |exact zeM fun h=>‹¬a.next=b.next› h.2.2.2.2
theorem zii (a b:Msg)(A:Option Addr)(c:Nat)(B:Option Addr)(d:Nat)(w:World)(ha:za3 w A c a.recs)(hb:za3 w B d b.recs):Calls prog 56 #[.agg (Lm a A c),.agg (Lm b B d)] w fun e w'=>e=.returned (.bool (sameM a b))∧Ext w w':=by
 have HA:=zh ha;have HB:=zh hb;have hl1:=ha.len;have hl2:=hb.len;clear ha hb;go_enter func56,ntmps56;go_wp2_with (go_at_call 74;refine zzg (zdl A c _ a.recs rfl B d _ b.recs rfl _ (HA.out.mono ex) (HB.out.mono ex)) fun y=>?_)
 all_goals
  go_ret;refine⟨ret_b ?_,ex⟩;go_light
  first
   |exact zF6 ⟨‹a.kind=b.kind›,‹a.term=b.term›,‹a.at_=b.at_›,‹a.before=b.before›,‹a.acked=b.acked›⟩
   |exact zl9 fun h=>‹¬a.kind=b.kind› h.1
   |exact zl9 fun h=>‹¬a.term=b.term› h.2.1
   |exact zl9 fun h=>‹¬a.at_=b.at_› h.2.2.1
   |exact zl9 fun h=>‹¬a.before=b.before› h.2.2.2.1
   |exact zl9 fun h=>‹¬a.acked=b.acked› h.2.2.2.2

theorem zl6 (x y:Rec)(v:Bool)(hv:sameR x y=v)(w:World)(hx:AcnAt w x.act)(hy:AcnAt w y.act):Calls prog 101 #[.agg (recR x).toArray,.agg (recR y).toArray] w fun e w'=>e=.returned (.bool v)∧Ext w w':=by
 subst hv;have HX:=zh hx;have HY:=zh hy;clear hx hy;by_cases he:x.term=y.term
 ·have HV:=zh (zqe he);have hz:(x.term==y.term)=true:=by simpa using he
  clear he;go_enter func101,ntmps101;go_wp2_with (go_at_call 86;refine zzg (zcN x.act y.act _ (HX.out.mono ex) (HY.out.mono ex)) fun y=>?_);go_ret;exact⟨ret_b HV.out.symm,ex⟩
 ·have HV:=zh (zsl he);have hz:(x.term==y.term)=false:=by simpa using he
  clear he;go_enter func101,ntmps101;go_wp2;go_ret;exact⟨ret_b HV.out.symm,ex⟩
theorem zxJ (A:Option Addr)(c:Nat)(l:List Rec)(B:Option Addr)(d:Nat)(m:List Rec)(w:World)(h1:za3 w A c l)(h2:za3 w B d m):
  Calls prog 100 #[.slice A l.length c,.slice B m.length d,.func (Fn.func 101) #[] #[]] w fun e w'=>e=.returned (.bool (zaR l m))∧Ext w w':=by
 have hl:=h1.len;have hl2:=h2.len;have H1:=zh h1;have H2:=zh h2;clear h1 h2;by_cases hlen:l.length=m.length
 ·have hz:((l.length:Int) !=(m.length:Int))=false:=by rw[hlen];simp
  have HL:=zh hlen;clear hlen;go_enter func100,ntmps100;go_wp2;go_loopw [17] (fun i wr=> ∃k:Nat,k≤l.length∧i=.int .i64 k∧Ext w wr∧Hid (zhC l m k)) (fun i _=>l.length - (intOf i).toNat)
  case atStart => exact ⟨0,by omega,rfl,Ext.refl _,zh (fun i _ _ hi => by omega)⟩
  case round =>
   obtain⟨k,hk,rfl,hx,HE⟩:=hrel;obtain⟨y0,rfl⟩:=hx.get;clear hx;by_cases hlt:k<l.length
   ·have hlt2:k<m.length:=by have:=HL.out;omega
    obtain⟨x,hx⟩:∃x,l[k]?=some x:=⟨_,List.getElem?_eq_getElem hlt⟩
    obtain⟨z,hz2⟩:∃z,m[k]?=some z:=⟨_,List.getElem?_eq_getElem hlt2⟩
    obtain⟨b1,o1,rfl,hr1,ha1⟩:=H1.out.get hx;obtain⟨b2,o2,rfl,hr2,ha2⟩:=H2.out.get hz2;have hq1:=hr1.row;have hq2:=hr2.row;have HA1:=zh ha1;have HA2:=zh ha2;have hb0:(0:Int)≤(k:Int):=by omega
    have hb1:(k:Int)<(l.length:Int):=by omega
    have hb2:(k:Int)<(m.length:Int):=by omega
    clear hr1 hr2 ha1 ha2;cases hs:sameR x z with
    |true=>
     have HM:=zh (HE.out.more hx hz2 hs);have HS:=zh hs;clear hx hz2 hs hlt2
     go_wp2_with (first
      |(refine za7 rfl 180 (.tmp 8) (.tmp 21) rfl rfl sg (recR x) rfl rfl kr (zcS x) ?_)
      |(refine za7 rfl 180 (.tmp 9) (.tmp 25) rfl rfl sg (recR z) rfl rfl kr (zcS z) ?_)
      |(go_at_call 101;refine zzg (zl6 x z true HS.out _ (HA1.out.mono ex) (HA2.out.mono ex)) fun y=>?_))
     go_light;exact⟨⟨k+1,by omega,by go_num,ex,HM⟩,by simp[intOf];omega⟩
    |false=>
     have HV:=zh (zqf hx hz2 hs);have HS:=zh hs;clear hx hz2 hs hlt2
     go_wp2_with (first
      |(refine za7 rfl 180 (.tmp 8) (.tmp 21) rfl rfl sg (recR x) rfl rfl kr (zcS x) ?_)
      |(refine za7 rfl 180 (.tmp 9) (.tmp 25) rfl rfl sg (recR z) rfl rfl kr (zcS z) ?_)
      |(go_at_call 101;refine zzg (zl6 x z false HS.out _ (HA1.out.mono ex) (HA2.out.mono ex)) fun y=>?_))
     go_ret;exact⟨ret_b HV.out.symm,ex⟩
   ·have HV:=zh (show zaR l m=true from zhC.all (by have:k=l.length:=om;rw[←this];exact HE.out) HL.out);go_wp2;go_ret;exact⟨ret_b HV.out.symm,ex⟩
 ·have hz:((l.length:Int) !=(m.length:Int))=true:=by simp only[bne_iff_ne,ne_eq,Int.natCast_inj];exact hlen
  have HV:=zh (zmu hlen);clear hlen;go_enter func100,ntmps100;go_wp2;go_ret;exact⟨ret_b HV.out.symm,ex⟩
