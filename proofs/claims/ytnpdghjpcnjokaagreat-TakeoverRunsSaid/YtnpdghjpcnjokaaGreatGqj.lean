import Derived.Test.YtnpdghjpcnjokaaGreatQf4
set_option maxHeartbeats 12800000
set_option maxRecDepth 100000
set_option linter.all false
namespace Go.Proofs.YtnpdghjpcnjokaaGreat
open Go.RowKit Go.Proofs.Tryz

theorem tak_sm1 (x y:Rec)(v:Bool)(hv:sameR x y=v)(w:World)(hx:AcnAt w x.act)(hy:AcnAt w y.act):Calls prog 102 #[.agg (recR x).toArray,.agg (recR y).toArray] w fun e w'=>e=.returned (.bool v)∧Ext w w':=by
 subst hv;have HX:=zh hx;have HY:=zh hy;clear hx hy;by_cases he:x.term=y.term
 ·have HV:=zh (zqe he);have hz:(x.term==y.term)=true:=by simpa using he
  clear he;go_enter func102,ntmps102;go_wp2_with (go_at_call 86;refine zzg (zcN x.act y.act _ (HX.out.mono ex) (HY.out.mono ex)) fun y=>?_);go_ret;exact⟨ret_b HV.out.symm,ex⟩
 ·have HV:=zh (zsl he);have hz:(x.term==y.term)=false:=by simpa using he
  clear he;go_enter func102,ntmps102;go_wp2;go_ret;exact⟨ret_b HV.out.symm,ex⟩
theorem EqualFunc_M (A:Option Addr)(c:Nat)(l:List Rec)(B:Option Addr)(d:Nat)(m:List Rec)(w:World)(h1:za3 w A c l)(h2:za3 w B d m):
  Calls prog 100 #[.slice A l.length c,.slice B m.length d,.func (Fn.func 102) #[] #[]] w fun e w'=>e=.returned (.bool (zaR l m))∧Ext w w':=by
 have hl:=h1.len;have hl2:=h2.len;have H1:=zh h1;have H2:=zh h2;clear h1 h2;by_cases hlen:l.length=m.length
 ·have hz:((l.length:Int) !=(m.length:Int))=false:=by rw[hlen];simp
  have HL:=zh hlen;clear hlen;go_enter func100,ntmps100;go_wp2;go_loopw [17] (fun i wr=> ∃k:Nat,k≤l.length∧i=.int .i64 k∧Ext w wr∧Hid (zhC l m k)) (fun i _=>l.length - (intOf i).toNat)
  case atStart => exact ⟨0,by omega,rfl,Ext.refl _,zh (fun i _ _ hi => by omega)⟩
  case round =>
   obtain⟨k,hk,rfl,hx,HE⟩:=hrel;obtain⟨y0,rfl⟩:=hx.get;clear hx;by_cases hlt:k<l.length
   ·have hlt2:k<m.length:=by have:=HL.out;omega
    obtain⟨x,hx⟩:∃x,l[k]?=some x:=⟨_,List.getElem?_eq_getElem hlt⟩
    obtain⟨z,hz2⟩:∃z,m[k]?=some z:=⟨_,List.getElem?_eq_getElem hlt2⟩
    obtain⟨b1,o1,rfl,hr1,ha1⟩:=H1.out.get hx;obtain⟨b2,o2,rfl,hr2,ha2⟩:=H2.out.get hz2;have hq1:=hr1.row;have hq2:=hr2.row;have HA1:=zh ha1;have HA2:=zh ha2;have hb0:(0:Int)≤(k:Int):=by omega
    have hb1:(k:Int)<(l.length:Int):=by omega
    have hb2:(k:Int)<(m.length:Int):=by omega
    clear hr1 hr2 ha1 ha2;cases hs:sameR x z with
    |true=>
     have HM:=zh (HE.out.more hx hz2 hs);have HS:=zh hs;clear hx hz2 hs hlt2
     go_wp2_with (first
      |(refine za7 rfl 180 (.tmp 8) (.tmp 21) rfl rfl sg (recR x) rfl rfl kr (zcS x) ?_)
      |(refine za7 rfl 180 (.tmp 9) (.tmp 25) rfl rfl sg (recR z) rfl rfl kr (zcS z) ?_)
      |(go_at_call 102;refine zzg (tak_sm1 x z true HS.out _ (HA1.out.mono ex) (HA2.out.mono ex)) fun y=>?_))
     go_light;exact⟨⟨k+1,by omega,by go_num,ex,HM⟩,by simp[intOf];omega⟩
    |false=>
     have HV:=zh (zqf hx hz2 hs);have HS:=zh hs;clear hx hz2 hs hlt2
     go_wp2_with (first
      |(refine za7 rfl 180 (.tmp 8) (.tmp 21) rfl rfl sg (recR x) rfl rfl kr (zcS x) ?_)
      |(refine za7 rfl 180 (.tmp 9) (.tmp 25) rfl rfl sg (recR z) rfl rfl kr (zcS z) ?_)
      |(go_at_call 102;refine zzg (tak_sm1 x z false HS.out _ (HA1.out.mono ex) (HA2.out.mono ex)) fun y=>?_))
     go_ret;exact⟨ret_b HV.out.symm,ex⟩
   ·have HV:=zh (show zaR l m=true from zhC.all (by have:k=l.length:=om;rw[←this];exact HE.out) HL.out);go_wp2;go_ret;exact⟨ret_b HV.out.symm,ex⟩
 ·have hz:((l.length:Int) !=(m.length:Int))=true:=by simp only[bne_iff_ne,ne_eq,Int.natCast_inj];exact hlen
  have HV:=zh (zmu hlen);clear hlen;go_enter func100,ntmps100;go_wp2;go_ret;exact⟨ret_b HV.out.symm,ex⟩
theorem rep_Sam2 (a b:Nod)(A:Option Addr)(c:Nat)(B:Option Addr)(d:Nat)(w:World)(ha:za3 w A c a.log)(hb:za3 w B d b.log):Calls prog 65 #[.agg (Ln a A c),.agg (Ln b B d)] w fun e w'=>e=.returned (.bool (sameN a b))∧Ext w w':=by
 have HA:=zh ha;have HB:=zh hb;have hl1:=ha.len;have hl2:=hb.len;clear ha hb;go_enter func65,ntmps65;go_wp2_with (go_at_call 100;refine zzg (zxJ A c a.log B d b.log _ (HA.out.mono ex) (HB.out.mono ex)) fun y=>?_)
 all_goals
  go_ret;refine⟨ret_b ?_,ex⟩;go_light
  first
   |exact zwL ⟨‹a.id=b.id›,‹a.term=b.term›,‹a.speaks=b.speaks›,‹a.acked=b.acked›,‹a.next=b.next›⟩
   |exact zeM fun h=>‹¬a.id=b.id› h.1
   |exact zeM fun h=>‹¬a.term=b.term› h.2.1
   |exact zeM fun h=>‹¬a.speaks=b.speaks› h.2.2.1
   |exact zeM fun h=>‹¬a.acked=b.acked› h.2.2.2.1
   |exact zeM fun h=>‹¬a.next=b.next› h.2.2.2.2
theorem tak_sameMessage (a b:Msg)(A:Option Addr)(c:Nat)(B:Option Addr)(d:Nat)(w:World)(ha:za3 w A c a.recs)(hb:za3 w B d b.recs)(v:Bool)(hv:sameM a b=v):Calls prog 67 #[.agg (Lm a A c),.agg (Lm b B d)] w fun e w'=>e=.returned (.bool v)∧Ext w w':=by
 subst hv;have HA:=zh ha;have HB:=zh hb;have hl1:=ha.len;have hl2:=hb.len;clear ha hb;go_enter func67,ntmps67;go_wp2_with (go_at_call 100;refine zzg (EqualFunc_M A c a.recs B d b.recs _ (HA.out.mono ex) (HB.out.mono ex)) fun y=>?_)
 all_goals
  go_ret;refine⟨ret_b ?_,ex⟩;go_light
  first
   |exact zF6 ⟨‹a.kind=b.kind›,‹a.term=b.term›,‹a.at_=b.at_›,‹a.before=b.before›,‹a.acked=b.acked›⟩
   |exact zl9 fun h=>‹¬a.kind=b.kind› h.1
   |exact zl9 fun h=>‹¬a.term=b.term› h.2.1
   |exact zl9 fun h=>‹¬a.at_=b.at_› h.2.2.1
   |exact zl9 fun h=>‹¬a.before=b.before› h.2.2.2.1
   |exact zl9 fun h=>‹¬a.acked=b.acked› h.2.2.2.2
theorem sameLt_yes {x y:Ltr}(h:x.dst=y.dst∧x.at_=y.at_):sameM x.msg y.msg=sameLt x y:=by unfold sameLt;simp[h.1,h.2]
theorem sameLt_no {x y:Ltr}(h:¬(x.dst=y.dst∧x.at_=y.at_)):false=sameLt x y:=by
 unfold sameLt;by_cases h1:x.dst=y.dst
 ·rw[decide_eq_false (fun h2=>h ⟨h1,h2⟩)];simp
 ·rw[decide_eq_false h1];simp
theorem sameSt_yes {x y:Sta}(h:x.up=y.up∧x.quiet=y.quiet):sameN x.node y.node=sameSt x y:=by unfold sameSt;simp[h.1,h.2]
theorem sameSt_no {x y:Sta}(h:¬(x.up=y.up∧x.quiet=y.quiet)):false=sameSt x y:=by
 unfold sameSt;by_cases h1:x.up=y.up
 ·rw[decide_eq_false (fun h2=>h ⟨h1,h2⟩)];simp
 ·rw[beq_eq_false_iff_ne.2 h1];simp
theorem tak_S2 (p q:Ltr)(A:Option Addr)(c:Nat)(B:Option Addr)(d:Nat)(w:World)(ha:za3 w A c p.msg.recs)(hb:za3 w B d q.msg.recs)(v:Bool)(hv:sameLt p q=v):Calls prog 66 #[.agg (Ll p A c),.agg (Ll q B d)] w fun e w'=>e=.returned (.bool v)∧Ext w w':=by
 subst hv;have HA:=zh ha;have HB:=zh hb;have hl1:=ha.len;have hl2:=hb.len;clear ha hb;go_enter func66,ntmps66;go_wp2_with (go_at_call 67;refine zzg (tak_sameMessage p.msg q.msg A c B d _ (HA.out.mono ex) (HB.out.mono ex) _ rfl) fun y=>?_)
 all_goals
  go_ret;refine⟨ret_b ?_,ex⟩;go_light
  first
   |exact sameLt_yes ⟨‹p.dst=q.dst›,‹p.at_=q.at_›⟩
   |exact sameLt_no fun h=>‹¬p.dst=q.dst› h.1
   |exact sameLt_no fun h=>‹¬p.at_=q.at_› h.2
theorem tak_S1 (p q:Sta)(A:Option Addr)(c:Nat)(B:Option Addr)(d:Nat)(w:World)(ha:za3 w A c p.node.log)(hb:za3 w B d q.node.log)(v:Bool)(hv:sameSt p q=v):Calls prog 64 #[.agg (Ls p A c),.agg (Ls q B d)] w fun e w'=>e=.returned (.bool v)∧Ext w w':=by
 subst hv;have HA:=zh ha;have HB:=zh hb;have hl1:=ha.len;have hl2:=hb.len;clear ha hb;go_enter func64,ntmps64;go_wp2_with (go_at_call 65;refine zzg (rep_Sam2 p.node q.node A c B d _ (HA.out.mono ex) (HB.out.mono ex)) fun y=>?_)
 all_goals
  go_ret;refine⟨ret_b ?_,ex⟩;go_light
  first
   |exact sameSt_yes ⟨‹p.up=q.up›,‹p.quiet=q.quiet›⟩
   |exact sameSt_no fun h=>‹¬p.up=q.up› h.1
   |exact sameSt_no fun h=>‹¬p.quiet=q.quiet› h.2

theorem EqualFunc_L (A:Option Addr)(c:Nat)(xs:List (Ltr×Option Addr×Nat))(B:Option Addr)(d:Nat)(ys:List (Ltr×Option Addr×Nat))(w:World)(h1:zrG w A c xs)(h2:zrG w B d ys)(r:Bool)(hr:zF5 (xs.map (·.1)) (ys.map (·.1))=r):
  Calls prog 69 #[.slice A xs.length c,.slice B ys.length d,.func (Fn.func 66) #[] #[]] w fun e w'=>e=.returned (.bool r)∧Ext w w':=by
 have hl:xs.length≤9223372036854775807:=by have e1:=h1.le;have e2:=h1.cap;unfold maxLen at e2;omega
 have hl2:ys.length≤9223372036854775807:=by have e1:=h2.le;have e2:=h2.cap;unfold maxLen at e2;omega
 have H1:=zh h1;have H2:=zh h2;have HR:=zh hr;clear h1 h2 hr;by_cases hlen:xs.length=ys.length
 ·have hz:((xs.length:Int) !=(ys.length:Int))=false:=by rw[hlen];simp
  have HL:=zh hlen;clear hlen;go_enter func69,ntmps69;go_wp2;go_loopw [17] (fun i wr=> ∃k:Nat,k≤xs.length∧i=.int .i64 k∧Ext w wr∧Hid (zF5 ((xs.map (·.1)).drop k) ((ys.map (·.1)).drop k)=r)) (fun i _=>xs.length - (intOf i).toNat)
  case atStart => exact ⟨0,by omega,rfl,Ext.refl _,HR⟩
  case round =>
   obtain⟨k,hk,rfl,hx,HE⟩:=hrel;obtain⟨y0,rfl⟩:=hx.get;clear hx;by_cases hlt:k<xs.length
   ·have hlt2:k<ys.length:=by have:=HL.out;omega
    obtain⟨p,hp⟩:∃p,xs[k]?=some p:=⟨_,List.getElem?_eq_getElem hlt⟩
    obtain⟨q,hq⟩:∃q,ys[k]?=some q:=⟨_,List.getElem?_eq_getElem hlt2⟩
    obtain⟨b1,o1,rfl,c0,c1,c2,c3,c4,c5,c6,c7⟩:=H1.out.sl.row8 (i:=k) (by rw[List.getElem?_map,hp];rfl);obtain⟨b2,o2,rfl,d0,d1,d2,d3,d4,d5,d6,d7⟩:=H2.out.sl.row8 (i:=k) (by rw[List.getElem?_map,hq];rfl);have HA1:=zh (H1.out.el p (List.mem_of_getElem? hp));have HA2:=zh (H2.out.el q (List.mem_of_getElem? hq));have hpl:=HA1.out.len;have hql:=HA2.out.len;have hb0:(0:Int)≤(k:Int):=by omega
    have hb1:(k:Int)<(xs.length:Int):=by omega
    have hb2:(k:Int)<(ys.length:Int):=by omega
    have HN:=zh ((sameLts_at (xs.map (·.1)) (ys.map (·.1)) k (by rw[List.getElem?_map,hp];rfl) (by rw[List.getElem?_map,hq];rfl)).symm.trans HE.out);clear hp hq hlt2;cases hs:sameLt p.1 q.1 with
    |true=>have HM:=zh (show zF5 ((xs.map (·.1)).drop (k+1)) ((ys.map (·.1)).drop (k+1))=r by have:=HN.out;rw[hs,Bool.true_and] at this;exact this);have HS:=zh hs;clear hs;go_wp2_with (go_at_call 66;refine zzg (tak_S2 p.1 q.1 p.2.1 p.2.2 q.2.1 q.2.2 _ (HA1.out.mono ex) (HA2.out.mono ex) true HS.out) fun y=>?_);go_light;exact⟨⟨k+1,by omega,by go_num,ex,HM⟩,by simp[intOf];omega⟩
    |false=>have HV:=zh (show false=r by have:=HN.out;rw[hs,Bool.false_and] at this;exact this);have HS:=zh hs;clear hs;go_wp2_with (go_at_call 66;refine zzg (tak_S2 p.1 q.1 p.2.1 p.2.2 q.2.1 q.2.2 _ (HA1.out.mono ex) (HA2.out.mono ex) false HS.out) fun y=>?_);go_ret;exact⟨ret_b HV.out,ex⟩
   ·have HV:=zh (show true=r from(sameLts_end (xs.map (·.1)) (ys.map (·.1)) k (by rw[List.length_map];omega) (by rw[List.length_map,←HL.out];omega)).symm.trans HE.out);go_wp2;go_ret;exact⟨ret_b HV.out,ex⟩
 ·have hz:((xs.length:Int) !=(ys.length:Int))=true:=by simp only[bne_iff_ne,ne_eq,Int.natCast_inj];exact hlen
  have HV:=zh (show false=r from(sameLts_len (xs.map (·.1)) (ys.map (·.1)) (by rw[List.length_map,List.length_map];exact hlen)).symm.trans HR.out);clear hlen;go_enter func69,ntmps69;go_wp2;go_ret;exact⟨ret_b HV.out,ex⟩
section
variable {w v:Wld} {W:World} {A B M A2 B2 M2:Option Addr} {c d k c2 d2 k2:Nat} {xs ys:List (Ltr×Option Addr×Nat)}
theorem EqualFunc_S (g1 g2:Nat)(b1:BoxAt W g1 (Lw w A c B d M k) 30)(b2:BoxAt W g2 (Lw v A2 c2 B2 d2 M2 k2) 30)(h1:WldAt W w A c B d M k xs)(h2:WldAt W v A2 c2 B2 d2 M2 k2 ys)(r:Bool)(hr:(sameSt w.a v.a && sameSt w.b v.b)=r):
  Calls prog 68 #[.slice (some ⟨g1,4,none⟩) 2 2,.slice (some ⟨g2,4,none⟩) 2 2,.func (Fn.func 64) #[] #[]] W fun e W'=>e=.returned (.bool r)∧Ext W W':=by
 have hla:=h1.a.len;have hlb:=h1.b.len;have hla2:=h2.a.len;have hlb2:=h2.b.len;have H1:=zh h1;have H2:=zh h2;have HR:=zh hr;clear h1 h2 hr;have c4:=b1.c 4 rfl;have c5:=b1.c 5 rfl;have c6:=b1.c 6 rfl;have c7:=b1.c 7 rfl;have c8:=b1.c 8 rfl;have c9:=b1.c 9 rfl;have c10:=b1.c 10 rfl;have c11:=b1.c 11 rfl;have c12:=b1.c 12 rfl;have c13:=b1.c 13 rfl;have c14:=b1.c 14 rfl;have c15:=b1.c 15 rfl;have c16:=b1.c 16 rfl;have c17:=b1.c 17 rfl;have c18:=b1.c 18 rfl;have c19:=b1.c 19 rfl;have d4:=b2.c 4 rfl;have d5:=b2.c 5 rfl;have d6:=b2.c 6 rfl;have d7:=b2.c 7 rfl;have d8:=b2.c 8 rfl;have d9:=b2.c 9 rfl;have d10:=b2.c 10 rfl;have d11:=b2.c 11 rfl;have d12:=b2.c 12 rfl;have d13:=b2.c 13 rfl;have d14:=b2.c 14 rfl;have d15:=b2.c 15 rfl;have d16:=b2.c 16 rfl;have d17:=b2.c 17 rfl;have d18:=b2.c 18 rfl;have d19:=b2.c 19 rfl;clear b1 b2;go_enter func68,ntmps68;go_wp2;go_loopw [17] (fun i wr=> ∃Z,Z=wr∧Ext W Z∧(i=.int .i64 0∨(i=.int .i64 1∧Hid (sameSt w.a v.a=true))∨(i=.int .i64 2∧Hid (sameSt w.a v.a=true)∧Hid (sameSt w.b v.b=true)))) (fun i _=>2 - (intOf i).toNat)
 case atStart => exact ⟨_,rfl,Ext.refl _,.inl rfl⟩
 case round =>
  obtain⟨Z,rfl,hx,hrel⟩:=hrel;obtain⟨y0,rfl⟩:=hx.get;clear hx;rcases hrel with rfl|⟨rfl,HS1⟩|⟨rfl,HS1,HS2⟩
  ·skip
   cases hs:sameSt w.a v.a with
   |true=>have HS:=zh hs;clear hs;go_wp2_with (go_at_call 64;refine zzg (tak_S1 w.a v.a A c A2 c2 _ (H1.out.a.mono ex) (H2.out.a.mono ex) true HS.out) fun y=>?_);go_light;exact⟨⟨_,rfl,ex,.inr (.inl ⟨rfl,(by first|exact HS|exact zh trivial)⟩)⟩,by simp[intOf]⟩
   |false=>have HV:=zh (show false=r by rw[←HR.out,hs];simp);have HS:=zh hs;clear hs;go_wp2_with (go_at_call 64;refine zzg (tak_S1 w.a v.a A c A2 c2 _ (H1.out.a.mono ex) (H2.out.a.mono ex) false HS.out) fun y=>?_);go_ret;exact⟨ret_b HV.out,ex⟩
  ·skip
   cases hs:sameSt w.b v.b with
   |true=>have HS:=zh hs;clear hs;go_wp2_with (go_at_call 64;refine zzg (tak_S1 w.b v.b B d B2 d2 _ (H1.out.b.mono ex) (H2.out.b.mono ex) true HS.out) fun y=>?_);go_light;exact⟨⟨_,rfl,ex,.inr (.inr ⟨rfl,HS1,(by first|exact HS|exact zh trivial)⟩)⟩,by simp[intOf]⟩
   |false=>have HV:=zh (show false=r by rw[←HR.out,HS1.out,hs];simp);have HS:=zh hs;clear hs;go_wp2_with (go_at_call 64;refine zzg (tak_S1 w.b v.b B d B2 d2 _ (H1.out.b.mono ex) (H2.out.b.mono ex) false HS.out) fun y=>?_);go_ret;exact⟨ret_b HV.out,ex⟩
  ·have HV:=zh (show true=r by rw[←HR.out,HS1.out,HS2.out];rfl);go_wp2;go_ret;exact⟨ret_b HV.out,ex⟩
theorem sameWl_b (w v:Wld):sameWl w v=((w.now==v.now) && ((w.limit==v.limit) && ((w.delay==v.delay) && ((w.cut==v.cut) && ((sameSt w.a v.a && sameSt w.b v.b) && zF5 w.mail v.mail))))):=by unfold sameWl;show(((((((w.now==v.now) && (w.limit==v.limit)) && (w.delay==v.delay)) && (w.cut==v.cut)) && sameSt w.a v.a) && sameSt w.b v.b) && zF5 w.mail v.mail)=_;simp only[Bool.and_assoc]
theorem tak_Same (h1:WldAt W w A c B d M k xs)(h2:WldAt W v A2 c2 B2 d2 M2 k2 ys)(r:Bool)(hr:sameWl w v=r):Calls prog 27 #[.agg (Lw w A c B d M k),.agg (Lw v A2 c2 B2 d2 M2 k2)] W fun e W'=>e=.returned (.bool r)∧Ext W W':=by
 have hla:=h1.a.len;have hlb:=h1.b.len;have hla2:=h2.a.len;have hlb2:=h2.b.len;have hml:w.mail.length≤9223372036854775807:=by have e1:=h1.mail.le;have e2:=h1.mail.cap;rw[h1.len] at e1;unfold maxLen at e2;omega
 have hml2:v.mail.length≤9223372036854775807:=by have e1:=h2.mail.le;have e2:=h2.mail.cap;rw[h2.len] at e1;unfold maxLen at e2;omega
 have H1:=zh h1;have H2:=zh h2;have HR:=zh hr;have e1:=h1.len;have e2:=h2.len;have i1:=h1.is;have i2:=h2.is;obtain⟨ss,hss⟩:∃ss,(sameSt w.a v.a && sameSt w.b v.b)=ss:=⟨_,rfl⟩
 obtain⟨ll,hll⟩:∃ll,zF5 w.mail v.mail=ll:=⟨_,rfl⟩
 have HSS:=zh hss;have HLL:=zh (show zF5 (xs.map (·.1)) (ys.map (·.1))=ll by rw[i1,i2];exact hll);have HL2:=zh hll;have E1:=zh e1;have E2:=zh e2;clear h1 h2 hr i1 i2 hss hll e1 e2;go_enter func27,ntmps27
 go_upto_region 3 with fail
 refine zaG (fun W9 hW9=> ?_);have x9:Ext W W9:=by rw[hW9];exact ex
 have b1:BoxAt W9 W.heap.size (Lw w A c B d M k) 30:=by rw[hW9];exact bxA
 have b2:BoxAt W9 (W.heap.size+1) (Lw v A2 c2 B2 d2 M2 k2) 30:=by rw[hW9];exact bxA
 have c0:=b1.c 0 rfl;have c1:=b1.c 1 rfl;have c2:=b1.c 2 rfl;have c3:=b1.c 3 rfl;have c20:=b1.c 20 rfl;have d0:=b2.c 0 rfl;have d1:=b2.c 1 rfl;have d2:=b2.c 2 rfl;have d3:=b2.c 3 rfl;have d20:=b2.c 20 rfl;rw[←E1.out] at c20;rw[←E2.out] at d20;clear hW9;cases z0:(w.now==v.now)
 ·skip
  have HV:=zh (show false=r by rw[←HR.out,sameWl_b,z0];rfl);(refine zcL kr kr ?_;(repeat(go_big_quiet_step ((first|(go_at_call 68;exact Calls.grows (EqualFunc_S (w:=w) (v:=v) W.heap.size (W.heap.size+1) (b1.mono ex) (b2.mono ex) (H1.out.mono (x9.trans ex)) (H2.out.mono (x9.trans ex)) _ HSS.out))|(go_at_call 69;exact Calls.grows (EqualFunc_L M k xs M2 k2 ys _ (H1.out.mail.mono (x9.trans ex)) (H2.out.mail.mono (x9.trans ex)) _ HLL.out))))));refine wqN fun y=>?_);go_wp2;go_ret;exact⟨ret_b HV.out,x9.trans ex⟩
 ·skip
  cases z1:(w.limit==v.limit)
  ·skip
   have HV:=zh (show false=r by rw[←HR.out,sameWl_b,z0,z1];rfl);(refine zcL kr kr ?_;(repeat(go_big_quiet_step ((first|(go_at_call 68;exact Calls.grows (EqualFunc_S (w:=w) (v:=v) W.heap.size (W.heap.size+1) (b1.mono ex) (b2.mono ex) (H1.out.mono (x9.trans ex)) (H2.out.mono (x9.trans ex)) _ HSS.out))|(go_at_call 69;exact Calls.grows (EqualFunc_L M k xs M2 k2 ys _ (H1.out.mail.mono (x9.trans ex)) (H2.out.mail.mono (x9.trans ex)) _ HLL.out))))));refine wqN fun y=>?_);go_wp2;go_ret;exact⟨ret_b HV.out,x9.trans ex⟩
  ·skip
   cases z2:(w.delay==v.delay)
   ·skip
    have HV:=zh (show false=r by rw[←HR.out,sameWl_b,z0,z1,z2];rfl);(refine zcL kr kr ?_;(repeat(go_big_quiet_step ((first|(go_at_call 68;exact Calls.grows (EqualFunc_S (w:=w) (v:=v) W.heap.size (W.heap.size+1) (b1.mono ex) (b2.mono ex) (H1.out.mono (x9.trans ex)) (H2.out.mono (x9.trans ex)) _ HSS.out))|(go_at_call 69;exact Calls.grows (EqualFunc_L M k xs M2 k2 ys _ (H1.out.mail.mono (x9.trans ex)) (H2.out.mail.mono (x9.trans ex)) _ HLL.out))))));refine wqN fun y=>?_);go_wp2;go_ret;exact⟨ret_b HV.out,x9.trans ex⟩
   ·skip
    cases z3:(w.cut==v.cut)
    ·skip
     have HV:=zh (show false=r by rw[←HR.out,sameWl_b,z0,z1,z2,z3];rfl);(refine zcL kr kr ?_;(repeat(go_big_quiet_step ((first|(go_at_call 68;exact Calls.grows (EqualFunc_S (w:=w) (v:=v) W.heap.size (W.heap.size+1) (b1.mono ex) (b2.mono ex) (H1.out.mono (x9.trans ex)) (H2.out.mono (x9.trans ex)) _ HSS.out))|(go_at_call 69;exact Calls.grows (EqualFunc_L M k xs M2 k2 ys _ (H1.out.mail.mono (x9.trans ex)) (H2.out.mail.mono (x9.trans ex)) _ HLL.out))))));refine wqN fun y=>?_);go_wp2;go_ret;exact⟨ret_b HV.out,x9.trans ex⟩
    ·skip
     cases ss
     ·skip
      have HV:=zh (show false=r by rw[←HR.out,sameWl_b,z0,z1,z2,z3,HSS.out];rfl);(refine zcL kr kr ?_;(repeat(go_big_quiet_step ((first|(go_at_call 68;exact Calls.grows (EqualFunc_S (w:=w) (v:=v) W.heap.size (W.heap.size+1) (b1.mono ex) (b2.mono ex) (H1.out.mono (x9.trans ex)) (H2.out.mono (x9.trans ex)) _ HSS.out))|(go_at_call 69;exact Calls.grows (EqualFunc_L M k xs M2 k2 ys _ (H1.out.mail.mono (x9.trans ex)) (H2.out.mail.mono (x9.trans ex)) _ HLL.out))))));refine wqN fun y=>?_);go_wp2;go_ret;exact⟨ret_b HV.out,x9.trans ex⟩
     ·cases ll
      ·have HV:=zh (show false=r by rw[←HR.out,sameWl_b,z0,z1,z2,z3,HSS.out,HL2.out];rfl);(refine zcL kr kr ?_;(repeat(go_big_quiet_step ((first|(go_at_call 68;exact Calls.grows (EqualFunc_S (w:=w) (v:=v) W.heap.size (W.heap.size+1) (b1.mono ex) (b2.mono ex) (H1.out.mono (x9.trans ex)) (H2.out.mono (x9.trans ex)) _ HSS.out))|(go_at_call 69;exact Calls.grows (EqualFunc_L M k xs M2 k2 ys _ (H1.out.mail.mono (x9.trans ex)) (H2.out.mail.mono (x9.trans ex)) _ HLL.out))))));refine wqN fun y=>?_);go_wp2;go_ret;exact⟨ret_b HV.out,x9.trans ex⟩
      ·have HV:=zh (show true=r by rw[←HR.out,sameWl_b,z0,z1,z2,z3,HSS.out,HL2.out];rfl);(refine zcL kr kr ?_;(repeat(go_big_quiet_step ((first|(go_at_call 68;exact Calls.grows (EqualFunc_S (w:=w) (v:=v) W.heap.size (W.heap.size+1) (b1.mono ex) (b2.mono ex) (H1.out.mono (x9.trans ex)) (H2.out.mono (x9.trans ex)) _ HSS.out))|(go_at_call 69;exact Calls.grows (EqualFunc_L M k xs M2 k2 ys _ (H1.out.mail.mono (x9.trans ex)) (H2.out.mail.mono (x9.trans ex)) _ HLL.out))))));refine wqN fun y=>?_);go_wp2;go_ret;exact⟨ret_b HV.out,x9.trans ex⟩
end
