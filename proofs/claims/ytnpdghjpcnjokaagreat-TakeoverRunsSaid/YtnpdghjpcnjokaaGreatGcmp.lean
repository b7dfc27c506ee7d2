import Derived.Test.YtnpdghjpcnjokaaGreatGlog
set_option maxHeartbeats 6400000
set_option maxRecDepth 100000
namespace Go.Proofs.YtnpdghjpcnjokaaGreat
open Go.RowKit Tryz

def zwK (n:Int) (l:List Int) (m:Int) (k:List Int):Bool:=decide (n=m∧l=k)
def sameX (a b:Eff):Bool:=decide (a.number=b.number∧a.attr=b.attr∧a.wave.l=b.wave.l∧a.period=b.period∧a.spread=b.spread∧a.size=b.size)
def sameS (a b:Sub):Bool:=decide (a.number=b.number∧a.prio=b.prio∧a.inh=b.inh∧a.gains.l=b.gains.l)
def zqd (n:Int) (l:List Hue) (m:Int) (k:List Hue):Bool:=decide (n=m∧l=k)

theorem r14_Same (n:Int)(l:Lst Int)(m:Int)(k:Lst Int)(w:World)(hl:LstAt w 1 intR l)(hk:LstAt w 1 intR k):
  Calls prog 181 #[.agg #[n,.slice l.at_ l.l.length l.cap],.agg #[m,.slice k.at_ k.l.length k.cap]] w fun e w'=>e=.returned (.bool (zwK n l.l m k.l))∧Ext w w':=by
 have HL:=zh hl;have HK:=zh hk;clear hl hk;go_enter func181,ntmps181;go_wp2_with (go_at_call 211;refine zzg (zvU l.at_ l.cap l.l k.at_ k.cap k.l _ (HL.out.sl.mono ex) HL.out.len (HK.out.sl.mono ex) HK.out.len) fun y=>?_)
 all_goals
  go_ret;refine⟨ret_b ?_,ex⟩;unfold zwK;grind
theorem zgj (a b:Eff)(w:World)(ha:LstAt w 2 ptR a.wave)(hb:LstAt w 2 ptR b.wave):
  Calls prog 183 #[.agg (effR a).toArray,.agg (effR b).toArray] w fun e w'=>e=.returned (.bool (sameX a b))∧Ext w w':=by
 have HA:=zh ha;have HB:=zh hb;clear ha hb;simp only[effR];go_enter func183,ntmps183;go_wp2_with (go_at_call 212;refine zzg (r27_Same a.wave.at_ a.wave.cap a.wave.l b.wave.at_ b.wave.cap b.wave.l _ (HA.out.sl.mono ex) HA.out.len (HB.out.sl.mono ex) HB.out.len) fun y=>?_)
 all_goals
  go_ret;refine⟨ret_b ?_,ex⟩;unfold sameX;grind

theorem ztM (a b:Sub)(w:World)(ha:LstAt w 3 gainR a.gains)(hb:LstAt w 3 gainR b.gains):
  Calls prog 182 #[.agg (subR a).toArray,.agg (subR b).toArray] w fun e w'=>e=.returned (.bool (sameS a b))∧Ext w w':=by
 have hl:=ha.len;have hl':=hb.len;have hs:=ha.sl;have hs':=hb.sl;obtain⟨n,p,i,⟨l,A,c⟩⟩:=a;obtain⟨n',p',i',⟨l',A',c'⟩⟩:=b;clear ha hb;simp only[subR] at hl hl' hs hs' ⊢
 unfold maxLen at hl hl';by_cases hh:n=n'∧p=p'∧i=i'∧l.length=l'.length
 ·obtain⟨rfl,rfl,rfl,hn⟩:=hh;have hb:((l.length:Int) !=(l'.length:Int))=false:=by simp[hn]
  have HN:=zh hn;have hle:l.length≤l'.length:=by omega
  clear hn;go_enter func182,ntmps182;go_wp2;go_loopw [5] (fun q wr=> ∃k:Nat,k≤l.length∧q=.int .i64 k∧Ext ((w.alloc (.cells #[n,p,i,.slice A l.length c] 90)).alloc (.cells #[n,p,i,.slice A' l'.length c'] 90)) wr∧Hid (l.take k=l'.take k)) (fun q _=>l.length - (intOf q).toNat)
  case atStart => exact ⟨0,by omega,rfl,Ext.refl _,zh (by simp)⟩
  case round =>
   obtain⟨k,hk,rfl,hx,HE⟩:=hrel;obtain⟨y,rfl⟩:=hx.get;clear hx;by_cases hlt:k<l.length
   ·obtain⟨m,hm⟩:∃m,l[k]?=some m:=⟨_,List.getElem?_eq_getElem hlt⟩
    obtain⟨m',hm'⟩:∃m',l'[k]?=some m':=⟨_,List.getElem?_eq_getElem om⟩
    have HM:=zh hm;have HM':=zh hm';obtain⟨b,o,rfl,hc0,hc1,hc2⟩:=hs.row3 (i:=k) (by rw[List.getElem?_map,hm];rfl);obtain⟨b',o',rfl,hd0,hd1,hd2⟩:=hs'.row3 (i:=k) (by rw[List.getElem?_map,hm'];rfl);have hb0:(0:Int)≤(k:Int):=by omega
    have hb1:(k:Int)<(l.length:Int):=by omega
    have hb2:(k:Int)<(l'.length:Int):=by omega
    clear hm hm' hs hs';go_wp2;(refine zcL kr kr ?_;(repeat(go_big_quiet_step (fail)));refine wqN fun y=>?_);by_cases he:m=m'
    ·have hz:eqG ⟨⟨m.p.ch,m.p.attr⟩,m.lev⟩ ⟨⟨m'.p.ch,m'.p.attr⟩,m'.lev⟩=true:=by rw[ztd];simpa using he
     rw[hz];have HK:=zh (zbK HM.out HM'.out he HE.out);clear he;go_wp2;go_light;exact⟨⟨k+1,by omega,by go_num,ex,HK⟩,by simp[intOf];omega⟩
    ·have hz:eqG ⟨⟨m.p.ch,m.p.attr⟩,m.lev⟩ ⟨⟨m'.p.ch,m'.p.attr⟩,m'.lev⟩=false:=by rw[ztd];simpa using he
     rw[hz];have HK:=zh (zcq HM.out HM'.out he);clear he;go_wp2;go_ret;refine⟨ret_b ?_,ex⟩;exact(decide_eq_false fun h=>HK.out h.2.2.2).symm
   ·have HK:Hid (l=l'):=zh (by have:=HE.out;rwa [List.take_of_length_le om,List.take_of_length_le (by have:=HN.out;omega)] at this)
    go_wp2;go_ret;refine⟨ret_b ?_,ex⟩;exact(decide_eq_true ⟨rfl,rfl,rfl,HK.out⟩).symm
 ·have HH:=zh hh;have hV:sameS ⟨n,p,i,⟨l,A,c⟩⟩ ⟨n',p',i',⟨l',A',c'⟩⟩=false:=decide_eq_false fun h=>hh ⟨h.1,h.2.1,h.2.2.1,congrArg List.length h.2.2.2⟩;have HV:=zh hV;clear hh hV hs hs';by_cases h1:n=n'
  ·by_cases h2:p=p'
   ·by_cases h3:i=i'
    ·have hb:((l.length:Int) !=(l'.length:Int))=true:=by simp only[bne_iff_ne,ne_eq];intro h;exact HH.out ⟨h1,h2,h3,by omega⟩
     subst h1 h2 h3;go_enter func182,ntmps182;go_wp2;go_ret;exact⟨ret_b HV.out.symm,ex⟩
    ·subst h1 h2;cases i<;>cases i'
     ·exact absurd rfl h3
     ·clear h3;go_enter func182,ntmps182;go_wp2;go_ret;exact⟨ret_b HV.out.symm,ex⟩
     ·clear h3;go_enter func182,ntmps182;go_wp2;go_ret;exact⟨ret_b HV.out.symm,ex⟩
     ·exact absurd rfl h3
   ·have hz:(p !=p')=true:=by simpa using h2
    subst h1;clear h2;go_enter func182,ntmps182;go_wp2;go_ret;exact⟨ret_b HV.out.symm,ex⟩
  ·have hz:(n !=n')=true:=by simpa using h1
   clear h1;go_enter func182,ntmps182;go_wp2;go_ret;exact⟨ret_b HV.out.symm,ex⟩

structure zuS (w : World) (b : Nat) (n : Int) (l : Lst Hue) : Prop where
 c0:w.cell? ⟨b,0,none⟩=some (.int .i64 n)
 c1:w.cell? ⟨b,1,none⟩=some (.slice l.at_ l.l.length l.cap)
 hl:LstAt w 3 hueR l
theorem zEl (b b':Nat)(n n':Int)(x x':Lst Hue)(w:World)(ha:zuS w b n x)(hb:zuS w b' n' x'):
  Calls prog 180 #[.slice (some ⟨b,0,none⟩) 1 1,.slice (some ⟨b',0,none⟩) 1 1] w fun e w'=>e=.returned (.bool (zqd n x.l n' x'.l))∧Ext w w':=by
 obtain⟨c0,c1,hla⟩:=ha;obtain⟨d0,d1,hlb⟩:=hb;have hl:=hla.len;have hl':=hlb.len;have hs:=hla.sl;have hs':=hlb.sl;obtain⟨l,A,c⟩:=x;obtain⟨l',A',c'⟩:=x';clear hla hlb;simp only[] at hl hl' hs hs' c1 d1 ⊢
 unfold maxLen at hl hl';by_cases hh:n=n'∧l.length=l'.length
 ·obtain⟨rfl,hn⟩:=hh;have hb:((l.length:Int) !=(l'.length:Int))=false:=by simp[hn]
  have HN:=zh hn;have hle:l.length≤l'.length:=by omega
  clear hn;go_enter func180,ntmps180;go_wp2;go_loopw [5,6] (fun q _ wr=> ∃k:Nat,k≤1∧q=.int .i64 k∧Ext w wr∧Hid (k=1→l=l')) (fun q _ _=>1 - (intOf q).toNat)
  case atStart => exact ⟨0,by omega,rfl,Ext.refl _,zh om⟩
  case round =>
   obtain⟨k,hk,rfl,hx,HE⟩:=hrel;obtain⟨y,rfl⟩:=hx.get;clear hx
   match k,hk with
   |0,_=>
    clear HE;go_wp2;(refine zcL kr kr ?_;(repeat(go_big_quiet_step (fail)));refine wqN fun y=>?_);go_wp2;go_loopw [6] (fun q wr=> ∃j:Nat,j≤l.length∧q=.int .i64 j∧Ext w wr∧Hid (l.take j=l'.take j)) (fun q _=>l.length - (intOf q).toNat)
    case atStart => exact ⟨0,by omega,rfl,ex,zh (by simp)⟩
    case round =>
     obtain⟨j,hj,rfl,hx,HE⟩:=hrel;obtain⟨y2,rfl⟩:=hx.get;clear hx;by_cases hlt:j<l.length
     ·obtain⟨m,hm⟩:∃m,l[j]?=some m:=⟨_,List.getElem?_eq_getElem hlt⟩
      obtain⟨m',hm'⟩:∃m',l'[j]?=some m':=⟨_,List.getElem?_eq_getElem om⟩
      have HM:=zh hm;have HM':=zh hm';obtain⟨g,o,rfl,hc0,hc1,hc2⟩:=hs.row3 (i:=j) (by rw[List.getElem?_map,hm];rfl);obtain⟨g',o',rfl,hd0,hd1,hd2⟩:=hs'.row3 (i:=j) (by rw[List.getElem?_map,hm'];rfl);have hb0:(0:Int)≤(j:Int):=by omega
      have hb1:(j:Int)<(l.length:Int):=by omega
      have hb2:(j:Int)<(l'.length:Int):=by omega
      clear hm hm' hs hs';go_wp2;(refine zcL kr kr ?_;(repeat(go_big_quiet_step (fail)));refine wqN fun y=>?_);by_cases he:m=m'
      ·have hz:eqH ⟨⟨m.p.ch,m.p.attr⟩,m.lev⟩ ⟨⟨m'.p.ch,m'.p.attr⟩,m'.lev⟩=true:=by rw[zte];simpa using he
       rw[hz];have HK:=zh (zbK HM.out HM'.out he HE.out);clear he;go_wp2;go_light;exact⟨⟨j+1,by omega,by go_num,ex,HK⟩,by simp[intOf];omega⟩
      ·have hz:eqH ⟨⟨m.p.ch,m.p.attr⟩,m.lev⟩ ⟨⟨m'.p.ch,m'.p.attr⟩,m'.lev⟩=false:=by rw[zte];simpa using he
       rw[hz];have HV:=zh (show zqd n l n l'=false from decide_eq_false fun h=>zcq HM.out HM'.out he h.2);clear he;go_wp2;go_ret;exact⟨ret_b HV.out.symm,ex⟩
     ·have HK:Hid (l=l'):=zh (by have:=HE.out;rwa [List.take_of_length_le om,List.take_of_length_le (by have:=HN.out;omega)] at this)
      go_wp2;go_light;exact⟨⟨1,by omega,by rfl,ex,zh fun _=>HK.out⟩,by simp[intOf]⟩
   |1,_=>have HV:=zh (show zqd n l n l'=true from decide_eq_true ⟨rfl,HE.out rfl⟩);go_wp2;go_ret;exact⟨ret_b HV.out.symm,ex⟩
   |k+2,hk=>exact absurd hk om
 ·have HV:=zh (show zqd n l n' l'=false from decide_eq_false fun h=>hh ⟨h.1,congrArg List.length h.2⟩);have HH:=zh hh;clear hh hs hs';by_cases h1:n=n'
  ·have hb:((l.length:Int) !=(l'.length:Int))=true:=by simp only[bne_iff_ne,ne_eq];intro h;exact HH.out ⟨h1,by omega⟩
   subst h1;go_enter func180,ntmps180;go_wp2;refine wp_loop_rounds 1 ?_;rw[rounds_succ];go_wp2;(refine zcL kr kr ?_;(repeat(go_big_quiet_step (fail)));refine wqN fun y=>?_);go_wp2;go_ret;exact⟨ret_b HV.out.symm,ex⟩
  ·have hz:(n !=n')=true:=by simpa using h1
   clear h1;go_enter func180,ntmps180;go_wp2;refine wp_loop_rounds 1 ?_;rw[rounds_succ];go_wp2;(refine zcL kr kr ?_;(repeat(go_big_quiet_step (fail)));refine wqN fun y=>?_);go_wp2;go_ret;exact⟨ret_b HV.out.symm,ex⟩

def numK (k:Int):Bool:=decide (k=0∨k=1∨k=2∨k=4∨k=6∨k=8∨k=10∨k=12)
theorem zic (k:Int)(w:World):Calls prog 208 #[k] w fun e w'=>e=.returned (.bool (numK k))∧w=w':=by
 go_enter func208,ntmps208;go_wp2
 all_goals
  go_ret;refine⟨ret_b ?_,rfl⟩;unfold numK;grind

def idleE (e:Edit):Bool:=decide ((e.kind=0∨e.cue=zai)∧(e.kind=3∨(e.pn=0∧(e.hues.l.length:Int)≤0))∧(e.kind=5∨(e.gn=0∧(e.chans.l.length:Int)≤0))∧(e.kind=7∨sameS e.sub ⟨0,0,false,⟨[],none,0⟩⟩=true)∧(e.kind=9∨sameX e.eff ⟨0,0,⟨[],none,0⟩,0,0,0⟩=true)∧(e.kind=11∨e.fix=noFix))
theorem zyg (e:Edit):eqF ⟨e.fix.ch,e.fix.part,e.fix.profile,e.fix.univ,e.fix.addr,e.fix.phase,e.fix.cable⟩ ⟨0,0,⟨#[]⟩,0,0,0,⟨#[]⟩⟩=decide (e.fix=noFix):=rfl
theorem zhc (e:Edit)(w:World)(he:zeT w e):Calls prog 209 #[.agg (editR e).toArray] w fun r w'=>r=.returned (.bool (idleE e))∧Ext w w':=by
 have HE:=zh he;clear he;go_enter func209,ntmps209
 go_wp2_with (first
  |(go_at_call 179;refine zzg (zeL e.cue e.cA e.ck e.cB e.cm zai none 0 none 0 _ (HE.out.cue.mono ex) ⟨Sl.nil _ _ _,Sl.nil _ _ _,by decide,by decide,by decide,by decide,by decide,by decide,by decide⟩) fun y=>?_)
  |(go_at_call 182;refine zzg (ztM e.sub ⟨0,0,false,⟨[],none,0⟩⟩ _ (HE.out.gains.mono ex) LstAt.nil) fun y=>?_)
  |(go_at_call 183;refine zzg (zgj e.eff ⟨0,0,⟨[],none,0⟩,0,0,0⟩ _ (HE.out.wave.mono ex) LstAt.nil) fun y=>?_))
 all_goals
  go_ret;refine⟨ret_b ?_,ex⟩
  try rw[zyg]
  unfold idleE;grind

def t1E (e:Edit):Bool:=decide ((numK e.kind=false∧e.number≠0)∨(e.kind≠12∧e.ch≠0)∨(e.kind≠2∧e.prio≠0))
def t2E (e:Edit):Bool:=decide ((e.kind≠1∧e.kind≠13∧e.key.toList.isEmpty=false)∨idleE e=false)
theorem zhj {e:Edit}(h:e.kind=1∨e.kind=13∨e.key.toList.isEmpty=true):t2E e= !idleE e:=by
 unfold t2E;cases idleE e
 ·simp
 ·simp;grind
def r32E (e:Edit):Int:=if e.kind<0∨13<e.kind then 1 else if t1E e=true then 3 else if t2E e=true then 3 else 0
theorem zml (e:Edit)(w:World)(he:zeT w e):Calls prog 178 #[.agg (editR e).toArray] w fun r w'=>r=.returned (.int .i64 (r32E e))∧Ext w w':=by
 have HE:=zh he;have HR:=zh (zag w rfl (editR e) 97);clear he;by_cases hk:e.kind<0∨13<e.kind
 ·have HV:=zh (show r32E e=1 by unfold r32E;rw[if_pos hk]);rcases(by omega:e.kind<0∨(0≤e.kind∧13<e.kind)) with h|⟨h,h'⟩
  all_goals
   clear hk;go_enter func178,ntmps178;go_wp2;go_ret;exact⟨ret_i HV.out.symm,ex⟩
 ·have HK:=zh hk;have h0:0≤e.kind:=by omega
  have h13:e.kind≤13:=by omega
  clear hk;go_enter func178,ntmps178
  go_upto_region 3 with fail
  go_cut [39] (fun s wx=>s=.bool (t1E e)∧w.alloc (.cells (editR e).toArray 97)=wx)
  case first =>
   go_wp2_with (go_at_call 208;refine(zic _ _).mono ?_;rintro e w' ⟨rfl,rfl⟩)
   all_goals
    go_meet;refine⟨?_,rfl⟩;go_light
    as_aux_lemma=>congr 1;unfold t1E;grind
  case rest =>
   obtain⟨rfl,rfl⟩:=hcut;cases ht:t1E e
   ·have HT:=zh ht;clear ht
    go_upto_region 5 with fail
    go_cut [57] (fun s wx=>s=.bool (t2E e)∧Ext w wx)
    case first =>
     have hcases:(e.kind≠1∧e.kind≠13∧e.key.toList.isEmpty=false)∨e.kind=1∨(e.kind≠1∧e.kind=13)∨(e.kind≠1∧e.kind≠13∧e.key.toList.isEmpty=true):=by cases e.key.toList.isEmpty<;>simp<;>omega
     rcases hcases with⟨k1,k2,k3⟩|k1|⟨k1,k2⟩|⟨k1,k2,k3⟩
     ·have q1:(e.kind !=1)=true:=by simpa using k1
      have q2:(e.kind !=13)=true:=by simpa using k2
      have HV:=zh (show t2E e=true from decide_eq_true (.inl ⟨k1,k2,k3⟩));clear k1 k2;go_wp2;go_meet;exact⟨by rw[HV.out],ex⟩
     ·have q1:(e.kind !=1)=false:=by simpa using k1
      have HV:=zh (zhj (.inl k1));clear k1
      go_wp2_with (first
       |(refine wpList_load_row rfl 97 _ rfl w.heap.size 0 rfl (editR e) _ (za4 HR.out ex) underlying97 rfl kr ?_)
       |(go_at_call 209;refine zzg (zhc e _ (HE.out.mono ex)) fun y=>?_))
      go_meet;exact⟨by rw[HV.out],ex⟩
     ·have q1:(e.kind !=1)=true:=by simpa using k1
      have q2:(e.kind !=13)=false:=by simpa using k2
      have HV:=zh (zhj (.inr (.inl k2)));clear k1 k2
      go_wp2_with (first
       |(refine wpList_load_row rfl 97 _ rfl w.heap.size 0 rfl (editR e) _ (za4 HR.out ex) underlying97 rfl kr ?_)
       |(go_at_call 209;refine zzg (zhc e _ (HE.out.mono ex)) fun y=>?_))
      go_meet;exact⟨by rw[HV.out],ex⟩
     ·have q1:(e.kind !=1)=true:=by simpa using k1
      have q2:(e.kind !=13)=true:=by simpa using k2
      have HV:=zh (zhj (.inr (.inr k3)));clear k1 k2
      go_wp2_with (first
       |(refine wpList_load_row rfl 97 _ rfl w.heap.size 0 rfl (editR e) _ (za4 HR.out ex) underlying97 rfl kr ?_)
       |(go_at_call 209;refine zzg (zhc e _ (HE.out.mono ex)) fun y=>?_))
      go_meet;exact⟨by rw[HV.out],ex⟩
    case rest =>
     obtain⟨rfl,hx⟩:=hcut;have HX:=zh hx;clear hx;cases ht2:t2E e
     ·have HV:=zh (show r32E e=0 by unfold r32E;rw[if_neg HK.out,HT.out,ht2];rfl);clear ht2;go_wp2;go_ret;exact⟨ret_i HV.out.symm,HX.out⟩
     ·have HV:=zh (show r32E e=3 by unfold r32E;rw[if_neg HK.out,HT.out,ht2];rfl);clear ht2;go_wp2;go_ret;exact⟨ret_i HV.out.symm,HX.out⟩
   ·have HV:=zh (show r32E e=3 by unfold r32E;rw[if_neg HK.out,ht];rfl);clear ht;go_wp2;go_ret;exact⟨ret_i HV.out.symm,ex⟩
theorem zmv (s:Sub):sameS s ⟨0,0,false,⟨[],none,0⟩⟩=zeroS s:=by unfold sameS zeroS;rw[decide_eq_decide];simp
theorem zmw (s:Eff):sameX s ⟨0,0,⟨[],none,0⟩,0,0,0⟩=zeroX s:=by unfold sameX zeroX;rw[decide_eq_decide];simp
theorem zpY (e:Edit):r32E e=editE e:=by
 unfold r32E editE;split
 ·rfl
 ·rename_i hk;have h1:∀(a b:Bool),(if a=true then(3:Int) else if b=true then 3 else 0)=if(a||b)=true then 3 else 0:=by decide
  rw[h1];congr 2;have hp:∀n:Nat,decide ((n:Int)≤0)=decide ((n:Int)=0):=fun n=>by rw[decide_eq_decide];omega
  rw[Bool.eq_iff_iff];simp only[show List.range 10=[0,1,2,3,4,5,6,7,8,9] from rfl,List.any_cons,List.any_nil,Bool.or_false,zaq,useK,useZ,List.getD_cons_zero,List.getD_cons_succ,t1E,t2E,idleE,zmv,zmw,numK,zeroP,zeroG,List.mem_cons,List.not_mem_nil,or_false];have e1:((e.hues.l.length:Int)≤0)=((e.hues.l.length:Int)=0):=propext ⟨fun h=>by omega,fun h=>by omega⟩;have e2:((e.chans.l.length:Int)≤0)=((e.chans.l.length:Int)=0):=propext ⟨fun h=>by omega,fun h=>by omega⟩;simp only[Bool.or_eq_true,Bool.and_eq_true,decide_eq_true_eq,decide_eq_false_iff_not,Bool.not_eq_true',beq_eq_false_iff_ne,ne_eq,e1,e2,Classical.not_and_iff_not_or_not,not_or,Bool.not_eq_true,or_assoc,and_assoc]
theorem zpZ (e:Edit)(w:World)(he:zeT w e):Calls prog 178 #[.agg (editR e).toArray] w fun r w'=>r=.returned (.int .i64 (editE e))∧Ext w w':=by rw[←zpY];exact zml e w he

theorem zF4 {a b:Edit}(h:(!decide (a.cue=b.cue))=true)(g:a.cue=b.cue):False:=by simp[g] at h
theorem zF3 {a b:Edit}(h1:a.kind=b.kind)(h2:a.number=b.number)(h3:a.ch=b.ch)(h4:a.prio=b.prio)(h5:a.key.toList=b.key.toList)(h6:(!decide (a.cue=b.cue))=false)(h7:zqd a.pn a.hues.l b.pn b.hues.l=true)(h8:zwK a.gn a.chans.l b.gn b.chans.l=true)(h9:sameS a.sub b.sub=true)(h10:sameX a.eff b.eff=true):
  eqF ⟨a.fix.ch,a.fix.part,a.fix.profile,a.fix.univ,a.fix.addr,a.fix.phase,a.fix.cable⟩ ⟨b.fix.ch,b.fix.part,b.fix.profile,b.fix.univ,b.fix.addr,b.fix.phase,b.fix.cable⟩=sameE a b:=by
 obtain⟨p1,p2⟩:=of_decide_eq_true h7;obtain⟨g1,g2⟩:=of_decide_eq_true h8;obtain⟨s1,s2,s3,s4⟩:=of_decide_eq_true h9;obtain⟨x1,x2,x3,x4,x5,x6⟩:=of_decide_eq_true h10;exact zwJ fun hf=>⟨h1,h2,h3,h4,zdL h5,by simpa using h6,p1,p2,g1,g2,s1,s2,s3,s4,x1,x2,x3,x4,x5,x6,hf⟩
theorem zib (a b:Edit)(w:World)(ha:zeT w a)(hb:zeT w b):Calls prog 124 #[.agg (editR a).toArray,.agg (editR b).toArray] w fun r w'=>r=.returned (.bool (sameE a b))∧Ext w w':=by
 have HA:=zh ha;have HB:=zh hb;clear ha hb;go_enter func124,ntmps124
 go_upto_region 1 with fail
 refine zbf (l':=?l2) ?hl ?_
 case hl =>simp only[List.map_cons,List.map_nil,zf6];rfl
 go_wp2_with (first
  |(go_at_call 179;refine zzg (zeL a.cue a.cA a.ck a.cB a.cm b.cue b.cA b.ck b.cB b.cm _ (HA.out.cue.mono ex) (HB.out.cue.mono ex)) fun y=>?_)
  |(go_at_call 180;refine zzg (zEl _ _ a.pn b.pn a.hues b.hues _ ⟨by simp[go_sem],by simp[go_sem],HA.out.hues.mono ex⟩ ⟨by simp[go_sem],by simp[go_sem],HB.out.hues.mono ex⟩) fun y=>?_)
  |(go_at_call 181;refine zzg (r14_Same a.gn a.chans b.gn b.chans _ (HA.out.chans.mono ex) (HB.out.chans.mono ex)) fun y=>?_)
  |(go_at_call 182;refine zzg (ztM a.sub b.sub _ (HA.out.gains.mono ex) (HB.out.gains.mono ex)) fun y=>?_)
  |(go_at_call 183;refine zzg (zgj a.eff b.eff _ (HA.out.wave.mono ex) (HB.out.wave.mono ex)) fun y=>?_))
 all_goals
  go_ret;refine⟨ret_b ?_,ex⟩;go_light
  first
   |exact zb1 fun h=>‹¬a.kind=b.kind› h.kind
   |exact zb1 fun h=>‹¬a.number=b.number› h.number
   |exact zb1 fun h=>‹¬a.ch=b.ch› h.ch
   |exact zb1 fun h=>‹¬a.prio=b.prio› h.prio
   |exact zb1 fun h=>‹¬a.key.toList=b.key.toList› (by rw[h.key])
   |exact zb1 fun h=>zF4 ‹(!decide (a.cue=b.cue))=true› h.cue
   |exact zb1 fun h=>‹¬zqd a.pn a.hues.l b.pn b.hues.l=true› (decide_eq_true ⟨h.pn,h.hues⟩)
   |exact zb1 fun h=>‹¬zwK a.gn a.chans.l b.gn b.chans.l=true› (decide_eq_true ⟨h.gn,h.chans⟩)
   |exact zb1 fun h=>‹¬sameS a.sub b.sub=true› (decide_eq_true ⟨h.sn,h.sp,h.si,h.sg⟩)
   |exact zb1 fun h=>‹¬sameX a.eff b.eff=true› (decide_eq_true ⟨h.xn,h.xa,h.xw,h.xp,h.xs,h.xz⟩)
   |exact zF3 ‹a.kind=b.kind› ‹a.number=b.number› ‹a.ch=b.ch› ‹a.prio=b.prio› ‹a.key.toList=b.key.toList› ‹(!decide (a.cue=b.cue))=false› ‹zqd a.pn a.hues.l b.pn b.hues.l=true› ‹zwK a.gn a.chans.l b.gn b.chans.l=true› ‹sameS a.sub b.sub=true› ‹sameX a.eff b.eff=true›

theorem zcz (a b:Acn)(w:World)(ha:AcnAt w a)(hb:AcnAt w b):Calls prog 88 #[.agg (acnR a).toArray,.agg (acnR b).toArray] w fun r w'=>r=.returned (.bool (sameA a b))∧Ext w w':=by
 have HA:=zh ha;have HB:=zh hb;clear ha hb;have HR1:=zh (za4 (zag w rfl (acnR a) 99) ((Ext.refl _).alloc (.cells (acnR b).toArray 99)));have HR2:=zh (zag (w.alloc (.cells (acnR a).toArray 99)) (b:=w.heap.size+1) (by simp) (acnR b) 99);go_enter func88,ntmps88
 go_upto_region 1 with fail
 refine zbf (l':=?l2) ?hl ?_
 case hl =>simp only[List.map_cons,List.map_nil,zf6];rfl
 go_wp2_with (first
  |(refine wpList_load_row rfl 97 (.tmp 65) rfl w.heap.size 9 rfl (editR a.edit) _ (za4 (zbq HR1.out rfl) ex) underlying97 rfl kr ?_)
  |(refine wpList_load_row rfl 97 (.tmp 67) rfl (w.heap.size+1) 9 rfl (editR b.edit) _ (za4 (zbq HR2.out rfl) ex) underlying97 rfl kr ?_)
  |(go_at_call 121;refine zzg (zia a.entries.at_ a.entries.cap a.entries.l b.entries.at_ b.entries.cap b.entries.l _ (HA.out.entries.sl.mono ex) HA.out.entries.len (HB.out.entries.sl.mono ex) HB.out.entries.len) fun y=>?_)
  |(go_at_call 122;refine zzg (zrv a.params.at_ a.params.cap a.params.l b.params.at_ b.params.cap b.params.l _ (HA.out.params.sl.mono ex) HA.out.params.len (HB.out.params.sl.mono ex) HB.out.params.len) fun y=>?_)
  |(go_at_call 123;refine zzg (zvV a.chans.at_ a.chans.cap a.chans.l b.chans.at_ b.chans.cap b.chans.l _ (HA.out.chans.sl.mono ex) HA.out.chans.len (HB.out.chans.sl.mono ex) HB.out.chans.len) fun y=>?_)
  |(go_at_call 124;refine zzg (zib a.edit b.edit _ (HA.out.edit.mono ex) (HB.out.edit.mono ex)) fun y=>?_))
 all_goals
  go_ret;refine⟨ret_b ?_,ex⟩;go_light
  first
   |exact zcd fun h=>‹¬a.at_=b.at_› h.at_
   |exact zcd fun h=>‹¬a.kind=b.kind› h.kind
   |exact zcd fun h=>‹¬a.target=b.target› h.target
   |exact zcd fun h=>‹¬a.cue.toList=b.cue.toList› (by rw[h.cue])
   |exact zcd fun h=>‹¬a.level=b.level› h.level
   |exact zcd fun h=>absurd h.time (by simpa using ‹(a.time !=b.time)=true›)
   |exact zcd fun h=>‹¬a.entries.l=b.entries.l› h.entries
   |exact zcd fun h=>‹¬a.params.l=b.params.l› h.params
   |exact zcd fun h=>‹¬a.chans.l=b.chans.l› h.chans
   |exact zwI fun hf=>⟨‹a.at_=b.at_›,‹a.kind=b.kind›,‹a.target=b.target›,zdL ‹a.cue.toList=b.cue.toList›,‹a.level=b.level›,by simpa using ‹(a.time !=b.time)=false›,‹a.entries.l=b.entries.l›,‹a.params.l=b.params.l›,‹a.chans.l=b.chans.l›,hf⟩

def tgB (k:Int):Bool:=decide ((0≤k∧k≤9)∨k=14∨k=15∨k=16)
def lvB (k:Int):Bool:=decide (k=6∨k=7∨k=9∨k=10∨k=11∨k=15)
def tmB (k:Int):Bool:=decide (k=7∨k=8∨k=9∨k=10∨k=12)
theorem zcD (k:Int)(w:World):Calls prog 170 #[k] w fun e w'=>e=.returned (.bool (tgB k))∧w=w':=by
 go_enter func170,ntmps170;go_wp2
 all_goals
  go_ret;refine⟨ret_b ?_,rfl⟩;unfold tgB;grind
theorem zbJ (k:Int)(w:World):Calls prog 172 #[k] w fun e w'=>e=.returned (.bool (lvB k))∧w=w':=by
 go_enter func172,ntmps172;go_wp2
 all_goals
  go_ret;refine⟨ret_b ?_,rfl⟩;unfold lvB;grind
theorem zcR (k:Int)(w:World):Calls prog 174 #[k] w fun e w'=>e=.returned (.bool (tmB k))∧w=w':=by
 go_enter func174,ntmps174;go_wp2
 all_goals
  go_ret;refine⟨ret_b ?_,rfl⟩;unfold tmB;grind
theorem zdw (k v:Int)(w:World):Calls prog 173 #[k,v] w fun e w'=>e=.returned (.int .i64 (zbo k v))∧w=w':=by
 go_enter func173,ntmps173;go_wp2
 all_goals
  go_ret;refine⟨ret_i ?_,rfl⟩;grind [zbo,inE]

theorem zmn (A:Option Addr)(cap:Nat)(l:List Param)(w:World)(hs:Sl w A 2 (l.map prm))(hl:l.length≤maxLen):Calls prog 176 #[.slice A l.length cap] w fun e w'=>e=.returned (.int .i64 (parsE l))∧Ext w w':=by
 unfold maxLen at hl;by_cases h1:4096<l.length
 ·have HV:=zh (show parsE l=5 by unfold parsE;rw[if_pos h1]);clear hs;go_enter func176,ntmps176;go_wp2;go_ret;exact⟨ret_i HV.out.symm,Ext.refl _⟩
 ·have HM:=zh (show parsE l=scan parE none l by unfold parsE;rw[if_neg h1]);go_enter func176,ntmps176;go_wp2;go_loopw [3] (fun i wr=> ∃k:Nat,k≤l.length∧i=.int .i64 k∧Ext w wr∧Hid (parsE l=scan parE (prv l k) (l.drop k))) (fun i _=>l.length - (intOf i).toNat)
  case atStart => exact ⟨0,by omega,rfl,Ext.refl _,HM⟩
  case round =>
   obtain⟨k,hk,rfl,hx,HE⟩:=hrel;obtain⟨y,rfl⟩:=hx.get;clear hx HM;by_cases hlt:k<l.length
   ·obtain⟨m,hm⟩:∃m,l[k]?=some m:=⟨_,List.getElem?_eq_getElem hlt⟩
    obtain⟨b,o,rfl,hc0,hc1⟩:=hs.row2 (i:=k) (by rw[List.getElem?_map,hm];rfl);have HS:=zh (HE.out.trans (zcu parE l k m hm));have hb0:(0:Int)≤(k:Int):=by omega
    have hb1:(k:Int)<(l.length:Int):=by omega
    clear HE;by_cases hp:zak m=0
    ·have hz:(zak m !=0)=false:=by simpa using hp
     have HP0:=zh hp;clear hp;by_cases hk0:0<k
     ·obtain⟨m',hm'⟩:∃m',l[k - 1]?=some m':=⟨_,List.getElem?_eq_getElem om⟩
      obtain⟨b',o',hA,hp0,hp1⟩:=hs.row2 (i:=k - 1) (by rw[List.getElem?_map,hm'];rfl);injection hA with hA;injection hA with e1 e2;subst e1 e2;have HP:=zh (show prv l k=some m' by unfold prv;rw[if_neg om,hm']);clear hm hm' hs;go_wp2_with (go_at_call 205;refine zzg (zaX m _) fun y=>?_);(refine zcL kr kr ?_;(repeat(go_big_quiet_step ((go_at_call 207;exact Calls.grows (zeG m' m _)))));refine wqN fun y=>?_);cases hB:before m' m
      ·have HB:=zh hB;clear hB;go_wp2;go_ret;go_light;refine⟨ret_i ?_,ex⟩;have hS:=HS.out;have hB:=HB.out;have h1:=HP0.out;rw[HP.out] at hS;grind [parE]
      ·have HB:=zh hB;clear hB;go_wp2;go_light;have hS:=HS.out;have hB:=HB.out;have h1:=HP0.out;refine⟨⟨k+1,by omega,by go_num,ex,zh ?_⟩,by simp[intOf];omega⟩;rw[HP.out] at hS;grind [parE]
     ·have HP:Hid (prv l k=none):=zh (by unfold prv;rw[if_pos om]);obtain rfl:k=0:=by omega
      simp only[Nat.zero_mul,Nat.add_zero] at hc0 hc1;clear hm hs hk0;go_wp2_with (go_at_call 205;refine zzg (zaX m _) fun y=>?_);(refine zcL kr kr ?_;(repeat(go_big_quiet_step (fail)));refine wqN fun y=>?_);go_wp2;go_light;have hS:=HS.out;have h1:=HP0.out;refine⟨⟨1,by omega,by rfl,ex,zh ?_⟩,by simp[intOf];omega⟩;rw[HP.out] at hS;grind [parE]
    ·have hz:(zak m !=0)=true:=by simpa using hp
     have HV:=zh (show zak m=parsE l by
      rw[HS.out];have h2:parE (prv l k) m=zak m:=by unfold parE;rw[if_pos hp]
      rw[h2,if_pos hp])
     clear hp hm hs;go_wp2_with (go_at_call 205;refine zzg (zaX m _) fun y=>?_);go_ret;exact⟨ret_i HV.out,ex⟩
   ·have HS:=zh (HE.out.trans (zbX parE l k _ om));go_wp2;go_ret;exact⟨ret_i HS.out.symm,ex⟩

theorem zid (A:Option Addr)(cap:Nat)(l:List Int)(w:World)(hs:Sl w A 1 (l.map intR))(hl:l.length≤maxLen):Calls prog 177 #[.slice A l.length cap] w fun e w'=>e=.returned (.int .i64 (zb3 l))∧Ext w w':=by
 unfold maxLen at hl;by_cases h0:l.length=0
 ·have hz:((l.length:Int)==0)=true:=by simp[h0]
  have HV:=zh (show zb3 l=12 by unfold zb3;rw[if_pos h0]);clear h0 hs;go_enter func177,ntmps177;go_wp2;go_ret;exact⟨ret_i HV.out.symm,Ext.refl _⟩
 ·have hz:((l.length:Int)==0)=false:=by simp;intro h;exact h0 (by simp[h])
  by_cases h1:256<l.length
  ·have HV:=zh (show zb3 l=5 by unfold zb3;rw[if_neg h0,if_pos h1]);clear h0 hs;go_enter func177,ntmps177;go_wp2;go_ret;exact⟨ret_i HV.out.symm,Ext.refl _⟩
  ·have HM:=zh (show zb3 l=zg5 [] l by unfold zb3;rw[if_neg h0,if_neg h1]);obtain⟨b,o,rfl,-⟩:=hs.row1 (i:=0) (by rw[List.getElem?_map,List.getElem?_eq_getElem om];rfl);clear h0;go_enter func177,ntmps177;go_wp2;go_loopw [3,4] (fun i _ wr=> ∃k:Nat,k≤l.length∧i=.int .i64 k∧Ext w wr∧Hid (zb3 l=zg5 (l.take k) (l.drop k))) (fun i _ _=>l.length - (intOf i).toNat)
   case atStart => exact ⟨0,by omega,rfl,Ext.refl _,by simpa using HM⟩
   case round =>
    obtain⟨k,hk,rfl,hx,HE⟩:=hrel;obtain⟨y,rfl⟩:=hx.get;clear hx HM;by_cases hlt:k<l.length
    ·obtain⟨m,hm⟩:∃m,l[k]?=some m:=⟨_,List.getElem?_eq_getElem hlt⟩
     obtain⟨b',o',hA,hc0⟩:=hs.row1 (i:=k) (by rw[List.getElem?_map,hm];rfl);injection hA with hA;injection hA with e1 e2;subst e1 e2;have HS:=zh (HE.out.trans (zpi l k m hm));have HSl:=zh hs;have HM:=zh hm;have hb0:(0:Int)≤(k:Int):=by omega
     have hb1:(k:Int)<(l.length:Int):=by omega
     clear HE hm hs;rcases zhV m 1 999 with hi|hi
     ·have hi1:1≤m:=by unfold inE at hi;split at hi<;>omega
      have hi2:m≤999:=by unfold inE at hi;split at hi<;>omega
      have HI:=zh hi;clear hi;go_wp2;go_loopw [4] (fun i wr=> ∃j:Nat,j≤k∧i=.int .i64 j∧Ext w wr∧Hid (∀x∈l.take j,x≠m)) (fun i _=>k - (intOf i).toNat)
      case atStart => exact ⟨0,by omega,rfl,ex,zh (by simp)⟩
      case round =>
       obtain⟨j,hj,rfl,hx,HN⟩:=hrel;obtain⟨y2,rfl⟩:=hx.get;clear hx;by_cases hjk:j<k
       ·obtain⟨x,hx⟩:∃x,l[j]?=some x:=⟨_,List.getElem?_eq_getElem om⟩
        obtain⟨b',o',hA,hd0⟩:=HSl.out.row1 (i:=j) (by rw[List.getElem?_map,hx];rfl);injection hA with hA;injection hA with e1 e2;subst e1 e2;have HX:=zh hx;have hb2:(0:Int)≤(j:Int):=by omega
        have hb3:(j:Int)<(l.length:Int):=by omega
        clear hx;by_cases he:x=m
        ·have hz2:(x==m)=true:=by simpa using he
         have HV:=zh (show zb3 l=7 by rw[HS.out,if_neg (by simpa using HI.out),if_pos];rw[←he];exact List.mem_of_getElem? (i:=j) (by rw[List.getElem?_take,if_pos hjk];exact HX.out))
         clear he;go_wp2;(refine zcL kr kr ?_;(repeat(go_big_quiet_step (fail)));refine wqN fun y=>?_);go_wp2;go_ret;exact⟨ret_i HV.out.symm,ex⟩
        ·have hz2:(x==m)=false:=by simpa using he
         have HK:=zh (show ∀x∈l.take (j+1),x≠m by
          intro z hzz;obtain⟨g1,g2⟩:=List.getElem?_eq_some_iff.1 HX.out;rw[List.take_succ_eq_append_getElem g1,g2] at hzz;rcases List.mem_append.1 hzz with hzz|hzz
          ·exact HN.out z hzz
          ·simp at hzz;subst hzz;exact he)
         clear he;go_wp2;(refine zcL kr kr ?_;(repeat(go_big_quiet_step (fail)));refine wqN fun y=>?_);go_wp2;go_light;exact⟨⟨j+1,by omega,by go_num,ex,HK⟩,by simp[intOf];omega⟩
       ·have HV:=zh (show zb3 l=zg5 (l.take (k+1)) (l.drop (k+1)) by
         obtain rfl:j=k:=by omega
         rw[HS.out,if_neg (by simpa using HI.out),if_neg (fun h=>HN.out m h rfl)])
        go_wp2;go_light;exact⟨⟨k+1,by omega,by go_num,ex,HV⟩,by simp[intOf];omega⟩
     ·have HV:=zh (show zb3 l=2 by rw[HS.out,if_pos (by rw[hi];decide)]);rcases(by unfold inE at hi;split at hi<;>omega:m<1∨(1≤m∧999<m)) with hi1|⟨hi1,hi2⟩
      ·clear hi;go_wp2;go_ret;exact⟨ret_i HV.out.symm,ex⟩
      ·clear hi;go_wp2;go_ret;exact⟨ret_i HV.out.symm,ex⟩
    ·have HS:=zh (show zb3 l=0 by rw[HE.out,List.drop_eq_nil_of_le om];rfl);go_wp2;go_ret;exact⟨ret_i HS.out.symm,ex⟩

def n1B (a:Acn):Bool:=tgB a.kind && (inE a.target 1 1048576 !=0)
def n3B (a:Acn):Bool:=tmB a.kind && (inE a.time 0 10000000 !=0)
noncomputable def numsR (a:Acn):Int:=if n1B a=true then 2 else if a.kind=1∧numE a.cue≠0 then numE a.cue else if lvB a.kind=true∧zbo a.kind a.level≠0 then zbo a.kind a.level else if n3B a=true then 2 else 0
theorem zkP (n a b:Int):(inE n a b !=0)=decide (n<a∨b<n):=by unfold inE;split<;>simp[*]
theorem zjW (a:Acn)(w:World)(ha:a.cue.size≤maxLen):Calls prog 118 #[.agg (acnR a).toArray] w fun e w'=>e=.returned (.int .i64 (numsR a))∧Ext w w':=by
 have HA:=zh ha;clear ha;go_enter func118,ntmps118
 go_upto_region 1 with fail
 go_cut [17] (fun s wx=>s=.bool (n1B a)∧w.alloc (.cells (acnR a).toArray 99)=wx)
 case first =>
  go_wp2_with (go_at_call 170;refine(zcD _ _).mono ?_;rintro e w' ⟨rfl,rfl⟩)
  all_goals
   go_meet;refine⟨?_,rfl⟩;go_light
   as_aux_lemma=>congr 1;unfold n1B;rw[zkP];grind
 case rest =>
  obtain⟨rfl,rfl⟩:=hcut;cases ht:n1B a
  ·have HT:=zh ht;clear ht;by_cases hk:a.kind=1∧numE a.cue≠0
   ·obtain⟨k1,k2⟩:=hk;have q1:(a.kind==1)=true:=by simpa using k1
    have q2:(numE a.cue !=0)=true:=by simpa using k2
    have HV:=zh (show numsR a=numE a.cue by unfold numsR;rw[HT.out,if_neg dk,if_pos ⟨k1,k2⟩]);clear k1 k2;go_wp2_with (go_at_call 171;refine zzg (zdk a.cue _ HA.out) fun y=>?_);go_ret;exact⟨ret_i HV.out.symm,ex⟩
   ·have HK:=zh hk;by_cases hl:lvB a.kind=true∧zbo a.kind a.level≠0
    ·obtain⟨k1,k2⟩:=hl;have q2:(zbo a.kind a.level !=0)=true:=by simpa using k2
     have q1:(a.kind==1)=false:=by unfold lvB at k1;simp at k1 ⊢;omega
     have HV:=zh (show numsR a=zbo a.kind a.level by unfold numsR;rw[HT.out,if_neg dk,if_neg HK.out,if_pos ⟨k1,k2⟩]);clear k2 hk;go_wp2_with (first|(go_at_call 172;refine(zbJ _ _).mono ?_;rintro e w' ⟨rfl,rfl⟩)|(go_at_call 173;refine(zdw _ _ _).mono ?_;rintro e w' ⟨rfl,rfl⟩));go_ret;exact⟨ret_i HV.out.symm,ex⟩
    ·have HL:=zh hl;have hV:numsR a=if n3B a=true then 2 else 0:=by unfold numsR;rw[HT.out,if_neg dk,if_neg HK.out,if_neg HL.out]
     have HV:=zh hV;clear hV;by_cases k1:a.kind=1
     ·have q1:(a.kind==1)=true:=by simpa using k1
      have q2:(numE a.cue !=0)=false:=by have:=HK.out;simp only[k1,true_and,ne_eq,Decidable.not_not] at this;simpa using this
      have q3:lvB a.kind=false:=by rw[k1];rfl
      clear k1 hk hl;go_wp2_with (first|(go_at_call 171;refine zzg (zdk a.cue _ HA.out) fun y=>?_)|(go_at_call 172;refine(zbJ _ _).mono ?_;rintro e w' ⟨rfl,rfl⟩)|(go_at_call 173;refine(zdw _ _ _).mono ?_;rintro e w' ⟨rfl,rfl⟩)|(go_at_call 174;refine(zcR _ _).mono ?_;rintro e w' ⟨rfl,rfl⟩))
      all_goals
       go_ret;refine⟨ret_i ?_,ex⟩;rw[HV.out];go_light
       as_aux_lemma=>unfold n3B;rw[zkP];grind
     ·have q1:(a.kind==1)=false:=by simpa using k1
      clear k1 hk;cases hlv:lvB a.kind
      ·clear hl;go_wp2_with (first|(go_at_call 171;refine zzg (zdk a.cue _ HA.out) fun y=>?_)|(go_at_call 172;refine(zbJ _ _).mono ?_;rintro e w' ⟨rfl,rfl⟩)|(go_at_call 173;refine(zdw _ _ _).mono ?_;rintro e w' ⟨rfl,rfl⟩)|(go_at_call 174;refine(zcR _ _).mono ?_;rintro e w' ⟨rfl,rfl⟩))
       all_goals
        go_ret;refine⟨ret_i ?_,ex⟩;rw[HV.out];go_light
        as_aux_lemma=>unfold n3B;rw[zkP];grind
      ·have q2:(zbo a.kind a.level !=0)=false:=by have:=HL.out;simp only[hlv,true_and,ne_eq,Decidable.not_not] at this;simpa using this
       clear hl;go_wp2_with (first|(go_at_call 171;refine zzg (zdk a.cue _ HA.out) fun y=>?_)|(go_at_call 172;refine(zbJ _ _).mono ?_;rintro e w' ⟨rfl,rfl⟩)|(go_at_call 173;refine(zdw _ _ _).mono ?_;rintro e w' ⟨rfl,rfl⟩)|(go_at_call 174;refine(zcR _ _).mono ?_;rintro e w' ⟨rfl,rfl⟩))
       all_goals
        go_ret;refine⟨ret_i ?_,ex⟩;rw[HV.out];go_light
        as_aux_lemma=>unfold n3B;rw[zkP];grind
  ·have HV:=zh (show numsR a=2 by unfold numsR;rw[ht,if_pos rfl]);clear ht;go_wp2;go_ret;exact⟨ret_i HV.out.symm,ex⟩

noncomputable def zjl (a:Acn):Int:=if a.kind=12 then setE a.entries.l else if a.kind=13 then parsE a.params.l else if a.kind=14 then zb3 a.chans.l else if a.kind=17 then editE a.edit else 0
theorem zq0 (a:Acn)(w:World)(ha:AcnAt w a):Calls prog 119 #[.agg (acnR a).toArray] w fun e w'=>e=.returned (.int .i64 (zjl a))∧Ext w w':=by
 have HA:=zh ha;have HR:=zh (zag w rfl (acnR a) 99);clear ha;go_enter func119,ntmps119
 go_wp2_with (first
  |(refine wpList_load_row rfl 97 _ rfl w.heap.size 9 rfl (editR a.edit) _ (zbq HR.out rfl) underlying97 rfl kr ?_)
  |(go_at_call 175;refine zzg (zcP a.entries.at_ a.entries.cap a.entries.l _ (HA.out.entries.sl.mono ex) HA.out.entries.len) fun y=>?_)
  |(go_at_call 176;refine zzg (zmn a.params.at_ a.params.cap a.params.l _ (HA.out.params.sl.mono ex) HA.out.params.len) fun y=>?_)
  |(go_at_call 177;refine zzg (zid a.chans.at_ a.chans.cap a.chans.l _ (HA.out.chans.sl.mono ex) HA.out.chans.len) fun y=>?_)
  |(go_at_call 178;refine zzg (zpZ a.edit _ (HA.out.edit.mono ex)) fun y=>?_))
 all_goals
  go_ret;refine⟨ret_i ?_,ex⟩;go_light;unfold zjl setE;grind
