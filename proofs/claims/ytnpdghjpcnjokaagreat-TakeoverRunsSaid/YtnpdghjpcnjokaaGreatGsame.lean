import Derived.Test.YtnpdghjpcnjokaaGreatGtim
set_option maxHeartbeats 1600000
namespace Go.Proofs.YtnpdghjpcnjokaaGreat
open Go.RowKit Tryz

theorem ztg (m n:Move):eqM ⟨⟨m.p.ch,m.p.attr⟩,⟨m.v.pal,m.v.lev⟩,m.part⟩ ⟨⟨n.p.ch,n.p.attr⟩,⟨n.v.pal,n.v.lev⟩,n.part⟩=decide (m=n):=rfl
theorem zti (m n:Timing):eqT ⟨m.up,m.down,m.pos,m.col,m.beam,m.del⟩ ⟨n.up,n.down,n.pos,n.col,n.beam,n.del⟩=decide (m=n):=rfl
theorem zbK {α:Type}{l l':List α}{k:Nat}{m m':α}(h:l[k]?=some m)(h':l'[k]?=some m')(he:m=m')(hk:l.take k=l'.take k):l.take (k+1)=l'.take (k+1):=by obtain⟨h1,h2⟩:=List.getElem?_eq_some_iff.1 h;obtain⟨h3,h4⟩:=List.getElem?_eq_some_iff.1 h';rw[List.take_succ_eq_append_getElem h1,List.take_succ_eq_append_getElem h3,hk,h2,h4,he]
theorem zcq {α:Type}{l l':List α}{k:Nat}{m m':α}(h:l[k]?=some m)(h':l'[k]?=some m')(he:m≠m'):l≠l':=fun e=>by rw[e,h'] at h;injection h with h;exact he h.symm

theorem zfn (A:Option Addr)(c:Nat)(l:List Move)(B:Option Addr)(d:Nat)(l':List Move)(w:World)(hs:Sl w A 5 (l.map mv))(hl:l.length≤maxLen)(hs':Sl w B 5 (l'.map mv))(hl':l'.length≤maxLen):
  Calls prog 210 #[.slice A l.length c,.slice B l'.length d] w fun e w'=>e=.returned (.bool (decide (l=l')))∧Ext w w':=by
 unfold maxLen at hl hl';by_cases hn:l.length=l'.length
 ·have hb:((l.length:Int) !=(l'.length:Int))=false:=by simp[hn]
  have HN:=zh hn;have hle:l.length≤l'.length:=by omega
  clear hn;go_enter func210,ntmps210;go_wp2;go_loopw [5] (fun i wr=> ∃k:Nat,k≤l.length∧i=.int .i64 k∧Ext w wr∧Hid (l.take k=l'.take k)) (fun i _=>l.length - (intOf i).toNat)
  case atStart => exact ⟨0,by omega,rfl,Ext.refl _,zh (by simp)⟩
  case round =>
   obtain⟨k,hk,rfl,hx,HE⟩:=hrel;obtain⟨y,rfl⟩:=hx.get;clear hx;by_cases hlt:k<l.length
   ·obtain⟨m,hm⟩:∃m,l[k]?=some m:=⟨_,List.getElem?_eq_getElem hlt⟩
    obtain⟨m',hm'⟩:∃m',l'[k]?=some m':=⟨_,List.getElem?_eq_getElem om⟩
    have HM:=zh hm;have HM':=zh hm';obtain⟨b,o,rfl,hc0,hc1,hc2,hc3,hc4⟩:=hs.row5 (i:=k) (by rw[List.getElem?_map,hm];rfl);obtain⟨b',o',rfl,hd0,hd1,hd2,hd3,hd4⟩:=hs'.row5 (i:=k) (by rw[List.getElem?_map,hm'];rfl);have hb0:(0:Int)≤(k:Int):=by omega
    have hb1:(k:Int)<(l.length:Int):=by omega
    have hb2:(k:Int)<(l'.length:Int):=by omega
    clear hm hm' hs hs';go_wp2;(refine zcL kr kr ?_;(repeat(go_big_quiet_step (fail)));refine wqN fun y=>?_);by_cases he:m=m'
    ·have hz:eqM ⟨⟨m.p.ch,m.p.attr⟩,⟨m.v.pal,m.v.lev⟩,m.part⟩ ⟨⟨m'.p.ch,m'.p.attr⟩,⟨m'.v.pal,m'.v.lev⟩,m'.part⟩=true:=by rw[ztg];simpa using he
     rw[hz];have HK:=zh (zbK HM.out HM'.out he HE.out);clear he;go_wp2;go_light;exact⟨⟨k+1,by omega,by go_num,ex,HK⟩,by simp[intOf];omega⟩
    ·have hz:eqM ⟨⟨m.p.ch,m.p.attr⟩,⟨m.v.pal,m.v.lev⟩,m.part⟩ ⟨⟨m'.p.ch,m'.p.attr⟩,⟨m'.v.pal,m'.v.lev⟩,m'.part⟩=false:=by rw[ztg];simpa using he
     rw[hz];have HK:=zh (zcq HM.out HM'.out he);clear he;go_wp2;go_ret;rw[decide_eq_false HK.out];exact⟨rfl,ex⟩
   ·have HK:Hid (l=l'):=zh (by have:=HE.out;rwa [List.take_of_length_le om,List.take_of_length_le (by have:=HN.out;omega)] at this)
    go_wp2;go_ret;rw[decide_eq_true HK.out];exact⟨rfl,ex⟩
 ·have hb:((l.length:Int) !=(l'.length:Int))=true:=by simp;omega
  have HN:Hid (l≠l'):=zh fun e=>hn (by rw[e]);clear hn;go_enter func210,ntmps210;go_wp2;go_ret;rw[decide_eq_false HN.out];exact⟨rfl,ex⟩
theorem cue_eq (a b:Cue):(a.number=b.number∧a.label=b.label∧a.block=b.block∧a.mark=b.mark∧a.follow=b.follow∧a.link=b.link∧a.loops=b.loops∧a.moves=b.moves∧a.parts=b.parts)↔a=b:=by cases a;cases b;simp only[Cue.mk.injEq];constructor<;>(intro h;simp only[h,and_self])
instance : DecidableEq Cue:=fun a b => decidable_of_iff _ (cue_eq a b)
theorem zdL {a b:ByteArray}(h:a.toList=b.toList):a=b:=
 ByteArray.ext (Array.ext' (by rw[←Lib.toList_data,←Lib.toList_data];exact h))

theorem zeL (c:Cue)(A:Option Addr)(k:Nat)(B:Option Addr)(m:Nat)(d:Cue)(A':Option Addr)(k':Nat)(B':Option Addr)(m':Nat)(w:World)(hc:CueAt w c A k B m)(hd:CueAt w d A' k' B' m'):
  Calls prog 179 #[.agg (cueV c A k B m).toArray,.agg (cueV d A' k' B' m').toArray] w fun e w'=>e=.returned (.bool (decide (c=d)))∧Ext w w':=by
 have HC:=zh hc;have HD:=zh hd;have hl:c.moves.length≤maxLen:=Nat.le_trans hc.hk hc.hk';have hl':d.moves.length≤maxLen:=Nat.le_trans hd.hk hd.hk';have hm1:c.parts.length≤9223372036854775807:=Nat.le_trans hc.hm hc.hm';have hs:=hc.pt;have hs':=hd.pt;clear hc hd;by_cases hE:c.number=d.number∧c.label=d.label∧c.block=d.block∧c.mark=d.mark∧c.follow=d.follow∧c.link=d.link∧c.loops=d.loops∧c.moves=d.moves∧c.parts.length=d.parts.length
 ·obtain⟨cn,cl,cm,cp,cb,ck,cf,ci,co⟩:=c;obtain⟨dn,dl,dm,dp,db,dk,df,di,do'⟩:=d;simp only at hE hl hl' hm1 hs hs';obtain⟨rfl,rfl,rfl,rfl,rfl,rfl,rfl,rfl,h9⟩:=hE;have HE:Hid (∀b:Bool,(b=true↔cp=dp)→decide ((⟨cn,cl,cm,cp,cb,ck,cf,ci,co⟩:Cue)=⟨cn,cl,cm,dp,cb,ck,cf,ci,co⟩)=b):=zh fun b hb=>by
   cases b with
   |false=>exact decide_eq_false fun h=>by injection h with _ _ _ h;have:=hb.2 h;cases this
   |true=>exact decide_eq_true (by rw[hb.1 rfl])
  have h9':((cp.length:Int) !=(dp.length:Int))=false:=by simp[h9]
  have hle:cp.length≤dp.length:=by omega
  have HN:=zh h9;clear h9;simp only[cueV];go_enter func179,ntmps179;go_wp2_with (go_at_call 210;refine zzg (zfn A k cm A' k' cm _ (HC.out.mv.mono ex) hl (HD.out.mv.mono ex) hl') fun y=>?_);go_loopw [5] (fun i wr=> ∃j:Nat,j≤cp.length∧i=.int .i64 j∧Ext ((w.alloc (.cells #[.string (⟨cn,cl,cm,cp,cb,ck,cf,ci,co⟩:Cue).number,.string (⟨cn,cl,cm,cp,cb,ck,cf,ci,co⟩:Cue).label,.slice A (⟨cn,cl,cm,cp,cb,ck,cf,ci,co⟩:Cue).moves.length k,.slice B (⟨cn,cl,cm,cp,cb,ck,cf,ci,co⟩:Cue).parts.length m,.bool (⟨cn,cl,cm,cp,cb,ck,cf,ci,co⟩:Cue).block,.bool (⟨cn,cl,cm,cp,cb,ck,cf,ci,co⟩:Cue).mark,.int .i64 (⟨cn,cl,cm,cp,cb,ck,cf,ci,co⟩:Cue).follow,.string (⟨cn,cl,cm,cp,cb,ck,cf,ci,co⟩:Cue).link,.int .i64 (⟨cn,cl,cm,cp,cb,ck,cf,ci,co⟩:Cue).loops] 82)).alloc (.cells #[.string (⟨cn,cl,cm,dp,cb,ck,cf,ci,co⟩:Cue).number,.string (⟨cn,cl,cm,dp,cb,ck,cf,ci,co⟩:Cue).label,.slice A' (⟨cn,cl,cm,dp,cb,ck,cf,ci,co⟩:Cue).moves.length k',.slice B' (⟨cn,cl,cm,dp,cb,ck,cf,ci,co⟩:Cue).parts.length m',.bool (⟨cn,cl,cm,dp,cb,ck,cf,ci,co⟩:Cue).block,.bool (⟨cn,cl,cm,dp,cb,ck,cf,ci,co⟩:Cue).mark,.int .i64 (⟨cn,cl,cm,dp,cb,ck,cf,ci,co⟩:Cue).follow,.string (⟨cn,cl,cm,dp,cb,ck,cf,ci,co⟩:Cue).link,.int .i64 (⟨cn,cl,cm,dp,cb,ck,cf,ci,co⟩:Cue).loops] 82)) wr∧Hid (cp.take j=dp.take j)) (fun i _=>cp.length - (intOf i).toNat)
  case atStart => exact ⟨0,by omega,rfl,ex,zh (by simp)⟩
  case round =>
   obtain⟨j,hj,rfl,hx,HK⟩:=hrel;obtain⟨y2,rfl⟩:=hx.get;clear hx;simp only[];by_cases hlt:j<cp.length
   ·obtain⟨t,ht⟩:∃t,cp[j]?=some t:=⟨_,List.getElem?_eq_getElem hlt⟩
    obtain⟨t',ht'⟩:∃t',dp[j]?=some t':=⟨_,List.getElem?_eq_getElem om⟩
    have HT:=zh ht;have HT':=zh ht';obtain⟨b,o,rfl,hc0,hc1,hc2,hc3,hc4,hc5⟩:=hs.row6 (i:=j) (by rw[List.getElem?_map,ht];rfl);obtain⟨b',o',rfl,hd0,hd1,hd2,hd3,hd4,hd5⟩:=hs'.row6 (i:=j) (by rw[List.getElem?_map,ht'];rfl);have hb0:(0:Int)≤(j:Int):=by omega
    have hb1:(j:Int)<(cp.length:Int):=by omega
    have hb2:(j:Int)<(dp.length:Int):=by omega
    clear ht ht' hs hs';go_wp2;(refine zcL kr kr ?_;(repeat(go_big_quiet_step (fail)));refine wqN fun y=>?_);by_cases he:t=t'
    ·have hz:eqT ⟨t.up,t.down,t.pos,t.col,t.beam,t.del⟩ ⟨t'.up,t'.down,t'.pos,t'.col,t'.beam,t'.del⟩=true:=by rw[zti];simpa using he
     rw[hz];have HK':=zh (zbK HT.out HT'.out he HK.out);clear he;go_wp2;go_light;exact⟨⟨j+1,by omega,by go_num,ex,HK'⟩,by simp[intOf];omega⟩
    ·have hz:eqT ⟨t.up,t.down,t.pos,t.col,t.beam,t.del⟩ ⟨t'.up,t'.down,t'.pos,t'.col,t'.beam,t'.del⟩=false:=by rw[zti];simpa using he
     rw[hz];have HK':=zh (zcq HT.out HT'.out he);clear he;go_wp2;go_ret;rw[HE.out false (by simpa using HK'.out)];exact⟨rfl,ex⟩
   ·have HK':Hid (cp=dp):=zh (by have:=HK.out;rwa [List.take_of_length_le om,List.take_of_length_le (by have:=HN.out;omega)] at this)
    go_wp2;go_ret;rw[HE.out true (by simpa using HK'.out)];exact⟨rfl,ex⟩
 ·have HF:Hid (c≠d):=zh fun h=>hE (by subst h;exact⟨rfl,rfl,rfl,rfl,rfl,rfl,rfl,rfl,rfl⟩);have HX:=zh hE;clear hE;simp only[cueV];go_enter func179,ntmps179;go_wp2_with (go_at_call 210;refine zzg (zfn A k c.moves A' k' d.moves _ (HC.out.mv.mono ex) hl (HD.out.mv.mono ex) hl') fun y=>?_)
  all_goals first
   |(go_ret;go_light;rw[decide_eq_false HF.out];exact⟨rfl,ex⟩)
   |(exfalso;have hh:=HX.out;refine hh ⟨zdL ?_,zdL ?_,?_,?_,?_,zdL ?_,?_,?_,?_⟩<;>first|assumption|(simp at *;omega))

theorem zoJ (A:Option Addr)(c:Nat)(l:List Move)(B:Option Addr)(d:Nat)(l':List Move)(w:World)(hs:Sl w A 5 (l.map mv))(hl:l.length≤maxLen)(hs':Sl w B 5 (l'.map mv))(hl':l'.length≤maxLen):
  Calls prog 201 #[.slice A l.length c,.slice B l'.length d] w fun e w'=>e=.returned (.bool (decide (l=l')))∧Ext w w':=by
 unfold maxLen at hl hl';by_cases hn:l.length=l'.length
 ·have hb:((l.length:Int) !=(l'.length:Int))=false:=by simp[hn]
  have HN:=zh hn;have hle:l.length≤l'.length:=by omega
  clear hn;go_enter func201,ntmps201;go_wp2;go_loopw [13] (fun i wr=> ∃k:Nat,k≤l.length∧i=.int .i64 k∧Ext w wr∧Hid (l.take k=l'.take k)) (fun i _=>l.length - (intOf i).toNat)
  case atStart => exact ⟨0,by omega,rfl,Ext.refl _,zh (by simp)⟩
  case round =>
   obtain⟨k,hk,rfl,hx,HE⟩:=hrel;obtain⟨y,rfl⟩:=hx.get;clear hx;by_cases hlt:k<l.length
   ·obtain⟨m,hm⟩:∃m,l[k]?=some m:=⟨_,List.getElem?_eq_getElem hlt⟩
    obtain⟨m',hm'⟩:∃m',l'[k]?=some m':=⟨_,List.getElem?_eq_getElem om⟩
    have HM:=zh hm;have HM':=zh hm';obtain⟨b,o,rfl,hc0,hc1,hc2,hc3,hc4⟩:=hs.row5 (i:=k) (by rw[List.getElem?_map,hm];rfl);obtain⟨b',o',rfl,hd0,hd1,hd2,hd3,hd4⟩:=hs'.row5 (i:=k) (by rw[List.getElem?_map,hm'];rfl);have hb0:(0:Int)≤(k:Int):=by omega
    have hb1:(k:Int)<(l.length:Int):=by omega
    have hb2:(k:Int)<(l'.length:Int):=by omega
    clear hm hm' hs hs';go_wp2;(refine zcL kr kr ?_;(repeat(go_big_quiet_step (fail)));refine wqN fun y=>?_);by_cases he:m=m'
    ·have hz:eqM ⟨⟨m.p.ch,m.p.attr⟩,⟨m.v.pal,m.v.lev⟩,m.part⟩ ⟨⟨m'.p.ch,m'.p.attr⟩,⟨m'.v.pal,m'.v.lev⟩,m'.part⟩=true:=by rw[ztg];simpa using he
     rw[hz];have HK:=zh (zbK HM.out HM'.out he HE.out);clear he;go_wp2;go_light;exact⟨⟨k+1,by omega,by go_num,ex,HK⟩,by simp[intOf];omega⟩
    ·have hz:eqM ⟨⟨m.p.ch,m.p.attr⟩,⟨m.v.pal,m.v.lev⟩,m.part⟩ ⟨⟨m'.p.ch,m'.p.attr⟩,⟨m'.v.pal,m'.v.lev⟩,m'.part⟩=false:=by rw[ztg];simpa using he
     rw[hz];have HK:=zh (zcq HM.out HM'.out he);clear he;go_wp2;go_ret;rw[decide_eq_false HK.out];exact⟨rfl,ex⟩
   ·have HK:Hid (l=l'):=zh (by have:=HE.out;rwa [List.take_of_length_le om,List.take_of_length_le (by have:=HN.out;omega)] at this)
    go_wp2;go_ret;rw[decide_eq_true HK.out];exact⟨rfl,ex⟩
 ·have hb:((l.length:Int) !=(l'.length:Int))=true:=by simp;omega
  have HN:Hid (l≠l'):=zh fun e=>hn (by rw[e]);clear hn;go_enter func201,ntmps201;go_wp2;go_ret;rw[decide_eq_false HN.out];exact⟨rfl,ex⟩
theorem zCv (A:Option Addr)(c:Nat)(l:List Timing)(B:Option Addr)(d:Nat)(l':List Timing)(w:World)(hs:Sl w A 6 (l.map tmg))(hl:l.length≤maxLen)(hs':Sl w B 6 (l'.map tmg))(hl':l'.length≤maxLen):
  Calls prog 202 #[.slice A l.length c,.slice B l'.length d] w fun e w'=>e=.returned (.bool (decide (l=l')))∧Ext w w':=by
 unfold maxLen at hl hl';by_cases hn:l.length=l'.length
 ·have hb:((l.length:Int) !=(l'.length:Int))=false:=by simp[hn]
  have HN:=zh hn;have hle:l.length≤l'.length:=by omega
  clear hn;go_enter func202,ntmps202;go_wp2;go_loopw [13] (fun i wr=> ∃k:Nat,k≤l.length∧i=.int .i64 k∧Ext w wr∧Hid (l.take k=l'.take k)) (fun i _=>l.length - (intOf i).toNat)
  case atStart => exact ⟨0,by omega,rfl,Ext.refl _,zh (by simp)⟩
  case round =>
   obtain⟨k,hk,rfl,hx,HE⟩:=hrel;obtain⟨y,rfl⟩:=hx.get;clear hx;by_cases hlt:k<l.length
   ·obtain⟨m,hm⟩:∃m,l[k]?=some m:=⟨_,List.getElem?_eq_getElem hlt⟩
    obtain⟨m',hm'⟩:∃m',l'[k]?=some m':=⟨_,List.getElem?_eq_getElem om⟩
    have HM:=zh hm;have HM':=zh hm';obtain⟨b,o,rfl,hc0,hc1,hc2,hc3,hc4,hc5⟩:=hs.row6 (i:=k) (by rw[List.getElem?_map,hm];rfl);obtain⟨b',o',rfl,hd0,hd1,hd2,hd3,hd4,hd5⟩:=hs'.row6 (i:=k) (by rw[List.getElem?_map,hm'];rfl);have hb0:(0:Int)≤(k:Int):=by omega
    have hb1:(k:Int)<(l.length:Int):=by omega
    have hb2:(k:Int)<(l'.length:Int):=by omega
    clear hm hm' hs hs';go_wp2;(refine zcL kr kr ?_;(repeat(go_big_quiet_step (fail)));refine wqN fun y=>?_);by_cases he:m=m'
    ·have hz:eqT ⟨m.up,m.down,m.pos,m.col,m.beam,m.del⟩ ⟨m'.up,m'.down,m'.pos,m'.col,m'.beam,m'.del⟩=true:=by rw[zti];simpa using he
     rw[hz];have HK:=zh (zbK HM.out HM'.out he HE.out);clear he;go_wp2;go_light;exact⟨⟨k+1,by omega,by go_num,ex,HK⟩,by simp[intOf];omega⟩
    ·have hz:eqT ⟨m.up,m.down,m.pos,m.col,m.beam,m.del⟩ ⟨m'.up,m'.down,m'.pos,m'.col,m'.beam,m'.del⟩=false:=by rw[zti];simpa using he
     rw[hz];have HK:=zh (zcq HM.out HM'.out he);clear he;go_wp2;go_ret;rw[decide_eq_false HK.out];exact⟨rfl,ex⟩
   ·have HK:Hid (l=l'):=zh (by have:=HE.out;rwa [List.take_of_length_le om,List.take_of_length_le (by have:=HN.out;omega)] at this)
    go_wp2;go_ret;rw[decide_eq_true HK.out];exact⟨rfl,ex⟩
 ·have hb:((l.length:Int) !=(l'.length:Int))=true:=by simp;omega
  have HN:Hid (l≠l'):=zh fun e=>hn (by rw[e]);clear hn;go_enter func202,ntmps202;go_wp2;go_ret;rw[decide_eq_false HN.out];exact⟨rfl,ex⟩

theorem zt7 (c:Cue)(A:Option Addr)(k:Nat)(B:Option Addr)(m:Nat)(d:Cue)(A':Option Addr)(k':Nat)(B':Option Addr)(m':Nat)(w:World)(hc:CueAt w c A k B m)(hd:CueAt w d A' k' B' m'):
  Calls prog 166 #[.agg (cueV c A k B m).toArray,.agg (cueV d A' k' B' m').toArray] w fun e w'=>e=.returned (.bool (decide (c=d)))∧Ext w w':=by
 have HC:=zh hc;have HD:=zh hd;have hl:c.moves.length≤maxLen:=Nat.le_trans hc.hk hc.hk';have hl':d.moves.length≤maxLen:=Nat.le_trans hd.hk hd.hk';have hp:c.parts.length≤maxLen:=Nat.le_trans hc.hm hc.hm';have hp':d.parts.length≤maxLen:=Nat.le_trans hd.hm hd.hm';clear hc hd;by_cases hM:c.moves=d.moves∧c.parts=d.parts
 ·obtain⟨hm1,hm2⟩:=hM;have hz1:decide (c.moves=d.moves)=true:=by simpa using hm1
  have hz2:decide (c.parts=d.parts)=true:=by simpa using hm2
  have HE:=zh (show decide (c=d)=(decide (c.number.toList=d.number.toList) && decide (c.label.toList=d.label.toList) && (c.block==d.block) && (c.mark==d.mark) && (c.follow==d.follow) && decide (c.link.toList=d.link.toList) && (c.loops==d.loops)) by
   have h1:=cue_eq c d;have e:∀a b:ByteArray,(a.toList=b.toList)↔a=b:=fun a b=>⟨zdL,fun h=>by rw[h]⟩
   rw[Bool.eq_iff_iff];simp only[decide_eq_true_iff,Bool.and_eq_true,beq_iff_eq,e];rw[←h1];simp[hm1,hm2,and_assoc])
  clear hm1 hm2;simp only[cueV];go_enter func166,ntmps166
  go_wp2_with (first
   |(go_at_call 201;refine zzg (zoJ A k c.moves A' k' d.moves _ (HC.out.mv.mono ex) hl (HD.out.mv.mono ex) hl') fun y=>?_)
   |(go_at_call 202;refine zzg (zCv B m c.parts B' m' d.parts _ (HC.out.pt.mono ex) hp (HD.out.pt.mono ex) hp') fun y=>?_))
  all_goals
   go_ret;go_light;rw[HE.out];refine⟨ret_b ?_,ex⟩;simp[*]
 ·have HF:Hid (decide (c=d)=false):=zh (decide_eq_false fun h=>hM (by rw[h];exact⟨rfl,rfl⟩));by_cases hm1:c.moves=d.moves
  ·have hz1:decide (c.moves=d.moves)=true:=by simpa using hm1
   have hz2:decide (c.parts=d.parts)=false:=by simpa using fun h=>hM ⟨hm1,h⟩
   clear hM hm1;simp only[cueV];go_enter func166,ntmps166
   go_wp2_with (first
    |(go_at_call 201;refine zzg (zoJ A k c.moves A' k' d.moves _ (HC.out.mv.mono ex) hl (HD.out.mv.mono ex) hl') fun y=>?_)
    |(go_at_call 202;refine zzg (zCv B m c.parts B' m' d.parts _ (HC.out.pt.mono ex) hp (HD.out.pt.mono ex) hp') fun y=>?_))
   go_ret;rw[HF.out];exact⟨rfl,ex⟩
  ·have hz1:decide (c.moves=d.moves)=false:=by simpa using hm1
   clear hM hm1;simp only[cueV];go_enter func166,ntmps166;go_wp2_with (go_at_call 201;refine zzg (zoJ A k c.moves A' k' d.moves _ (HC.out.mv.mono ex) hl (HD.out.mv.mono ex) hl') fun y=>?_);go_ret;rw[HF.out];exact⟨rfl,ex⟩

def eqE (s t:Entry):Bool:=decide (s=t)
theorem ztc (m n:Entry):eqE ⟨⟨m.p.ch,m.p.attr⟩,⟨m.v.pal,m.v.lev⟩⟩ ⟨⟨n.p.ch,n.p.attr⟩,⟨n.v.pal,n.v.lev⟩⟩=decide (m=n):=rfl
@[go_sem high] theorem eqIn_en (w : World) (a b c d a' b' c' d' : Int) : (Op.equalIn 10000 205 (.agg #[a,b,c,d]) (.agg #[a',b',c',d'])).run prog w = .ok (eqE ⟨⟨a,b⟩,⟨c,d⟩⟩ ⟨⟨a',b'⟩,⟨c',d'⟩⟩) w:=by
 have hS:prog.underlying 205 =some (.struct (prog.fieldsOf 205)):=by kernel_rfl
 have hp:prog.stoodInHeld 205 =false:=by kernel_rfl
 have e1:=fun w=>ztf w a b a' b';have e2:=fun w=>zzQ w c d c' d';rw[show(10000:Nat)=9999+1 from rfl,run_equalIn_agg w 9999 205 _ _ hS hp];simp only[Program.fieldsOf,underlying205];go_simp;unfold eqE;simp only[Entry.mk.injEq,Param.mk.injEq,Val.mk.injEq];by_cases h1:a=a'
 ·by_cases h2:b=b'
  ·by_cases h3:c=c'
   ·by_cases h4:d=d'<;>simp[h1,h2,h3,h4]
   ·simp[h1,h2,h3]
  ·simp[h1,h2]
 ·simp[h1]
@[go_sem] theorem guard_en (w : World) (op : BinOp) (x y : Operand) (xs ys : Array Value) : (eqGuard op 205 x y (.agg xs) (.agg ys)).run prog w = .ok () w:=run_eqGuard_agg w op _ x y xs ys kr

theorem zia (A:Option Addr)(c:Nat)(l:List Entry)(B:Option Addr)(d:Nat)(l':List Entry)(w:World)(hs:Sl w A 4 (l.map en))(hl:l.length≤maxLen)(hs':Sl w B 4 (l'.map en))(hl':l'.length≤maxLen):
  Calls prog 121 #[.slice A l.length c,.slice B l'.length d] w fun e w'=>e=.returned (.bool (decide (l=l')))∧Ext w w':=by
 unfold maxLen at hl hl';by_cases hn:l.length=l'.length
 ·have hb:((l.length:Int) !=(l'.length:Int))=false:=by simp[hn]
  have HN:=zh hn;have hle:l.length≤l'.length:=by omega
  clear hn;go_enter func121,ntmps121;go_wp2;go_loopw [5] (fun i wr=> ∃k:Nat,k≤l.length∧i=.int .i64 k∧Ext w wr∧Hid (l.take k=l'.take k)) (fun i _=>l.length - (intOf i).toNat)
  case atStart => exact ⟨0,by omega,rfl,Ext.refl _,zh (by simp)⟩
  case round =>
   obtain⟨k,hk,rfl,hx,HE⟩:=hrel;obtain⟨y,rfl⟩:=hx.get;clear hx;by_cases hlt:k<l.length
   ·obtain⟨m,hm⟩:∃m,l[k]?=some m:=⟨_,List.getElem?_eq_getElem hlt⟩
    obtain⟨m',hm'⟩:∃m',l'[k]?=some m':=⟨_,List.getElem?_eq_getElem om⟩
    have HM:=zh hm;have HM':=zh hm';obtain⟨b,o,rfl,hc0,hc1,hc2,hc3⟩:=hs.row4 (i:=k) (by rw[List.getElem?_map,hm];rfl);obtain⟨b',o',rfl,hd0,hd1,hd2,hd3⟩:=hs'.row4 (i:=k) (by rw[List.getElem?_map,hm'];rfl);have hb0:(0:Int)≤(k:Int):=by omega
    have hb1:(k:Int)<(l.length:Int):=by omega
    have hb2:(k:Int)<(l'.length:Int):=by omega
    clear hm hm' hs hs';go_wp2;(refine zcL kr kr ?_;(repeat(go_big_quiet_step (fail)));refine wqN fun y=>?_);by_cases he:m=m'
    ·have hz:eqE ⟨⟨m.p.ch,m.p.attr⟩,⟨m.v.pal,m.v.lev⟩⟩ ⟨⟨m'.p.ch,m'.p.attr⟩,⟨m'.v.pal,m'.v.lev⟩⟩=true:=by rw[ztc];simpa using he
     rw[hz];have HK:=zh (zbK HM.out HM'.out he HE.out);clear he;go_wp2;go_light;exact⟨⟨k+1,by omega,by go_num,ex,HK⟩,by simp[intOf];omega⟩
    ·have hz:eqE ⟨⟨m.p.ch,m.p.attr⟩,⟨m.v.pal,m.v.lev⟩⟩ ⟨⟨m'.p.ch,m'.p.attr⟩,⟨m'.v.pal,m'.v.lev⟩⟩=false:=by rw[ztc];simpa using he
     rw[hz];have HK:=zh (zcq HM.out HM'.out he);clear he;go_wp2;go_ret;rw[decide_eq_false HK.out];exact⟨rfl,ex⟩
   ·have HK:Hid (l=l'):=zh (by have:=HE.out;rwa [List.take_of_length_le om,List.take_of_length_le (by have:=HN.out;omega)] at this)
    go_wp2;go_ret;rw[decide_eq_true HK.out];exact⟨rfl,ex⟩
 ·have hb:((l.length:Int) !=(l'.length:Int))=true:=by simp;omega
  have HN:Hid (l≠l'):=zh fun e=>hn (by rw[e]);clear hn;go_enter func121,ntmps121;go_wp2;go_ret;rw[decide_eq_false HN.out];exact⟨rfl,ex⟩

def fewE (l:List Entry):Bool:=decide (l.length≤200)||decide (4096<l.length)
