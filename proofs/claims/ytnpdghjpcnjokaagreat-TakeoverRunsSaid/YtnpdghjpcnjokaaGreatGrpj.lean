import Derived.Test.YtnpdghjpcnjokaaGreatGrpg
import Derived.Test.YtnpdghjpcnjokaaGreatGrpn
set_option maxHeartbeats 25600000
set_option maxRecDepth 100000
set_option linter.all false
namespace Go.Proofs.YtnpdghjpcnjokaaGreat
open Go.RowKit Go.Proofs.Tryz

theorem zfp (A:Option Addr)(c n:Nat)(l:List Rec)(hn:l.length=n)(low high:Int)(w:World)(hs:za3 w A c l):
  Calls prog 109 #[.slice A n c,low,high] w fun e w'=>e=.returned (.int .i64 (recsE low high l))∧Ext w w':=by
 subst hn;exact zbi A c l low high w hs
section
variable (n:Nod) (A:Option Addr) (c:Nat) (m:Msg) (p:Nat) (B:Option Addr) (d:Nat) (w:World) (y0:Gr)
theorem zFs (hp:m.at_=p)(hs:za3 w A c n.log)(hm:za3 w B d m.recs)(h256:n.log.length≤256)(hrl:m.recs.length≤16)(hpl:p≤n.log.length)(h2:¬(0<m.at_∧zaQ n.log (m.at_ - 1)≠m.before))(hg:(0<p∧∃(r:Rec) (b o:Nat),A=some ⟨b,o,none⟩∧w.cell? ⟨b,o+(p - 1) * 45,none⟩=some (.int .i64 r.term)∧(r.term !=m.before)=false)∨¬0<p)(h3:¬(keepN (n.log.drop m.at_.toNat) m.recs<m.recs.length∧m.at_+keepN (n.log.drop m.at_.toNat) m.recs<min n.acked n.log.length)):Calls prog 187 #[.pointer (some ⟨w.heap.size,0,none⟩),.agg #[m.kind,m.term,p,m.before,.slice B m.recs.length d,m.acked]] (xt (w.alloc (.cells (Ln n A c) 24)) y0) (zbg w (xt (w.alloc (.cells (Ln n A c) 24)) y0) (takeV n m)):=by
 have hl:=hs.len;have hl2:=hm.len;have hcap:=hs.le;have hcap2:=hm.le;have hd:decide (n.log.length<p)=false:=decide_eq_false om;obtain⟨k,hk⟩:∃k,keepN (n.log.drop p) m.recs=k:=⟨_,rfl⟩
 have hkl:=zcy (n.log.drop p) m.recs;rw[hk,List.length_drop] at hkl;obtain⟨hk1,hk2⟩:=hkl;have hpt:=hs.part p n.log.length (Nat.le_refl _) (n.log.length - p) rfl;rw[List.take_length] at hpt;have HD1:=zh hpt.1;have HD2:=zh hpt.2;have HS:=zh hs;have HM:=zh hm;have HK:=zh hk;have hpn:(0:Int)≤(p:Int):=by omega
 have hpc:(p:Int)≤(n.log.length:Int):=by omega
 have hat:m.at_.toNat=p:=by omega
 obtain⟨L,hL⟩:∃L,tookL n m=L:=⟨_,rfl⟩
 obtain⟨N,hN⟩:∃N,L.length=N:=⟨_,rfl⟩
 have htl:=zcr (n:=n) (m:=m) om;rw[hat,hk,hL] at htl;have hdef:tookL n m=if k<m.recs.length then n.log.take (p+k)++m.recs.drop k else n.log:=by unfold tookL;simp only;rw[hat,hk]
 rw[hL] at hdef;have hV1:=fun h4=>zsx (n:=n) (m:=m) om h2 h3 h4;have hV2:=fun h4 h5=>zqC (n:=n) (m:=m) om h2 h3 h4 h5;have hV3:=fun h4 h5=>zsv (n:=n) (m:=m) om h2 h3 h4 h5;unfold tookN ansM at hV3;rw[hL] at hV1 hV2 hV3;rw[hp] at hV3;rw[hN] at hV1 hV2 hV3;have HV1:=zh hV1;have HV2:=zh hV2;have HV3:=zh hV3;have HN:=zh hN;have HDEF:=zh hdef;have hq1:=hs.part 0 (p+k) om (p+k) (Nat.sub_zero _);have hq2:=hm.part k m.recs.length (Nat.le_refl _) (m.recs.length - k) rfl;rw[List.take_length] at hq2;rw[List.drop_zero,zb2,Nat.sub_zero] at hq1;have HT1:=zh hq1.1;have HT2:=zh hq2.1;have HT3:=zh hq1.2;have HT4:=zh hq2.2;have hnl:k<m.recs.length→¬(p:Int)+(k:Int)<min n.acked (n.log.length:Int):=fun hc hd=>h3 ⟨by rw[hat,hk];exact hc,by rw[hat,hk,hp];exact hd⟩;have HNL:=zh hnl;have HTL:=zh htl;have hNI:(N:Int)≤100000:=by
  rcases Nat.lt_or_ge k m.recs.length with hc|hc
  ·have:=htl.1 hc;omega
  ·have:=htl.2.1 om;rw[this] at hN;omega
 clear hs hm hp hk hpt h2 h3 hL hN htl hdef hV1 hV2 hV3 hq1 hq2 hnl hat;rcases hg with⟨h0,r,b,o,rfl,ht,hz⟩|h0
 ·have hi1:(0:Int)≤(p:Int) - 1:=by omega
  have hi2:(p:Int) - 1<(n.log.length:Int):=by omega
  have hi3:((p:Int) - 1).toNat=p - 1:=by omega
  have hw:IntKind.i64.wrap ((p:Int) - 1)=(p:Int) - 1:=IntWalk.i64_in _ om;go_enter func187,ntmps187;go_wp2;(refine zcL kr kr ?_;(repeat(go_big_quiet_step (fail)));refine wqN fun y=>?_);go_wp2;(refine zcL kr kr ?_;(repeat(go_big_quiet_step (fail)));refine wqN fun y=>?_);go_wp2;(refine zcL kr kr ?_;(repeat(go_big_quiet_step ((go_at_call 140;exact Calls.grows (zgY _ _ _ (n.log.drop p) HD2.out _ _ _ m.recs rfl _ (HD1.out.mono ex) (HM.out.mono ex))))));refine wqN fun y=>?_);rw[HK.out];go_wp2;(refine zcL kr kr ?_;(repeat(go_big_quiet_step (fail)));refine wqN fun y=>?_)
  go_upto_if 78 with fail
  go_cut [8] (fun v8 wx=>Ext (((xt (w.alloc (.cells (Ln n (some ⟨b,o,none⟩) c) 24)) y0).alloc (.cells #[m.kind,m.term,p,m.before,.slice B m.recs.length d,m.acked] 113)).alloc (.cells Zm 113)) wx∧∃D K,v8=.slice D N K∧LogIn w (((xt (w.alloc (.cells (Ln n (some ⟨b,o,none⟩) c) 24)) y0).alloc (.cells #[m.kind,m.term,p,m.before,.slice B m.recs.length d,m.acked] 113)).alloc (.cells Zm 113)) wx D N K L)
  case first =>
   by_cases hkr:k<m.recs.length
   ·have hnl:=HNL.out hkr;have hdl:decide ((p:Int)+(k:Int)<min n.acked (n.log.length:Int))=false:=decide_eq_false om;have hle:min n.acked (n.log.length:Int)≤(p:Int)+(k:Int):=by omega
    have HN2:=zh (show p+k+(m.recs.length - k)=N by have:=HTL.out.1 hkr;have:=HN.out;omega);have HL2:=zh (show n.log.take (p+k)++m.recs.drop k=L by rw[HDEF.out,if_pos hkr]);have hk0:(0:Int)≤(k:Int):=by omega
    have hk3:(k:Int)≤(m.recs.length:Int):=by omega
    have hk4:(0:Int)≤(p:Int)+(k:Int):=by omega
    have hk5:(p:Int)+(k:Int)≤(c:Int):=by omega
    have hk6:((p:Int)+(k:Int)).toNat=p+k:=by omega
    have hwk:IntKind.i64.wrap ((p:Int)+(k:Int))=(p:Int)+(k:Int):=IntWalk.i64_in _ om;clear hnl;go_wp2;(refine zcL kr kr ?_;(repeat(go_big_quiet_step (fail)));refine wqN fun y=>?_);go_wp2
    go_region_law ((go_simp;go_at_call 216;refine(zzz _ (some ⟨b,o,none⟩) (p+k) c (n.log.take (p+k)) (partA B k d 45) (m.recs.length - k) (d - k) (m.recs.drop k) _ sg sg (HT1.out.sl.mono ex) (HT2.out.sl.mono ex) HT3.out HT4.out om om).mono ?_;rintro e w' ⟨D,n',rfl,hx,hown⟩;have HO:=zh hown;obtain⟨yc,rfl⟩:=hx.get;clear hx hown))
    all_goals
     go_wp2_with fail;go_meet;refine⟨ex,D,n',by rw[HN2.out],.inr ⟨?_,fun r hr=> ?_⟩⟩
     ·have:=HO.out.older (w0':=((xt (w.alloc (.cells (Ln n (some ⟨b,o,none⟩) c) 24)) y0).alloc (.cells #[m.kind,m.term,p,m.before,.slice B m.recs.length d,m.acked] 113)).alloc (.cells Zm 113)) ex;rw[HN2.out,HL2.out] at this;exact this.mono ex
     ·rw[←HL2.out] at hr;rcases List.mem_append.1 hr with hr|hr
      ·exact HS.out.el r (List.mem_of_mem_take hr)
      ·exact HM.out.el r (List.mem_of_mem_drop hr)
   ·have HL2:=zh (show n.log=L by rw[HDEF.out,if_neg hkr]);have HN2:=zh (show n.log.length=N by rw[HL2.out];exact HN.out);go_wp2_with fail;go_meet;refine⟨ex,_,c,by rw[HN2.out],.inl ?_⟩;rw[←HL2.out];exact HS.out
  case rest =>
   obtain⟨hx,D,K,rfl,hlog⟩:=hcut;obtain⟨yx,rfl⟩:=hx.get;have HLG:=zh hlog;clear hx hlog;by_cases h4:256<N
   ·have HR:=zh (HV1.out h4);go_wp2_with fail;refine bodyPost_ret (v:=.tuple #[.agg Zm,.bool false,.int .i64 5]) (by simp[results,results187,go_sem]) rfl ?_;exact zbg.of (n:=n) HR.out ex (.inl HS.out)
   ·by_cases h5:recsE 1 n.term L=0
    ·have HR:=zh (HV3.out h4 h5);have hz5:(recsE 1 n.term L !=0)=false:=by simpa using h5
     clear h5
     go_upto_region 15 with(go_at_call 109;refine zzg (zfp D K N L HN.out 1 n.term _ (LogIn.recs (HLG.out.mono ex) HN.out ex)) fun y=>?_)
     go_cut [] (fun wx=>Ext (xt (((xt (w.alloc (.cells #[n.id,n.term,n.speaks,.slice D N K,.int .i64 (max n.acked (min m.acked ((p:Int)+(m.recs.length:Int)))),n.next] 24)) y0).alloc (.cells #[m.kind,m.term,p,m.before,.slice B m.recs.length d,m.acked] 113)).alloc (.cells Zm 113)) yx) wx)
     case first =>
      go_region_law (fail)
      all_goals
       go_wp2_with fail;go_meet;exact ex
     case rest =>
      obtain⟨yz,rfl⟩:=hcut.get;clear hcut;go_wp2_with (go_at_call 186;refine zzg (zgN w.heap.size n.term _ _ _ sg) fun y=>?_);refine bodyPost_ret (v:=.tuple #[.agg #[.int .i64 1,n.term,.int .i64 ((p:Int)+(m.recs.length:Int)),zI,.slice none 0 0,zI],.bool true,zI]) (by simp[results,results187,go_sem]) rfl ?_;refine zbg.of (A:=D) (c:=K) (n:=⟨n.id,n.term,n.speaks,L,max n.acked (min m.acked ((p:Int)+(m.recs.length:Int))),n.next⟩) HR.out ?_ ?_
      ·show Ext (xt (w.alloc (.cells #[n.id,n.term,n.speaks,.slice D L.length K,.int .i64 (max n.acked (min m.acked ((p:Int)+(m.recs.length:Int)))),n.next] 24)) y0) _;rw[HN.out];exact ex
      ·show LogIn _ _ _ _ L.length _ L;rw[HN.out];exact LogIn.base (LogIn.along HLG.out ex sg) (by simp[go_sem]<;>omega)
    ·have HR:=zh (HV2.out h4 h5);have hz5:(recsE 1 n.term L !=0)=true:=by simpa using h5
     clear h5;go_wp2_with (go_at_call 109;refine zzg (zfp D K N L HN.out 1 n.term _ (LogIn.recs (HLG.out.mono ex) HN.out ex)) fun y=>?_);refine bodyPost_ret (v:=.tuple #[.agg Zm,.bool false,.int .i64 9]) (by simp[results,results187,go_sem]) rfl ?_;exact zbg.of (n:=n) HR.out ex (.inl HS.out)
 ·go_enter func187,ntmps187;go_wp2;(refine zcL kr kr ?_;(repeat(go_big_quiet_step (fail)));refine wqN fun y=>?_);go_wp2;(refine zcL kr kr ?_;(repeat(go_big_quiet_step (fail)));refine wqN fun y=>?_);go_wp2;(refine zcL kr kr ?_;(repeat(go_big_quiet_step ((go_at_call 140;exact Calls.grows (zgY _ _ _ (n.log.drop p) HD2.out _ _ _ m.recs rfl _ (HD1.out.mono ex) (HM.out.mono ex))))));refine wqN fun y=>?_);rw[HK.out];go_wp2;(refine zcL kr kr ?_;(repeat(go_big_quiet_step (fail)));refine wqN fun y=>?_)
  go_upto_if 78 with fail
  go_cut [8] (fun v8 wx=>Ext (((xt (w.alloc (.cells (Ln n A c) 24)) y0).alloc (.cells #[m.kind,m.term,p,m.before,.slice B m.recs.length d,m.acked] 113)).alloc (.cells Zm 113)) wx∧∃D K,v8=.slice D N K∧LogIn w (((xt (w.alloc (.cells (Ln n A c) 24)) y0).alloc (.cells #[m.kind,m.term,p,m.before,.slice B m.recs.length d,m.acked] 113)).alloc (.cells Zm 113)) wx D N K L)
  case first =>
   by_cases hkr:k<m.recs.length
   ·have hnl:=HNL.out hkr;have hdl:decide ((p:Int)+(k:Int)<min n.acked (n.log.length:Int))=false:=decide_eq_false om;have hle:min n.acked (n.log.length:Int)≤(p:Int)+(k:Int):=by omega
    have HN2:=zh (show p+k+(m.recs.length - k)=N by have:=HTL.out.1 hkr;have:=HN.out;omega);have HL2:=zh (show n.log.take (p+k)++m.recs.drop k=L by rw[HDEF.out,if_pos hkr]);have hk0:(0:Int)≤(k:Int):=by omega
    have hk3:(k:Int)≤(m.recs.length:Int):=by omega
    have hk4:(0:Int)≤(p:Int)+(k:Int):=by omega
    have hk5:(p:Int)+(k:Int)≤(c:Int):=by omega
    have hk6:((p:Int)+(k:Int)).toNat=p+k:=by omega
    have hwk:IntKind.i64.wrap ((p:Int)+(k:Int))=(p:Int)+(k:Int):=IntWalk.i64_in _ om;clear hnl;go_wp2;(refine zcL kr kr ?_;(repeat(go_big_quiet_step (fail)));refine wqN fun y=>?_);go_wp2
    go_region_law ((go_simp;go_at_call 216;refine(zzz _ A (p+k) c (n.log.take (p+k)) (partA B k d 45) (m.recs.length - k) (d - k) (m.recs.drop k) _ sg sg (HT1.out.sl.mono ex) (HT2.out.sl.mono ex) HT3.out HT4.out om om).mono ?_;rintro e w' ⟨D,n',rfl,hx,hown⟩;have HO:=zh hown;obtain⟨yc,rfl⟩:=hx.get;clear hx hown))
    all_goals
     go_wp2_with fail;go_meet;refine⟨ex,D,n',by rw[HN2.out],.inr ⟨?_,fun r hr=> ?_⟩⟩
     ·have:=HO.out.older (w0':=((xt (w.alloc (.cells (Ln n A c) 24)) y0).alloc (.cells #[m.kind,m.term,p,m.before,.slice B m.recs.length d,m.acked] 113)).alloc (.cells Zm 113)) ex;rw[HN2.out,HL2.out] at this;exact this.mono ex
     ·rw[←HL2.out] at hr;rcases List.mem_append.1 hr with hr|hr
      ·exact HS.out.el r (List.mem_of_mem_take hr)
      ·exact HM.out.el r (List.mem_of_mem_drop hr)
   ·have HL2:=zh (show n.log=L by rw[HDEF.out,if_neg hkr]);have HN2:=zh (show n.log.length=N by rw[HL2.out];exact HN.out);go_wp2_with fail;go_meet;refine⟨ex,_,c,by rw[HN2.out],.inl ?_⟩;rw[←HL2.out];exact HS.out
  case rest =>
   obtain⟨hx,D,K,rfl,hlog⟩:=hcut;obtain⟨yx,rfl⟩:=hx.get;have HLG:=zh hlog;clear hx hlog;by_cases h4:256<N
   ·have HR:=zh (HV1.out h4);go_wp2_with fail;refine bodyPost_ret (v:=.tuple #[.agg Zm,.bool false,.int .i64 5]) (by simp[results,results187,go_sem]) rfl ?_;exact zbg.of (n:=n) HR.out ex (.inl HS.out)
   ·by_cases h5:recsE 1 n.term L=0
    ·have HR:=zh (HV3.out h4 h5);have hz5:(recsE 1 n.term L !=0)=false:=by simpa using h5
     clear h5
     go_upto_region 15 with(go_at_call 109;refine zzg (zfp D K N L HN.out 1 n.term _ (LogIn.recs (HLG.out.mono ex) HN.out ex)) fun y=>?_)
     go_cut [] (fun wx=>Ext (xt (((xt (w.alloc (.cells #[n.id,n.term,n.speaks,.slice D N K,.int .i64 (max n.acked (min m.acked ((p:Int)+(m.recs.length:Int)))),n.next] 24)) y0).alloc (.cells #[m.kind,m.term,p,m.before,.slice B m.recs.length d,m.acked] 113)).alloc (.cells Zm 113)) yx) wx)
     case first =>
      go_region_law (fail)
      all_goals
       go_wp2_with fail;go_meet;exact ex
     case rest =>
      obtain⟨yz,rfl⟩:=hcut.get;clear hcut;go_wp2_with (go_at_call 186;refine zzg (zgN w.heap.size n.term _ _ _ sg) fun y=>?_);refine bodyPost_ret (v:=.tuple #[.agg #[.int .i64 1,n.term,.int .i64 ((p:Int)+(m.recs.length:Int)),zI,.slice none 0 0,zI],.bool true,zI]) (by simp[results,results187,go_sem]) rfl ?_;refine zbg.of (A:=D) (c:=K) (n:=⟨n.id,n.term,n.speaks,L,max n.acked (min m.acked ((p:Int)+(m.recs.length:Int))),n.next⟩) HR.out ?_ ?_
      ·show Ext (xt (w.alloc (.cells #[n.id,n.term,n.speaks,.slice D L.length K,.int .i64 (max n.acked (min m.acked ((p:Int)+(m.recs.length:Int)))),n.next] 24)) y0) _;rw[HN.out];exact ex
      ·show LogIn _ _ _ _ L.length _ L;rw[HN.out];exact LogIn.base (LogIn.along HLG.out ex sg) (by simp[go_sem]<;>omega)
    ·have HR:=zh (HV2.out h4 h5);have hz5:(recsE 1 n.term L !=0)=true:=by simpa using h5
     clear h5;go_wp2_with (go_at_call 109;refine zzg (zfp D K N L HN.out 1 n.term _ (LogIn.recs (HLG.out.mono ex) HN.out ex)) fun y=>?_);refine bodyPost_ret (v:=.tuple #[.agg Zm,.bool false,.int .i64 9]) (by simp[results,results187,go_sem]) rfl ?_;exact zbg.of (n:=n) HR.out ex (.inl HS.out)
end

theorem zlb (b:Nat)(o:Obj):∀(vs:List Value) (off:Nat) (w:World),b<w.heap.size→(w.alloc o).setCells b off vs=(w.setCells b off vs).alloc o
 |[],_,_,_=>rfl
 |v::r,off,w,h=>by rw[World.setCells,World.setCells,World.setCell_alloc_past o b off v h,zlb b o r (off+1) _ (by simpa [World.setCell] using h)]
theorem zd4 (V w:World)(o:Obj)(vs:List Value)(h:w.heap.size<V.heap.size):(V.alloc o).setCells w.heap.size 0 vs=(V.setCells w.heap.size 0 vs).alloc o:=zlb _ o vs 0 V h
theorem zgm (V w:World)(y:Gr)(vs:List Value)(h:w.heap.size<V.heap.size):(xt V y).setCells w.heap.size 0 vs=xt (V.setCells w.heap.size 0 vs) y:=zhm _ y vs 0 V h
theorem zbs (b:Nat):∀(vs:List Value) (off:Nat) (w:World),w.drew.setCells b off vs=(w.setCells b off vs).drew
 |[],_,_=>rfl
 |v::r,off,w=>by rw[World.setCells,World.setCells,World.setCell_drew,zbs b r (off+1)]
theorem zeS (w:World)(cs:Array Value)(vs:List Value)(T:TypeId)(h:cs.size=vs.length):(w.alloc (.cells cs T)).setCells w.heap.size 0 vs=w.alloc (.cells vs.toArray T):=by have:=zeO T w cs vs.toArray (by simpa using h);simpa using this
theorem zAs (n:Nod)(A:Option Addr)(c:Nat)(m:Msg)(B:Option Addr)(d:Nat)(w W:World)(hs:za3 w A c n.log)(hm:za3 w B d m.recs)(h256:n.log.length≤256)(hrl:m.recs.length≤16)(ha:0≤m.at_)(hx:Ext (w.alloc (.cells (Ln n A c) 24)) W):
  Calls prog 187 #[.pointer (some ⟨w.heap.size,0,none⟩),.agg (Lm m B d)] W (zbg w W (takeV n m)):=by
 obtain⟨y0,rfl⟩:=hx.get;obtain⟨p,hp⟩:∃p:Nat,m.at_=p:=⟨m.at_.toNat,by omega⟩
 rw[hp];by_cases hpl:p≤n.log.length
 ·by_cases hb:0<p∧zaQ n.log ((p:Int) - 1)≠m.before
  ·obtain⟨r,hr⟩:∃r,n.log[p - 1]?=some r:=⟨_,List.getElem?_eq_getElem om⟩
   exact zCi n A c m p B d w y0 hp hs hpl hb.1 r hr (by have:=hb.2;rwa [show((p:Int) - 1)=((p - 1:Nat):Int) by omega,zdq hr] at this)
  ·have h2:¬(0<m.at_∧zaQ n.log (m.at_ - 1)≠m.before):=by rw[hp];intro h;exact hb ⟨by omega,h.2⟩
   have hg:(0<p∧∃(r:Rec) (b o:Nat),A=some ⟨b,o,none⟩∧w.cell? ⟨b,o+(p - 1) * 45,none⟩=some (.int .i64 r.term)∧(r.term !=m.before)=false)∨¬0<p:=by
    by_cases h0:0<p
    ·obtain⟨r,hr⟩:∃r,n.log[p - 1]?=some r:=⟨_,List.getElem?_eq_getElem om⟩
     obtain⟨b,o,hA,hrec,-⟩:=hs.get hr;refine .inl ⟨h0,r,b,o,hA,hrec.term,?_⟩;have he:zaQ n.log ((p:Int) - 1)=m.before:=by
      by_cases he:zaQ n.log ((p:Int) - 1)=m.before
      ·exact he
      ·exact absurd ⟨h0,he⟩ hb
     rw[show((p:Int) - 1)=((p - 1:Nat):Int) by omega,zdq hr] at he;simpa using he
    ·exact .inr h0
   have hat:m.at_.toNat=p:=by omega
   by_cases h3:keepN (n.log.drop m.at_.toNat) m.recs<m.recs.length∧m.at_+keepN (n.log.drop m.at_.toNat) m.recs<min n.acked n.log.length
   ·rw[hat,hp] at h3;exact zFr n A c m p B d w y0 hp hs hm h256 hrl hpl h2 hg h3.1 h3.2
   ·exact zFs n A c m p B d w y0 hp hs hm h256 hrl hpl h2 hg h3
 ·exact take_far n A c m p B d w y0 hp hs om
section
variable (n:Nod) (A:Option Addr) (c:Nat) (m:Msg) (B:Option Addr) (d:Nat) (w:World) (y0:Gr)
theorem recd_old (k:Int)(hk:m.kind=k)(hs:za3 w A c n.log)(h:m.term<n.term):Calls prog 141 #[.pointer (some ⟨w.heap.size,0,none⟩),.agg #[k,m.term,m.at_,m.before,.slice B m.recs.length d,m.acked]] (xt (w.alloc (.cells (Ln n A c) 24)) y0) (zbg w (xt (w.alloc (.cells (Ln n A c) 24)) y0) (recdV n m)):=by
 have hl:=hs.len;have HS:=zh hs;have hd:decide (m.term<n.term)=true:=decide_eq_true h;have hdef:recdV n m=if k=0 then(n,ansM n 2 0,true,0) else(n,msg0,false,0):=by unfold recdV;rw[if_pos h,hk]
 clear hs hk;by_cases h0:k=0
 ·have HR:=zh (hdef.trans (if_pos h0));subst h0;clear hdef;go_enter func141,ntmps141;go_wp2;(refine zcL kr kr ?_;(repeat(go_big_quiet_step (fail)));refine wqN fun y=>?_);go_wp2_with (go_at_call 186;refine zzg (zgN w.heap.size n.term _ _ _ sg) fun y=>?_);refine bodyPost_ret (v:=.tuple #[.agg #[.int .i64 2,n.term,zI,zI,.slice none 0 0,zI],.bool true,zI]) (by simp[results,results141,go_sem]) rfl ?_;exact zbg.of (A:=A) (c:=c) (n:=n) HR.out ex (.inl HS.out)
 ·have HR:=zh (hdef.trans (if_neg h0));have hz:(k==0)=false:=by simpa using h0
  clear hdef h0;go_enter func141,ntmps141;go_wp2;(refine zcL kr kr ?_;(repeat(go_big_quiet_step (fail)));refine wqN fun y=>?_);go_wp2;refine bodyPost_ret (v:=.tuple #[.agg Zm,.bool false,zI]) (by simp[results,results141,go_sem]) rfl ?_;exact zbg.of (A:=A) (c:=c) (n:=n) HR.out ex (.inl HS.out)
theorem zyR (hk:m.kind=0)(hs:za3 w A c n.log)(hm:za3 w B d m.recs)(h256:n.log.length≤256)(hrl:m.kind=0→m.recs.length≤16)(ha:0≤m.at_)(ht:n.term=m.term):Calls prog 141 #[.pointer (some ⟨w.heap.size,0,none⟩),.agg #[zI,m.term,m.at_,m.before,.slice B m.recs.length d,m.acked]] (xt (w.alloc (.cells (Ln n A c) 24)) y0) (zbg w (xt (w.alloc (.cells (Ln n A c) 24)) y0) (recdV n m)):=by
 have hl:=hs.len;have hl2:=hm.len;have HS:=zh hs;have hd1:decide (m.term<n.term)=false:=decide_eq_false om;have hd2:decide (n.term<m.term)=false:=decide_eq_false om;obtain⟨v,hv⟩:∃v,takeV n m=v:=⟨_,rfl⟩
 have HR:=zh (show recdV n m=v by
  rw[←hv];have hi:inTerm n m=n:=by exact zb5 ht
  unfold recdV;rw[if_neg om,hi,hk];rfl)
 have HC:=zh (fun(W:World) (hx:Ext (w.alloc (.cells (Ln n A c) 24)) W)=>zAs n A c m B d w W hs hm h256 (hrl hk) ha hx);rw[hv,hk] at HC;clear hs hm hk hv hrl ha h256 ht;go_enter func141,ntmps141;go_wp2;(refine zcL kr kr ?_;(repeat(go_big_quiet_step (fail)));refine wqN fun y=>?_);go_wp2;(refine zcL kr kr ?_;(repeat(go_big_quiet_step (fail)));refine wqN fun y=>?_);go_wp2
 go_region_law ((go_simp;go_at_call 187;refine(HC.out _ ex).mono ?_;rintro e w' ⟨D,K,rfl,hx,hr⟩;have HRR:=zh hr;(repeat(first|rw[zeS w _ _ _ (by rfl)] at hx|rw[zbs] at hx|rw[zgm _ w _ _ (by simp[go_sem]<;>omega)] at hx|rw[zd4 _ w _ _ (by simp[go_sem]<;>omega)] at hx));obtain⟨y9,rfl⟩:=hx.get;clear hx hr))
 all_goals
  go_wp2_with fail;refine bodyPost_ret (v:=.tuple #[.agg (La v.2.1),v.2.2.1,v.2.2.2]) (by simp[results,results141,go_sem]) rfl ?_;rw[HR.out];exact zbg.fin (A:=D) (c:=K) ex (LogIn.base (LogIn.along (LogIn.base HRR.out sg) ex sg) (by simp[go_sem]<;>omega))
theorem zEM (hk:m.kind=0)(hs:za3 w A c n.log)(hm:za3 w B d m.recs)(h256:n.log.length≤256)(hrl:m.kind=0→m.recs.length≤16)(ha:0≤m.at_)(ht:n.term<m.term):Calls prog 141 #[.pointer (some ⟨w.heap.size,0,none⟩),.agg #[zI,m.term,m.at_,m.before,.slice B m.recs.length d,m.acked]] (xt (w.alloc (.cells (Ln n A c) 24)) y0) (zbg w (xt (w.alloc (.cells (Ln n A c) 24)) y0) (recdV n m)):=by
 have hl:=hs.len;have hl2:=hm.len;have HS:=zh hs;have hd1:decide (m.term<n.term)=false:=decide_eq_false om;have hd2:decide (n.term<m.term)=true:=decide_eq_true ht;obtain⟨v,hv⟩:∃v,takeV ⟨n.id,m.term,false,n.log,n.acked,0⟩ m=v:=⟨_,rfl⟩
 have HR:=zh (show recdV n m=v by
  rw[←hv];have hi:inTerm n m=⟨n.id,m.term,false,n.log,n.acked,0⟩:=by unfold inTerm;rw[if_pos ht]
  unfold recdV;rw[if_neg om,hi,hk];rfl)
 have HC:=zh (fun(W:World) (hx:Ext (w.alloc (.cells #[n.id,m.term,.bool false,.slice A n.log.length c,n.acked,zI] 24)) W)=>zAs ⟨n.id,m.term,false,n.log,n.acked,0⟩ A c m B d w W hs hm h256 (hrl hk) ha hx);rw[hv,hk] at HC;clear hs hm hk hv hrl ha h256;go_enter func141,ntmps141;go_wp2;(refine zcL kr kr ?_;(repeat(go_big_quiet_step (fail)));refine wqN fun y=>?_);go_wp2;(refine zcL kr kr ?_;(repeat(go_big_quiet_step (fail)));refine wqN fun y=>?_);go_wp2
 go_region_law ((go_simp;go_at_call 187;refine(HC.out _ ex).mono ?_;rintro e w' ⟨D,K,rfl,hx,hr⟩;have HRR:=zh hr;(repeat(first|rw[zeS w _ _ _ (by rfl)] at hx|rw[zbs] at hx|rw[zgm _ w _ _ (by simp[go_sem]<;>omega)] at hx|rw[zd4 _ w _ _ (by simp[go_sem]<;>omega)] at hx));obtain⟨y9,rfl⟩:=hx.get;clear hx hr))
 all_goals
  go_wp2_with fail;refine bodyPost_ret (v:=.tuple #[.agg (La v.2.1),v.2.2.1,v.2.2.2]) (by simp[results,results141,go_sem]) rfl ?_;rw[HR.out];exact zbg.fin (A:=D) (c:=K) ex (LogIn.base (LogIn.along (LogIn.base HRR.out sg) ex sg) (by simp[go_sem]<;>omega))
theorem zyS (hk:m.kind=1)(hs:za3 w A c n.log)(hm:za3 w B d m.recs)(_h256:n.log.length≤256)(_hrl:m.kind=0→m.recs.length≤16)(_ha:0≤m.at_)(ht:n.term=m.term):Calls prog 141 #[.pointer (some ⟨w.heap.size,0,none⟩),.agg #[.int .i64 1,m.term,m.at_,m.before,.slice B m.recs.length d,m.acked]] (xt (w.alloc (.cells (Ln n A c) 24)) y0) (zbg w (xt (w.alloc (.cells (Ln n A c) 24)) y0) (recdV n m)):=by
 have hl:=hs.len;have hl2:=hm.len;have HS:=zh hs;have hd1:decide (m.term<n.term)=false:=decide_eq_false om;have hd2:decide (n.term<m.term)=false:=decide_eq_false om;obtain⟨v,hv⟩:∃v,(ackN n m,msg0,false,(0:Int))=v:=⟨_,rfl⟩
 have HR:=zh (show recdV n m=v by
  rw[←hv];have hi:inTerm n m=n:=by exact zb5 ht
  unfold recdV;rw[if_neg om,hi,hk];rfl)
 have HC:=zh (fun(W:World) (hx:Ext (w.alloc (.cells (Ln n A c) 24)) W)=>zEY n A c m B d w W hs hx);rw[hv,hk] at HC;clear hs hm hk hv _hrl _ha _h256 ht;go_enter func141,ntmps141;go_wp2;(refine zcL kr kr ?_;(repeat(go_big_quiet_step (fail)));refine wqN fun y=>?_);go_wp2;(refine zcL kr kr ?_;(repeat(go_big_quiet_step (fail)));refine wqN fun y=>?_);go_wp2
 go_region_law ((go_simp;go_at_call 188;refine(HC.out _ ex).mono ?_;rintro e w' ⟨D,K,rfl,hx,hr⟩;have HRR:=zh hr;(repeat(first|rw[zeS w _ _ _ (by rfl)] at hx|rw[zbs] at hx|rw[zgm _ w _ _ (by simp[go_sem]<;>omega)] at hx|rw[zd4 _ w _ _ (by simp[go_sem]<;>omega)] at hx));obtain⟨y9,rfl⟩:=hx.get;clear hx hr))
 all_goals
  go_wp2_with fail;refine bodyPost_ret (v:=.tuple #[.agg (La v.2.1),v.2.2.1,v.2.2.2]) (by simp[results,results141,go_sem]) rfl ?_;rw[HR.out];exact zbg.fin (A:=D) (c:=K) ex (LogIn.base (LogIn.along (LogIn.base HRR.out sg) ex sg) (by simp[go_sem]<;>omega))
theorem zEN (hk:m.kind=1)(hs:za3 w A c n.log)(hm:za3 w B d m.recs)(_h256:n.log.length≤256)(_hrl:m.kind=0→m.recs.length≤16)(_ha:0≤m.at_)(ht:n.term<m.term):Calls prog 141 #[.pointer (some ⟨w.heap.size,0,none⟩),.agg #[.int .i64 1,m.term,m.at_,m.before,.slice B m.recs.length d,m.acked]] (xt (w.alloc (.cells (Ln n A c) 24)) y0) (zbg w (xt (w.alloc (.cells (Ln n A c) 24)) y0) (recdV n m)):=by
 have hl:=hs.len;have hl2:=hm.len;have HS:=zh hs;have hd1:decide (m.term<n.term)=false:=decide_eq_false om;have hd2:decide (n.term<m.term)=true:=decide_eq_true ht;obtain⟨v,hv⟩:∃v,(ackN ⟨n.id,m.term,false,n.log,n.acked,0⟩ m,msg0,false,(0:Int))=v:=⟨_,rfl⟩
 have HR:=zh (show recdV n m=v by
  rw[←hv];have hi:inTerm n m=⟨n.id,m.term,false,n.log,n.acked,0⟩:=by unfold inTerm;rw[if_pos ht]
  unfold recdV;rw[if_neg om,hi,hk];rfl)
 have HC:=zh (fun(W:World) (hx:Ext (w.alloc (.cells #[n.id,m.term,.bool false,.slice A n.log.length c,n.acked,zI] 24)) W)=>zEY ⟨n.id,m.term,false,n.log,n.acked,0⟩ A c m B d w W hs hx);rw[hv,hk] at HC;clear hs hm hk hv _hrl _ha _h256;go_enter func141,ntmps141;go_wp2;(refine zcL kr kr ?_;(repeat(go_big_quiet_step (fail)));refine wqN fun y=>?_);go_wp2;(refine zcL kr kr ?_;(repeat(go_big_quiet_step (fail)));refine wqN fun y=>?_);go_wp2
 go_region_law ((go_simp;go_at_call 188;refine(HC.out _ ex).mono ?_;rintro e w' ⟨D,K,rfl,hx,hr⟩;have HRR:=zh hr;(repeat(first|rw[zeS w _ _ _ (by rfl)] at hx|rw[zbs] at hx|rw[zgm _ w _ _ (by simp[go_sem]<;>omega)] at hx|rw[zd4 _ w _ _ (by simp[go_sem]<;>omega)] at hx));obtain⟨y9,rfl⟩:=hx.get;clear hx hr))
 all_goals
  go_wp2_with fail;refine bodyPost_ret (v:=.tuple #[.agg (La v.2.1),v.2.2.1,v.2.2.2]) (by simp[results,results141,go_sem]) rfl ?_;rw[HR.out];exact zbg.fin (A:=D) (c:=K) ex (LogIn.base (LogIn.along (LogIn.base HRR.out sg) ex sg) (by simp[go_sem]<;>omega))
theorem zyT (hk:m.kind=2)(hs:za3 w A c n.log)(hm:za3 w B d m.recs)(_h256:n.log.length≤256)(_hrl:m.kind=0→m.recs.length≤16)(_ha:0≤m.at_)(ht:n.term=m.term):Calls prog 141 #[.pointer (some ⟨w.heap.size,0,none⟩),.agg #[.int .i64 2,m.term,m.at_,m.before,.slice B m.recs.length d,m.acked]] (xt (w.alloc (.cells (Ln n A c) 24)) y0) (zbg w (xt (w.alloc (.cells (Ln n A c) 24)) y0) (recdV n m)):=by
 have hl:=hs.len;have hl2:=hm.len;have HS:=zh hs;have hd1:decide (m.term<n.term)=false:=decide_eq_false om;have hd2:decide (n.term<m.term)=false:=decide_eq_false om;obtain⟨v,hv⟩:∃v,(zar n m,msg0,false,(0:Int))=v:=⟨_,rfl⟩
 have HR:=zh (show recdV n m=v by
  rw[←hv];have hi:inTerm n m=n:=by exact zb5 ht
  unfold recdV;rw[if_neg om,hi,hk];rfl)
 have HC:=zh (fun(W:World) (hx:Ext (w.alloc (.cells (Ln n A c) 24)) W)=>zsi n A c m B d w W hs hx);rw[hv,hk] at HC;clear hs hm hk hv _hrl _ha _h256 ht;go_enter func141,ntmps141;go_wp2;(refine zcL kr kr ?_;(repeat(go_big_quiet_step (fail)));refine wqN fun y=>?_);go_wp2;(refine zcL kr kr ?_;(repeat(go_big_quiet_step (fail)));refine wqN fun y=>?_);go_wp2
 go_region_law ((go_simp;go_at_call 189;refine(HC.out _ ex).mono ?_;rintro e w' ⟨D,K,rfl,hx,hr⟩;have HRR:=zh hr;(repeat(first|rw[zeS w _ _ _ (by rfl)] at hx|rw[zbs] at hx|rw[zgm _ w _ _ (by simp[go_sem]<;>omega)] at hx|rw[zd4 _ w _ _ (by simp[go_sem]<;>omega)] at hx));obtain⟨y9,rfl⟩:=hx.get;clear hx hr))
 all_goals
  go_wp2_with fail;refine bodyPost_ret (v:=.tuple #[.agg (La v.2.1),v.2.2.1,v.2.2.2]) (by simp[results,results141,go_sem]) rfl ?_;rw[HR.out];exact zbg.fin (A:=D) (c:=K) ex (LogIn.base (LogIn.along (LogIn.base HRR.out sg) ex sg) (by simp[go_sem]<;>omega))
theorem zEO (hk:m.kind=2)(hs:za3 w A c n.log)(hm:za3 w B d m.recs)(_h256:n.log.length≤256)(_hrl:m.kind=0→m.recs.length≤16)(_ha:0≤m.at_)(ht:n.term<m.term):Calls prog 141 #[.pointer (some ⟨w.heap.size,0,none⟩),.agg #[.int .i64 2,m.term,m.at_,m.before,.slice B m.recs.length d,m.acked]] (xt (w.alloc (.cells (Ln n A c) 24)) y0) (zbg w (xt (w.alloc (.cells (Ln n A c) 24)) y0) (recdV n m)):=by
 have hl:=hs.len;have hl2:=hm.len;have HS:=zh hs;have hd1:decide (m.term<n.term)=false:=decide_eq_false om;have hd2:decide (n.term<m.term)=true:=decide_eq_true ht;obtain⟨v,hv⟩:∃v,(zar ⟨n.id,m.term,false,n.log,n.acked,0⟩ m,msg0,false,(0:Int))=v:=⟨_,rfl⟩
 have HR:=zh (show recdV n m=v by
  rw[←hv];have hi:inTerm n m=⟨n.id,m.term,false,n.log,n.acked,0⟩:=by unfold inTerm;rw[if_pos ht]
  unfold recdV;rw[if_neg om,hi,hk];rfl)
 have HC:=zh (fun(W:World) (hx:Ext (w.alloc (.cells #[n.id,m.term,.bool false,.slice A n.log.length c,n.acked,zI] 24)) W)=>zsi ⟨n.id,m.term,false,n.log,n.acked,0⟩ A c m B d w W hs hx);rw[hv,hk] at HC;clear hs hm hk hv _hrl _ha _h256;go_enter func141,ntmps141;go_wp2;(refine zcL kr kr ?_;(repeat(go_big_quiet_step (fail)));refine wqN fun y=>?_);go_wp2;(refine zcL kr kr ?_;(repeat(go_big_quiet_step (fail)));refine wqN fun y=>?_);go_wp2
 go_region_law ((go_simp;go_at_call 189;refine(HC.out _ ex).mono ?_;rintro e w' ⟨D,K,rfl,hx,hr⟩;have HRR:=zh hr;(repeat(first|rw[zeS w _ _ _ (by rfl)] at hx|rw[zbs] at hx|rw[zgm _ w _ _ (by simp[go_sem]<;>omega)] at hx|rw[zd4 _ w _ _ (by simp[go_sem]<;>omega)] at hx));obtain⟨y9,rfl⟩:=hx.get;clear hx hr))
 all_goals
  go_wp2_with fail;refine bodyPost_ret (v:=.tuple #[.agg (La v.2.1),v.2.2.1,v.2.2.2]) (by simp[results,results141,go_sem]) rfl ?_;rw[HR.out];exact zbg.fin (A:=D) (c:=K) ex (LogIn.base (LogIn.along (LogIn.base HRR.out sg) ex sg) (by simp[go_sem]<;>omega))
end

theorem zgb (n:Nod)(A:Option Addr)(c:Nat)(m:Msg)(B:Option Addr)(d:Nat)(w W:World)(hs:za3 w A c n.log)(hm:za3 w B d m.recs)(h256:n.log.length≤256)(hok:MsgOk m)(hx:Ext (w.alloc (.cells (Ln n A c) 24)) W):
  Calls prog 141 #[.pointer (some ⟨w.heap.size,0,none⟩),.agg (Lm m B d)] W (zbg w W (recdV n m)):=by
 obtain⟨y0,rfl⟩:=hx.get;have ha:=hok.at0;have hrl:m.kind=0→m.recs.length≤16:=fun h=>(hok.app h).len;have k0:=hok.k0;have k1:=hok.k1;by_cases ht:m.term<n.term
 ·exact recd_old n A c m B d w y0 m.kind rfl hs ht
 ·have hk:m.kind=0∨m.kind=1∨m.kind=2:=by omega
  by_cases he:n.term=m.term
  ·rcases hk with hk|hk|hk<;>rw[hk]
   ·exact zyR n A c m B d w y0 hk hs hm h256 hrl ha he
   ·exact zyS n A c m B d w y0 hk hs hm h256 hrl ha he
   ·exact zyT n A c m B d w y0 hk hs hm h256 hrl ha he
  ·have hl:n.term<m.term:=by omega
   rcases hk with hk|hk|hk<;>rw[hk]
   ·exact zEM n A c m B d w y0 hk hs hm h256 hrl ha hl
   ·exact zEN n A c m B d w y0 hk hs hm h256 hrl ha hl
   ·exact zEO n A c m B d w y0 hk hs hm h256 hrl ha hl
def zeg (w:World) (v:Nod×Msg×Bool×Int) (e:Ending) (w':World):Prop:=∃A c,e=.returned (.tuple #[.agg (Ln v.1 A c),.agg (La v.2.1),v.2.2.1,v.2.2.2])∧Ext w w'∧LogIn w w w' A v.1.log.length c v.1.log
theorem zeg.err {w w':World}{v:Nod×Msg×Bool×Int}{x:Int}(h:v=(nod0,msg0,false,x))(hx:Ext w w'):
  zeg w v (.returned (.tuple #[.agg Zn,.agg Zm,.bool false,x])) w':=by
 subst h;exact⟨none,0,rfl,hx,.inl (za3.nil _)⟩
section
variable {n:Nod} {m:Msg}
theorem zEP (h:nodE n≠0):recvV n m=(nod0,msg0,false,nodE n):=by unfold recvV;rw[if_pos h]
theorem zEQ (h:nodE n=0)(h2:msgE m≠0):recvV n m=(nod0,msg0,false,msgE m):=by unfold recvV;rw[if_neg (by simpa using h),if_pos h2]
theorem zER (h:nodE n=0)(h2:msgE m=0)(h3:m.kind=0∧ownB n.id m.term=true):recvV n m=(nod0,msg0,false,11):=by unfold recvV;rw[if_neg (by simpa using h),if_neg (by simpa using h2),if_pos h3]
theorem zu0 (h:nodE n=0)(h2:msgE m=0)(h3:¬(m.kind=0∧ownB n.id m.term=true)){v:Nod×Msg×Bool×Int}(hv:recdV n m=v)(h4:v.2.2.2≠0):recvV n m=(nod0,msg0,false,v.2.2.2):=by subst hv;unfold recvV;rw[if_neg (by simpa using h),if_neg (by simpa using h2),if_neg h3,if_pos h4]
theorem zmq (h:nodE n=0)(h2:msgE m=0)(h3:¬(m.kind=0∧ownB n.id m.term=true)){v:Nod×Msg×Bool×Int}(hv:recdV n m=v)(h4:v.2.2.2=0):recvV n m=v:=by subst hv;unfold recvV;rw[if_neg (by simpa using h),if_neg (by simpa using h2),if_neg h3,if_neg (by simpa using h4)]
end
section
variable (n:Nod) (A:Option Addr) (c:Nat) (m:Msg) (B:Option Addr) (d:Nat) (w:World)
theorem zki (hs:za3 w A c n.log)(hm:za3 w B d m.recs)(h:nodE n≠0∨msgE m≠0):Calls prog 105 #[.agg (Ln n A c),.agg (Lm m B d)] w (zeg w (recvV n m)):=by
 have HS:=zh hs;have HM:=zh hm;clear hs hm;by_cases h1:nodE n=0
 ·have h2:msgE m≠0:=by rcases h with h|h;exact absurd h1 h;exact h
  have hz:(nodE n !=0)=false:=by simpa using h1
  have hz2:(msgE m !=0)=true:=by simpa using h2
  have HR:=zh (zEQ h1 h2);clear h h1 h2;go_enter func105,ntmps105;go_wp2_with (first|(go_at_call 78;refine zzg (zaA n A c _ (HS.out.mono ex)) fun y=>?_)|(go_at_call 81;refine zzg (zeo m B d _ (HM.out.mono ex)) fun y=>?_));exact bodyPost_ret (v:=.tuple #[.agg Zn,.agg Zm,.bool false,.int .i64 (msgE m)]) (by simp[results,results105,go_sem]) rfl (zeg.err HR.out ex)
 ·have hz:(nodE n !=0)=true:=by simpa using h1
  have HR:=zh (zEP (m:=m) h1);clear h h1;go_enter func105,ntmps105;go_wp2_with (go_at_call 78;refine zzg (zaA n A c _ (HS.out.mono ex)) fun y=>?_);exact bodyPost_ret (v:=.tuple #[.agg Zn,.agg Zm,.bool false,.int .i64 (nodE n)]) (by simp[results,results105,go_sem]) rfl (zeg.err HR.out ex)
theorem zxQ (hs:za3 w A c n.log)(hm:za3 w B d m.recs)(h1:nodE n=0)(h2:msgE m=0)(h3:m.kind=0∧ownB n.id m.term=true):Calls prog 105 #[.agg (Ln n A c),.agg (Lm m B d)] w (zeg w (recvV n m)):=by
 have HS:=zh hs;have HM:=zh hm;have hn:=(zal n).1 h1;have hk:=(zcp m).1 h2;have i1:=hn.id1;have i2:=hn.id2;have i3:=hk.t0;have i4:=hk.t1;have i5:0≤m.term:=by omega
 have hz:(nodE n !=0)=false:=by simpa using h1
 have hz2:(msgE m !=0)=false:=by simpa using h2
 have hz3:(m.kind==0)=true:=by simpa using h3.1
 have HO:=zh h3.2;have HR:=zh (zER h1 h2 h3);clear hs hm h1 h2 h3 hn hk;go_enter func105,ntmps105;go_wp2_with (first|(go_at_call 78;refine zzg (zaA n A c _ (HS.out.mono ex)) fun y=>?_)|(go_at_call 81;refine zzg (zeo m B d _ (HM.out.mono ex)) fun y=>?_)|(go_at_call 79;refine(zdV _ _ _ i1 i2 i5 i4).mono ?_;rintro e w' ⟨he,rfl⟩;rw[HO.out] at he;subst he));exact bodyPost_ret (v:=.tuple #[.agg Zn,.agg Zm,.bool false,.int .i64 11]) (by simp[results,results105,go_sem]) rfl (zeg.err HR.out ex)
theorem zoP (hs:za3 w A c n.log)(hm:za3 w B d m.recs)(h1:nodE n=0)(h2:msgE m=0)(hz0:(m.kind==0)=true)(ho:ownB n.id m.term=false)(h4:(recdV n m).2.2.2=0):Calls prog 105 #[.agg (Ln n A c),.agg (Lm m B d)] w (zeg w (recvV n m)):=by
 have HS:=zh hs;have HM:=zh hm;have hn:=(zal n).1 h1;have hk:=(zcp m).1 h2;have h256:=hn.len;have i1:=hn.id1;have i2:=hn.id2;have i3:=hk.t0;have i4:=hk.t1;have i5:0≤m.term:=by omega
 have hz:(nodE n !=0)=false:=by simpa using h1
 have hz2:(msgE m !=0)=false:=by simpa using h2
 have HO:=zh ho;have h3:¬(m.kind=0∧ownB n.id m.term=true):=by rw[ho];simp
 obtain⟨v,hv⟩:∃v,recdV n m=v:=⟨_,rfl⟩
 rw[hv] at h4;have HC:=zh (fun(W:World) (hx:Ext (w.alloc (.cells (Ln n A c) 24)) W)=>zgb n A c m B d w W hs hm h256 hk hx);rw[hv] at HC;have hz4:(v.2.2.2 !=0)=false:=by simpa using h4
 have HR:=zh (zmq h1 h2 h3 hv h4);have H4:=zh h4;clear hs hm h1 h2 h3 hn hk hv h4 ho;go_enter func105,ntmps105;go_wp2_with (first|(go_at_call 78;refine zzg (zaA n A c _ (HS.out.mono ex)) fun y=>?_)|(go_at_call 81;refine zzg (zeo m B d _ (HM.out.mono ex)) fun y=>?_)|(go_at_call 79;refine(zdV _ _ _ i1 i2 i5 i4).mono ?_;rintro e w' ⟨he,rfl⟩;rw[HO.out] at he;subst he)|(go_at_call 141;refine(HC.out _ ex).mono ?_;rintro e w' ⟨D,K,rfl,hx,hr⟩;have HRR:=zh hr;(repeat(first|rw[zeS w _ _ _ (by rfl)] at hx|rw[zbs] at hx|rw[zgm _ w _ _ (by simp[go_sem]<;>omega)] at hx|rw[zd4 _ w _ _ (by simp[go_sem]<;>omega)] at hx));obtain⟨y9,rfl⟩:=hx.get;clear hx hr))
 go_region_law (fail)
 all_goals
  go_wp2_with fail;refine bodyPost_ret (v:=.tuple #[.agg (Ln v.1 D K),.agg (La v.2.1),v.2.2.1,zI]) (by simp[results,results105,go_sem]) rfl ?_;rw[HR.out];exact⟨D,K,by rw[H4.out],ex,LogIn.base (LogIn.along (LogIn.base HRR.out sg) ex sg) (by simp[go_sem]<;>omega)⟩
theorem zoO (hs:za3 w A c n.log)(hm:za3 w B d m.recs)(h1:nodE n=0)(h2:msgE m=0)(hz0:(m.kind==0)=true)(ho:ownB n.id m.term=false)(h4:(recdV n m).2.2.2≠0):Calls prog 105 #[.agg (Ln n A c),.agg (Lm m B d)] w (zeg w (recvV n m)):=by
 have HS:=zh hs;have HM:=zh hm;have hn:=(zal n).1 h1;have hk:=(zcp m).1 h2;have h256:=hn.len;have i1:=hn.id1;have i2:=hn.id2;have i3:=hk.t0;have i4:=hk.t1;have i5:0≤m.term:=by omega
 have hz:(nodE n !=0)=false:=by simpa using h1
 have hz2:(msgE m !=0)=false:=by simpa using h2
 have HO:=zh ho;have h3:¬(m.kind=0∧ownB n.id m.term=true):=by rw[ho];simp
 obtain⟨v,hv⟩:∃v,recdV n m=v:=⟨_,rfl⟩
 rw[hv] at h4;have HC:=zh (fun(W:World) (hx:Ext (w.alloc (.cells (Ln n A c) 24)) W)=>zgb n A c m B d w W hs hm h256 hk hx);rw[hv] at HC;have hz4:(v.2.2.2 !=0)=true:=by simpa using h4
 have HR:=zh (zu0 h1 h2 h3 hv h4);have H4:=zh h4;clear hs hm h1 h2 h3 hn hk hv h4 ho;go_enter func105,ntmps105;go_wp2_with (first|(go_at_call 78;refine zzg (zaA n A c _ (HS.out.mono ex)) fun y=>?_)|(go_at_call 81;refine zzg (zeo m B d _ (HM.out.mono ex)) fun y=>?_)|(go_at_call 79;refine(zdV _ _ _ i1 i2 i5 i4).mono ?_;rintro e w' ⟨he,rfl⟩;rw[HO.out] at he;subst he)|(go_at_call 141;refine(HC.out _ ex).mono ?_;rintro e w' ⟨D,K,rfl,hx,hr⟩;have HRR:=zh hr;(repeat(first|rw[zeS w _ _ _ (by rfl)] at hx|rw[zbs] at hx|rw[zgm _ w _ _ (by simp[go_sem]<;>omega)] at hx|rw[zd4 _ w _ _ (by simp[go_sem]<;>omega)] at hx));obtain⟨y9,rfl⟩:=hx.get;clear hx hr));exact bodyPost_ret (v:=.tuple #[.agg Zn,.agg Zm,.bool false,v.2.2.2]) (by simp[results,results105,go_sem]) rfl (zeg.err HR.out ex)
theorem zoN (hs:za3 w A c n.log)(hm:za3 w B d m.recs)(h1:nodE n=0)(h2:msgE m=0)(hz0:(m.kind==0)=false)(h4:(recdV n m).2.2.2=0):Calls prog 105 #[.agg (Ln n A c),.agg (Lm m B d)] w (zeg w (recvV n m)):=by
 have HS:=zh hs;have HM:=zh hm;have hn:=(zal n).1 h1;have hk:=(zcp m).1 h2;have h256:=hn.len;have i1:=hn.id1;have i2:=hn.id2;have i3:=hk.t0;have i4:=hk.t1;have i5:0≤m.term:=by omega
 have hz:(nodE n !=0)=false:=by simpa using h1
 have hz2:(msgE m !=0)=false:=by simpa using h2
 skip
 have h3:¬(m.kind=0∧ownB n.id m.term=true):=by intro hh;rw[hh.1] at hz0;cases hz0
 obtain⟨v,hv⟩:∃v,recdV n m=v:=⟨_,rfl⟩
 rw[hv] at h4;have HC:=zh (fun(W:World) (hx:Ext (w.alloc (.cells (Ln n A c) 24)) W)=>zgb n A c m B d w W hs hm h256 hk hx);rw[hv] at HC;have hz4:(v.2.2.2 !=0)=false:=by simpa using h4
 have HR:=zh (zmq h1 h2 h3 hv h4);have H4:=zh h4;clear hs hm h1 h2 h3 hn hk hv h4;go_enter func105,ntmps105;go_wp2_with (first|(go_at_call 78;refine zzg (zaA n A c _ (HS.out.mono ex)) fun y=>?_)|(go_at_call 81;refine zzg (zeo m B d _ (HM.out.mono ex)) fun y=>?_)|(go_at_call 141;refine(HC.out _ ex).mono ?_;rintro e w' ⟨D,K,rfl,hx,hr⟩;have HRR:=zh hr;(repeat(first|rw[zeS w _ _ _ (by rfl)] at hx|rw[zbs] at hx|rw[zgm _ w _ _ (by simp[go_sem]<;>omega)] at hx|rw[zd4 _ w _ _ (by simp[go_sem]<;>omega)] at hx));obtain⟨y9,rfl⟩:=hx.get;clear hx hr))
 go_region_law (fail)
 all_goals
  go_wp2_with fail;refine bodyPost_ret (v:=.tuple #[.agg (Ln v.1 D K),.agg (La v.2.1),v.2.2.1,zI]) (by simp[results,results105,go_sem]) rfl ?_;rw[HR.out];exact⟨D,K,by rw[H4.out],ex,LogIn.base (LogIn.along (LogIn.base HRR.out sg) ex sg) (by simp[go_sem]<;>omega)⟩
theorem zoM (hs:za3 w A c n.log)(hm:za3 w B d m.recs)(h1:nodE n=0)(h2:msgE m=0)(hz0:(m.kind==0)=false)(h4:(recdV n m).2.2.2≠0):Calls prog 105 #[.agg (Ln n A c),.agg (Lm m B d)] w (zeg w (recvV n m)):=by
 have HS:=zh hs;have HM:=zh hm;have hn:=(zal n).1 h1;have hk:=(zcp m).1 h2;have h256:=hn.len;have i1:=hn.id1;have i2:=hn.id2;have i3:=hk.t0;have i4:=hk.t1;have i5:0≤m.term:=by omega
 have hz:(nodE n !=0)=false:=by simpa using h1
 have hz2:(msgE m !=0)=false:=by simpa using h2
 skip
 have h3:¬(m.kind=0∧ownB n.id m.term=true):=by intro hh;rw[hh.1] at hz0;cases hz0
 obtain⟨v,hv⟩:∃v,recdV n m=v:=⟨_,rfl⟩
 rw[hv] at h4;have HC:=zh (fun(W:World) (hx:Ext (w.alloc (.cells (Ln n A c) 24)) W)=>zgb n A c m B d w W hs hm h256 hk hx);rw[hv] at HC;have hz4:(v.2.2.2 !=0)=true:=by simpa using h4
 have HR:=zh (zu0 h1 h2 h3 hv h4);have H4:=zh h4;clear hs hm h1 h2 h3 hn hk hv h4;go_enter func105,ntmps105;go_wp2_with (first|(go_at_call 78;refine zzg (zaA n A c _ (HS.out.mono ex)) fun y=>?_)|(go_at_call 81;refine zzg (zeo m B d _ (HM.out.mono ex)) fun y=>?_)|(go_at_call 141;refine(HC.out _ ex).mono ?_;rintro e w' ⟨D,K,rfl,hx,hr⟩;have HRR:=zh hr;(repeat(first|rw[zeS w _ _ _ (by rfl)] at hx|rw[zbs] at hx|rw[zgm _ w _ _ (by simp[go_sem]<;>omega)] at hx|rw[zd4 _ w _ _ (by simp[go_sem]<;>omega)] at hx));obtain⟨y9,rfl⟩:=hx.get;clear hx hr));exact bodyPost_ret (v:=.tuple #[.agg Zn,.agg Zm,.bool false,v.2.2.2]) (by simp[results,results105,go_sem]) rfl (zeg.err HR.out ex)
theorem zeH (hs:za3 w A c n.log)(hm:za3 w B d m.recs):Calls prog 105 #[.agg (Ln n A c),.agg (Lm m B d)] w (zeg w (recvV n m)):=by
 by_cases h1:nodE n=0
 ·by_cases h2:msgE m=0
  ·by_cases h3:m.kind=0∧ownB n.id m.term=true
   ·exact zxQ n A c m B d w hs hm h1 h2 h3
   ·by_cases hk:m.kind=0
    ·have ho:ownB n.id m.term=false:=by
      cases h:ownB n.id m.term with
      |false=>rfl
      |true=>exact absurd ⟨hk,h⟩ h3
     by_cases h4:(recdV n m).2.2.2=0
     ·exact zoP n A c m B d w hs hm h1 h2 (by simpa using hk) ho h4
     ·exact zoO n A c m B d w hs hm h1 h2 (by simpa using hk) ho h4
    ·by_cases h4:(recdV n m).2.2.2=0
     ·exact zoN n A c m B d w hs hm h1 h2 (by simpa using hk) h4
     ·exact zoM n A c m B d w hs hm h1 h2 (by simpa using hk) h4
  ·exact zki n A c m B d w hs hm (.inr h2)
 ·exact zki n A c m B d w hs hm (.inl h1)
end

-- MADE
def madeR (ps:Array (Nat×Value)):Sem Value:=Instr.build 180 ps
@[go_sem ↓ high] theorem madeR_at (ps : Array (Nat × Value)) : Instr.build 180 ps = madeR ps:=rfl
@[go_sem] theorem madeR_run (w : World) (t : Int) (a : Acn) : (madeR #[(0,.int .i64 t),(1,.agg (acnR a).toArray)]).run prog w = .ok (.agg (recR ⟨t,a⟩).toArray) w :=
 run_build w _ _ _ kr
def madeQ (ps:Array (Nat×Value)):Sem Value:=Instr.build 187 ps
@[go_sem ↓ high] theorem madeQ_at (ps : Array (Nat × Value)) : Instr.build 187 ps = madeQ ps:=rfl
@[go_sem] theorem madeQ_run (w : World) (t : Int) (a : Acn) : (madeQ #[(0,.int .i64 t),(1,.agg (acnR a).toArray)]).run prog w = .ok (.agg (recR ⟨t,a⟩).toArray) w :=
 run_build w _ _ _ kr
section
variable {P:Program} {ops:Array Oper} {Q:Exit→Act→World→Prop} {md:Region.Mode} {S:Array Bool→World→Prop}
theorem zdE {i j:Nat} {o o':Oper} {f:Nat} {L:Array Bool} {a:Act} {w:World} (hr:Region.ready md ops L=[i,j]) (ho:ops[i]?=some o) (ho':ops[j]?=some o') (hg:o.guard=none) (hg':o'.guard=none) (hcl:ShutL md ops L)
  (h:∀K:Act→World→Prop,(∀a w,S (L.setIfInBounds i true) w→(ShutL md ops (L.setIfInBounds i true)→S (L.setIfInBounds i true) w→wpAnyL P md ops Q S f (L.setIfInBounds i true) a w)→K a w)→Oper.wp P o a w K Q)
  (h':∀K:Act→World→Prop,(∀a w,S (L.setIfInBounds j true) w→(ShutL md ops (L.setIfInBounds j true)→S (L.setIfInBounds j true) w→wpAnyL P md ops Q S f (L.setIfInBounds j true) a w)→K a w)→Oper.wp P o' a w K Q):wpAnyL P md ops Q S (f+1) L a w:=by
 have hi:i∈Region.ready md ops L:=by rw[hr];simp
 have hj:j∈Region.ready md ops L:=by rw[hr];simp
 refine⟨fun h0=>(by rw[h0] at hr;cases hr),fun k hk=> ?_⟩;rw[hr] at hk;have hk:k=i∨k=j:=by simpa using hk
 unfold wpOp;rcases hk with rfl|rfl
 ·simp only[ho];rw[if_pos (by simp[Region.wanted,hg])];exact .inl (Oper.wp_mono (fun a' w' h'=>h') (h _ fun a w h1 h2=>⟨h1,h2 (hcl.set hi) h1⟩))
 ·simp only[ho'];rw[if_pos (by simp[Region.wanted,hg'])];exact .inl (Oper.wp_mono (fun a' w' h'=>h') (h' _ fun a w h1 h2=>⟨h1,h2 (hcl.set hj) h1⟩))
theorem ziM {o:Oper}{a:Act}{w:World}{K:Act→World→Prop}{F:Prop}(hg:o.guard=none)(h:if Region.wanted o (yielded #[] a.tmps)=true then Oper.wp P o a w K Q else F):Oper.wp P o a w K Q:=by rwa [if_pos (by simp[Region.wanted,hg])] at h
theorem zls (row:List Value)(h45:row.length=45){T:TypeId}{X:World}{f:Nat}{L:Array Bool}{a:Act}(h:(∀b,X.heap.size=b→Sl (X.alloc (.cells row.toArray T)) (some ⟨b,0,none⟩) 45 [row])→wpAnyL P md ops Q S f L a (X.alloc (.cells row.toArray T))):
  wpAnyL P md ops Q S f L a (X.alloc (.cells row.toArray T)):=h fun b hb=>Sl.alloc' hb (by simp) (by simpa using h45)
theorem zj2 (row:List Value)(h45:row.length=45){T:TypeId}{X:World}{f:Nat}{L:Array Bool}{a:Act}(h:(∀b,X.heap.size=b→Sl (X.alloc (.cells row.toArray T)).drew (some ⟨b,0,none⟩) 45 [row])→wpAnyL P md ops Q S f L a (X.alloc (.cells row.toArray T)).drew):
  wpAnyL P md ops Q S f L a (X.alloc (.cells row.toArray T)).drew:=h fun b hb=>(Sl.alloc' hb (by simp) (by simpa using h45)).mono (Ext.refl _).drew
end
section
variable {n:Nod} {a:Acn}
theorem actV_a (h:nodE n≠0):actV n a=(nod0,nodE n):=by unfold actV;rw[if_pos h]
theorem actV_b (h:nodE n=0)(h1:n.speaks=false):actV n a=(nod0,16):=by unfold actV;rw[if_neg (by simpa using h),if_pos h1]
theorem actV_c (h:nodE n=0)(h1:n.speaks=true)(h2:acnE a≠0):actV n a=(nod0,acnE a):=by unfold actV;rw[if_neg (by simpa using h),if_neg (by simp[h1]),if_pos h2]
theorem actV_d (h:nodE n=0)(h1:n.speaks=true)(h2:acnE a=0)(h3:early n.log a=true):actV n a=(nod0,9):=by unfold actV;rw[if_neg (by simpa using h),if_neg (by simp[h1]),if_neg (by simpa using h2),if_pos h3]
theorem actV_e (h:nodE n=0)(h1:n.speaks=true)(h2:acnE a=0)(h3:early n.log a=false)(h4:n.log.length=256):actV n a=(nod0,5):=by unfold actV;rw[if_neg (by simpa using h),if_neg (by simp[h1]),if_neg (by simpa using h2),if_neg (by simp[h3]),if_pos h4]
theorem zzJ (h:nodE n=0)(h1:n.speaks=true)(h2:acnE a=0)(h3:early n.log a=false)(h4:¬n.log.length=256):actV n a=(actN n a,0):=by unfold actV;rw[if_neg (by simpa using h),if_neg (by simp[h1]),if_neg (by simpa using h2),if_neg (by simp[h3]),if_neg h4]
theorem ziz {l:List Rec}{r:Rec}(hr:l[l.length - 1]?=some r):early l a=decide (a.at_<r.act.at_):=by unfold early;rw[List.getLast?_eq_getElem?,hr]
theorem zvi {l:List Rec}(h:¬0<l.length):early l a=false:=by have:l=[]:=List.eq_nil_of_length_eq_zero om;subst this;rfl
end
section
variable (n:Nod) (A:Option Addr) (c:Nat) (a:Acn) (w:World) (hs:za3 w A c n.log) (ha:AcnAt w a)
include hs
theorem zEU (h:nodE n≠0):Calls prog 70 #[.agg (Ln n A c),.agg (acnR a).toArray] w (zaH w (actV n a)):=by
 have HS:=zh hs;have hz:(nodE n !=0)=true:=by simpa using h
 have HR:=zh (actV_a (a:=a) h);clear h hs;go_enter func70,ntmps70;go_wp2_with (go_at_call 78;refine zzg (zaA n A c _ (HS.out.mono ex)) fun y=>?_);exact bodyPost_ret (v:=.tuple #[.agg Zn,.int .i64 (nodE n)]) (by simp[results,results70,go_sem]) rfl (zaH.err HR.out ex)
theorem zEV (h:nodE n=0)(h1:n.speaks=false):Calls prog 70 #[.agg (Ln n A c),.agg (acnR a).toArray] w (zaH w (actV n a)):=by
 have HS:=zh hs;have hz:(nodE n !=0)=false:=by simpa using h
 have HR:=zh (actV_b (a:=a) h h1);have HC:=zh (fun W (hx:Ext w W)=>zaA n A c W (hs.mono hx));rw[h1] at HC ⊢
 clear h hs h1;go_enter func70,ntmps70;go_wp2_with (go_at_call 78;refine zzg (HC.out _ ex) fun y=>?_);exact bodyPost_ret (v:=.tuple #[.agg Zn,.int .i64 16]) (by simp[results,results70,go_sem]) rfl (zaH.err HR.out ex)
include ha
theorem zEW (h:nodE n=0)(h1:n.speaks=true)(h2:acnE a≠0):Calls prog 70 #[.agg (Ln n A c),.agg (acnR a).toArray] w (zaH w (actV n a)):=by
 have HS:=zh hs;have HA:=zh ha;have hz:(nodE n !=0)=false:=by simpa using h
 have hz2:(acnE a !=0)=true:=by simpa using h2
 have HR:=zh (actV_c (a:=a) h h1 h2);have HC:=zh (fun W (hx:Ext w W)=>zaA n A c W (hs.mono hx));rw[h1] at HC ⊢
 clear h hs h1 h2 ha;go_enter func70,ntmps70;go_wp2_with (first|(go_at_call 78;refine zzg (HC.out _ ex) fun y=>?_)|(go_at_call 85;refine zzg (zan a _ (HA.out.mono ex)) fun y=>?_));exact bodyPost_ret (v:=.tuple #[.agg Zn,.int .i64 (acnE a)]) (by simp[results,results70,go_sem]) rfl (zaH.err HR.out ex)
theorem zEX (h:nodE n=0)(h1:n.speaks=true)(h2:acnE a=0)(h3:early n.log a=true):Calls prog 70 #[.agg (Ln n A c),.agg (acnR a).toArray] w (zaH w (actV n a)):=by
 have HS:=zh hs;have HA:=zh ha;have hl:=hs.len;have hz:(nodE n !=0)=false:=by simpa using h
 have hz2:(acnE a !=0)=false:=by simpa using h2
 have HR:=zh (actV_d (a:=a) h h1 h2 h3);have hpos:0<n.log.length:=by
  by_cases h0:0<n.log.length
  ·exact h0
  ·rw[zvi h0] at h3;cases h3
 obtain⟨r,hr⟩:∃r,n.log[n.log.length - 1]?=some r:=⟨_,List.getElem?_eq_getElem om⟩
 rw[ziz hr] at h3;have HC:=zh (fun W (hx:Ext w W)=>zaA n A c W (hs.mono hx));obtain⟨b,o,rfl,hrec,-⟩:=hs.get hr;have hr1:=hrec.act;have hat:w.cell? ⟨b,o+(n.log.length - 1) * 45+1,none⟩=some (.int .i64 r.act.at_):=hrec.at_;have hd:decide (0<(n.log.length:Int))=true:=decide_eq_true om;have hi1:(0:Int)≤(n.log.length:Int) - 1:=by omega
 have hi2:(n.log.length:Int) - 1<(n.log.length:Int):=by omega
 have hi3:((n.log.length:Int) - 1).toNat=n.log.length - 1:=by omega
 have hw:IntKind.i64.wrap ((n.log.length:Int) - 1)=(n.log.length:Int) - 1:=IntWalk.i64_in _ om;rw[h1] at HC ⊢
 clear h hs h1 h2 ha hr hrec;go_enter func70,ntmps70;go_wp2_with (first|(go_at_call 78;refine zzg (HC.out _ ex) fun y=>?_)|(go_at_call 85;refine zzg (zan a _ (HA.out.mono ex)) fun y=>?_));(refine zcL kr kr ?_;(repeat(go_big_quiet_step (fail)));refine wqN fun y=>?_);go_wp2;exact bodyPost_ret (v:=.tuple #[.agg Zn,.int .i64 9]) (by simp[results,results70,go_sem]) rfl (zaH.err HR.out ex)
theorem zBW (h:nodE n=0)(h1:n.speaks=true)(h2:acnE a=0)(h3:early n.log a=false)(hpos:0<n.log.length):Calls prog 70 #[.agg (Ln n A c),.agg (acnR a).toArray] w (zaH w (actV n a)):=by
 have HS:=zh hs;have HA:=zh ha;have hl:=hs.len;have hz:(nodE n !=0)=false:=by simpa using h
 have hz2:(acnE a !=0)=false:=by simpa using h2
 have H5:=zh (fun h4:n.log.length=256=>actV_e (a:=a) h h1 h2 h3 h4);have H6:=zh (fun h4:¬n.log.length=256=>zzJ (a:=a) h h1 h2 h3 h4);have h256:=((zal n).1 h).len;have HEl:=zh (show ∀r∈n.log++[⟨n.term,a⟩],AcnAt w r.act from fun r hr=>by
  rcases List.mem_append.1 hr with hr|hr
  ·exact hs.el r hr
  ·rw[List.mem_singleton.1 hr];exact ha)
 obtain⟨r,hr⟩:∃r,n.log[n.log.length - 1]?=some r:=⟨_,List.getElem?_eq_getElem om⟩
 rw[ziz hr] at h3;have HC:=zh (fun W (hx:Ext w W)=>zaA n A c W (hs.mono hx));obtain⟨b,o,rfl,hrec,-⟩:=hs.get hr;have hr1:=hrec.act;have hat:w.cell? ⟨b,o+(n.log.length - 1) * 45+1,none⟩=some (.int .i64 r.act.at_):=hrec.at_;have hd:decide (0<(n.log.length:Int))=true:=decide_eq_true om;have hi1:(0:Int)≤(n.log.length:Int) - 1:=by omega
 have hi2:(n.log.length:Int) - 1<(n.log.length:Int):=by omega
 have hi3:((n.log.length:Int) - 1).toNat=n.log.length - 1:=by omega
 have hw:IntKind.i64.wrap ((n.log.length:Int) - 1)=(n.log.length:Int) - 1:=IntWalk.i64_in _ om;have HSp:=zh h1;rw[h1] at HC ⊢
 clear h hs h1 h2 ha hr hrec;go_enter func70,ntmps70;go_wp2_with (first|(go_at_call 78;refine zzg (HC.out _ ex) fun y=>?_)|(go_at_call 85;refine zzg (zan a _ (HA.out.mono ex)) fun y=>?_));(refine zcL kr kr ?_;(repeat(go_big_quiet_step (fail)));refine wqN fun y=>?_);go_wp2
 ·exact bodyPost_ret (v:=.tuple #[.agg Zn,.int .i64 5]) (by simp[results,results70,go_sem]) rfl (zaH.err (H5.out (by first|omega|(simp_all;omega))) ex)
 ·have H4:=zh (H6.out (by first|omega|(simp_all;omega)));clear H5 H6;refine zaw (S:=SS 10 99 (fun w'=>w'.cell? ⟨w.heap.size,3,none⟩=some (.slice (some ⟨b,o,none⟩) n.log.length c)) (fun _=>True) (fun w'=>w'.cell? ⟨w.heap.size,1,none⟩=some (.int .i64 n.term)∧rowQ w' (w.heap.size+1) 0 44=some (acnR a))) kr ⟨fun _=>by simp[go_sem],fun _=>trivial,by simp[go_sem],by simp[go_sem]⟩ (fun hcl hS=> ?_);refine wtg 0 (T:=(fun _=>True)) ?_ rfl (fun _ _ _ _ _=>trivial) ?_ hcl hS ?_;rotate_left
  ·(intro w' hw';(try dsimp only at hw');(try have hw1:=hw'.1);(try have hw2:=hw'.2);go_simp;try with_reducible rfl)
  clear hcl hS;intro hcl hS
  (try simp only[Act.put,lsT,lsS,lsZ])
  refine wtg 1 (T:=(fun w'=>w'.cell? ⟨w.heap.size,3,none⟩=some (.slice (some ⟨b,o,none⟩) n.log.length c))) ?_ rfl (fun _ _ hc hi hS=>hS.1 (hc.not (k:=10) kr hi)) ?_ hcl hS ?_;rotate_left
  ·(intro w' hw';(try dsimp only at hw');(try have hw1:=hw'.1);(try have hw2:=hw'.2);go_simp;try with_reducible rfl)
  clear hcl hS;intro hcl hS
  (try simp only[Act.put,lsT,lsS,lsZ])
  refine wtg 3 (T:=(fun _=>True)) ?_ rfl (fun _ _ _ _ _=>trivial) ?_ hcl hS ?_;rotate_left
  ·(intro w' hw';(try dsimp only at hw');(try have hw1:=hw'.1);(try have hw2:=hw'.2);go_simp;try with_reducible rfl)
  clear hcl hS;intro hcl hS
  (try simp only[Act.put,lsT,lsS,lsZ])
  refine wtg 4 (T:=(fun w'=>w'.cell? ⟨w.heap.size,1,none⟩=some (.int .i64 n.term)∧rowQ w' (w.heap.size+1) 0 44=some (acnR a))) ?_ rfl (fun _ _ _ _ hS=>hS.2.2) ?_ hcl hS ?_;rotate_left
  ·(intro w' hw';(try dsimp only at hw');(try have hw1:=hw'.1);(try have hw2:=hw'.2);go_simp;try with_reducible rfl)
  clear hcl hS;intro hcl hS
  (try simp only[Act.put,lsT,lsS,lsZ])
  refine wtg 5 (T:=(fun w'=>w'.cell? ⟨w.heap.size,1,none⟩=some (.int .i64 n.term)∧rowQ w' (w.heap.size+1) 0 44=some (acnR a))) ?_ rfl (fun _ _ _ _ hS=>hS.2.2) ?_ hcl hS ?_;rotate_left
  ·(intro w' hw';(try dsimp only at hw');(try have hw1:=hw'.1);(try have hw2:=hw'.2);go_simp;try with_reducible rfl)
  clear hcl hS;intro hcl hS
  (try simp only[Act.put,lsT,lsS,lsZ])
  refine wtg 6 (T:=(fun _=>True)) ?_ rfl (fun _ _ _ _ _=>trivial) ?_ hcl hS ?_;rotate_left
  ·(intro w' hw';(try dsimp only at hw');(try have hw1:=hw'.1);(try have hw2:=hw'.2);go_simp;try with_reducible rfl)
  clear hcl hS;intro hcl hS
  (try simp only[Act.put,lsT,lsS,lsZ])
  refine zdE (i:=2) (j:=7) kr rfl rfl rfl rfl hcl (fun K hK=> ?_) (fun K hK=> ?_)
  ·go_simp;go_at_call 103;refine(zlB _ _ _ n.log _ rfl (HS.out.sl.mono ex) (by first|omega|simp)).mono ?_;rintro e w' ⟨D,n',rfl,hx,hown⟩;have HO:=zh hown;obtain⟨yc,rfl⟩:=hx.get;clear hx hown;clear hS hcl;refine hK _ _ ⟨fun _=>by simp[go_sem],fun _=>trivial,by simp[go_sem],by simp[go_sem]⟩ (fun hcl hS=> ?_);clear hK;refine za9 (i:=7) kr rfl rfl hcl (fun K hK=> ?_);go_simp;clear hS hcl;refine hK _ _ ⟨fun _=>by simp[go_sem],fun _=>trivial,by simp[go_sem],by simp[go_sem]⟩ (fun hcl hS=> ?_);clear hK
   first|refine zls (recR ⟨n.term,a⟩) rfl (fun HB0=> ?_)|refine zj2 (recR ⟨n.term,a⟩) rfl (fun HB0=> ?_)
   have HB:=zh HB0;clear HB0;refine za9 (i:=8) kr rfl rfl hcl (fun K hK=> ?_);refine ziM (F:=False) rfl ?_;(refine zbP (w0:=((w.alloc (.cells #[n.id,n.term,.bool true,.slice (some ⟨b,o,none⟩) n.log.length c,n.acked,n.next] 24)).alloc (.cells (acnR a).toArray 99)).alloc (.cells Zn 24)) rfl _ _ 22 22 rfl 180 180 45 552 underlying22 underlying22 zmT dk ex _ n.log.length _ (n.log.map recR) (by rfl) (Own.older (HO.out.mono ex) ex) _ 1 1 [recR ⟨n.term,a⟩] (by rfl) ((HB.out _ sg).mono ex) rfl (zgK _) (by unfold maxLen;omega) om (n.log.length+1) rfl (n.log.map recR++[recR ⟨n.term,a⟩]) rfl ?_;intro D1 c1 w1 hx1 hown hg hA;have HO1:=zh hown;obtain⟨y1,rfl⟩:=hx1.get;clear hown hx1 hg hA);clear hS hcl;refine hK _ _ ⟨fun _=>by simp[go_sem],fun _=>trivial,by simp[go_sem],by simp[go_sem]⟩ (fun hcl hS=> ?_);clear hK;refine wtg 9 (T:=(fun _=>True)) ?_ rfl (fun _ _ _ _ _=>trivial) ?_ hcl hS ?_;rotate_left
   ·(intro w' hw';(try dsimp only at hw');(try have hw1:=hw'.1);(try have hw2:=hw'.2);go_simp;try with_reducible rfl)
   clear hcl hS;intro hcl hS
   (try simp only[Act.put,lsT,lsS,lsZ])
   refine za9 (i:=10) kr rfl rfl hcl (fun K hK=> ?_);go_simp;clear hS hcl;refine hK _ _ ⟨fun hh=>absurd hh dk,fun _=>trivial,by simp[go_sem],by simp[go_sem]⟩ (fun hcl hS=> ?_);clear hK hcl hS;refine zas kr ?_ _;go_wp2_with fail;refine bodyPost_ret (v:=.tuple #[.agg #[n.id,n.term,.bool true,.slice D1 (n.log.length+1) c1,n.acked,n.next],zI]) (by simp[results,results70,go_sem]) rfl ?_;rw[H4.out];have HO9:=HO1.out;rw[show List.map recR n.log++[recR ⟨n.term,a⟩]=(actN n a).log.map recR by simp[actN]] at HO9;exact⟨D1,c1,by first|(simp[actN];done)|simp[actN,HSp.out],ex,Own.recs (Own.along HO9 ex sg) (by simp[actN]) (fun r hr=>(HEl.out r hr).mono ex)⟩
  ·go_simp;clear hS hcl;refine hK _ _ ⟨fun _=>by simp[go_sem],fun _=>trivial,by simp[go_sem],by simp[go_sem]⟩ (fun hcl hS=> ?_);clear hK
   first|refine zls (recR ⟨n.term,a⟩) rfl (fun HB0=> ?_)|refine zj2 (recR ⟨n.term,a⟩) rfl (fun HB0=> ?_)
   have HB:=zh HB0;clear HB0;refine za9 (i:=2) kr rfl rfl hcl (fun K hK=> ?_);go_simp;go_at_call 103;refine(zlB _ _ _ n.log _ rfl (HS.out.sl.mono ex) (by first|omega|simp)).mono ?_;rintro e w' ⟨D,n',rfl,hx,hown⟩;have HO:=zh hown;obtain⟨yc,rfl⟩:=hx.get;clear hx hown;clear hS hcl;refine hK _ _ ⟨fun _=>by simp[go_sem],fun _=>trivial,by simp[go_sem],by simp[go_sem]⟩ (fun hcl hS=> ?_);clear hK;refine za9 (i:=8) kr rfl rfl hcl (fun K hK=> ?_);refine ziM (F:=False) rfl ?_;(refine zbP (w0:=((w.alloc (.cells #[n.id,n.term,.bool true,.slice (some ⟨b,o,none⟩) n.log.length c,n.acked,n.next] 24)).alloc (.cells (acnR a).toArray 99)).alloc (.cells Zn 24)) rfl _ _ 22 22 rfl 180 180 45 552 underlying22 underlying22 zmT dk ex _ n.log.length _ (n.log.map recR) (by rfl) (Own.older (HO.out.mono ex) ex) _ 1 1 [recR ⟨n.term,a⟩] (by rfl) ((HB.out _ sg).mono ex) rfl (zgK _) (by unfold maxLen;omega) om (n.log.length+1) rfl (n.log.map recR++[recR ⟨n.term,a⟩]) rfl ?_;intro D1 c1 w1 hx1 hown hg hA;have HO1:=zh hown;obtain⟨y1,rfl⟩:=hx1.get;clear hown hx1 hg hA);clear hS hcl;refine hK _ _ ⟨fun _=>by simp[go_sem],fun _=>trivial,by simp[go_sem],by simp[go_sem]⟩ (fun hcl hS=> ?_);clear hK;refine wtg 9 (T:=(fun _=>True)) ?_ rfl (fun _ _ _ _ _=>trivial) ?_ hcl hS ?_;rotate_left
   ·(intro w' hw';(try dsimp only at hw');(try have hw1:=hw'.1);(try have hw2:=hw'.2);go_simp;try with_reducible rfl)
   clear hcl hS;intro hcl hS
   (try simp only[Act.put,lsT,lsS,lsZ])
   refine za9 (i:=10) kr rfl rfl hcl (fun K hK=> ?_);go_simp;clear hS hcl;refine hK _ _ ⟨fun hh=>absurd hh dk,fun _=>trivial,by simp[go_sem],by simp[go_sem]⟩ (fun hcl hS=> ?_);clear hK hcl hS;refine zas kr ?_ _;go_wp2_with fail;refine bodyPost_ret (v:=.tuple #[.agg #[n.id,n.term,.bool true,.slice D1 (n.log.length+1) c1,n.acked,n.next],zI]) (by simp[results,results70,go_sem]) rfl ?_;rw[H4.out];have HO9:=HO1.out;rw[show List.map recR n.log++[recR ⟨n.term,a⟩]=(actN n a).log.map recR by simp[actN]] at HO9;exact⟨D1,c1,by first|(simp[actN];done)|simp[actN,HSp.out],ex,Own.recs (Own.along HO9 ex sg) (by simp[actN]) (fun r hr=>(HEl.out r hr).mono ex)⟩
theorem zBV (h:nodE n=0)(h1:n.speaks=true)(h2:acnE a=0)(h3:early n.log a=false)(hpos:¬0<n.log.length):Calls prog 70 #[.agg (Ln n A c),.agg (acnR a).toArray] w (zaH w (actV n a)):=by
 obtain⟨id,t,sp,l,ak,nx⟩:=n;obtain rfl:l=[]:=List.eq_nil_of_length_eq_zero (by simpa using hpos);obtain rfl:sp=true:=h1;have h1:(⟨id,t,true,[],ak,nx⟩:Nod).speaks=true:=rfl;have HSp:=zh (show true=true from rfl);clear hpos;have HS:=zh hs;have HA:=zh ha;have hz:(nodE (⟨id,t,true,[],ak,nx⟩:Nod) !=0)=false:=by simpa using h
 have hz2:(acnE a !=0)=false:=by simpa using h2
 have H4:=zh (zzJ (a:=a) h h1 h2 h3 (by simp));have HEl:=zh (show ∀r∈([]:List Rec)++[(⟨t,a⟩:Rec)],AcnAt w r.act from fun r hr=>by
  rcases List.mem_append.1 hr with hr|hr
  ·exact hs.el r hr
  ·rw[List.mem_singleton.1 hr];exact ha)
 have HC:=zh (fun W (hx:Ext w W)=>zaA (⟨id,t,true,[],ak,nx⟩:Nod) A c W (hs.mono hx));clear h hs h1 h2 ha h3;go_enter func70,ntmps70;go_wp2_with (first|(go_at_call 78;refine zzg (HC.out _ ex) fun y=>?_)|(go_at_call 85;refine zzg (zan a _ (HA.out.mono ex)) fun y=>?_));(refine zcL kr kr ?_;(repeat(go_big_quiet_step (fail)));refine wqN fun y=>?_);go_wp2;refine zaw (S:=SS 10 99 (fun w'=>w'.cell? ⟨w.heap.size,3,none⟩=some (.slice A 0 c)) (fun _=>True) (fun w'=>w'.cell? ⟨w.heap.size,1,none⟩=some (.int .i64 t)∧rowQ w' (w.heap.size+1) 0 44=some (acnR a))) kr ⟨fun _=>by simp[go_sem],fun _=>trivial,by simp[go_sem],by simp[go_sem]⟩ (fun hcl hS=> ?_);refine wtg 0 (T:=(fun _=>True)) ?_ rfl (fun _ _ _ _ _=>trivial) ?_ hcl hS ?_;rotate_left
 ·(intro w' hw';(try dsimp only at hw');(try have hw1:=hw'.1);(try have hw2:=hw'.2);go_simp;try with_reducible rfl)
 clear hcl hS;intro hcl hS
 (try simp only[Act.put,lsT,lsS,lsZ])
 refine wtg 1 (T:=(fun w'=>w'.cell? ⟨w.heap.size,3,none⟩=some (.slice A 0 c))) ?_ rfl (fun _ _ hc hi hS=>hS.1 (hc.not (k:=10) kr hi)) ?_ hcl hS ?_;rotate_left
 ·(intro w' hw';(try dsimp only at hw');(try have hw1:=hw'.1);(try have hw2:=hw'.2);go_simp;try with_reducible rfl)
 clear hcl hS;intro hcl hS
 (try simp only[Act.put,lsT,lsS,lsZ])
 refine wtg 3 (T:=(fun _=>True)) ?_ rfl (fun _ _ _ _ _=>trivial) ?_ hcl hS ?_;rotate_left
 ·(intro w' hw';(try dsimp only at hw');(try have hw1:=hw'.1);(try have hw2:=hw'.2);go_simp;try with_reducible rfl)
 clear hcl hS;intro hcl hS
 (try simp only[Act.put,lsT,lsS,lsZ])
 refine wtg 4 (T:=(fun w'=>w'.cell? ⟨w.heap.size,1,none⟩=some (.int .i64 t)∧rowQ w' (w.heap.size+1) 0 44=some (acnR a))) ?_ rfl (fun _ _ _ _ hS=>hS.2.2) ?_ hcl hS ?_;rotate_left
 ·(intro w' hw';(try dsimp only at hw');(try have hw1:=hw'.1);(try have hw2:=hw'.2);go_simp;try with_reducible rfl)
 clear hcl hS;intro hcl hS
 (try simp only[Act.put,lsT,lsS,lsZ])
 refine wtg 5 (T:=(fun w'=>w'.cell? ⟨w.heap.size,1,none⟩=some (.int .i64 t)∧rowQ w' (w.heap.size+1) 0 44=some (acnR a))) ?_ rfl (fun _ _ _ _ hS=>hS.2.2) ?_ hcl hS ?_;rotate_left
 ·(intro w' hw';(try dsimp only at hw');(try have hw1:=hw'.1);(try have hw2:=hw'.2);go_simp;try with_reducible rfl)
 clear hcl hS;intro hcl hS
 (try simp only[Act.put,lsT,lsS,lsZ])
 refine wtg 6 (T:=(fun _=>True)) ?_ rfl (fun _ _ _ _ _=>trivial) ?_ hcl hS ?_;rotate_left
 ·(intro w' hw';(try dsimp only at hw');(try have hw1:=hw'.1);(try have hw2:=hw'.2);go_simp;try with_reducible rfl)
 clear hcl hS;intro hcl hS
 (try simp only[Act.put,lsT,lsS,lsZ])
 refine zdE (i:=2) (j:=7) kr rfl rfl rfl rfl hcl (fun K hK=> ?_) (fun K hK=> ?_)
 ·go_simp;go_at_call 103;refine(zlB _ _ _ ([]:List Rec) _ rfl (HS.out.sl.mono ex) (by first|omega|simp)).mono ?_;rintro e w' ⟨D,n',rfl,hx,hown⟩;have HO:=zh hown;obtain⟨yc,rfl⟩:=hx.get;clear hx hown;clear hS hcl;refine hK _ _ ⟨fun _=>by simp[go_sem],fun _=>trivial,by simp[go_sem],by simp[go_sem]⟩ (fun hcl hS=> ?_);clear hK;refine za9 (i:=7) kr rfl rfl hcl (fun K hK=> ?_);go_simp;clear hS hcl;refine hK _ _ ⟨fun _=>by simp[go_sem],fun _=>trivial,by simp[go_sem],by simp[go_sem]⟩ (fun hcl hS=> ?_);clear hK
  first|refine zls (recR ⟨t,a⟩) rfl (fun HB0=> ?_)|refine zj2 (recR ⟨t,a⟩) rfl (fun HB0=> ?_)
  have HB:=zh HB0;clear HB0;refine za9 (i:=8) kr rfl rfl hcl (fun K hK=> ?_);refine ziM (F:=False) rfl ?_;(refine zbP (w0:=((w.alloc (.cells #[id,t,.bool true,.slice A 0 c,ak,nx] 24)).alloc (.cells (acnR a).toArray 99)).alloc (.cells Zn 24)) rfl _ _ 22 22 rfl 180 180 45 552 underlying22 underlying22 zmT dk ex _ 0 _ (([]:List Rec).map recR) (by rfl) (Own.older (HO.out.mono ex) ex) _ 1 1 [recR ⟨t,a⟩] (by rfl) ((HB.out _ sg).mono ex) rfl (zgK _) (by unfold maxLen;omega) om (0+1) rfl (([]:List Rec).map recR++[recR ⟨t,a⟩]) rfl ?_;intro D1 c1 w1 hx1 hown hg hA;have HO1:=zh hown;obtain⟨y1,rfl⟩:=hx1.get;clear hown hx1 hg hA);clear hS hcl;refine hK _ _ ⟨fun _=>by simp[go_sem],fun _=>trivial,by simp[go_sem],by simp[go_sem]⟩ (fun hcl hS=> ?_);clear hK;refine wtg 9 (T:=(fun _=>True)) ?_ rfl (fun _ _ _ _ _=>trivial) ?_ hcl hS ?_;rotate_left
  ·(intro w' hw';(try dsimp only at hw');(try have hw1:=hw'.1);(try have hw2:=hw'.2);go_simp;try with_reducible rfl)
  clear hcl hS;intro hcl hS
  (try simp only[Act.put,lsT,lsS,lsZ])
  refine za9 (i:=10) kr rfl rfl hcl (fun K hK=> ?_);go_simp;clear hS hcl;refine hK _ _ ⟨fun hh=>absurd hh dk,fun _=>trivial,by simp[go_sem],by simp[go_sem]⟩ (fun hcl hS=> ?_);clear hK hcl hS;refine zas kr ?_ _;go_wp2_with fail;refine bodyPost_ret (v:=.tuple #[.agg #[id,t,.bool true,.slice D1 (0+1) c1,ak,nx],zI]) (by simp[results,results70,go_sem]) rfl ?_;rw[H4.out];have HO9:=HO1.out;rw[show List.map recR []++[recR ⟨t,a⟩]=(actN (⟨id,t,true,[],ak,nx⟩:Nod) a).log.map recR by simp[actN]] at HO9;exact⟨D1,c1,by first|(simp[actN];done)|simp[actN,HSp.out],ex,Own.recs (Own.along HO9 ex sg) (by simp[actN]) (fun r hr=>(HEl.out r hr).mono ex)⟩
 ·go_simp;clear hS hcl;refine hK _ _ ⟨fun _=>by simp[go_sem],fun _=>trivial,by simp[go_sem],by simp[go_sem]⟩ (fun hcl hS=> ?_);clear hK
  first|refine zls (recR ⟨t,a⟩) rfl (fun HB0=> ?_)|refine zj2 (recR ⟨t,a⟩) rfl (fun HB0=> ?_)
  have HB:=zh HB0;clear HB0;refine za9 (i:=2) kr rfl rfl hcl (fun K hK=> ?_);go_simp;go_at_call 103;refine(zlB _ _ _ ([]:List Rec) _ rfl (HS.out.sl.mono ex) (by first|omega|simp)).mono ?_;rintro e w' ⟨D,n',rfl,hx,hown⟩;have HO:=zh hown;obtain⟨yc,rfl⟩:=hx.get;clear hx hown;clear hS hcl;refine hK _ _ ⟨fun _=>by simp[go_sem],fun _=>trivial,by simp[go_sem],by simp[go_sem]⟩ (fun hcl hS=> ?_);clear hK;refine za9 (i:=8) kr rfl rfl hcl (fun K hK=> ?_);refine ziM (F:=False) rfl ?_;(refine zbP (w0:=((w.alloc (.cells #[id,t,.bool true,.slice A 0 c,ak,nx] 24)).alloc (.cells (acnR a).toArray 99)).alloc (.cells Zn 24)) rfl _ _ 22 22 rfl 180 180 45 552 underlying22 underlying22 zmT dk ex _ 0 _ (([]:List Rec).map recR) (by rfl) (Own.older (HO.out.mono ex) ex) _ 1 1 [recR ⟨t,a⟩] (by rfl) ((HB.out _ sg).mono ex) rfl (zgK _) (by unfold maxLen;omega) om (0+1) rfl (([]:List Rec).map recR++[recR ⟨t,a⟩]) rfl ?_;intro D1 c1 w1 hx1 hown hg hA;have HO1:=zh hown;obtain⟨y1,rfl⟩:=hx1.get;clear hown hx1 hg hA);clear hS hcl;refine hK _ _ ⟨fun _=>by simp[go_sem],fun _=>trivial,by simp[go_sem],by simp[go_sem]⟩ (fun hcl hS=> ?_);clear hK;refine wtg 9 (T:=(fun _=>True)) ?_ rfl (fun _ _ _ _ _=>trivial) ?_ hcl hS ?_;rotate_left
  ·(intro w' hw';(try dsimp only at hw');(try have hw1:=hw'.1);(try have hw2:=hw'.2);go_simp;try with_reducible rfl)
  clear hcl hS;intro hcl hS
  (try simp only[Act.put,lsT,lsS,lsZ])
  refine za9 (i:=10) kr rfl rfl hcl (fun K hK=> ?_);go_simp;clear hS hcl;refine hK _ _ ⟨fun hh=>absurd hh dk,fun _=>trivial,by simp[go_sem],by simp[go_sem]⟩ (fun hcl hS=> ?_);clear hK hcl hS;refine zas kr ?_ _;go_wp2_with fail;refine bodyPost_ret (v:=.tuple #[.agg #[id,t,.bool true,.slice D1 (0+1) c1,ak,nx],zI]) (by simp[results,results70,go_sem]) rfl ?_;rw[H4.out];have HO9:=HO1.out;rw[show List.map recR []++[recR ⟨t,a⟩]=(actN (⟨id,t,true,[],ak,nx⟩:Nod) a).log.map recR by simp[actN]] at HO9;exact⟨D1,c1,by first|(simp[actN];done)|simp[actN,HSp.out],ex,Own.recs (Own.along HO9 ex sg) (by simp[actN]) (fun r hr=>(HEl.out r hr).mono ex)⟩
theorem zgl:Calls prog 70 #[.agg (Ln n A c),.agg (acnR a).toArray] w (zaH w (actV n a)):=by
 by_cases h:nodE n=0
 ·cases h1:n.speaks with
  |false=>have:=zEV n A c a w hs h h1;rwa [h1] at this
  |true=>
   rw[←h1];by_cases h2:acnE a=0
   ·cases h3:early n.log a with
    |true=>exact zEX n A c a w hs ha h h1 h2 h3
    |false=>
     by_cases hpos:0<n.log.length
     ·exact zBW n A c a w hs ha h h1 h2 h3 hpos
     ·exact zBV n A c a w hs ha h h1 h2 h3 hpos
   ·exact zEW n A c a w hs ha h h1 h2
 ·exact zEU n A c a w hs h
end
