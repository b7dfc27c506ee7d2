import Derived.Test.YtnpdghjpcnjokaaGreatGrpe
set_option maxHeartbeats 6400000
set_option maxRecDepth 100000
set_option linter.all false
namespace Go.Proofs.YtnpdghjpcnjokaaGreat
open Go.RowKit Go.Proofs.Tryz

theorem zwG (x y:Rec)(b:Bool)(hb:decide (x.term=y.term)=b)(w:World):Calls prog 215 #[.agg (recR x).toArray,.agg (recR y).toArray] w fun e w'=>e=.returned (.bool b)∧Ext w w':=by have HB:=zh hb;clear hb;go_enter func215,ntmps215;go_wp2;go_ret;exact⟨ret_b HB.out,ex⟩
theorem ztp {l r:List Rec}{k:Nat}(h1:k≤l.length)(h2:k≤r.length)(h:∀i,i<k→(l[i]?).map (·.term)=(r[i]?).map (·.term))(h3:k=l.length∨k=r.length∨(l[k]?).map (·.term)≠(r[k]?).map (·.term)):keepN l r=k:=by
 have hg:=ziG l r k h1 h2 h;have hl:=zcy l r;refine Nat.le_antisymm (Nat.not_lt.1 fun hlt=> ?_) hg;rcases h3 with h3|h3|h3
 ·omega
 ·omega
 ·exact h3 (ze8 l r k hlt)
theorem zF7 {l r:List Rec}{k:Nat}{x y:Rec}(h:∀i,i<k→(l[i]?).map (·.term)=(r[i]?).map (·.term))(hx:l[k]?=some x)(hy:r[k]?=some y)(he:x.term=y.term):∀i,i<k+1→(l[i]?).map (·.term)=(r[i]?).map (·.term):=fun i hi=>by
 by_cases h0:i<k
 ·exact h i h0
 ·obtain rfl:i=k:=by omega
  rw[hx,hy];simp[he]
theorem zgY (A:Option Addr)(c n:Nat)(l:List Rec)(hn:l.length=n)(B:Option Addr)(d k:Nat)(r:List Rec)(hk:r.length=k)(w:World)(h1:za3 w A c l)(h2:za3 w B d r):
  Calls prog 140 #[.slice A n c,.slice B k d,.func (Fn.func 215) #[] #[]] w fun e w'=>e=.returned (.int .i64 (keepN l r:Nat))∧Ext w w':=by
 subst hn hk;have hl1:=h1.len;have hl2:=h2.len;have H1:=zh h1;have H2:=zh h2;clear h1 h2;go_enter func140,ntmps140;go_wp2;go_loopw [7] (fun i wr=> ∃k:Nat,k≤l.length∧k≤r.length∧i=.int .i64 k∧Ext w wr∧Hid (∀i,i<k→(l[i]?).map (·.term)=(r[i]?).map (·.term))) (fun i _=>l.length - (intOf i).toNat)
 case atStart => exact ⟨0,by omega,by omega,rfl,Ext.refl _,zh om⟩
 case round =>
  obtain⟨k,hk1,hk2,rfl,hx,HE⟩:=hrel;obtain⟨y0,rfl⟩:=hx.get;clear hx;by_cases hlt1:k<l.length
  ·by_cases hlt2:k<r.length
   ·obtain⟨x,hx⟩:∃x,l[k]?=some x:=⟨_,List.getElem?_eq_getElem hlt1⟩
    obtain⟨z,hz⟩:∃z,r[k]?=some z:=⟨_,List.getElem?_eq_getElem hlt2⟩
    obtain⟨b1,o1,rfl,hr1,-⟩:=H1.out.get hx;obtain⟨b2,o2,rfl,hr2,-⟩:=H2.out.get hz;have hq1:=hr1.row;have hq2:=hr2.row;have hb0:(0:Int)≤(k:Int):=by omega
    have hb1:(k:Int)<(l.length:Int):=by omega
    have hb2:(k:Int)<(r.length:Int):=by omega
    have hw:IntKind.i64.wrap ((k:Int)+1)=(k:Int)+1:=IntWalk.i64_in _ om;clear hr1 hr2;by_cases he:x.term=z.term
    ·have HM:=zh (zF7 HE.out hx hz he);have HT:=zh (decide_eq_true he);clear hx hz he hw;go_wp2;(refine zcL kr kr ?_;(repeat(go_big_quiet_step ((go_at_call 215;exact Calls.grows (zwG x z true HT.out _)))));refine wqN fun y=>?_);go_wp2;go_light;exact⟨⟨k+1,by omega,by omega,by go_num,ex,HM⟩,by simp[intOf];omega⟩
    ·have HV:=zh (ztp hk1 hk2 HE.out (.inr (.inr (by rw[hx,hz];simpa using he))));have HT:=zh (decide_eq_false he);clear hx hz he hw;go_wp2;(refine zcL kr kr ?_;(repeat(go_big_quiet_step ((go_at_call 215;exact Calls.grows (zwG x z false HT.out _)))));refine wqN fun y=>?_);go_wp2;go_ret;exact⟨ret_i (by rw[HV.out]),ex⟩
   ·have HV:=zh (ztp hk1 hk2 HE.out (.inr (.inl om)));have hb1:(k:Int)<(l.length:Int):=by omega
    have hd:decide (k<r.length)=false:=decide_eq_false hlt2;go_wp2;(refine zcL kr kr ?_;(repeat(go_big_quiet_step (fail)));refine wqN fun y=>?_);go_wp2;go_ret;exact⟨ret_i (by rw[HV.out]),ex⟩
  ·have HV:=zh (ztp hk1 hk2 HE.out (.inl om));have hd:decide (k<l.length)=false:=decide_eq_false hlt1;go_wp2;(refine zcL kr kr ?_;(repeat(go_big_quiet_step (fail)));refine wqN fun y=>?_);go_wp2;go_ret;exact⟨ret_i (by rw[HV.out]),ex⟩

theorem Grow_R (n:Nat)(w:World)(hn:n≤100000):Calls prog 244 #[.slice none 0 0,n] w (zxS w 0 []):=by
 by_cases h0:0<n
 ·obtain⟨I,z,e1,e2,e3,e4,e5⟩:=zci zmT;have hrun:=Lib.run_append_nil_zeros (P:=prog) w 22 3 22 180 I z .i64 .i64 underlying22 underlying3 e1 e2 n h0 om om (by rw[e4];omega);obtain⟨K,hK⟩:∃K,grownCap w n 0 180 =K:=⟨_,rfl⟩
  have hKn:n≤K:=by rw[←hK];exact grownCap_ge _ _ _ _
  have hKm:K≤maxLen:=by rw[←hK];exact grownCap_le_maxLen _ _ _ _ (by unfold maxLen;omega)
  obtain⟨cur,hcur⟩:∃cur:Array Value,Builtin.zeroCells z.cells n++Builtin.zeroCells z.cells (K - n)=cur:=⟨_,rfl⟩
  have hsz:cur.size=K * 45:=by rw[←hcur,Array.size_append,size_zeroCells,size_zeroCells,e5,←Nat.add_mul];congr 1;omega
  rw[hK,hcur] at hrun;have HR:=zh hrun
  have HO:Hid (Own w (w.drew.alloc (.cells cur 180)) 180 45 (some ⟨w.heap.size,0,none⟩) 0 K []):=
   zh ⟨rfl,by simp,by simp,Nat.zero_le _,hKm,.inr ⟨w.heap.size,cur,rfl,Nat.le_refl _,heap_alloc_new w.drew _,hsz,by simp⟩⟩
  clear hrun hK hcur hsz e1 e2 e3 e4 e5 hKm;go_enter func244,ntmps244;go_wp2_with (refine Lib.wpList_append_run _ rfl (.tmp 20) (.tmp 21) 22 3 rfl _ _ rfl rfl _ _ HR.out ?_);go_ret;exact⟨_,_,rfl,ex,HO.out⟩
 ·obtain rfl:n=0:=by omega
  go_enter func244,ntmps244;go_wp2;go_ret;exact⟨none,0,rfl,ex,Own.nil _⟩
theorem zzz (g:Nat) (A1:Option Addr) (n1 c1:Nat) (l1:List Rec) (A2:Option Addr) (n2 c2:Nat) (l2:List Rec) (w:World) (hc0:w.cell? ⟨g,0,none⟩=some (.slice A1 n1 c1)) (hc1:w.cell? ⟨g,1,none⟩=some (.slice A2 n2 c2))
  (h1:Sl w A1 45 (l1.map recR)) (h2:Sl w A2 45 (l2.map recR)) (hn1:l1.length=n1) (hn2:l2.length=n2) (hb1:n1≤1000) (hb2:n2≤1000):
  Calls prog 216 #[.slice (some ⟨g,0,none⟩) 2 2] w (zxS w (n1+n2) (l1++l2)):=by
 have H1:=zh h1;have H2:=zh h2;have HN1:=zh hn1;have HN2:=zh hn2;clear h1 h2 hn1 hn2;go_enter func216,ntmps216;go_wp2
 go_loop [3,11] (fun s i=>(i=.int .i64 0∧s=.int .i64 0)∨(i=.int .i64 1∧s=.int .i64 n1)∨(i=.int .i64 2∧s=.int .i64 ((n1:Int)+n2))) (fun _ i=>2 - (intOf i).toNat)
 case atStart => exact .inl ⟨rfl,rfl⟩
 case round =>
  rcases hrel with⟨rfl,rfl⟩|⟨rfl,rfl⟩|⟨rfl,rfl⟩
  ·go_wp2;go_round
   case rel => exact .inr (.inl ⟨rfl,rfl⟩)
   case measure => simp [intOf]
  ·go_wp2;go_round
   case rel => exact .inr (.inr ⟨rfl,rfl⟩)
   case measure => simp [intOf]
  ·go_wp2_with (go_at_call 244;refine(Grow_R (n1+n2) _ om).mono ?_;rintro e w' ⟨D,n',rfl,hx,hown⟩;have HO:=zh hown;obtain⟨yc,rfl⟩:=hx.get;clear hx hown);go_loopw [6,27] (fun v i wr=>(i=.int .i64 0∧∃D K,v=.slice D 0 K∧Ext w wr∧Hid (Own w wr 180 45 D 0 K []))∨(i=.int .i64 1∧∃D K,v=.slice D n1 K∧Ext w wr∧Hid (Own w wr 180 45 D n1 K (l1.map recR)))∨(i=.int .i64 2∧∃D K,v=.slice D (n1+n2) K∧Ext w wr∧Hid (Own w wr 180 45 D (n1+n2) K ((l1++l2).map recR)))) (fun _ i _=>2 - (intOf i).toNat)
   case atStart => exact .inl ⟨rfl,D,n',rfl,ex,HO⟩
   case round =>
    clear HO;rcases hrel with⟨rfl,D,K,rfl,hx,HOW⟩|⟨rfl,D,K,rfl,hx,HOW⟩|⟨rfl,D,K,rfl,hx,HOW⟩
    ·obtain⟨y,rfl⟩:=hx.get;clear hx;go_wp2_with (at_builtin;refine za6 (w0:=w) rfl _ _ 22 22 rfl 180 180 45 552 underlying22 underlying22 zmT dk ex D 0 K [] rfl (HOW.out.mono ex) _ n1 _ (l1.map recR) rfl (H1.out.mono ex) (by rw[List.length_map];exact HN1.out) (zij _) (by unfold maxLen;omega) om n1 om (l1.map recR) (by simp) ?_;intro D2 K2 w2 hx2 hown hg hA;have HO2:=zh hown;obtain⟨y2,rfl⟩:=hx2.get;clear hown hx2 hg hA);go_light;exact⟨.inr (.inl ⟨rfl,D2,K2,rfl,ex,HO2⟩),by simp[intOf]⟩
    ·obtain⟨y,rfl⟩:=hx.get;clear hx;go_wp2_with (at_builtin;refine za6 (w0:=w) rfl _ _ 22 22 rfl 180 180 45 552 underlying22 underlying22 zmT dk ex D n1 K (l1.map recR) rfl (HOW.out.mono ex) _ n2 _ (l2.map recR) rfl (H2.out.mono ex) (by rw[List.length_map];exact HN2.out) (zij _) (by unfold maxLen;omega) om (n1+n2) om ((l1++l2).map recR) (by simp) ?_;intro D2 K2 w2 hx2 hown hg hA;have HO2:=zh hown;obtain⟨y2,rfl⟩:=hx2.get;clear hown hx2 hg hA);go_light;exact⟨.inr (.inr ⟨rfl,D2,K2,rfl,ex,HO2⟩),by simp[intOf]⟩
    ·obtain⟨y,rfl⟩:=hx.get;clear hx;go_wp2;go_ret;exact⟨D,K,rfl,ex,HOW.out⟩

theorem zsw {n:Nod}{m:Msg}(h1:m.at_≤n.log.length)(h2:¬(0<m.at_∧zaQ n.log (m.at_ - 1)≠m.before))(h3:keepN (n.log.drop m.at_.toNat) m.recs<m.recs.length∧m.at_+keepN (n.log.drop m.at_.toNat) m.recs<min n.acked n.log.length):takeV n m=(n,msg0,false,19):=by unfold takeV;simp only;rw[if_neg om,if_neg h2,if_pos h3]
theorem zsx {n:Nod}{m:Msg}(h1:m.at_≤n.log.length)(h2:¬(0<m.at_∧zaQ n.log (m.at_ - 1)≠m.before))(h3:¬(keepN (n.log.drop m.at_.toNat) m.recs<m.recs.length∧m.at_+keepN (n.log.drop m.at_.toNat) m.recs<min n.acked n.log.length))(h4:256<(tookL n m).length):takeV n m=(n,msg0,false,5):=by unfold takeV;simp only;rw[if_neg om,if_neg h2,if_neg h3,if_pos h4]
theorem zqC {n:Nod}{m:Msg}(h1:m.at_≤n.log.length)(h2:¬(0<m.at_∧zaQ n.log (m.at_ - 1)≠m.before))(h3:¬(keepN (n.log.drop m.at_.toNat) m.recs<m.recs.length∧m.at_+keepN (n.log.drop m.at_.toNat) m.recs<min n.acked n.log.length))(h4:¬256<(tookL n m).length)(h5:recsE 1 n.term (tookL n m)≠0):takeV n m=(n,msg0,false,9):=by unfold takeV;simp only;rw[if_neg om,if_neg h2,if_neg h3,if_neg h4,if_pos h5]
theorem zsv {n:Nod}{m:Msg}(h1:m.at_≤n.log.length)(h2:¬(0<m.at_∧zaQ n.log (m.at_ - 1)≠m.before))(h3:¬(keepN (n.log.drop m.at_.toNat) m.recs<m.recs.length∧m.at_+keepN (n.log.drop m.at_.toNat) m.recs<min n.acked n.log.length))(h4:¬256<(tookL n m).length)(h5:recsE 1 n.term (tookL n m)=0):takeV n m=(tookN n m,ansM n 1 (m.at_+m.recs.length),true,0):=by unfold takeV;simp only;rw[if_neg om,if_neg h2,if_neg h3,if_neg h4,if_neg (by simpa using h5)];rfl
section
variable (n:Nod) (A:Option Addr) (c:Nat) (m:Msg) (p:Nat) (B:Option Addr) (d:Nat) (w:World) (y0:Gr)
theorem take_far (hp:m.at_=p)(hs:za3 w A c n.log)(h:n.log.length<p):Calls prog 187 #[.pointer (some ⟨w.heap.size,0,none⟩),.agg #[m.kind,m.term,p,m.before,.slice B m.recs.length d,m.acked]] (xt (w.alloc (.cells (Ln n A c) 24)) y0) (zbg w (xt (w.alloc (.cells (Ln n A c) 24)) y0) (takeV n m)):=by have hl:=hs.len;have HS:=zh hs;have HR:=zh (zdp (n:=n) (m:=m) om);clear hs hp;go_enter func187,ntmps187;go_wp2;(refine zcL kr kr ?_;(repeat(go_big_quiet_step (fail)));refine wqN fun y=>?_);go_wp2_with (go_at_call 186;refine zzg (zgN w.heap.size n.term _ _ _ sg) fun y=>?_);refine bodyPost_ret (v:=.tuple #[.agg #[.int .i64 2,n.term,n.log.length,zI,.slice none 0 0,zI],.bool true,zI]) (by simp[results,results187,go_sem]) rfl ?_;exact zbg.of (A:=A) (c:=c) (n:=n) HR.out ex (.inl HS.out)
theorem zCi (hp:m.at_=p)(hs:za3 w A c n.log)(h:p≤n.log.length)(h0:0<p)(r:Rec)(hr:n.log[p - 1]?=some r)(hne:r.term≠m.before):Calls prog 187 #[.pointer (some ⟨w.heap.size,0,none⟩),.agg #[m.kind,m.term,p,m.before,.slice B m.recs.length d,m.acked]] (xt (w.alloc (.cells (Ln n A c) 24)) y0) (zbg w (xt (w.alloc (.cells (Ln n A c) 24)) y0) (takeV n m)):=by
 have hl:=hs.len;have HR:=zh (zc7 (n:=n) (m:=m) om om (by rw[hp,show((p:Int) - 1)=((p - 1:Nat):Int) by omega,zdq hr];exact hne));obtain⟨b,o,rfl,hrec,-⟩:=hs.get hr;have HS:=zh hs;have HP:=zh hp;have ht:=hrec.term;have hz:(r.term !=m.before)=true:=by simpa using hne
 have hd:decide (n.log.length<p)=false:=decide_eq_false om;have hi1:(0:Int)≤(p:Int) - 1:=by omega
 have hi2:(p:Int) - 1<(n.log.length:Int):=by omega
 have hi3:((p:Int) - 1).toNat=p - 1:=by omega
 have hw:IntKind.i64.wrap ((p:Int) - 1)=(p:Int) - 1:=IntWalk.i64_in _ om;clear hs hp hrec hr hne;go_enter func187,ntmps187;go_wp2;(refine zcL kr kr ?_;(repeat(go_big_quiet_step (fail)));refine wqN fun y=>?_);go_wp2;(refine zcL kr kr ?_;(repeat(go_big_quiet_step (fail)));refine wqN fun y=>?_);go_wp2_with (go_at_call 186;refine zzg (zgN w.heap.size n.term _ _ _ sg) fun y=>?_);refine bodyPost_ret (v:=.tuple #[.agg #[.int .i64 2,n.term,.int .i64 ((p:Int) - 1),zI,.slice none 0 0,zI],.bool true,zI]) (by simp[results,results187,go_sem]) rfl ?_;refine zbg.of (A:=some ⟨b,o,none⟩) (c:=c) (n:=n) ?_ ex (.inl HS.out);rw[HR.out,HP.out];rfl
theorem zFr (hp:m.at_=p)(hs:za3 w A c n.log)(hm:za3 w B d m.recs)(h256:n.log.length≤256)(hrl:m.recs.length≤16)(hpl:p≤n.log.length)(h2:¬(0<m.at_∧zaQ n.log (m.at_ - 1)≠m.before))(hg:(0<p∧∃(r:Rec) (b o:Nat),A=some ⟨b,o,none⟩∧w.cell? ⟨b,o+(p - 1) * 45,none⟩=some (.int .i64 r.term)∧(r.term !=m.before)=false)∨¬0<p)(h3:keepN (n.log.drop p) m.recs<m.recs.length)(h4:(p:Int)+keepN (n.log.drop p) m.recs<min n.acked n.log.length):Calls prog 187 #[.pointer (some ⟨w.heap.size,0,none⟩),.agg #[m.kind,m.term,p,m.before,.slice B m.recs.length d,m.acked]] (xt (w.alloc (.cells (Ln n A c) 24)) y0) (zbg w (xt (w.alloc (.cells (Ln n A c) 24)) y0) (takeV n m)):=by
 have hl:=hs.len;have hl2:=hm.len;have hcap:=hs.le;have hcap2:=hm.le;have hd:decide (n.log.length<p)=false:=decide_eq_false om;obtain⟨k,hk⟩:∃k,keepN (n.log.drop p) m.recs=k:=⟨_,rfl⟩
 have hkl:=zcy (n.log.drop p) m.recs;rw[hk,List.length_drop] at hkl;obtain⟨hk1,hk2⟩:=hkl;have hpt:=hs.part p n.log.length (Nat.le_refl _) (n.log.length - p) rfl;rw[List.take_length] at hpt;have HD1:=zh hpt.1;have HD2:=zh hpt.2;have HS:=zh hs;have HM:=zh hm;have HK:=zh hk;have hpn:(0:Int)≤(p:Int):=by omega
 have hpc:(p:Int)≤(n.log.length:Int):=by omega
 have hat:m.at_.toNat=p:=by omega
 have HR:=zh (zsw (n:=n) (m:=m) om h2 (by rw[hat];exact⟨h3,by rw[hp];exact h4⟩));rw[hk] at h3 h4;have hlt:(p:Int)+(k:Int)<min n.acked (n.log.length:Int):=h4;have hdl:decide ((p:Int)+(k:Int)<min n.acked (n.log.length:Int))=true:=decide_eq_true h4;clear hs hm hp hk hpt h2 h4;rcases hg with⟨h0,r,b,o,rfl,ht,hz⟩|h0
 ·have hi1:(0:Int)≤(p:Int) - 1:=by omega
  have hi2:(p:Int) - 1<(n.log.length:Int):=by omega
  have hi3:((p:Int) - 1).toNat=p - 1:=by omega
  have hw:IntKind.i64.wrap ((p:Int) - 1)=(p:Int) - 1:=IntWalk.i64_in _ om;go_enter func187,ntmps187;go_wp2;(refine zcL kr kr ?_;(repeat(go_big_quiet_step (fail)));refine wqN fun y=>?_);go_wp2;(refine zcL kr kr ?_;(repeat(go_big_quiet_step (fail)));refine wqN fun y=>?_);go_wp2;(refine zcL kr kr ?_;(repeat(go_big_quiet_step ((go_at_call 140;exact Calls.grows (zgY _ _ _ (n.log.drop p) HD2.out _ _ _ m.recs rfl _ (HD1.out.mono ex) (HM.out.mono ex))))));refine wqN fun y=>?_);rw[HK.out];go_wp2;(refine zcL kr kr ?_;(repeat(go_big_quiet_step (fail)));refine wqN fun y=>?_);go_wp2;(refine zcL kr kr ?_;(repeat(go_big_quiet_step (fail)));refine wqN fun y=>?_);go_wp2;refine bodyPost_ret (v:=.tuple #[.agg Zm,.bool false,.int .i64 19]) (by simp[results,results187,go_sem]) rfl ?_;exact zbg.of (n:=n) HR.out ex (.inl HS.out)
 ·go_enter func187,ntmps187;go_wp2;(refine zcL kr kr ?_;(repeat(go_big_quiet_step (fail)));refine wqN fun y=>?_);go_wp2;(refine zcL kr kr ?_;(repeat(go_big_quiet_step (fail)));refine wqN fun y=>?_);go_wp2;(refine zcL kr kr ?_;(repeat(go_big_quiet_step ((go_at_call 140;exact Calls.grows (zgY _ _ _ (n.log.drop p) HD2.out _ _ _ m.recs rfl _ (HD1.out.mono ex) (HM.out.mono ex))))));refine wqN fun y=>?_);rw[HK.out];go_wp2;(refine zcL kr kr ?_;(repeat(go_big_quiet_step (fail)));refine wqN fun y=>?_);go_wp2;(refine zcL kr kr ?_;(repeat(go_big_quiet_step (fail)));refine wqN fun y=>?_);go_wp2;refine bodyPost_ret (v:=.tuple #[.agg Zm,.bool false,.int .i64 19]) (by simp[results,results187,go_sem]) rfl ?_;exact zbg.of (n:=n) HR.out ex (.inl HS.out)
end
