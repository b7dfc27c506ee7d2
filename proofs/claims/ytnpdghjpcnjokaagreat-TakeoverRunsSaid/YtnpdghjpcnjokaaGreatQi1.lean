import Derived.Test.YtnpdghjpcnjokaaGreatQh4
set_option linter.all false
namespace Go.Proofs.YtnpdghjpcnjokaaGreat
set_option maxHeartbeats 12800000
set_option maxRecDepth 100000
open Go.RowKit Go.Proofs.Tryz

def Stab.evl (l:List Evt):Stab:=⟨fun x W=> ∃A k,x=.slice A l.length k∧zbR W A k l,fun _ _ _ hx ⟨A,k,e,h⟩=>⟨A,k,e,h.mono hx⟩⟩
theorem filter_takeE {p:Evt→Bool}{l:List Evt}{k:Nat}{x:Evt}(h:l[k]?=some x):(l.take (k+1)).filter p=if p x=true then(l.take k).filter p++[x] else(l.take k).filter p:=zdi h
theorem Sl.awayG {W V:World}{row:Option Nat}{M:Option Addr}{xs:List (Ltr×Option Addr×Nat)}(h:Sl W M 8 (xs.map ltrR))(hg:W.grownBy V row)(ha:∀g,row=some g→Away g M xs):Sl V M 8 (xs.map ltrR):=
 ⟨fun i r hr=>by
  obtain⟨h1,b,o,h2,h3⟩:=h.at_ i r hr;refine⟨h1,b,o,h2,fun j v hv=> ?_⟩;have hc:=h3 j v hv;have hlt:b<W.heap.size:=World.block_lt_of_cell? W _ hc;have hne:some b≠row:=fun e=>by
   rcases ha b e.symm with h|h
   ·subst h;simp at hr
   ·exact h _ h2 rfl
  rw[World.cell?_of_block (hg.block b hlt hne)];exact hc⟩
theorem TW.mono {w0 W V V':World}{z:Nat}{M:Option Addr}{xs:List (Ltr×Option Addr×Nat)}{v:Wld}{A1 B1 N1:Option Addr}{a1 b1 n1:Nat}{ys:List (Ltr×Option Addr×Nat)}(h:TW w0 W z M xs V v A1 a1 B1 b1 N1 n1 ys)(hx:Ext V V'):TW w0 W z M xs V' v A1 a1 B1 b1 N1 n1 ys:=⟨h.ext.trans hx,h.box.mono hx,fun e=>(h.res e).mono hx,Nat.le_trans h.size hx.size,h.ww.mono hx,h.far,h.aw⟩
theorem TW.grown {w0 W V V':World}{M:Option Addr}{xs:List (Ltr×Option Addr×Nat)}{v:Wld}{A1 B1 N1 O:Option Addr}{a1 b1 n1:Nat}{ys:List (Ltr×Option Addr×Nat)}{T1 T2:TypeId}(h:TW w0 W 1 M xs V v A1 a1 B1 b1 N1 n1 ys)(hx0:Ext w0 W)(hs:Stay T1 T2 V V')(hg:V.grownBy V' (O.map (·.block)))(hO:∀p,O=some p→W.heap.size<p.block∧Away p.block N1 ys)(hx:Ext W V'):TW w0 W 1 M xs V' v A1 a1 B1 b1 N1 n1 ys:=by
 have hw:=h.size;have hrow:∀g,O.map (·.block)=some g→W.heap.size<g∧Away g N1 ys:=fun g e=>by
  cases O with
  |none=>cases e
  |some p=>simp only[Option.map_some,Option.some.injEq] at e;subst e;exact hO p rfl
 have hsz:=hg.size;refine⟨hx,?_,(fun e=>by cases e),by omega,⟨hx0.trans hx,hs.logw h.ww.qa,hs.logw h.ww.qb,h.ww.sl.awayG hg (fun g e=>(hrow g e).2),h.ww.le,h.ww.cap,h.ww.is,fun x hm=>hs.logw (h.ww.el x hm)⟩,h.far,h.aw⟩;have hb:=h.box;unfold BoxAt at hb ⊢
 rw[hg.block _ om fun e=> ?_]
 ·exact hb
 ·have:=(hrow _ e.symm).1;omega
section
variable {w:Wld} {W:World} {A B M:Option Addr} {c d k:Nat} {xs:List (Ltr×Option Addr×Nat)} {E:Option Addr} {ce:Nat} {l:List Evt}
theorem r55_at (hs:zbR W E ce l)(hll:l.length≤1000000)(t:Int):Calls prog 62 #[.slice E l.length ce,t] W fun e W'=> ∃D K,e=.returned (.slice D (atL l t).length K)∧Ext W W'∧zbR W' D K (atL l t):=by
 have HS:=zh hs;clear hs;go_enter func62,ntmps62;go_wp2;go_loopw [6,5] (fun i y wr=> ∃j:Nat,j≤l.length∧i=.int .i64 j∧Ext W wr∧∃Y ky ys,y=.slice Y ys.length ky∧Hid (ys=atL (l.take j) t)∧Hid (Own W wr 133 48 Y ys.length ky (ys.map evtR))) (fun i _ _=>l.length - (intOf i).toNat)
 case atStart => exact ⟨0,by omega,rfl,Ext.refl _,none,0,[],rfl,zh rfl,zh (Own.nil _)⟩
 case round =>
  obtain⟨j,hj,rfl,hx,Y,ky,ys,rfl,HE,HO⟩:=hrel;obtain⟨y0,rfl⟩:=hx.get;clear hx;by_cases hlt:j<l.length
  ·obtain⟨m,hm⟩:∃m,l[j]?=some m:=⟨_,List.getElem?_eq_getElem hlt⟩
   obtain⟨b,o,rfl,hrec,-⟩:=HS.out.get hm;have hb0:(0:Int)≤(j:Int):=by omega
   have hb1:(j:Int)<(l.length:Int):=by omega
   have hr1:=hrec.row;have ht1:=hrec.tick;have hyl:ys.length≤1000000:=by rw[HE.out];exact Nat.le_trans (List.length_filter_le _ _) (by rw[List.length_take];omega)
   have HK:=zh hm;clear hrec hm;by_cases hd:m.tick=t
   ·have hz:(m.tick==t)=true:=by simpa using hd
    have HD:=zh (show decide (m.tick=t)=true from decide_eq_true hd);clear hd;go_wp2_with (at_builtin;refine za6 (w0:=W) rfl _ _ 58 58 rfl 133 133 48 576 underlying58 underlying58 info_V dk ex Y ys.length ky (ys.map evtR) rfl (HO.out.mono ex) _ 1 1 [evtR m] rfl (Sl.alloc' sg (by simp) (by simp[zcm])) rfl (zdh [m]) (by unfold maxLen;omega) om (ys.length+1) rfl ((ys++[m]).map evtR) (by rw[List.map_append];rfl) ?_;intro D2 K2 w2 hx2 hown hg hA;have HO2:=zh hown;obtain⟨y2,rfl⟩:=hx2.get;clear hown hx2 hg hA);go_light;exact⟨⟨j+1,by omega,by go_num,ex,D2,K2,ys++[m],by rw[List.length_append];rfl,zh (by unfold atL;rw[filter_takeE HK.out,if_pos HD.out,HE.out];rfl),by rw[List.length_append];exact HO2⟩,by simp[intOf];omega⟩
   ·have hz:(m.tick==t)=false:=by simpa using hd
    have HD:=zh (show decide (m.tick=t)=false from decide_eq_false hd);clear hd;go_wp2;go_light;exact⟨⟨j+1,by omega,by go_num,ex,Y,ky,ys,rfl,zh (by unfold atL;rw[filter_takeE HK.out,if_neg (by rw[HD.out];simp),HE.out];rfl),HO⟩,by simp[intOf];omega⟩
  ·have HL:=zh (show ys=atL l t by rw[HE.out,List.take_of_length_le om]);go_wp2;go_ret;have ho:=HO.out;rw[HL.out] at ho ⊢
   exact⟨Y,ky,rfl,ex,ho.sl,ho.le,ho.cap,fun x hx=>(HS.out.el x (List.mem_filter.1 hx).1).mono ex⟩
theorem r55_given_1 (h:WldAt W w A c B d M k xs)(hs:zbR W E ce l)(t:Int)(h1:wldE w≠0):Calls prog 61 #[.agg (Lw w A c B d M k),.slice E l.length ce,t] W fun e W'=>e=.returned (.int .i64 (gaveE w l t))∧Ext W W':=by
 have HV:=zh (show gaveE w l t=wldE w by unfold gaveE;rw[if_pos h1]);have hla:=h.a.len;have hlb:=h.b.len;have hll:=hs.len;have hml:w.mail.length≤9223372036854775807:=by have h1:=h.mail.le;have h2:=h.mail.cap;rw[h.len] at h1;unfold maxLen at h2;omega
 have HCK:=zh (fun(X:World) (hx:Ext W X)=>by have:=zHp (h.mono hx);exact this);have hz:(wldE w !=0)=true:=by simpa using h1
 clear h hs h1;go_enter func61,ntmps61;go_wp2_with (first|(go_at_call 15;refine(HCK.out _ ex).mono ?_;rintro e w9 ⟨rfl,hx⟩;obtain⟨ya,rfl⟩:=hx.get;clear hx));go_ret;exact⟨ret_i HV.out.symm,ex⟩
theorem r55_given_2 (h:WldAt W w A c B d M k xs)(hs:zbR W E ce l)(t:Int)(h1:wldE w=0)(h2:evtsE l≠0):Calls prog 61 #[.agg (Lw w A c B d M k),.slice E l.length ce,t] W fun e W'=>e=.returned (.int .i64 (gaveE w l t))∧Ext W W':=by
 have HV:=zh (show gaveE w l t=evtsE l by unfold gaveE;rw[if_neg (by rw[h1];simp),if_pos h2]);have hla:=h.a.len;have hlb:=h.b.len;have hll:=hs.len;have hml:w.mail.length≤9223372036854775807:=by have h1:=h.mail.le;have h2:=h.mail.cap;rw[h.len] at h1;unfold maxLen at h2;omega
 have HCK:=zh (fun(X:World) (hx:Ext W X)=>by have:=zHp (h.mono hx);rwa [h1] at this);have HRT:=zh (fun(X:World) (hx:Ext W X)=>by have:=zEF E ce l X (hs.mono hx);exact this);have hz:(evtsE l !=0)=true:=by simpa using h2
 clear h hs h1 h2;go_enter func61,ntmps61;go_wp2_with (first|(go_at_call 15;refine(HCK.out _ ex).mono ?_;rintro e w9 ⟨rfl,hx⟩;obtain⟨ya,rfl⟩:=hx.get;clear hx)|(go_at_call 17;refine(HRT.out _ ex).mono ?_;rintro e w9 ⟨rfl,hx⟩;obtain⟨yb,rfl⟩:=hx.get;clear hx));go_ret;exact⟨ret_i HV.out.symm,ex⟩
theorem r55_given_3 (h:WldAt W w A c B d M k xs)(hs:zbR W E ce l)(t:Int)(h1:wldE w=0)(h2:evtsE l=0)(h3:za5 t 0 4096=false):Calls prog 61 #[.agg (Lw w A c B d M k),.slice E l.length ce,t] W fun e W'=>e=.returned (.int .i64 (gaveE w l t))∧Ext W W':=by
 have HV:=zh (show gaveE w l t=2 by unfold gaveE;have:=zaF h3;rw[if_neg (by rw[h1];simp),if_neg (by rw[h2];simp),if_pos om]);have hla:=h.a.len;have hlb:=h.b.len;have hll:=hs.len;have hml:w.mail.length≤9223372036854775807:=by have h1:=h.mail.le;have h2:=h.mail.cap;rw[h.len] at h1;unfold maxLen at h2;omega
 have HCK:=zh (fun(X:World) (hx:Ext W X)=>by have:=zHp (h.mono hx);rwa [h1] at this);have HRT:=zh (fun(X:World) (hx:Ext W X)=>by have:=zEF E ce l X (hs.mono hx);rwa [h2] at this);have H3:=zh h3;clear h hs h1 h2 h3;go_enter func61,ntmps61;go_wp2_with (first|(go_at_call 15;refine(HCK.out _ ex).mono ?_;rintro e w9 ⟨rfl,hx⟩;obtain⟨ya,rfl⟩:=hx.get;clear hx)|(go_at_call 17;refine(HRT.out _ ex).mono ?_;rintro e w9 ⟨rfl,hx⟩;obtain⟨yb,rfl⟩:=hx.get;clear hx)|(go_at_call 36;refine(zbp _ _ _ _).mono ?_;rintro e w' ⟨he,rfl⟩;simp only[H3.out] at he;subst he));go_ret;exact⟨ret_i HV.out.symm,ex⟩
theorem r55_given_4 (h:WldAt W w A c B d M k xs)(hs:zbR W E ce l)(t:Int)(h1:wldE w=0)(h2:evtsE l=0)(h3:za5 t 0 4096=true):Calls prog 61 #[.agg (Lw w A c B d M k),.slice E l.length ce,t] W fun e W'=>e=.returned (.int .i64 (gaveE w l t))∧Ext W W':=by
 have hb:=za8 h3;have hok:=(zge w).1 h1;have hn0:=hok.n0;have hn1:=hok.n1;have hw1:IntKind.i64.wrap (w.now+t)=w.now+t:=IntWalk.i64_in _ om;have hla:=h.a.len;have hlb:=h.b.len;have hll:=hs.len;have hml:w.mail.length≤9223372036854775807:=by have h1:=h.mail.le;have h2:=h.mail.cap;rw[h.len] at h1;unfold maxLen at h2;omega
 have HCK:=zh (fun(X:World) (hx:Ext W X)=>by have:=zHp (h.mono hx);rwa [h1] at this);have HRT:=zh (fun(X:World) (hx:Ext W X)=>by have:=zEF E ce l X (hs.mono hx);rwa [h2] at this);have H3:=zh h3;clear h hs h3 hok;by_cases h4:1048576<w.now+t
 ·have hd:decide (1048576<w.now+t)=true:=decide_eq_true h4;have HV:=zh (show gaveE w l t=24 by unfold gaveE;rw[if_neg (by rw[h1];simp),if_neg (by rw[h2];simp),if_neg om,if_pos h4]);clear h1 h2 h4;go_enter func61,ntmps61;go_wp2_with (first|(go_at_call 15;refine(HCK.out _ ex).mono ?_;rintro e w9 ⟨rfl,hx⟩;obtain⟨ya,rfl⟩:=hx.get;clear hx)|(go_at_call 17;refine(HRT.out _ ex).mono ?_;rintro e w9 ⟨rfl,hx⟩;obtain⟨yb,rfl⟩:=hx.get;clear hx)|(go_at_call 36;refine(zbp _ _ _ _).mono ?_;rintro e w' ⟨he,rfl⟩;simp only[H3.out] at he;subst he));go_ret;exact⟨ret_i HV.out.symm,ex⟩
 ·have hd:decide (1048576<w.now+t)=false:=decide_eq_false h4;have HV:=zh (show gaveE w l t=0 by unfold gaveE;rw[if_neg (by rw[h1];simp),if_neg (by rw[h2];simp),if_neg om,if_neg h4]);clear h1 h2 h4;go_enter func61,ntmps61;go_wp2_with (first|(go_at_call 15;refine(HCK.out _ ex).mono ?_;rintro e w9 ⟨rfl,hx⟩;obtain⟨ya,rfl⟩:=hx.get;clear hx)|(go_at_call 17;refine(HRT.out _ ex).mono ?_;rintro e w9 ⟨rfl,hx⟩;obtain⟨yb,rfl⟩:=hx.get;clear hx)|(go_at_call 36;refine(zbp _ _ _ _).mono ?_;rintro e w' ⟨he,rfl⟩;simp only[H3.out] at he;subst he));go_ret;exact⟨ret_i HV.out.symm,ex⟩
theorem r55_given (h:WldAt W w A c B d M k xs)(hs:zbR W E ce l)(t:Int):Calls prog 61 #[.agg (Lw w A c B d M k),.slice E l.length ce,t] W fun e W'=>e=.returned (.int .i64 (gaveE w l t))∧Ext W W':=by
 by_cases h1:wldE w=0
 ·by_cases h2:evtsE l=0
  ·cases h3:za5 t 0 4096 with
   |false=>exact r55_given_3 h hs t h1 h2 h3
   |true=>exact r55_given_4 h hs t h1 h2 h3
  ·exact r55_given_2 h hs t h1 h2
 ·exact r55_given_1 h hs t h1
theorem gaveE_ok {T:Int}(h:gaveE w l T=0):WldOk w∧evtsE l=0∧∃n:Nat,T=n∧n≤4096∧w.now+n≤1048576:=by
 unfold gaveE at h;by_cases h1:wldE w=0
 ·rw[if_neg (by rw[h1];simp)] at h;by_cases h2:evtsE l=0
  ·rw[if_neg (by rw[h2];simp)] at h;by_cases h3:T<0∨4096<T
   ·rw[if_pos h3] at h;cases h
   ·rw[if_neg h3] at h;by_cases h4:1048576<w.now+T
    ·rw[if_pos h4] at h;cases h
    ·exact⟨(zge w).1 h1,h2,T.toNat,by omega,by omega,by omega⟩
  ·rw[if_pos h2] at h;exact absurd h h2
 ·rw[if_pos h1] at h;exact absurd h h1
theorem r55_Run_err (h:WldAt W w A c B d M k xs)(hs:zbR W E ce l)(T:Int)(h1:gaveE w l T≠0):Calls prog 23 #[.agg (Lw w A c B d M k),.slice E l.length ce,T] W (RetTk W (runV w l T)):=by
 have HV:=zh (show runV w l T=(wld0,gaveE w l T) by unfold runV;rw[if_pos h1]);have hla:=h.a.len;have hlb:=h.b.len;have hll:=hs.len;have hml:w.mail.length≤9223372036854775807:=by have h1:=h.mail.le;have h2:=h.mail.cap;rw[h.len] at h1;unfold maxLen at h2;omega
 have HGV:=zh (fun(X:World) (hx:Ext W X)=>by have:=r55_given (h.mono hx) (hs.mono hx) T;exact this);have hz:(gaveE w l T !=0)=true:=by simpa using h1
 clear h hs h1;go_enter func23,ntmps23
 go_upto_region 1 with fail
 refine zaG (fun W9 hW9=> ?_);have x9:Ext W W9:=by rw[hW9];exact ex
 have k2:BoxAt W9 W.heap.size (Lw w A c B d M k) 46:=by rw[hW9];exact bxA
 have k4:BoxAt W9 (W.heap.size+1) Zz 46:=by rw[hW9];exact bxA
 have hrw:=k2.row (n:=21) rfl;clear hW9;go_wp2_with (first|(go_at_call 61;refine(HGV.out _ (x9.trans ex)).mono ?_;rintro e w9 ⟨rfl,hx⟩;obtain⟨ya,rfl⟩:=hx.get;clear hx)|(refine zah rfl 46 _ rfl [] rfl ((Zz:List Value).toArray) kr ?_)|(refine za2 rfl 46 (.tmp 6) (.tmp 16) rfl (k4.mono ex) rfl (Zz:List Value) rfl rfl (show 21<44 by decide) kr (cells_one _ rfl) ?_;intro V9 t9 b9));refine bodyPost_ret (v:=.tuple #[.agg (Zz:List Value).toArray,.int .i64 (gaveE w l T)]) (results_W5 (i:=6) (j:=7) (by simp[results23]) rfl rfl b9.range rfl) rfl ?_;exact RetTk.err HV.out (t9.ext (x9.trans ex) om)
theorem r55_Run_go (h:WldAt W w A c B d M k xs)(hs:zbR W E ce l)(T:Int)(h1:gaveE w l T=0):Calls prog 23 #[.agg (Lw w A c B d M k),.slice E l.length ce,T] W (RetTk W (runV w l T)):=by
 obtain⟨hok,he0,n,rfl,hn,hT⟩:=gaveE_ok h1;have hla:=h.a.len;have hlb:=h.b.len;have hll:=hs.len;have hml:w.mail.length≤9223372036854775807:=by have h1:=h.mail.le;have h2:=h.mail.cap;rw[h.len] at h1;unfold maxLen at h2;omega
 have HGV:=zh (fun(X:World) (hx:Ext W X)=>by have:=r55_given (h.mono hx) (hs.mono hx) (n:Int);rwa [h1] at this);have HLL:=zh (show l.length≤1000000 by have:=zfI he0;omega);have HEV:=zh (zei he0);have HES:=zh hs;have HEL:=zh hs.el;have HW:=zh (WldW.of h);have HSQ:=zh (fun(j:Nat) (hj:j≤n)=>zhe (l:=l) (zei he0) hok j om);have HV:=zh (show runV w l (n:Int)=(seqW l w n,0) by unfold runV;rw[if_neg (by rw[h1];simp),Int.toNat_natCast,zu5]);clear h hs h1 hok he0;go_enter func23,ntmps23;go_wp2_with (go_at_call 61;refine(HGV.out _ ex).mono ?_;rintro e w9 ⟨rfl,hx⟩;obtain⟨ya,rfl⟩:=hx.get;clear hx);go_loopw [9] (fun i wr=> ∃j:Nat,j≤n∧i=.int .i64 j∧∃A1 a1 B1 b1 N1 n1 ys1,Hid (TW W W 2 M xs wr (seqW l w j) A1 a1 B1 b1 N1 n1 ys1)) (fun i _=>n - (intOf i).toNat)
 case atStart => exact ⟨0,by omega,rfl,A,c,B,d,M,k,xs,zh ⟨ex,by repeat (first | exact BoxAt.new (by first | rfl | (simp [go_sem];done) | (simp [go_sem];omega)) _ _ | apply BoxAt.xt | apply BoxAt.drew | apply BoxAt.drewN | apply BoxAt.alloc),fun _ => by repeat (first | exact BoxAt.new (by first | rfl | (simp [go_sem];done) | (simp [go_sem];omega)) _ _ | apply BoxAt.xt | apply BoxAt.drew | apply BoxAt.drewN | apply BoxAt.alloc),by simp [go_sem],HW.out.mono ex,fun _ _ h => h,fun g h1 _ => Away.new HW.out.sl h1⟩⟩
 case round =>
  rename_i wr;obtain⟨j,hj,rfl,A1,a1,B1,b1,N1,n1,ys1,HT⟩:=hrel;by_cases hlt:j<n
  ·obtain⟨v,hv⟩:∃v,seqW l w j=v:=⟨_,rfl⟩
   have hsq:=HSQ.out j hj;rw[hv] at HT hsq;obtain⟨uw,hu⟩:∃uw,tickW v (atL l v.now)=uw:=⟨_,rfl⟩
   have HU:=zh hu;have HVU:=zh (show seqW l w (j+1)=uw by show tickW (seqW l w j) (atL l (seqW l w j).now)=uw;rw[hv];exact hu);have HOK:=zh hsq.1;have HNN:=zh (show v.now<1048576 by have:=hsq.2.1;omega);have HAL:=zh (show(∀x∈atL l v.now,AcnAt W x.act)∧(atL l v.now).length≤1000000∧∀x∈atL l v.now,EvtOk x from⟨fun x hx=>HEL.out x (List.mem_filter.1 hx).1,Nat.le_trans (List.length_filter_le _ _) HLL.out,zjj HEV.out _⟩);have hrw:=HT.out.box.row (n:=21) rfl;have f0:=HT.out.box.c 0 rfl;have hb2:(j:Int)<(n:Int):=by omega
   clear hv hu hsq;go_wp2_with fail;refine zGr 6 [] [] [Stab.is (.agg ((Lw v A1 a1 B1 b1 N1 n1):List Value).toArray),Stab.is (.slice E l.length ce),Stab.is (.pointer (some ⟨W.heap.size,0,none⟩)),Stab.is (.int .i64 v.now),Stab.evl (atL l v.now),Stab.retw W wr.heap.size N1 ys1 uw] (fun u=>by(simp only[zc0,List.take_succ_cons,List.take_zero,Act.put,Nat.zero_add,Nat.reduceAdd]);(try simp only[lsT,lsS,lsZ]);exact rfl) kr kr kr (fun _ _ _ _ _ h=>h) ?_ ?_ ?_
   ·intro j9 hj9;cases hj9
   ·refine⟨zs_B0,zs_B0,zs_B0,(zs_B1 2),?_,?_,trivial⟩
    ·refine slb fun u y9 hd=>?_;have e1:u 1=.slice E l.length ce:=hd 1 kr;have e3:u 3=.int .i64 v.now:=hd 3 kr;simp only[e1,e3];refine slr rfl rfl rfl rfl ?_;intro K9 hK;go_simp;go_at_call 62;refine(r55_at (HES.out.mono (HT.out.ext.trans ex)) HLL.out v.now).mono ?_;rintro e w9 ⟨D,K,rfl,hx,he⟩;exact hK _ _ rfl hx ⟨D,K,rfl,he⟩
    ·refine slb fun u y9 hd=>?_;have e0:u 0=.agg ((Lw v A1 a1 B1 b1 N1 n1):List Value).toArray:=hd 0 kr;obtain⟨D4,K4,e4,h4⟩:=hd 4 kr;simp only[e0,e4];refine slr rfl rfl rfl rfl ?_;intro K9 hK;go_simp;go_at_call 58;refine(r55_Ticked_as (w0:=W) (HT.out.ww.mono ex) HOK.out h4.sl HAL.out.1 HAL.out.2.1 HAL.out.2.2 HNN.out HU.out).mono ?_;rintro e w9 ⟨A6,a6,B6,b6,M6,m6,xs6,rfl,hx,hw6,ha6⟩;exact hK _ _ rfl hx ⟨A6,a6,B6,b6,M6,m6,xs6,rfl,hw6,fun g hg h=>ha6 g (by simp[go_sem];omega) h⟩
   ·intro u w2 hx2 hT hdd;obtain⟨t0,t1,t2,t3,t4,t5,-⟩:=hT;obtain⟨y9,rfl⟩:=hx2.get;clear hx2;obtain⟨A6,a6,B6,b6,M6,m6,xs6,e5,hw6,ha6⟩:=t5;clear hdd;simp only[e5];clear e5 t0 t1 t2 t3 t4;simp only[List.drop_succ_cons,List.drop_zero];go_wp2_with (refine za2 rfl 46 (.tmp 3) (.tmp 28) rfl (HT.out.box.mono ex) rfl (Lw uw A6 a6 B6 b6 M6 m6) rfl rfl (show 21<44 by decide) kr (cells_one _ rfl) ?_;intro V1 t1 b1);go_light;exact⟨⟨j+1,by omega,by go_num,A6,a6,B6,b6,M6,m6,xs6,zh (by rw[HVU.out];exact HT.out.step dk (Nat.le_refl _) ex (hw6.mono ex) ha6 t1 b1)⟩,by simp[intOf];omega⟩
  ·obtain rfl:j=n:=by omega
   have hrw:=HT.out.box.row (n:=21) rfl;obtain⟨v,hv⟩:∃v,seqW l w j=v:=⟨_,rfl⟩
   have HVV:=zh hv;rw[hv] at HT hrw;clear hv;go_wp2_with (refine za2 rfl 46 (.tmp 6) (.tmp 29) rfl ((HT.out.res rfl).mono ex) rfl (Lw v A1 a1 B1 b1 N1 n1) rfl rfl (show 21<44 by decide) kr (cells_one _ rfl) ?_;intro V9 t9 b9);refine bodyPost_ret (v:=.tuple #[.agg ((Lw v A1 a1 B1 b1 N1 n1):List Value).toArray,zI]) (results_W5 (i:=6) (j:=7) (by simp[results23]) rfl rfl b9.range rfl) rfl ?_;rw[HV.out,HVV.out];exact⟨A1,a1,B1,b1,N1,n1,ys1,rfl,t9.ext (HT.out.ext.trans ex) om,((HT.out.ww.mono ex).turn t9 om (HT.out.aw _ om om)).at⟩
theorem r55_Run (h:WldAt W w A c B d M k xs)(hs:zbR W E ce l)(T:Int):Calls prog 23 #[.agg (Lw w A c B d M k),.slice E l.length ce,T] W (RetTk W (runV w l T)):=by
 by_cases h1:gaveE w l T=0
 ·exact r55_Run_go h hs T h1
 ·exact r55_Run_err h hs T h1
def RetTr (W:World) (v:List Int×Int) (e:Ending) (W':World):Prop:=∃O ko,e=.returned (.tuple #[.slice O v.1.length ko,v.2])∧Ext W W'∧Sl W' O 1 (v.1.map intRw)∧v.1.length≤ko∧ko≤maxLen
theorem r55_Trace_err (h:WldAt W w A c B d M k xs)(hs:zbR W E ce l)(T:Int)(h1:gaveE w l T≠0):Calls prog 25 #[.agg (Lw w A c B d M k),.slice E l.length ce,T] W (RetTr W (traceV w l T)):=by
 have HV:=zh (show traceV w l T=([],gaveE w l T) by unfold traceV;rw[if_pos h1]);have hla:=h.a.len;have hlb:=h.b.len;have hll:=hs.len;have hml:w.mail.length≤9223372036854775807:=by have h1:=h.mail.le;have h2:=h.mail.cap;rw[h.len] at h1;unfold maxLen at h2;omega
 have HGV:=zh (fun(X:World) (hx:Ext W X)=>by have:=r55_given (h.mono hx) (hs.mono hx) T;exact this);have hz:(gaveE w l T !=0)=true:=by simpa using h1
 clear h hs h1;go_enter func25,ntmps25;go_wp2_with (go_at_call 61;refine(HGV.out _ ex).mono ?_;rintro e w9 ⟨rfl,hx⟩;obtain⟨ya,rfl⟩:=hx.get;clear hx);go_ret2;rw[HV.out];exact⟨none,0,rfl,ex,Sl.nil _ _ _,Nat.le_refl _,Nat.zero_le _⟩
theorem r55_Trace_go (h:WldAt W w A c B d M k xs)(hs:zbR W E ce l)(T:Int)(h1:gaveE w l T=0):Calls prog 25 #[.agg (Lw w A c B d M k),.slice E l.length ce,T] W (RetTr W (traceV w l T)):=by
 obtain⟨hok,he0,n,rfl,hn,hT⟩:=gaveE_ok h1;have hla:=h.a.len;have hlb:=h.b.len;have hll:=hs.len;have hml:w.mail.length≤9223372036854775807:=by have h1:=h.mail.le;have h2:=h.mail.cap;rw[h.len] at h1;unfold maxLen at h2;omega
 have HGV:=zh (fun(X:World) (hx:Ext W X)=>by have:=r55_given (h.mono hx) (hs.mono hx) (n:Int);rwa [h1] at this);have HLL:=zh (show l.length≤1000000 by have:=zfI he0;omega);have HEV:=zh (zei he0);have HES:=zh hs;have HEL:=zh hs.el;have HW:=zh (WldW.of h);have HSQ:=zh (fun(j:Nat) (hj:j≤n)=>zhe (l:=l) (zei he0) hok j om);have HV:=zh (show traceV w l (n:Int)=(zce l n w,0) by unfold traceV;rw[if_neg (by rw[h1];simp),Int.toNat_natCast]);have HTG:=zh (fun(j:Nat) (hj:j<n)=>zgS l n w j hj);have HTL:=zh (zmH l n w);obtain⟨os,hos⟩:∃os,zce l n w=os:=⟨_,rfl⟩
 rw[hos] at HV HTG HTL;clear h hs h1 hok he0 hos;go_enter func25,ntmps25;go_wp2_with (go_at_call 61;refine(HGV.out _ ex).mono ?_;rintro e w9 ⟨rfl,hx⟩;obtain⟨ya,rfl⟩:=hx.get;clear hx);go_loopw [10,9] (fun i o wr=> ∃j:Nat,j≤n∧i=.int .i64 j∧∃O ko,o=.slice O j ko∧∃A1 a1 B1 b1 N1 n1 ys1,Hid (OwnM W wr 3 1 O j ko ((os.take j).map intRw))∧Hid ((O=none∨ko≠0)∧∀p,O=some p→W.heap.size<p.block∧p.block<wr.heap.size∧Away p.block N1 ys1)∧Hid (TW W W 1 M xs wr (seqW l w j) A1 a1 B1 b1 N1 n1 ys1)) (fun i _ _=>n - (intOf i).toNat)
 case atStart => exact ⟨0,by omega,rfl,none,0,rfl,A,c,B,d,M,k,xs,zh (OwnM.nil _ _ _ _),zh ⟨.inl rfl,fun _ h => by cases h⟩,zh ⟨ex,by repeat (first | exact BoxAt.new (by first | rfl | (simp [go_sem];done) | (simp [go_sem];omega)) _ _ | apply BoxAt.xt | apply BoxAt.drew | apply BoxAt.drewN | apply BoxAt.alloc),fun h => (by cases h),by simp [go_sem],HW.out.mono ex,fun _ _ h => h,fun g h1 _ => Away.new HW.out.sl h1⟩⟩
 case round =>
  rename_i wr;obtain⟨j,hj,rfl,O,ko,rfl,A1,a1,B1,b1,N1,n1,ys1,HO,HOR,HT⟩:=hrel;by_cases hlt:j<n
  ·have HOS:=zh (show(os.take j).map intRw++[intRw (zc6 (seqW l w (j+1)))]=(os.take (j+1)).map intRw by obtain⟨h1,h2⟩:=List.getElem?_eq_some_iff.1 (HTG.out j hlt);rw[List.take_succ_eq_append_getElem h1,h2,List.map_append];rfl)
   obtain⟨v,hv⟩:∃v,seqW l w j=v:=⟨_,rfl⟩
   have hsq:=HSQ.out j hj;rw[hv] at HT hsq;obtain⟨uw,hu⟩:∃uw,tickW v (atL l v.now)=uw:=⟨_,rfl⟩
   have HU:=zh hu;have HVU:=zh (show seqW l w (j+1)=uw by show tickW (seqW l w j) (atL l (seqW l w j).now)=uw;rw[hv];exact hu);have HOK:=zh hsq.1;have HNN:=zh (show v.now<1048576 by have:=hsq.2.1;omega);have HAL:=zh (show(∀x∈atL l v.now,AcnAt W x.act)∧(atL l v.now).length≤1000000∧∀x∈atL l v.now,EvtOk x from⟨fun x hx=>HEL.out x (List.mem_filter.1 hx).1,Nat.le_trans (List.length_filter_le _ _) HLL.out,zjj HEV.out _⟩);have hrw:=HT.out.box.row (n:=21) rfl;have f0:=HT.out.box.c 0 rfl;have hb2:(j:Int)<(n:Int):=by omega
   clear hv hu hsq;rw[HVU.out] at HOS;go_wp2_with fail;refine zGr 6 [] [] [Stab.is (.agg ((Lw v A1 a1 B1 b1 N1 n1):List Value).toArray),Stab.is (.slice E l.length ce),Stab.is (.pointer (some ⟨W.heap.size,0,none⟩)),Stab.is (.int .i64 v.now),Stab.evl (atL l v.now),Stab.retw W wr.heap.size N1 ys1 uw] (fun u=>by(simp only[zc0,List.take_succ_cons,List.take_zero,Act.put,Nat.zero_add,Nat.reduceAdd]);(try simp only[lsT,lsS,lsZ]);exact rfl) kr kr kr (fun _ _ _ _ _ h=>h) ?_ ?_ ?_
   ·intro j9 hj9;cases hj9
   ·refine⟨zs_B0,zs_B0,zs_B0,(zs_B1 2),?_,?_,trivial⟩
    ·refine slb fun u y9 hd=>?_;have e1:u 1=.slice E l.length ce:=hd 1 kr;have e3:u 3=.int .i64 v.now:=hd 3 kr;simp only[e1,e3];refine slr rfl rfl rfl rfl ?_;intro K9 hK;go_simp;go_at_call 62;refine(r55_at (HES.out.mono (HT.out.ext.trans ex)) HLL.out v.now).mono ?_;rintro e w9 ⟨D,K,rfl,hx,he⟩;exact hK _ _ rfl hx ⟨D,K,rfl,he⟩
    ·refine slb fun u y9 hd=>?_;have e0:u 0=.agg ((Lw v A1 a1 B1 b1 N1 n1):List Value).toArray:=hd 0 kr;obtain⟨D4,K4,e4,h4⟩:=hd 4 kr;simp only[e0,e4];refine slr rfl rfl rfl rfl ?_;intro K9 hK;go_simp;go_at_call 58;refine(r55_Ticked_as (w0:=W) (HT.out.ww.mono ex) HOK.out h4.sl HAL.out.1 HAL.out.2.1 HAL.out.2.2 HNN.out HU.out).mono ?_;rintro e w9 ⟨A6,a6,B6,b6,M6,m6,xs6,rfl,hx,hw6,ha6⟩;exact hK _ _ rfl hx ⟨A6,a6,B6,b6,M6,m6,xs6,rfl,hw6,fun g hg h=>ha6 g (by simp[go_sem];omega) h⟩
   ·intro u w2 hx2 hT hdd;obtain⟨t0,t1,t2,t3,t4,t5,-⟩:=hT;obtain⟨y9,rfl⟩:=hx2.get;clear hx2;obtain⟨A6,a6,B6,b6,M6,m6,xs6,e5,hw6,ha6⟩:=t5;clear hdd;simp only[e5];clear e5 t0 t1 t2 t3 t4;simp only[List.drop_succ_cons,List.drop_zero]
    go_wp2_with (first
     |(refine za2 rfl 46 (.tmp 3) (.tmp 28) rfl (HT.out.box.mono ex) rfl (Lw uw A6 a6 B6 b6 M6 m6) rfl rfl (show 21<44 by decide) kr (cells_one _ rfl) ?_;intro V1 t1 b1;have hT1:=HT.out.step dk (Nat.le_refl _) ex (hw6.mono ex) ha6 t1 b1;have hrv:=b1.row (n:=21) rfl;have HO1:=zh ((HO.out.mono ex).turn t1 (fun p hp=>by have:=(HOR.out.2 p hp).1;omega));have ha7:∀p,O=some p→Away p.block M6 xs6:=fun p hp=>ha6 _ (HOR.out.2 p hp).2.1 (HOR.out.2 p hp).2.2)
     |(go_at_call 40;refine(zHo (hT1.ww.at.mono ex)).mono ?_;rintro e w9 ⟨rfl,hx⟩;obtain⟨yb,rfl⟩:=hx.get;clear hx)
     |(at_builtin;refine zeI (w0:=W) rfl 46 _ _ 66 66 rfl 3 3 1 8 underlying66 underlying66 info_Int zero_Int dk (hT1.ext.trans ex) O j ko ((os.take j).map intRw) rfl (HO1.out.mono ex) HOR.out.1 (zs5 _) _ 1 1 [intRw (zc6 uw)] rfl (Sl.alloc' sg rfl (by simp[intRw])) rfl dk (zDH [zc6 uw]) (zs5 [zc6 uw]) (by unfold maxLen;omega) om (j+1) rfl ((os.take (j+1)).map intRw) HOS.out ?_;intro O2 k2 w2 hx2 hown hk0 hst hgr hA;have HT2:=zh (TW.grown (O:=O) (hT1.mono ex) (Ext.refl W) hst hgr (fun p hp=>⟨(HOR.out.2 p hp).1,ha7 p hp⟩) hx2);have HO2:=zh hown;have HA2:=zh hA;have HG2:=zh hgr.size;have HN2:=zh (show ∀g,V1.heap.size≤g→Away g M6 xs6 from fun g hg=>Away.new hT1.ww.sl hg);clear hown hst hgr hA))
    go_light;refine⟨⟨j+1,by omega,by go_num,O2,k2,rfl,A6,a6,B6,b6,M6,m6,xs6,HO2,zh ⟨.inr hk0,fun p hp=> ?_⟩,by rw[HVU.out];exact HT2⟩,by simp[intOf];omega⟩;have h9:=HO2.out.low p hp;rcases HA2.out with e|e
    ·rw[e] at hp;exact⟨(HOR.out.2 p hp).1,h9,ha7 p hp⟩
    ·rw[e] at hp;injection hp with hp;subst hp;have h8:=hT1.size;simp[go_sem] at h9 ⊢;exact⟨by omega,h9,HN2.out _ om⟩
  ·obtain rfl:j=n:=by omega
   have ho:=HO.out.own;have hle:os.take j=os:=List.take_of_length_le (by rw[HTL.out];omega);rw[hle] at ho;have hx:=HT.out.ext;have HTE:=zh hx;have HHO:=zh ho;clear HT HO ho hle hx;go_wp2;go_ret2;rw[HV.out];refine⟨O,ko,by rw[HTL.out];rfl,HTE.out.trans ex,(HHO.out.mono ex).sl,?_,HHO.out.cap⟩;rw[HTL.out];exact HHO.out.le
theorem r55_Trace (h:WldAt W w A c B d M k xs)(hs:zbR W E ce l)(T:Int):Calls prog 25 #[.agg (Lw w A c B d M k),.slice E l.length ce,T] W (RetTr W (traceV w l T)):=by
 by_cases h1:gaveE w l T=0
 ·exact r55_Trace_go h hs T h1
 ·exact r55_Trace_err h hs T h1
end
