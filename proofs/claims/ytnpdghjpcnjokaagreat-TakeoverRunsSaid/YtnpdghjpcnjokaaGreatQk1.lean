import Derived.Test.YtnpdghjpcnjokaaGreatQi1
import Derived.Test.YtnpdghjpcnjokaaGreatGwkg
set_option linter.all false
namespace Go.Proofs.YtnpdghjpcnjokaaGreat
set_option maxHeartbeats 6400000
set_option maxRecDepth 100000
open Go.RowKit Go.Proofs.Tryz

section
variable {w:Wld} {W:World} {A B M:Option Addr} {c d k:Nat} {xs:List (Ltr×Option Addr×Nat)} {E:Option Addr} {ce:Nat} {l:List Evt}
theorem tak_run_e1 (h:WldAt W w A c B d M k xs)(hs:zbR W E ce l)(T:Int)(fv:Value)(h1:wldE w≠0):Calls prog 59 #[.agg (Lw w A c B d M k),.slice E l.length ce,T,fv] W fun e W'=>e=.returned (.tuple #[.agg (Zz:List Value).toArray,.int .i64 (wldE w)])∧Ext W W':=by
 have hla:=h.a.len;have hlb:=h.b.len;have hll:=hs.len;have hml:w.mail.length≤9223372036854775807:=by have h1:=h.mail.le;have h2:=h.mail.cap;rw[h.len] at h1;unfold maxLen at h2;omega
 have HCK:=zh (fun(X:World) (hx:Ext W X)=>by have:=zeq (h.mono hx);exact this);have hz:(wldE w !=0)=true:=by simpa using h1
 clear h hs h1;go_enter func59,ntmps59
 go_upto_region 1 with fail
 refine zaG (fun W9 hW9=> ?_);have x9:Ext W W9:=by rw[hW9];exact ex
 have k2:BoxAt W9 W.heap.size (Lw w A c B d M k) 30:=by rw[hW9];exact bxA
 have k4:BoxAt W9 (W.heap.size+1) Zz 30:=by rw[hW9];exact bxA
 have c0:=k2.c 0 rfl;have hrw:=k2.row (n:=21) rfl;clear hW9;go_wp2_with (first|(go_at_call 14;refine(HCK.out _ (x9.trans ex)).mono ?_;rintro e w9 ⟨rfl,hx⟩;obtain⟨ya,rfl⟩:=hx.get;clear hx)|(refine zah rfl 30 _ rfl [] rfl ((Zz:List Value).toArray) kr ?_)|(refine za2 rfl 30 (.tmp 8) (.tmp 18) rfl (k4.mono ex) rfl (Zz:List Value) rfl rfl (show 21<44 by decide) kr (cells_one _ rfl) ?_;intro V9 t9 b9));refine bodyPost_ret (v:=.tuple #[.agg (Zz:List Value).toArray,.int .i64 (wldE w)]) (zf1 (i:=8) (j:=9) (by simp[results59]) rfl rfl b9.range rfl) rfl ?_;exact⟨rfl,t9.ext (x9.trans ex) om⟩
theorem tak_run_e2 (h:WldAt W w A c B d M k xs)(hs:zbR W E ce l)(T:Int)(fv:Value)(h1:wldE w=0)(h2:evtsE l≠0):Calls prog 59 #[.agg (Lw w A c B d M k),.slice E l.length ce,T,fv] W fun e W'=>e=.returned (.tuple #[.agg (Zz:List Value).toArray,.int .i64 (evtsE l)])∧Ext W W':=by
 have hla:=h.a.len;have hlb:=h.b.len;have hll:=hs.len;have hml:w.mail.length≤9223372036854775807:=by have h1:=h.mail.le;have h2:=h.mail.cap;rw[h.len] at h1;unfold maxLen at h2;omega
 have HCK:=zh (fun(X:World) (hx:Ext W X)=>by have:=zeq (h.mono hx);rwa [h1] at this);have HRT:=zh (fun(X:World) (hx:Ext W X)=>by have:=zgQ X (hs.mono hx);exact this);have hz:(evtsE l !=0)=true:=by simpa using h2
 clear h hs h1 h2;go_enter func59,ntmps59
 go_upto_region 1 with fail
 refine zaG (fun W9 hW9=> ?_);have x9:Ext W W9:=by rw[hW9];exact ex
 have k2:BoxAt W9 W.heap.size (Lw w A c B d M k) 30:=by rw[hW9];exact bxA
 have k4:BoxAt W9 (W.heap.size+1) Zz 30:=by rw[hW9];exact bxA
 have c0:=k2.c 0 rfl;have hrw:=k2.row (n:=21) rfl;clear hW9;go_wp2_with (first|(go_at_call 14;refine(HCK.out _ (x9.trans ex)).mono ?_;rintro e w9 ⟨rfl,hx⟩;obtain⟨ya,rfl⟩:=hx.get;clear hx)|(go_at_call 16;refine(HRT.out _ (x9.trans ex)).mono ?_;rintro e w9 ⟨rfl,hx⟩;obtain⟨yb,rfl⟩:=hx.get;clear hx)|(refine zah rfl 30 _ rfl [] rfl ((Zz:List Value).toArray) kr ?_)|(refine za2 rfl 30 (.tmp 8) (.tmp 24) rfl (k4.mono ex) rfl (Zz:List Value) rfl rfl (show 21<44 by decide) kr (cells_one _ rfl) ?_;intro V9 t9 b9));refine bodyPost_ret (v:=.tuple #[.agg (Zz:List Value).toArray,.int .i64 (evtsE l)]) (zf1 (i:=8) (j:=9) (by simp[results59]) rfl rfl b9.range rfl) rfl ?_;exact⟨rfl,t9.ext (x9.trans ex) om⟩
theorem tak_run_e3 (h:WldAt W w A c B d M k xs)(hs:zbR W E ce l)(T:Int)(fv:Value)(h1:wldE w=0)(h2:evtsE l=0)(h3:za5 T 0 4096=false):Calls prog 59 #[.agg (Lw w A c B d M k),.slice E l.length ce,T,fv] W fun e W'=>e=.returned (.tuple #[.agg (Zz:List Value).toArray,.int .i64 (2)])∧Ext W W':=by
 have hla:=h.a.len;have hlb:=h.b.len;have hll:=hs.len;have hml:w.mail.length≤9223372036854775807:=by have h1:=h.mail.le;have h2:=h.mail.cap;rw[h.len] at h1;unfold maxLen at h2;omega
 have HCK:=zh (fun(X:World) (hx:Ext W X)=>by have:=zeq (h.mono hx);rwa [h1] at this);have HRT:=zh (fun(X:World) (hx:Ext W X)=>by have:=zgQ X (hs.mono hx);rwa [h2] at this);have H3:=zh h3;clear h hs h1 h2 h3;go_enter func59,ntmps59
 go_upto_region 1 with fail
 refine zaG (fun W9 hW9=> ?_);have x9:Ext W W9:=by rw[hW9];exact ex
 have k2:BoxAt W9 W.heap.size (Lw w A c B d M k) 30:=by rw[hW9];exact bxA
 have k4:BoxAt W9 (W.heap.size+1) Zz 30:=by rw[hW9];exact bxA
 have c0:=k2.c 0 rfl;have hrw:=k2.row (n:=21) rfl;clear hW9;go_wp2_with (first|(go_at_call 14;refine(HCK.out _ (x9.trans ex)).mono ?_;rintro e w9 ⟨rfl,hx⟩;obtain⟨ya,rfl⟩:=hx.get;clear hx)|(go_at_call 16;refine(HRT.out _ (x9.trans ex)).mono ?_;rintro e w9 ⟨rfl,hx⟩;obtain⟨yb,rfl⟩:=hx.get;clear hx)|(go_at_call 33;refine(zCe _ _ _ _).mono ?_;rintro e w' ⟨he,rfl⟩;simp only[H3.out] at he;subst he)|(refine zah rfl 30 _ rfl [] rfl ((Zz:List Value).toArray) kr ?_)|(refine za2 rfl 30 (.tmp 8) (.tmp 30) rfl (k4.mono ex) rfl (Zz:List Value) rfl rfl (show 21<44 by decide) kr (cells_one _ rfl) ?_;intro V9 t9 b9));refine bodyPost_ret (v:=.tuple #[.agg (Zz:List Value).toArray,.int .i64 (2)]) (zf1 (i:=8) (j:=9) (by simp[results59]) rfl rfl b9.range rfl) rfl ?_;exact⟨rfl,t9.ext (x9.trans ex) om⟩
theorem tak_run_e4 (h:WldAt W w A c B d M k xs)(hs:zbR W E ce l)(T:Int)(fv:Value)(h1:wldE w=0)(h2:evtsE l=0)(h3:za5 T 0 4096=true)(h4:1048576<w.now+T):Calls prog 59 #[.agg (Lw w A c B d M k),.slice E l.length ce,T,fv] W fun e W'=>e=.returned (.tuple #[.agg (Zz:List Value).toArray,.int .i64 (24)])∧Ext W W':=by
 have hla:=h.a.len;have hlb:=h.b.len;have hll:=hs.len;have hml:w.mail.length≤9223372036854775807:=by have h1:=h.mail.le;have h2:=h.mail.cap;rw[h.len] at h1;unfold maxLen at h2;omega
 have hb:=za8 h3;have hok:=(zge w).1 h1;have hn0:=hok.n0;have hn1:=hok.n1;have hw1:IntKind.i64.wrap (w.now+T)=w.now+T:=IntWalk.i64_in _ om;have hd:decide (1048576<w.now+T)=true:=decide_eq_true h4;have HCK:=zh (fun(X:World) (hx:Ext W X)=>by have:=zeq (h.mono hx);rwa [h1] at this);have HRT:=zh (fun(X:World) (hx:Ext W X)=>by have:=zgQ X (hs.mono hx);rwa [h2] at this);have H3:=zh h3;clear h hs h1 h2 h3 h4 hok;go_enter func59,ntmps59
 go_upto_region 1 with fail
 refine zaG (fun W9 hW9=> ?_);have x9:Ext W W9:=by rw[hW9];exact ex
 have k2:BoxAt W9 W.heap.size (Lw w A c B d M k) 30:=by rw[hW9];exact bxA
 have k4:BoxAt W9 (W.heap.size+1) Zz 30:=by rw[hW9];exact bxA
 have c0:=k2.c 0 rfl;have hrw:=k2.row (n:=21) rfl;clear hW9;go_wp2_with (first|(go_at_call 14;refine(HCK.out _ (x9.trans ex)).mono ?_;rintro e w9 ⟨rfl,hx⟩;obtain⟨ya,rfl⟩:=hx.get;clear hx)|(go_at_call 16;refine(HRT.out _ (x9.trans ex)).mono ?_;rintro e w9 ⟨rfl,hx⟩;obtain⟨yb,rfl⟩:=hx.get;clear hx)|(go_at_call 33;refine(zCe _ _ _ _).mono ?_;rintro e w' ⟨he,rfl⟩;simp only[H3.out] at he;subst he)|(refine zah rfl 30 _ rfl [] rfl ((Zz:List Value).toArray) kr ?_)|(refine za2 rfl 30 (.tmp 8) (.tmp 37) rfl (k4.mono ex) rfl (Zz:List Value) rfl rfl (show 21<44 by decide) kr (cells_one _ rfl) ?_;intro V9 t9 b9));refine bodyPost_ret (v:=.tuple #[.agg (Zz:List Value).toArray,.int .i64 (24)]) (zf1 (i:=8) (j:=9) (by simp[results59]) rfl rfl b9.range rfl) rfl ?_;exact⟨rfl,t9.ext (x9.trans ex) om⟩
theorem tak_run_err (h:WldAt W w A c B d M k xs)(hs:zbR W E ce l)(T:Int)(fv:Value)(hg:gaveE w l T≠0):Calls prog 59 #[.agg (Lw w A c B d M k),.slice E l.length ce,T,fv] W fun e W'=>e=.returned (.tuple #[.agg (Zz:List Value).toArray,.int .i64 (gaveE w l T)])∧Ext W W':=by
 by_cases h1:wldE w=0
 ·by_cases h2:evtsE l=0
  ·cases h3:za5 T 0 4096 with
   |false=>
    have e:gaveE w l T=2:=by unfold gaveE;have:=zaF h3;rw[if_neg (by rw[h1];simp),if_neg (by rw[h2];simp),if_pos om]
    rw[e];exact tak_run_e3 h hs T fv h1 h2 h3
   |true=>
    have hb:=za8 h3;by_cases h4:1048576<w.now+T
    ·have e:gaveE w l T=24:=by unfold gaveE;rw[if_neg (by rw[h1];simp),if_neg (by rw[h2];simp),if_neg om,if_pos h4]
     rw[e];exact tak_run_e4 h hs T fv h1 h2 h3 h4
    ·exact absurd (by unfold gaveE;rw[if_neg (by rw[h1];simp),if_neg (by rw[h2];simp),if_neg om,if_neg h4]) hg
  ·have e:gaveE w l T=evtsE l:=by unfold gaveE;rw[if_neg (by rw[h1];simp),if_pos h2]
   rw[e];exact tak_run_e2 h hs T fv h1 h2
 ·have e:gaveE w l T=wldE w:=by unfold gaveE;rw[if_pos h1]
  rw[e];exact tak_run_e1 h hs T fv h1
theorem tak_Run_err (h:WldAt W w A c B d M k xs)(hs:zbR W E ce l)(T:Int)(hg:gaveE w l T≠0):Calls prog 22 #[.agg (Lw w A c B d M k),.slice E l.length ce,T] W (RetTk W (runV w l T)):=by
 have HV:=zh (show runV w l T=(wld0,gaveE w l T) by unfold runV;rw[if_pos hg]);have hla:=h.a.len;have hlb:=h.b.len;have hll:=hs.len;have hml:w.mail.length≤9223372036854775807:=by have h1:=h.mail.le;have h2:=h.mail.cap;rw[h.len] at h1;unfold maxLen at h2;omega
 have HRU:=zh (fun(X:World) (hx:Ext W X) (fv:Value)=>tak_run_err (h.mono hx) (hs.mono hx) T fv hg);clear h hs hg;go_enter func22,ntmps22
 go_upto_region 1 with fail
 refine zaG (fun W9 hW9=> ?_);have x9:Ext W W9:=by rw[hW9];exact ex
 have k2:BoxAt W9 W.heap.size (Lw w A c B d M k) 30:=by rw[hW9];exact bxA
 have k4:BoxAt W9 (W.heap.size+1) Zz 30:=by rw[hW9];exact bxA
 have c0:=k2.c 0 rfl;have hrw:=k2.row (n:=21) rfl;clear hW9;go_wp2_with (first|(go_at_call 59;refine(HRU.out _ (x9.trans ex) _).mono ?_;rintro e w9 ⟨rfl,hx⟩;obtain⟨ya,rfl⟩:=hx.get;clear hx)|(refine za2 rfl 30 (.tmp 6) (.tmp 12) rfl (k4.mono ex) rfl (Zz:List Value) rfl rfl (show 21<44 by decide) kr (cells_one _ rfl) ?_;intro V9 t9 b9));refine bodyPost_ret (v:=.tuple #[.agg (Zz:List Value).toArray,.int .i64 (gaveE w l T)]) (zf1 (i:=6) (j:=7) (by simp[results22]) rfl rfl b9.range rfl) rfl ?_;exact RetTk.err HV.out (t9.ext (x9.trans ex) om)
theorem tak_Run_all (h:WldAt W w A c B d M k xs)(hs:zbR W E ce l)(T:Int):Calls prog 22 #[.agg (Lw w A c B d M k),.slice E l.length ce,T] W (RetTk W (runV w l T)):=by
 by_cases hg:gaveE w l T=0
 ·obtain⟨hok,he0,n,rfl,hn,hT⟩:=gaveE_ok hg;have e:runV w l (n:Int)=(seqW l w n,0):=by unfold runV;rw[if_neg (by rw[hg];simp),Int.toNat_natCast,zu5]
  rw[e];refine(zqs h hok hs he0 hn hT).mono fun e W1 q=> ?_;obtain⟨⟨A1,a1,B1,b1,M1,m1,xs1,he,hw⟩,hx⟩:=q;exact⟨A1,a1,B1,b1,M1,m1,xs1,he,hx,hw⟩
 ·exact tak_Run_err h hs T hg
theorem tak_Trace_err (h:WldAt W w A c B d M k xs)(hs:zbR W E ce l)(T:Int)(hg:gaveE w l T≠0):Calls prog 24 #[.agg (Lw w A c B d M k),.slice E l.length ce,T] W (RetTr W (traceV w l T)):=by
 have HV:=zh (show traceV w l T=([],gaveE w l T) by unfold traceV;rw[if_pos hg]);have hla:=h.a.len;have hlb:=h.b.len;have hll:=hs.len;have hml:w.mail.length≤9223372036854775807:=by have h1:=h.mail.le;have h2:=h.mail.cap;rw[h.len] at h1;unfold maxLen at h2;omega
 have HRU:=zh (fun(X:World) (hx:Ext W X) (fv:Value)=>tak_run_err (h.mono hx) (hs.mono hx) T fv hg);have hz:(gaveE w l T !=0)=true:=by simpa using hg
 clear h hs hg;go_enter func24,ntmps24
 go_upto_region 1 with fail
 refine zaG (fun W9 hW9=> ?_);have x9:Ext W W9:=by rw[hW9];exact ex
 have k2:BoxAt W9 W.heap.size (Lw w A c B d M k) 30:=by rw[hW9];exact bxA
 have c0:=k2.c 0 rfl;have hrw:=k2.row (n:=21) rfl;clear hW9;go_wp2_with (first|(go_at_call 59;refine(HRU.out _ (x9.trans ex) _).mono ?_;rintro e w9 ⟨rfl,hx⟩;obtain⟨ya,rfl⟩:=hx.get;clear hx)|(refine za7 rfl 30 (.tmp 9) (.tmp 17) rfl rfl sg (Zz:List Value) rfl rfl kr (cells_one _ rfl) ?_));go_ret2;rw[HV.out];exact⟨none,0,rfl,x9.trans ex,Sl.nil _ _ _,Nat.le_refl _,Nat.zero_le _⟩
theorem tak_Trace_all (h:WldAt W w A c B d M k xs)(hs:zbR W E ce l)(T:Int):Calls prog 24 #[.agg (Lw w A c B d M k),.slice E l.length ce,T] W (RetTr W (traceV w l T)):=by
 by_cases hg:gaveE w l T=0
 ·obtain⟨hok,he0,n,rfl,hn,hT⟩:=gaveE_ok hg;have e:traceV w l (n:Int)=(zce l n w,0):=by unfold traceV;rw[if_neg (by rw[hg];simp),Int.toNat_natCast]
  rw[e];refine(zg1 h hok hs he0 hn hT).mono fun e W1 q=> ?_;obtain⟨O,ko,he,hx,h1,h2,h3⟩:=q;have hl:=zmH l n w;exact⟨O,ko,by rw[he];show _=Ending.returned (.tuple #[.slice O (zce l n w).length ko,zI]);rw[hl],hx,h1,by show(zce l n w).length≤ko;omega,h3⟩
 ·exact tak_Trace_err h hs T hg
end
