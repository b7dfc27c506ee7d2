import Derived.Test.YtnpdghjpcnjokaaGreatQh4
import Derived.Test.YtnpdghjpcnjokaaGreatWk15
set_option linter.all false
namespace Go.Proofs.YtnpdghjpcnjokaaGreat
set_option maxHeartbeats 6400000
set_option maxRecDepth 100000
open Go.RowKit Go.Proofs.Tryz

theorem tickV_go {w:Wld}{l:List Evt}(h1:wldE w=0)(h2:evtsE l=0)(h3:w.now≠1048576):tickV w l=(tickW w l,0):=by unfold tickV;rw[if_neg (by rw[h1];simp),if_neg (by rw[h2];simp),if_neg h3]
section
variable {w:Wld} {W:World} {A B M:Option Addr} {c d k:Nat} {xs:List (Ltr×Option Addr×Nat)} {E:Option Addr} {ce:Nat} {l:List Evt}
theorem tak_Tick_1 (h:WldAt W w A c B d M k xs)(hs:zbR W E ce l)(h1:wldE w≠0):Calls prog 20 #[.agg (Lw w A c B d M k),.slice E l.length ce] W (RetTk W (tickV w l)):=by
 have HV:=zh (show tickV w l=(wld0,wldE w) by unfold tickV;rw[if_pos h1]);have hla:=h.a.len;have hlb:=h.b.len;have hll:=hs.len;have hml:w.mail.length≤9223372036854775807:=by have h1:=h.mail.le;have h2:=h.mail.cap;rw[h.len] at h1;unfold maxLen at h2;omega
 have HCK:=zh (fun(X:World) (hx:Ext W X)=>by have:=zeq (h.mono hx);exact this);have hz:(wldE w !=0)=true:=by simpa using h1
 clear h hs h1;go_enter func20,ntmps20
 go_upto_region 1 with fail
 refine zaG (fun W9 hW9=> ?_);have x9:Ext W W9:=by rw[hW9];exact ex
 have k2:BoxAt W9 W.heap.size (Lw w A c B d M k) 30:=by rw[hW9];exact bxA
 have k4:BoxAt W9 (W.heap.size+1) Zz 30:=by rw[hW9];exact bxA
 have c0:=k2.c 0 rfl;have hrw:=k2.row (n:=21) rfl;clear hW9;go_wp2_with (first|(go_at_call 14;refine(HCK.out _ (x9.trans ex)).mono ?_;rintro e w9 ⟨rfl,hx⟩;obtain⟨ya,rfl⟩:=hx.get;clear hx)|(refine zah rfl 30 _ rfl [] rfl ((Zz:List Value).toArray) kr ?_)|(refine za2 rfl 30 (.tmp 4) (.tmp 12) rfl (k4.mono ex) rfl (Zz:List Value) rfl rfl (show 21<44 by decide) kr (cells_one _ rfl) ?_;intro V9 t9 b9));refine bodyPost_ret (v:=.tuple #[.agg (Zz:List Value).toArray,.int .i64 (wldE w)]) (zf1 (i:=4) (j:=5) (by simp[results20]) rfl rfl b9.range rfl) rfl ?_;exact RetTk.err HV.out (t9.ext (x9.trans ex) om)
theorem tak_Tick_2 (h:WldAt W w A c B d M k xs)(hs:zbR W E ce l)(h1:wldE w=0)(h2:evtsE l≠0):Calls prog 20 #[.agg (Lw w A c B d M k),.slice E l.length ce] W (RetTk W (tickV w l)):=by
 have HV:=zh (show tickV w l=(wld0,evtsE l) by unfold tickV;rw[if_neg (by rw[h1];simp),if_pos h2]);have hla:=h.a.len;have hlb:=h.b.len;have hll:=hs.len;have hml:w.mail.length≤9223372036854775807:=by have h1:=h.mail.le;have h2:=h.mail.cap;rw[h.len] at h1;unfold maxLen at h2;omega
 have HCK:=zh (fun(X:World) (hx:Ext W X)=>by have:=zeq (h.mono hx);rwa [h1] at this);have HRT:=zh (fun(X:World) (hx:Ext W X)=>by have:=zgQ X (hs.mono hx);exact this);have hz:(evtsE l !=0)=true:=by simpa using h2
 clear h hs h1 h2;go_enter func20,ntmps20
 go_upto_region 1 with fail
 refine zaG (fun W9 hW9=> ?_);have x9:Ext W W9:=by rw[hW9];exact ex
 have k2:BoxAt W9 W.heap.size (Lw w A c B d M k) 30:=by rw[hW9];exact bxA
 have k4:BoxAt W9 (W.heap.size+1) Zz 30:=by rw[hW9];exact bxA
 have c0:=k2.c 0 rfl;have hrw:=k2.row (n:=21) rfl;clear hW9;go_wp2_with (first|(go_at_call 14;refine(HCK.out _ (x9.trans ex)).mono ?_;rintro e w9 ⟨rfl,hx⟩;obtain⟨ya,rfl⟩:=hx.get;clear hx)|(go_at_call 16;refine(HRT.out _ (x9.trans ex)).mono ?_;rintro e w9 ⟨rfl,hx⟩;obtain⟨yb,rfl⟩:=hx.get;clear hx)|(refine zah rfl 30 _ rfl [] rfl ((Zz:List Value).toArray) kr ?_)|(refine za2 rfl 30 (.tmp 4) (.tmp 18) rfl (k4.mono ex) rfl (Zz:List Value) rfl rfl (show 21<44 by decide) kr (cells_one _ rfl) ?_;intro V9 t9 b9));refine bodyPost_ret (v:=.tuple #[.agg (Zz:List Value).toArray,.int .i64 (evtsE l)]) (zf1 (i:=4) (j:=5) (by simp[results20]) rfl rfl b9.range rfl) rfl ?_;exact RetTk.err HV.out (t9.ext (x9.trans ex) om)
theorem tak_Tick_3 (h:WldAt W w A c B d M k xs)(hs:zbR W E ce l)(h1:wldE w=0)(h2:evtsE l=0)(h3:w.now=1048576):Calls prog 20 #[.agg (Lw w A c B d M k),.slice E l.length ce] W (RetTk W (tickV w l)):=by
 have HV:=zh (show tickV w l=(wld0,24) by unfold tickV;rw[if_neg (by rw[h1];simp),if_neg (by rw[h2];simp),if_pos h3]);have hla:=h.a.len;have hlb:=h.b.len;have hll:=hs.len;have hml:w.mail.length≤9223372036854775807:=by have h1:=h.mail.le;have h2:=h.mail.cap;rw[h.len] at h1;unfold maxLen at h2;omega
 have HCK:=zh (fun(X:World) (hx:Ext W X)=>by have:=zeq (h.mono hx);rwa [h1] at this);have HRT:=zh (fun(X:World) (hx:Ext W X)=>by have:=zgQ X (hs.mono hx);rwa [h2] at this);have hz:(w.now==1048576)=true:=by simpa using h3
 clear h hs h1 h2 h3;go_enter func20,ntmps20
 go_upto_region 1 with fail
 refine zaG (fun W9 hW9=> ?_);have x9:Ext W W9:=by rw[hW9];exact ex
 have k2:BoxAt W9 W.heap.size (Lw w A c B d M k) 30:=by rw[hW9];exact bxA
 have k4:BoxAt W9 (W.heap.size+1) Zz 30:=by rw[hW9];exact bxA
 have c0:=k2.c 0 rfl;have hrw:=k2.row (n:=21) rfl;clear hW9;go_wp2_with (first|(go_at_call 14;refine(HCK.out _ (x9.trans ex)).mono ?_;rintro e w9 ⟨rfl,hx⟩;obtain⟨ya,rfl⟩:=hx.get;clear hx)|(go_at_call 16;refine(HRT.out _ (x9.trans ex)).mono ?_;rintro e w9 ⟨rfl,hx⟩;obtain⟨yb,rfl⟩:=hx.get;clear hx)|(refine zah rfl 30 _ rfl [] rfl ((Zz:List Value).toArray) kr ?_)|(refine za2 rfl 30 (.tmp 4) (.tmp 23) rfl (k4.mono ex) rfl (Zz:List Value) rfl rfl (show 21<44 by decide) kr (cells_one _ rfl) ?_;intro V9 t9 b9));refine bodyPost_ret (v:=.tuple #[.agg (Zz:List Value).toArray,.int .i64 24]) (zf1 (i:=4) (j:=5) (by simp[results20]) rfl rfl b9.range rfl) rfl ?_;exact RetTk.err HV.out (t9.ext (x9.trans ex) om)
theorem tak_Tick_4 (h:WldAt W w A c B d M k xs)(hs:zbR W E ce l)(h1:wldE w=0)(h2:evtsE l=0)(h3:w.now≠1048576):Calls prog 20 #[.agg (Lw w A c B d M k),.slice E l.length ce] W (RetTk W (tickV w l)):=by have hok:=(zge w).1 h1;have hn1:=hok.n1;rw[tickV_go h1 h2 h3];refine(zwS (w0:=W) (Ext.refl W) hok (LogW.of h.a (Ext.refl W)) (LogW.of h.b (Ext.refl W)) (h.mailR (Ext.refl W)) hs hs.el h2 om rfl rfl).mono fun e W1 q=> ?_;obtain⟨⟨A1,a1,B1,b1,M1,m1,xs1,he,ha1,hb1,hm1,-⟩,hx1⟩:=q;exact⟨A1,a1,B1,b1,M1,m1,xs1,he,hx1,zlq ha1 hb1 hm1 hx1⟩
theorem tak_Tick_all (h:WldAt W w A c B d M k xs)(hs:zbR W E ce l):Calls prog 20 #[.agg (Lw w A c B d M k),.slice E l.length ce] W (RetTk W (tickV w l)):=by
 by_cases h1:wldE w=0
 ·by_cases h2:evtsE l=0
  ·by_cases h3:w.now=1048576
   ·exact tak_Tick_3 h hs h1 h2 h3
   ·exact tak_Tick_4 h hs h1 h2 h3
  ·exact tak_Tick_2 h hs h1 h2
 ·exact tak_Tick_1 h hs h1
theorem r55_Tick_1 (h:WldAt W w A c B d M k xs)(hs:zbR W E ce l)(h1:wldE w≠0):Calls prog 21 #[.agg (Lw w A c B d M k),.slice E l.length ce] W (RetTk W (tickV w l)):=by
 have HV:=zh (show tickV w l=(wld0,wldE w) by unfold tickV;rw[if_pos h1]);have hla:=h.a.len;have hlb:=h.b.len;have hll:=hs.len;have hml:w.mail.length≤9223372036854775807:=by have h1:=h.mail.le;have h2:=h.mail.cap;rw[h.len] at h1;unfold maxLen at h2;omega
 have HCK:=zh (fun(X:World) (hx:Ext W X)=>by have:=zHp (h.mono hx);exact this);have hz:(wldE w !=0)=true:=by simpa using h1
 clear h hs h1;go_enter func21,ntmps21
 go_upto_region 1 with fail
 refine zaG (fun W9 hW9=> ?_);have x9:Ext W W9:=by rw[hW9];exact ex
 have k2:BoxAt W9 W.heap.size (Lw w A c B d M k) 46:=by rw[hW9];exact bxA
 have k4:BoxAt W9 (W.heap.size+1) Zz 46:=by rw[hW9];exact bxA
 have c0:=k2.c 0 rfl;have hrw:=k2.row (n:=21) rfl;clear hW9;go_wp2_with (first|(go_at_call 15;refine(HCK.out _ (x9.trans ex)).mono ?_;rintro e w9 ⟨rfl,hx⟩;obtain⟨ya,rfl⟩:=hx.get;clear hx)|(refine zah rfl 46 _ rfl [] rfl ((Zz:List Value).toArray) kr ?_)|(refine za2 rfl 46 (.tmp 4) (.tmp 12) rfl (k4.mono ex) rfl (Zz:List Value) rfl rfl (show 21<44 by decide) kr (cells_one _ rfl) ?_;intro V9 t9 b9));refine bodyPost_ret (v:=.tuple #[.agg (Zz:List Value).toArray,.int .i64 (wldE w)]) (results_W5 (i:=4) (j:=5) (by simp[results21]) rfl rfl b9.range rfl) rfl ?_;exact RetTk.err HV.out (t9.ext (x9.trans ex) om)
theorem r55_Tick_2 (h:WldAt W w A c B d M k xs)(hs:zbR W E ce l)(h1:wldE w=0)(h2:evtsE l≠0):Calls prog 21 #[.agg (Lw w A c B d M k),.slice E l.length ce] W (RetTk W (tickV w l)):=by
 have HV:=zh (show tickV w l=(wld0,evtsE l) by unfold tickV;rw[if_neg (by rw[h1];simp),if_pos h2]);have hla:=h.a.len;have hlb:=h.b.len;have hll:=hs.len;have hml:w.mail.length≤9223372036854775807:=by have h1:=h.mail.le;have h2:=h.mail.cap;rw[h.len] at h1;unfold maxLen at h2;omega
 have HCK:=zh (fun(X:World) (hx:Ext W X)=>by have:=zHp (h.mono hx);rwa [h1] at this);have HRT:=zh (fun(X:World) (hx:Ext W X)=>by have:=zEF E ce l X (hs.mono hx);exact this);have hz:(evtsE l !=0)=true:=by simpa using h2
 clear h hs h1 h2;go_enter func21,ntmps21
 go_upto_region 1 with fail
 refine zaG (fun W9 hW9=> ?_);have x9:Ext W W9:=by rw[hW9];exact ex
 have k2:BoxAt W9 W.heap.size (Lw w A c B d M k) 46:=by rw[hW9];exact bxA
 have k4:BoxAt W9 (W.heap.size+1) Zz 46:=by rw[hW9];exact bxA
 have c0:=k2.c 0 rfl;have hrw:=k2.row (n:=21) rfl;clear hW9;go_wp2_with (first|(go_at_call 15;refine(HCK.out _ (x9.trans ex)).mono ?_;rintro e w9 ⟨rfl,hx⟩;obtain⟨ya,rfl⟩:=hx.get;clear hx)|(go_at_call 17;refine(HRT.out _ (x9.trans ex)).mono ?_;rintro e w9 ⟨rfl,hx⟩;obtain⟨yb,rfl⟩:=hx.get;clear hx)|(refine zah rfl 46 _ rfl [] rfl ((Zz:List Value).toArray) kr ?_)|(refine za2 rfl 46 (.tmp 4) (.tmp 18) rfl (k4.mono ex) rfl (Zz:List Value) rfl rfl (show 21<44 by decide) kr (cells_one _ rfl) ?_;intro V9 t9 b9));refine bodyPost_ret (v:=.tuple #[.agg (Zz:List Value).toArray,.int .i64 (evtsE l)]) (results_W5 (i:=4) (j:=5) (by simp[results21]) rfl rfl b9.range rfl) rfl ?_;exact RetTk.err HV.out (t9.ext (x9.trans ex) om)
theorem r55_Tick_3 (h:WldAt W w A c B d M k xs)(hs:zbR W E ce l)(h1:wldE w=0)(h2:evtsE l=0)(h3:w.now=1048576):Calls prog 21 #[.agg (Lw w A c B d M k),.slice E l.length ce] W (RetTk W (tickV w l)):=by
 have HV:=zh (show tickV w l=(wld0,24) by unfold tickV;rw[if_neg (by rw[h1];simp),if_neg (by rw[h2];simp),if_pos h3]);have hla:=h.a.len;have hlb:=h.b.len;have hll:=hs.len;have hml:w.mail.length≤9223372036854775807:=by have h1:=h.mail.le;have h2:=h.mail.cap;rw[h.len] at h1;unfold maxLen at h2;omega
 have HCK:=zh (fun(X:World) (hx:Ext W X)=>by have:=zHp (h.mono hx);rwa [h1] at this);have HRT:=zh (fun(X:World) (hx:Ext W X)=>by have:=zEF E ce l X (hs.mono hx);rwa [h2] at this);have hz:(w.now==1048576)=true:=by simpa using h3
 clear h hs h1 h2 h3;go_enter func21,ntmps21
 go_upto_region 1 with fail
 refine zaG (fun W9 hW9=> ?_);have x9:Ext W W9:=by rw[hW9];exact ex
 have k2:BoxAt W9 W.heap.size (Lw w A c B d M k) 46:=by rw[hW9];exact bxA
 have k4:BoxAt W9 (W.heap.size+1) Zz 46:=by rw[hW9];exact bxA
 have c0:=k2.c 0 rfl;have hrw:=k2.row (n:=21) rfl;clear hW9;go_wp2_with (first|(go_at_call 15;refine(HCK.out _ (x9.trans ex)).mono ?_;rintro e w9 ⟨rfl,hx⟩;obtain⟨ya,rfl⟩:=hx.get;clear hx)|(go_at_call 17;refine(HRT.out _ (x9.trans ex)).mono ?_;rintro e w9 ⟨rfl,hx⟩;obtain⟨yb,rfl⟩:=hx.get;clear hx)|(refine zah rfl 46 _ rfl [] rfl ((Zz:List Value).toArray) kr ?_)|(refine za2 rfl 46 (.tmp 4) (.tmp 23) rfl (k4.mono ex) rfl (Zz:List Value) rfl rfl (show 21<44 by decide) kr (cells_one _ rfl) ?_;intro V9 t9 b9));refine bodyPost_ret (v:=.tuple #[.agg (Zz:List Value).toArray,.int .i64 24]) (results_W5 (i:=4) (j:=5) (by simp[results21]) rfl rfl b9.range rfl) rfl ?_;exact RetTk.err HV.out (t9.ext (x9.trans ex) om)
theorem r55_Tick_4 (h:WldAt W w A c B d M k xs)(hs:zbR W E ce l)(h1:wldE w=0)(h2:evtsE l=0)(h3:w.now≠1048576):Calls prog 21 #[.agg (Lw w A c B d M k),.slice E l.length ce] W (RetTk W (tickV w l)):=by
 have hok:=(zge w).1 h1;have hn1:=hok.n1;rw[tickV_go h1 h2 h3];have hla:=h.a.len;have hlb:=h.b.len;have hll:=hs.len;have hml:w.mail.length≤9223372036854775807:=by have h1:=h.mail.le;have h2:=h.mail.cap;rw[h.len] at h1;unfold maxLen at h2;omega
 have HCK:=zh (fun(X:World) (hx:Ext W X)=>by have:=zHp (h.mono hx);rwa [h1] at this);have HRT:=zh (fun(X:World) (hx:Ext W X)=>by have:=zEF E ce l X (hs.mono hx);rwa [h2] at this);have hz:(w.now==1048576)=false:=by simpa using h3
 have HN:=zh (show w.now<1048576 by omega);have HLL:=zh (zfI h2);have HEV:=zh (zei h2);have HES:=zh hs.sl;have HEL:=zh hs.el;have HOK:=zh hok;have HW:=zh (WldW.of h);obtain⟨u,hu⟩:∃u,tickW w l=u:=⟨_,rfl⟩
 rw[hu];have HU:=zh hu;clear h hs h1 h2 h3 hok hu;go_enter func21,ntmps21
 go_upto_region 1 with fail
 refine zaG (fun W9 hW9=> ?_);have x9:Ext W W9:=by rw[hW9];exact ex
 have k2:BoxAt W9 W.heap.size (Lw w A c B d M k) 46:=by rw[hW9];exact bxA
 have k4:BoxAt W9 (W.heap.size+1) Zz 46:=by rw[hW9];exact bxA
 have c0:=k2.c 0 rfl;have hrw:=k2.row (n:=21) rfl;clear hW9
 go_wp2_with (first
  |(go_at_call 15;refine(HCK.out _ (x9.trans ex)).mono ?_;rintro e w9 ⟨rfl,hx⟩;obtain⟨ya,rfl⟩:=hx.get;clear hx)
  |(go_at_call 17;refine(HRT.out _ (x9.trans ex)).mono ?_;rintro e w9 ⟨rfl,hx⟩;obtain⟨yb,rfl⟩:=hx.get;clear hx)
  |(go_at_call 58;refine(r55_Ticked_as (w0:=W) (HW.out.mono (x9.trans ex)) HOK.out (HES.out.mono (x9.trans ex)) HEL.out (by have:=HLL.out;omega) HEV.out HN.out HU.out).mono ?_;rintro e w5 ⟨A5,a5,B5,b5,M5,m5,xs5,rfl,hx5,hw5,ha5⟩;have x5:=Ext.trans (show Ext W _ from x9.trans ex) hx5;have hk4:=k4.lt;replace k4:=(k4.mono ex).mono hx5;have ha4:=ha5 (W.heap.size+1) (by first|omega|(simp[go_sem];omega)) (Away.new HW.out.sl om);clear hx5 ha5)
  |(refine za2 rfl 46 (.tmp 4) (.tmp 26) rfl (k4.mono ex) rfl (Lw u A5 a5 B5 b5 M5 m5) rfl rfl (show 21<44 by decide) kr (cells_one _ rfl) ?_;intro V9 t9 b9))
 refine bodyPost_ret (v:=.tuple #[.agg ((Lw u A5 a5 B5 b5 M5 m5):List Value).toArray,zI]) (results_W5 (i:=4) (j:=5) (by simp[results21]) rfl rfl b9.range rfl) rfl ?_;exact⟨A5,a5,B5,b5,M5,m5,xs5,rfl,t9.ext (x5.trans ex) om,((hw5.mono ex).turn t9 om ha4).at⟩
theorem r55_Tick_all (h:WldAt W w A c B d M k xs)(hs:zbR W E ce l):Calls prog 21 #[.agg (Lw w A c B d M k),.slice E l.length ce] W (RetTk W (tickV w l)):=by
 by_cases h1:wldE w=0
 ·by_cases h2:evtsE l=0
  ·by_cases h3:w.now=1048576
   ·exact r55_Tick_3 h hs h1 h2 h3
   ·exact r55_Tick_4 h hs h1 h2 h3
  ·exact r55_Tick_2 h hs h1 h2
 ·exact r55_Tick_1 h hs h1
end
