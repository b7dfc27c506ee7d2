import Derived.Test.YtnpdghjpcnjokaaGreatGrpa
set_option maxHeartbeats 3200000
set_option maxRecDepth 100000
namespace Go.Proofs.YtnpdghjpcnjokaaGreat
open Go.RowKit Go.Proofs.Tryz

section
variable {n:Nod}
theorem zE0 (h:za5 n.id 1 2=false):nodE n=2:=by have:=zaF h;unfold nodE;rw[if_pos om]
theorem zE1 (h:za5 n.term 0 1048576=false):nodE n=2:=by have:=zaF h;unfold nodE;rw[if_pos om]
theorem zE2 (h1:za5 n.id 1 2=true)(h2:za5 n.term 0 1048576=true)(hs:n.speaks=true)(ho:ownB n.id n.term=false):nodE n=16:=by have:=za8 h1;have:=za8 h2;unfold nodE;rw[if_neg om,if_pos ⟨hs,ho⟩]
theorem zAd (h1:za5 n.id 1 2=true)(h2:za5 n.term 0 1048576=true)(h3:¬(n.speaks=true∧ownB n.id n.term=false))(h4:256<n.log.length):nodE n=5:=by have:=za8 h1;have:=za8 h2;unfold nodE;rw[if_neg om,if_neg h3,if_pos h4]
theorem zAe (h1:za5 n.id 1 2=true)(h2:za5 n.term 0 1048576=true)(h3:¬(n.speaks=true∧ownB n.id n.term=false))(h4:¬256<n.log.length)(h5:recsE 1 n.term n.log≠0):nodE n=recsE 1 n.term n.log:=by have:=za8 h1;have:=za8 h2;unfold nodE;rw[if_neg om,if_neg h3,if_neg h4,if_pos h5]
theorem zmY (h1:za5 n.id 1 2=true) (h2:za5 n.term 0 1048576=true) (h3:¬(n.speaks=true∧ownB n.id n.term=false)) (h4:¬256<n.log.length) (h5:recsE 1 n.term n.log=0) {v:Int} (hv:(if n.speaks=true then(n.log.length:Int) else 0)=v)
  (h6:za5 n.acked 0 n.log.length=false∨za5 n.next 0 v=false):nodE n=2:=by
 have:=za8 h1;have:=za8 h2;unfold nodE;rw[if_neg om,if_neg h3,if_neg h4,if_neg (by simpa using h5),hv,if_pos];rcases h6 with h|h<;>have:=zaF h<;>omega
theorem zAf (h1:za5 n.id 1 2=true) (h2:za5 n.term 0 1048576=true) (h3:¬(n.speaks=true∧ownB n.id n.term=false)) (h4:¬256<n.log.length) (h5:recsE 1 n.term n.log=0) {v:Int} (hv:(if n.speaks=true then(n.log.length:Int) else 0)=v)
  (h6:za5 n.acked 0 n.log.length=true) (h7:za5 n.next 0 v=true):nodE n=0:=by
 have:=za8 h1;have:=za8 h2;have:=za8 h6;have:=za8 h7;unfold nodE;rw[if_neg om,if_neg h3,if_neg h4,if_neg (by simpa using h5),hv,if_neg om]
end
theorem zwy (n:Nod)(A:Option Addr)(c:Nat)(w:World)(hs:za3 w A c n.log)(h1:za5 n.id 1 2=true)(h2:za5 n.term 0 1048576=true)(h3:¬(n.speaks=true∧ownB n.id n.term=false))(v:Int)(hv:(if n.speaks=true then(n.log.length:Int) else 0)=v)(b:Bool)(hb:n.speaks=b)(ho:b=true→ownB n.id n.term=true):
  Calls prog 78 #[.agg #[n.id,n.term,b,.slice A n.log.length c,n.acked,n.next]] w fun e w'=>e=.returned (.int .i64 (nodE n))∧Ext w w':=by
 have hl:=hs.len;have HS:=zh hs;have H1:=zh h1;have H2:=zh h2;have H3:=zh h3;have HV:=zh hv;have i1:=(za8 h1).1;have i2:=(za8 h1).2;have i3:=(za8 h2).1;have i4:=(za8 h2).2;clear hs h1 h2 h3;cases b with
 |false=>
  obtain rfl:v=0:=by rw[←hv,hb];rfl
  clear hv hb ho;by_cases h4:256<n.log.length
  ·have HR:=zh (zAd H1.out H2.out H3.out h4);go_enter func78,ntmps78;go_wp2_with (go_at_call 77;refine(ziS _ _ _ _).mono ?_;rintro e w' ⟨he,rfl⟩;simp only[H1.out,H2.out] at he;subst he);go_ret;exact⟨ret_i HR.out.symm,ex⟩
  ·by_cases h5:recsE 1 n.term n.log=0
   ·have HZ:=zh h5;have hz:(recsE 1 n.term n.log !=0)=false:=by simpa using h5
    clear h5;cases h6:za5 n.acked 0 n.log.length with
    |false=>have HR:=zh (zmY H1.out H2.out H3.out h4 HZ.out HV.out (.inl h6));have H6:=zh h6;clear h6;go_enter func78,ntmps78;go_wp2_with (first|(go_at_call 77;refine(ziS _ _ _ _).mono ?_;rintro e w' ⟨he,rfl⟩;simp only[H1.out,H2.out,H6.out] at he;subst he)|(go_at_call 109;refine zzg (zbi A c n.log 1 n.term _ (HS.out.mono ex)) fun y=>?_));go_ret;exact⟨ret_i HR.out.symm,ex⟩
    |true=>
     cases h7:za5 n.next 0 0 with
     |false=>have HR:=zh (zmY H1.out H2.out H3.out h4 HZ.out HV.out (.inr h7));have H6:=zh h6;have H7:=zh h7;clear h6 h7;go_enter func78,ntmps78;go_wp2_with (first|(go_at_call 77;refine(ziS _ _ _ _).mono ?_;rintro e w' ⟨he,rfl⟩;simp only[H1.out,H2.out,H6.out,H7.out] at he;subst he)|(go_at_call 109;refine zzg (zbi A c n.log 1 n.term _ (HS.out.mono ex)) fun y=>?_));go_ret;exact⟨ret_i HR.out.symm,ex⟩
     |true=>have HR:=zh (zAf H1.out H2.out H3.out h4 HZ.out HV.out h6 h7);have H6:=zh h6;have H7:=zh h7;clear h6 h7;go_enter func78,ntmps78;go_wp2_with (first|(go_at_call 77;refine(ziS _ _ _ _).mono ?_;rintro e w' ⟨he,rfl⟩;simp only[H1.out,H2.out,H6.out,H7.out] at he;subst he)|(go_at_call 109;refine zzg (zbi A c n.log 1 n.term _ (HS.out.mono ex)) fun y=>?_));go_ret;exact⟨ret_i HR.out.symm,ex⟩
   ·have hz:(recsE 1 n.term n.log !=0)=true:=by simpa using h5
    have HR:=zh (zAe H1.out H2.out H3.out h4 h5);clear h5;go_enter func78,ntmps78;go_wp2_with (first|(go_at_call 77;refine(ziS _ _ _ _).mono ?_;rintro e w' ⟨he,rfl⟩;simp only[H1.out,H2.out] at he;subst he)|(go_at_call 109;refine zzg (zbi A c n.log 1 n.term _ (HS.out.mono ex)) fun y=>?_));go_ret;exact⟨ret_i HR.out.symm,ex⟩
 |true=>
  obtain rfl:v=n.log.length:=by rw[←hv,hb];rfl
  have HO:=zh (ho rfl);clear hv hb ho;by_cases h4:256<n.log.length
  ·have HR:=zh (zAd H1.out H2.out H3.out h4);go_enter func78,ntmps78;go_wp2_with (first|(go_at_call 77;refine(ziS _ _ _ _).mono ?_;rintro e w' ⟨he,rfl⟩;simp only[H1.out,H2.out] at he;subst he)|(go_at_call 79;refine(zdV _ _ _ i1 i2 i3 i4).mono ?_;rintro e w' ⟨he,rfl⟩;rw[HO.out] at he;subst he));go_ret;exact⟨ret_i HR.out.symm,ex⟩
  ·by_cases h5:recsE 1 n.term n.log=0
   ·have HZ:=zh h5;have hz:(recsE 1 n.term n.log !=0)=false:=by simpa using h5
    clear h5;cases h6:za5 n.acked 0 n.log.length with
    |false=>have HR:=zh (zmY H1.out H2.out H3.out h4 HZ.out HV.out (.inl h6));have H6:=zh h6;clear h6;go_enter func78,ntmps78;go_wp2_with (first|(go_at_call 77;refine(ziS _ _ _ _).mono ?_;rintro e w' ⟨he,rfl⟩;simp only[H1.out,H2.out,H6.out] at he;subst he)|(go_at_call 79;refine(zdV _ _ _ i1 i2 i3 i4).mono ?_;rintro e w' ⟨he,rfl⟩;rw[HO.out] at he;subst he)|(go_at_call 109;refine zzg (zbi A c n.log 1 n.term _ (HS.out.mono ex)) fun y=>?_));go_ret;exact⟨ret_i HR.out.symm,ex⟩
    |true=>
     cases h7:za5 n.next 0 n.log.length with
     |false=>have HR:=zh (zmY H1.out H2.out H3.out h4 HZ.out HV.out (.inr h7));have H6:=zh h6;have H7:=zh h7;clear h6 h7;go_enter func78,ntmps78;go_wp2_with (first|(go_at_call 77;refine(ziS _ _ _ _).mono ?_;rintro e w' ⟨he,rfl⟩;simp only[H1.out,H2.out,H6.out,H7.out] at he;subst he)|(go_at_call 79;refine(zdV _ _ _ i1 i2 i3 i4).mono ?_;rintro e w' ⟨he,rfl⟩;rw[HO.out] at he;subst he)|(go_at_call 109;refine zzg (zbi A c n.log 1 n.term _ (HS.out.mono ex)) fun y=>?_));go_ret;exact⟨ret_i HR.out.symm,ex⟩
     |true=>have HR:=zh (zAf H1.out H2.out H3.out h4 HZ.out HV.out h6 h7);have H6:=zh h6;have H7:=zh h7;clear h6 h7;go_enter func78,ntmps78;go_wp2_with (first|(go_at_call 77;refine(ziS _ _ _ _).mono ?_;rintro e w' ⟨he,rfl⟩;simp only[H1.out,H2.out,H6.out,H7.out] at he;subst he)|(go_at_call 79;refine(zdV _ _ _ i1 i2 i3 i4).mono ?_;rintro e w' ⟨he,rfl⟩;rw[HO.out] at he;subst he)|(go_at_call 109;refine zzg (zbi A c n.log 1 n.term _ (HS.out.mono ex)) fun y=>?_));go_ret;exact⟨ret_i HR.out.symm,ex⟩
   ·have hz:(recsE 1 n.term n.log !=0)=true:=by simpa using h5
    have HR:=zh (zAe H1.out H2.out H3.out h4 h5);clear h5;go_enter func78,ntmps78;go_wp2_with (first|(go_at_call 77;refine(ziS _ _ _ _).mono ?_;rintro e w' ⟨he,rfl⟩;simp only[H1.out,H2.out] at he;subst he)|(go_at_call 79;refine(zdV _ _ _ i1 i2 i3 i4).mono ?_;rintro e w' ⟨he,rfl⟩;rw[HO.out] at he;subst he)|(go_at_call 109;refine zzg (zbi A c n.log 1 n.term _ (HS.out.mono ex)) fun y=>?_));go_ret;exact⟨ret_i HR.out.symm,ex⟩
theorem zaA (n:Nod)(A:Option Addr)(c:Nat)(w:World)(hs:za3 w A c n.log):Calls prog 78 #[.agg (Ln n A c)] w fun e w'=>e=.returned (.int .i64 (nodE n))∧Ext w w':=by
 cases h1:za5 n.id 1 2 with
 |false=>have HR:=zh (zE0 h1);have H1:=zh h1;have hl:=hs.len;clear h1 hs;go_enter func78,ntmps78;go_wp2_with (go_at_call 77;refine(ziS _ _ _ _).mono ?_;rintro e w' ⟨he,rfl⟩;simp only[H1.out] at he;subst he);go_ret;exact⟨ret_i HR.out.symm,ex⟩
 |true=>
  cases h2:za5 n.term 0 1048576 with
  |false=>have HR:=zh (zE1 h2);have H1:=zh h1;have H2:=zh h2;have hl:=hs.len;clear h1 h2 hs;go_enter func78,ntmps78;go_wp2_with (go_at_call 77;refine(ziS _ _ _ _).mono ?_;rintro e w' ⟨he,rfl⟩;simp only[H1.out,H2.out] at he;subst he);go_ret;exact⟨ret_i HR.out.symm,ex⟩
  |true=>
   by_cases h3:n.speaks=true∧ownB n.id n.term=false
   ·have HR:=zh (zE2 h1 h2 h3.1 h3.2);obtain⟨b,hb⟩:∃b,n.speaks=b:=⟨_,rfl⟩
    have hbt:b=true:=hb.symm.trans h3.1;subst hbt;rw[hb];have H1:=zh h1;have H2:=zh h2;have H3:=zh h3.2;have hl:=hs.len;have i1:=(za8 h1).1;have i2:=(za8 h1).2;have i3:=(za8 h2).1;have i4:=(za8 h2).2;clear h1 h2 h3 hs hb;go_enter func78,ntmps78;go_wp2_with (first|(go_at_call 77;refine(ziS _ _ _ _).mono ?_;rintro e w' ⟨he,rfl⟩;simp only[H1.out,H2.out] at he;subst he)|(go_at_call 79;refine(zdV _ _ _ i1 i2 i3 i4).mono ?_;rintro e w' ⟨he,rfl⟩;rw[H3.out] at he;subst he));go_ret;exact⟨ret_i HR.out.symm,ex⟩
   ·exact zwy n A c w hs h1 h2 h3 _ rfl n.speaks rfl (fun hb=>by
     cases ho:ownB n.id n.term
     ·exact absurd ⟨hb,ho⟩ h3
     ·rfl)

def zfO (m:Msg):Int:=if 0<m.at_ then 1 else 0
def mostB (m:Msg):Int:=if 0<m.at_ then m.term else 0
section
variable {m:Msg}
theorem appE_a (h:za5 m.before (zfO m) (mostB m)=false):appE m=2:=by have:=zaF h;unfold zfO mostB at this;unfold appE;rw[if_pos this]
theorem zCS (h:za5 m.before (zfO m) (mostB m)=true):¬(m.before<(if 0<m.at_ then 1 else 0)∨(if 0<m.at_ then m.term else 0)<m.before):=by have:=za8 h;unfold zfO mostB at this;omega
theorem appE_b (h:za5 m.before (zfO m) (mostB m)=true)(h2:16<m.recs.length):appE m=5:=by unfold appE;rw[if_neg (zCS h),if_pos h2]
theorem appE_c (h:za5 m.before (zfO m) (mostB m)=true)(h2:¬16<m.recs.length)(h3:recsE m.before m.term m.recs≠0):appE m=recsE m.before m.term m.recs:=by unfold appE;rw[if_neg (zCS h),if_neg h2,if_pos h3]
theorem appE_d (h:za5 m.before (zfO m) (mostB m)=true)(h2:¬16<m.recs.length)(h3:recsE m.before m.term m.recs=0):appE m=if za5 m.acked 0 256=true then 0 else 2:=by
 unfold appE;rw[if_neg (zCS h),if_neg h2,if_neg (by simpa using h3)];cases hw:za5 m.acked 0 256
 ·have:=zaF hw;rw[if_pos om];rfl
 ·have:=za8 hw;rw[if_neg om];rfl
end
theorem zjp (m:Msg)(A:Option Addr)(c:Nat)(w:World)(hs:za3 w A c m.recs)(lo hi:Int)(hlo:zfO m=lo)(hhi:mostB m=hi)(hc:(0<m.at_∧lo=1∧hi=m.term)∨(¬0<m.at_∧lo=0∧hi=0)):
  Calls prog 110 #[.agg (Lm m A c)] w fun e w'=>e=.returned (.int .i64 (appE m))∧Ext w w':=by
 have hl:=hs.len;have HS:=zh hs;clear hs;cases h1:za5 m.before lo hi with
 |false=>
  have HR:=zh (appE_a (by rw[hlo,hhi];exact h1));have H1:=zh h1;clear hlo hhi h1;rcases hc with⟨h0,rfl,rfl⟩|⟨h0,rfl,rfl⟩
  ·go_enter func110,ntmps110;go_wp2;(refine zcL kr kr ?_;(repeat(go_big_quiet_step (fail)));refine wqN fun y=>?_);go_wp2_with (go_at_call 77;refine(ziS _ _ _ _).mono ?_;rintro e w' ⟨he,rfl⟩;simp only[H1.out] at he;subst he);go_ret;exact⟨ret_i HR.out.symm,ex⟩
  ·go_enter func110,ntmps110;go_wp2_with (go_at_call 77;refine(ziS _ _ _ _).mono ?_;rintro e w' ⟨he,rfl⟩;simp only[H1.out] at he;subst he);go_ret;exact⟨ret_i HR.out.symm,ex⟩
 |true=>
  have HW:=zh (show za5 m.before (zfO m) (mostB m)=true by rw[hlo,hhi];exact h1);have H1:=zh h1;clear hlo hhi h1;by_cases h2:16<m.recs.length
  ·have HR:=zh (appE_b HW.out h2);rcases hc with⟨h0,rfl,rfl⟩|⟨h0,rfl,rfl⟩
   ·go_enter func110,ntmps110;go_wp2;(refine zcL kr kr ?_;(repeat(go_big_quiet_step (fail)));refine wqN fun y=>?_);go_wp2_with (go_at_call 77;refine(ziS _ _ _ _).mono ?_;rintro e w' ⟨he,rfl⟩;simp only[H1.out] at he;subst he);go_ret;exact⟨ret_i HR.out.symm,ex⟩
   ·go_enter func110,ntmps110;go_wp2_with (go_at_call 77;refine(ziS _ _ _ _).mono ?_;rintro e w' ⟨he,rfl⟩;simp only[H1.out] at he;subst he);go_ret;exact⟨ret_i HR.out.symm,ex⟩
  ·by_cases h3:recsE m.before m.term m.recs=0
   ·have hz:(recsE m.before m.term m.recs !=0)=false:=by simpa using h3
    have HR:=zh (appE_d HW.out h2 h3);clear h3;cases h4:za5 m.acked 0 256 with
    |false=>
     have HV:=zh (show appE m=2 by rw[HR.out,h4];rfl);have H4:=zh h4;clear h4;rcases hc with⟨h0,rfl,rfl⟩|⟨h0,rfl,rfl⟩
     ·go_enter func110,ntmps110;go_wp2;(refine zcL kr kr ?_;(repeat(go_big_quiet_step (fail)));refine wqN fun y=>?_);go_wp2_with (first|(go_at_call 77;refine(ziS _ _ _ _).mono ?_;rintro e w' ⟨he,rfl⟩;simp only[H1.out,H4.out] at he;subst he)|(go_at_call 109;refine zzg (zbi A c m.recs m.before m.term _ (HS.out.mono ex)) fun y=>?_));go_ret;exact⟨ret_i HV.out.symm,ex⟩
     ·go_enter func110,ntmps110;go_wp2_with (first|(go_at_call 77;refine(ziS _ _ _ _).mono ?_;rintro e w' ⟨he,rfl⟩;simp only[H1.out,H4.out] at he;subst he)|(go_at_call 109;refine zzg (zbi A c m.recs m.before m.term _ (HS.out.mono ex)) fun y=>?_));go_ret;exact⟨ret_i HV.out.symm,ex⟩
    |true=>
     have HV:=zh (show appE m=0 by rw[HR.out,h4];rfl);have H4:=zh h4;clear h4;rcases hc with⟨h0,rfl,rfl⟩|⟨h0,rfl,rfl⟩
     ·go_enter func110,ntmps110;go_wp2;(refine zcL kr kr ?_;(repeat(go_big_quiet_step (fail)));refine wqN fun y=>?_);go_wp2_with (first|(go_at_call 77;refine(ziS _ _ _ _).mono ?_;rintro e w' ⟨he,rfl⟩;simp only[H1.out,H4.out] at he;subst he)|(go_at_call 109;refine zzg (zbi A c m.recs m.before m.term _ (HS.out.mono ex)) fun y=>?_));go_ret;exact⟨ret_i HV.out.symm,ex⟩
     ·go_enter func110,ntmps110;go_wp2_with (first|(go_at_call 77;refine(ziS _ _ _ _).mono ?_;rintro e w' ⟨he,rfl⟩;simp only[H1.out,H4.out] at he;subst he)|(go_at_call 109;refine zzg (zbi A c m.recs m.before m.term _ (HS.out.mono ex)) fun y=>?_));go_ret;exact⟨ret_i HV.out.symm,ex⟩
   ·have hz:(recsE m.before m.term m.recs !=0)=true:=by simpa using h3
    have HR:=zh (appE_c HW.out h2 h3);clear h3;rcases hc with⟨h0,rfl,rfl⟩|⟨h0,rfl,rfl⟩
    ·go_enter func110,ntmps110;go_wp2;(refine zcL kr kr ?_;(repeat(go_big_quiet_step (fail)));refine wqN fun y=>?_);go_wp2_with (first|(go_at_call 77;refine(ziS _ _ _ _).mono ?_;rintro e w' ⟨he,rfl⟩;simp only[H1.out] at he;subst he)|(go_at_call 109;refine zzg (zbi A c m.recs m.before m.term _ (HS.out.mono ex)) fun y=>?_));go_ret;exact⟨ret_i HR.out.symm,ex⟩
    ·go_enter func110,ntmps110;go_wp2_with (first|(go_at_call 77;refine(ziS _ _ _ _).mono ?_;rintro e w' ⟨he,rfl⟩;simp only[H1.out] at he;subst he)|(go_at_call 109;refine zzg (zbi A c m.recs m.before m.term _ (HS.out.mono ex)) fun y=>?_));go_ret;exact⟨ret_i HR.out.symm,ex⟩
theorem zyY (m:Msg)(A:Option Addr)(c:Nat)(w:World)(hs:za3 w A c m.recs):Calls prog 110 #[.agg (Lm m A c)] w fun e w'=>e=.returned (.int .i64 (appE m))∧Ext w w':=by
 by_cases h0:0<m.at_
 ·exact zjp m A c w hs _ _ rfl rfl (.inl ⟨h0,if_pos h0,if_pos h0⟩)
 ·exact zjp m A c w hs _ _ rfl rfl (.inr ⟨h0,if_neg h0,if_neg h0⟩)
theorem zyX (m:Msg)(A:Option Addr)(c:Nat)(w:World)(hs:za3 w A c m.recs):Calls prog 111 #[.agg (Lm m A c)] w fun e w'=>e=.returned (.int .i64 (ansE m))∧Ext w w':=by
 have hl:=hs.len;have yes:m.before=0→¬0<m.recs.length→m.acked=0→0=ansE m:=fun h1 h2 h3=>by
  unfold ansE;rw[if_neg];rintro(h|h|h)
  ·exact h h1
  ·exact h (List.eq_nil_of_length_eq_zero om)
  ·exact h h3
 have no:(m.before≠0∨0<m.recs.length∨m.acked≠0)→3=ansE m:=fun h=>by
  unfold ansE;rw[if_pos];rcases h with h|h|h
  ·exact .inl h
  ·exact .inr (.inl fun hn=>by rw[hn] at h;simp at h)
  ·exact .inr (.inr h)
 clear hs;by_cases h1:m.before=0
 ·have hz:(m.before !=0)=false:=by simpa using h1
  by_cases h2:0<m.recs.length
  ·have HV:=zh (no (.inr (.inl h2)));clear yes no h1;go_enter func111,ntmps111;go_wp2;go_ret;exact⟨ret_i HV.out,ex⟩
  ·by_cases h3:m.acked=0
   ·have hz3:(m.acked !=0)=false:=by simpa using h3
    have HV:=zh (yes h1 h2 h3);clear yes no h1 h3;go_enter func111,ntmps111;go_wp2;go_ret;exact⟨ret_i HV.out,ex⟩
   ·have hz3:(m.acked !=0)=true:=by simpa using h3
    have HV:=zh (no (.inr (.inr h3)));clear yes no h1 h3;go_enter func111,ntmps111;go_wp2;go_ret;exact⟨ret_i HV.out,ex⟩
 ·have hz:(m.before !=0)=true:=by simpa using h1
  have HV:=zh (no (.inl h1));clear yes no h1;go_enter func111,ntmps111;go_wp2;go_ret;exact⟨ret_i HV.out,ex⟩
section
variable {m:Msg}
theorem msgE_a (h:za5 m.kind 0 2=false):msgE m=1:=by have:=zaF h;unfold msgE;rw[if_pos om]
theorem zDX (h:za5 m.kind 0 2=true)(h2:za5 m.term 1 1048576=false∨za5 m.at_ 0 256=false):msgE m=2:=by have:=za8 h;unfold msgE;rw[if_neg om,if_pos];rcases h2 with h|h<;>have:=zaF h<;>omega
theorem msgE_c (h:za5 m.kind 0 2=true)(h2:za5 m.term 1 1048576=true)(h3:za5 m.at_ 0 256=true):msgE m=if m.kind=0 then appE m else ansE m:=by have:=za8 h;have:=za8 h2;have:=za8 h3;unfold msgE;rw[if_neg om,if_neg om]
end
theorem zwA (k:Int)(m:Msg)(hk:m.kind=k)(A:Option Addr)(c:Nat)(w:World)(hs:za3 w A c m.recs)(h1:za5 k 0 2=true)(h2:za5 m.term 1 1048576=true)(h3:za5 m.at_ 0 256=true):
  Calls prog 81 #[.agg #[k,m.term,m.at_,m.before,.slice A m.recs.length c,m.acked]] w fun e w'=>e=.returned (.int .i64 (msgE m))∧Ext w w':=by
 have hl:=hs.len;have HS:=zh hs;have HE:=zh (msgE_c (by rw[hk];exact h1) h2 h3);have hkk:=za8 h1;have hcase:k=0∨k=1∨k=2:=by omega
 have H1:=zh h1;have H2:=zh h2;have H3:=zh h3;clear h1 h2 h3 hs hkk;rcases hcase with rfl|rfl|rfl
 ·have HV:=zh (show msgE m=appE m by rw[HE.out,if_pos hk]);have HC:=zh (show ∀w:World,za3 w A c m.recs→Calls prog 110 #[.agg #[zI,m.term,m.at_,m.before,.slice A m.recs.length c,m.acked]] w fun e w'=>e=.returned (.int .i64 (appE m))∧Ext w w' from fun w h=>by have:=zyY m A c w h;rwa [hk] at this);clear hk;go_enter func81,ntmps81;go_wp2_with (go_at_call 77;refine(ziS _ _ _ _).mono ?_;rintro e w' ⟨he,rfl⟩;simp only[H1.out,H2.out,H3.out] at he;subst he);(refine zcL kr kr ?_;(repeat(go_big_quiet_step ((go_at_call 110;exact Calls.grows (HC.out _ (HS.out.mono ex))))));refine wqN fun y=>?_);go_wp2;go_ret;exact⟨ret_i HV.out.symm,ex⟩
 all_goals
  have HV:=zh (show msgE m=ansE m by rw[HE.out,if_neg om]);have HC:=zh (fun(w:World) (h:za3 w A c m.recs)=>zyX m A c w h);rw[hk] at HC;clear hk;go_enter func81,ntmps81;go_wp2_with (go_at_call 77;refine(ziS _ _ _ _).mono ?_;rintro e w' ⟨he,rfl⟩;simp only[H1.out,H2.out,H3.out] at he;subst he);(refine zcL kr kr ?_;(repeat(go_big_quiet_step ((go_at_call 111;exact Calls.grows (HC.out _ (HS.out.mono ex))))));refine wqN fun y=>?_);go_wp2;go_ret;exact⟨ret_i HV.out.symm,ex⟩
theorem zeo (m:Msg)(A:Option Addr)(c:Nat)(w:World)(hs:za3 w A c m.recs):Calls prog 81 #[.agg (Lm m A c)] w fun e w'=>e=.returned (.int .i64 (msgE m))∧Ext w w':=by
 have hl:=hs.len;cases h1:za5 m.kind 0 2 with
 |false=>have HR:=zh (msgE_a h1);have H1:=zh h1;clear h1 hs;go_enter func81,ntmps81;go_wp2_with (go_at_call 77;refine(ziS _ _ _ _).mono ?_;rintro e w' ⟨he,rfl⟩;simp only[H1.out] at he;subst he);go_ret;exact⟨ret_i HR.out.symm,ex⟩
 |true=>
  cases h2:za5 m.term 1 1048576 with
  |false=>have HR:=zh (zDX h1 (.inl h2));have H1:=zh h1;have H2:=zh h2;clear h1 h2 hs;go_enter func81,ntmps81;go_wp2_with (go_at_call 77;refine(ziS _ _ _ _).mono ?_;rintro e w' ⟨he,rfl⟩;simp only[H1.out,H2.out] at he;subst he);go_ret;exact⟨ret_i HR.out.symm,ex⟩
  |true=>
   cases h3:za5 m.at_ 0 256 with
   |false=>have HR:=zh (zDX h1 (.inr h3));have H1:=zh h1;have H2:=zh h2;have H3:=zh h3;clear h1 h2 h3 hs;go_enter func81,ntmps81;go_wp2_with (go_at_call 77;refine(ziS _ _ _ _).mono ?_;rintro e w' ⟨he,rfl⟩;simp only[H1.out,H2.out,H3.out] at he;subst he);go_ret;exact⟨ret_i HR.out.symm,ex⟩
   |true=>exact zwA m.kind m rfl A c w hs h1 h2 h3

def zaH (w:World) (v:Nod×Int) (e:Ending) (w':World):Prop:=∃A c,e=.returned (.tuple #[.agg (Ln v.1 A c),v.2])∧Ext w w'∧za3 w' A c v.1.log
theorem zaH.err {w w':World}{v:Nod×Int}{x:Int}(h:v=(nod0,x))(hx:Ext w w'):zaH w v (.returned (.tuple #[.agg Zn,x])) w':=by subst h;exact⟨none,0,rfl,hx,za3.nil _⟩
theorem zDY {id:Int}(h:za5 id 1 2=false):newV id=(nod0,2):=by have:=zaF h;unfold newV;rw[if_pos om]
theorem ztx {id:Int}(h:za5 id 1 2=true):newV id=(⟨id,0,false,[],0,0⟩,0):=by have:=za8 h;unfold newV;rw[if_neg om]
theorem zyW (id:Int)(w:World):Calls prog 34 #[id] w (zaH w (newV id)):=by
 cases h:za5 id 1 2 with
 |false=>have HR:=zh (zDY h);have H1:=Lib.hid h;clear h;go_enter func34,ntmps34;go_wp2_with (go_at_call 77;refine(ziS _ _ _ _).mono ?_;rintro e w' ⟨he,rfl⟩;simp only[H1.out] at he;subst he);exact bodyPost_ret (v:=.tuple #[.agg Zn,.int .i64 2]) (by simp[results,results34,go_sem]) rfl (zaH.err HR.out ex)
 |true=>have HR:=zh (ztx h);have H1:=Lib.hid h;clear h;go_enter func34,ntmps34;go_wp2_with (go_at_call 77;refine(ziS _ _ _ _).mono ?_;rintro e w' ⟨he,rfl⟩;simp only[H1.out] at he;subst he);refine bodyPost_ret (v:=.tuple #[.agg #[id,zI,.bool false,.slice none 0 0,zI,zI],zI]) (by simp[results,results34,go_sem]) rfl ?_;rw[HR.out];exact⟨none,0,rfl,ex,za3.nil _⟩
section
variable {n:Nod} {t:Int}
theorem zDO (h:nodE n≠0):leadV n t=(nod0,nodE n):=by unfold leadV;rw[if_pos h]
theorem zDP (h:nodE n=0)(h1:za5 t 1 1048576=false):leadV n t=(nod0,2):=by have:=zaF h1;unfold leadV;rw[if_neg (by simpa using h),if_pos om]
theorem zDQ (h:nodE n=0)(h1:za5 t 1 1048576=true)(h2:ownB n.id t=false):leadV n t=(nod0,11):=by have:=za8 h1;unfold leadV;rw[if_neg (by simpa using h),if_neg om,if_pos h2]
theorem zDR (h:nodE n=0)(h1:za5 t 1 1048576=true)(h2:ownB n.id t=true)(h3:t≤n.term):leadV n t=(nod0,9):=by have:=za8 h1;unfold leadV;rw[if_neg (by simpa using h),if_neg om,if_neg (by rw[h2];simp),if_pos h3]
theorem zDS (h:nodE n=0)(h1:za5 t 1 1048576=true)(h2:ownB n.id t=true)(h3:¬t≤n.term):leadV n t=(ledN n t,0):=by have:=za8 h1;unfold leadV;rw[if_neg (by simpa using h),if_neg om,if_neg (by rw[h2];simp),if_neg h3]
end
theorem zdz (n:Nod)(A:Option Addr)(c:Nat)(t:Int)(w:World)(hs:za3 w A c n.log):Calls prog 35 #[.agg (Ln n A c),t] w (zaH w (leadV n t)):=by
 have hl:=hs.len;have HS:=zh hs;clear hs;by_cases h:nodE n=0
 ·have hz:(nodE n !=0)=false:=by simpa using h
  have HN:=Lib.hid h;have hok:=(zal n).1 h;have j1:=hok.id1;have j2:=hok.id2;clear h hok;cases h1:za5 t 1 1048576 with
  |false=>have HR:=zh (zDP HN.out h1);have H1:=zh h1;clear h1;go_enter func35,ntmps35;go_wp2_with (first|(go_at_call 77;refine(ziS _ _ _ _).mono ?_;rintro e w' ⟨he,rfl⟩;simp only[H1.out] at he;subst he)|(go_at_call 78;refine zzg (zaA n A c _ (HS.out.mono ex)) fun y=>?_));exact bodyPost_ret (v:=.tuple #[.agg Zn,.int .i64 2]) (by simp[results,results35,go_sem]) rfl (zaH.err HR.out ex)
  |true=>
   have i1:=(za8 h1).1;have i2:=(za8 h1).2;have i3:0≤t:=by omega
   cases h2:ownB n.id t with
   |false=>have HR:=zh (zDQ HN.out h1 h2);have H1:=zh h1;have H2:=zh h2;clear h1 h2;go_enter func35,ntmps35;go_wp2_with (first|(go_at_call 77;refine(ziS _ _ _ _).mono ?_;rintro e w' ⟨he,rfl⟩;simp only[H1.out] at he;subst he)|(go_at_call 78;refine zzg (zaA n A c _ (HS.out.mono ex)) fun y=>?_)|(go_at_call 79;refine(zdV _ _ _ j1 j2 i3 i2).mono ?_;rintro e w' ⟨he,rfl⟩;rw[H2.out] at he;subst he));exact bodyPost_ret (v:=.tuple #[.agg Zn,.int .i64 11]) (by simp[results,results35,go_sem]) rfl (zaH.err HR.out ex)
   |true=>
    by_cases h3:t≤n.term
    ·have HR:=zh (zDR HN.out h1 h2 h3);have H1:=zh h1;have H2:=zh h2;clear h1 h2;go_enter func35,ntmps35;go_wp2_with (first|(go_at_call 77;refine(ziS _ _ _ _).mono ?_;rintro e w' ⟨he,rfl⟩;simp only[H1.out] at he;subst he)|(go_at_call 78;refine zzg (zaA n A c _ (HS.out.mono ex)) fun y=>?_)|(go_at_call 79;refine(zdV _ _ _ j1 j2 i3 i2).mono ?_;rintro e w' ⟨he,rfl⟩;rw[H2.out] at he;subst he));exact bodyPost_ret (v:=.tuple #[.agg Zn,.int .i64 9]) (by simp[results,results35,go_sem]) rfl (zaH.err HR.out ex)
    ·have HR:=zh (zDS HN.out h1 h2 h3);have H1:=zh h1;have H2:=zh h2;clear h1 h2;go_enter func35,ntmps35;go_wp2_with (first|(go_at_call 77;refine(ziS _ _ _ _).mono ?_;rintro e w' ⟨he,rfl⟩;simp only[H1.out] at he;subst he)|(go_at_call 78;refine zzg (zaA n A c _ (HS.out.mono ex)) fun y=>?_)|(go_at_call 79;refine(zdV _ _ _ j1 j2 i3 i2).mono ?_;rintro e w' ⟨he,rfl⟩;rw[H2.out] at he;subst he));refine bodyPost_ret (v:=.tuple #[.agg #[n.id,t,.bool true,.slice A n.log.length c,n.acked,n.log.length],zI]) (by simp[results,results35,go_sem]) rfl ?_;rw[HR.out];exact⟨A,c,rfl,ex,HS.out.mono ex⟩
 ·have hz:(nodE n !=0)=true:=by simpa using h
  have HR:=zh (zDO (t:=t) h);clear h;go_enter func35,ntmps35;go_wp2_with (go_at_call 78;refine zzg (zaA n A c _ (HS.out.mono ex)) fun y=>?_);exact bodyPost_ret (v:=.tuple #[.agg Zn,.int .i64 (nodE n)]) (by simp[results,results35,go_sem]) rfl (zaH.err HR.out ex)

theorem zdq {l:List Rec}{k:Nat}{r:Rec}(h:l[k]?=some r):zaQ l (k:Int)=r.term:=by unfold zaQ;rw[if_neg om,Int.toNat_natCast,h]
@[go_sem] theorem nil_R (A : Option Addr) (n c n' c' : Nat) (w : World) : (binOp .eql 22 (.slice A n c) (.slice none n' c')).run prog w = .ok (.bool A.isNone) w:=Lib.run_eql_slice_nil w _ _ A n c n' c' underlying22
theorem zmT:zbz prog 180 45 552=true:=by kernel_rfl
def zxS (w0:World) (n:Nat) (l:List Rec) (e:Ending) (w':World):Prop:=∃A k,e=.returned (.slice A n k)∧Ext w0 w'∧Own w0 w' 180 45 A n k (l.map recR)
theorem Own.shift {X X':World}{y:Gr}{E:TypeId}{size:Nat}{A:Option Addr}{n k:Nat}{rows:List (List Value)}(h:Own X (xt X y) E size A n k rows)(hs:X.heap.size=X'.heap.size):Own X' (xt X' y) E size A n k rows:=by
 refine⟨h.len,h.row,h.one,h.le,h.cap,?_⟩;rcases h.at_ with h0|⟨g,cur,h1,h2,h3,h4⟩
 ·exact .inl h0
 ·refine .inr ⟨g,cur,h1,by omega,?_,h4⟩;have e:∀Z:World,X.heap.size=Z.heap.size→(xt Z y).heap[g]?=y.objs[g - X.heap.size]?:=fun Z hz=>by show(Z.heap++y.objs)[g]?=_;rw[Array.getElem?_append_right om,hz]
  rw[e X' hs,←e X rfl];exact h3
theorem Own.recs {w0 w:World}{E:TypeId}{A:Option Addr}{k n:Nat}{l:List Rec}(h:Own w0 w E 45 A n k (l.map recR))(hl:l.length=n)(he:∀r∈l,AcnAt w r.act):za3 w A k l:=⟨h.sl,by rw[hl];exact h.le,h.cap,he⟩
theorem zlB (A:Option Addr)(k n:Nat)(l:List Rec)(w:World)(hn:l.length=n)(hs:Sl w A 45 (l.map recR))(hl:n≤1000000):Calls prog 103 #[.slice A n k] w (zxS w n l):=by
 subst hn;cases A with
 |none=>
  have hnil:l=[]:=by simpa using hs.none_nil
  subst hnil;go_enter func103,ntmps103;go_wp2;go_ret;exact⟨_,_,rfl,ex,Own.nil _⟩
 |some a=>go_enter func103,ntmps103;go_wp2_with (at_builtin;refine za6 (w0:=w) rfl _ _ 22 22 rfl 180 180 45 552 underlying22 underlying22 zmT dk ex _ 0 0 [] rfl (Own.nil _) (some a) l.length _ (l.map recR) rfl (hs.mono ex) (by simp) (zij l) (by unfold maxLen;omega) om l.length om (l.map recR) rfl ?_;intro A' k' w1 hx1 hown hg hA;have HO:=zh hown;obtain⟨y,rfl⟩:=hx1.get;clear hown hx1 hg hA);go_ret;exact⟨_,_,rfl,ex,HO.out⟩
def zrI (w:World) (m:Msg) (e:Ending) (w':World):Prop:=∃A c,e=.returned (.agg (Lm m A c))∧Ext w w'∧Own w w' 180 45 A m.recs.length c (m.recs.map recR)∧∀r∈m.recs,AcnAt w r.act
theorem zrI.of {w w':World}{m:Msg}{k t a b d:Int}{len c:Nat}{D:Option Addr}{l:List Rec}(hm:m=⟨k,t,a,b,l,d⟩)(hl:l.length=len)(hx:Ext w w')(hr:Own w w' 180 45 D len c (l.map recR))(he:∀r∈l,AcnAt w r.act):
  zrI w m (.returned (.agg #[k,t,a,b,.slice D len c,d])) w':=by
 subst hm hl;exact⟨D,c,rfl,hx,hr,he⟩
theorem zop (n:Nod)(j q:Nat)(hj:n.next=j)(hq:min (j+16) n.log.length=q)(b:Int)(hb:(if 0<n.next then zaQ n.log (n.next - 1) else 0)=b):sentM n=⟨0,n.term,j,b,(n.log.take q).drop j,n.acked⟩:=by
 have hrecs:(sentM n).recs=(n.log.take q).drop j:=by
  show(n.log.drop n.next.toNat).take 16=_;rw[List.drop_take,show n.next.toNat=j by omega,←hq];by_cases hc:j+16≤n.log.length
  ·rw[Nat.min_eq_left hc,show j+16 - j=16 by omega]
  ·rw[Nat.min_eq_right om,List.take_of_length_le (by rw[List.length_drop];omega),List.take_of_length_le (by rw[List.length_drop];omega)]
 have:sentM n=⟨0,n.term,n.next,if 0<n.next then zaQ n.log (n.next - 1) else 0,(sentM n).recs,n.acked⟩:=rfl;rw[this,hrecs,hb,hj]
theorem rep_sent (n:Nod)(A:Option Addr)(c:Nat)(w:World)(hs:za3 w A c n.log)(hn:NodOk n):Calls prog 106 #[.agg (Ln n A c)] w (zrI w (sentM n)):=by
 have hl:=hs.len;have h256:=hn.len;have h0:=hn.n0;have h1:=hn.n1;obtain⟨j,hj⟩:∃j:Nat,n.next=j:=⟨n.next.toNat,by omega⟩
 have hcap:=hs.le;obtain⟨q,hq⟩:∃q:Nat,min (j+16) n.log.length=q:=⟨_,rfl⟩
 have hjq:j≤q:=by omega
 have hjc:(j:Int)≤(q:Int):=by omega
 have hqc:(q:Int)≤(c:Int):=by omega
 have hql:q≤n.log.length:=by omega
 by_cases hj0:0<j
 ·obtain⟨r,hr⟩:∃r,n.log[j - 1]?=some r:=⟨_,List.getElem?_eq_getElem om⟩
  have HE:=zh (zop n j q hj hq r.term (by rw[if_pos om,hj,show((j:Int) - 1)=((j - 1:Nat):Int) by omega,zdq hr]));obtain⟨hp1,hp2⟩:=hs.part j q hql (q - j) rfl;obtain⟨b,o,rfl,hrec,-⟩:=hs.get hr;have HP1:=zh hp1;have HP2:=zh hp2;have ht:=hrec.term;have hi1:(0:Int)≤(j:Int) - 1:=by omega
  have hi2:(j:Int) - 1<(n.log.length:Int):=by omega
  have hmin:min ((j:Int)+16) (n.log.length:Int)=(q:Int):=by omega
  rw[hj] at h0 h1 ⊢
  clear hp1 hp2 hn hr hrec hq hj hs;go_enter func106,ntmps106;go_wp2_with (go_at_call 103;refine(zlB _ _ _ ((n.log.take q).drop j) _ HP2.out (HP1.out.sl.mono ex) om).mono ?_;rintro e w' ⟨D,n',rfl,hx,hown⟩;have HO:=zh hown;obtain⟨yc,rfl⟩:=hx.get;clear hx hown);refine bodyPost_ret (v:=.agg #[zI,n.term,j,r.term,.slice D (q - j) n',n.acked]) (by simp[results,results106,go_sem]) rfl ?_;exact zrI.of HE.out HP2.out ex (Own.older (Own.shift HO.out sg) ex) HP1.out.el
 ·obtain rfl:j=0:=by omega
  have HE:=zh (zop n 0 q hj hq 0 (by rw[if_neg om]));obtain⟨hp1,hp2⟩:=hs.part 0 q hql q (Nat.sub_zero q);have HP1:=zh hp1;have HP2:=zh hp2;rw[zb2] at HP1;have hmin:min 16 (n.log.length:Int)=(q:Int):=by omega
  rw[hj] at h0 h1 ⊢
  clear hp1 hp2 hn hq hj hs hj0;go_enter func106,ntmps106;go_wp2_with (go_at_call 103;refine(zlB _ _ _ ((n.log.take q).drop 0) _ HP2.out (HP1.out.sl.mono ex) om).mono ?_;rintro e w' ⟨D,n',rfl,hx,hown⟩;have HO:=zh hown;obtain⟨yc,rfl⟩:=hx.get;clear hx hown);refine bodyPost_ret (v:=.agg #[zI,n.term,zI,zI,.slice D q n',n.acked]) (by simp[results,results106,go_sem]) rfl ?_;exact zrI.of HE.out HP2.out ex (Own.older (Own.shift HO.out sg) ex) HP1.out.el
theorem zq9 (n:Nod)(m:Msg)(hm:sentM n=m)(A:Option Addr)(c:Nat)(w:World)(hs:za3 w A c n.log)(hn:NodOk n):Calls prog 106 #[.agg (Ln n A c)] w (zrI w m):=by subst hm;exact rep_sent n A c w hs hn
theorem zF9 {n:Nod}(h:nodE n≠0):sendV n=(msg0,nodE n):=by unfold sendV;rw[if_pos h]
theorem zFa {n:Nod}(h:nodE n=0)(h1:n.speaks=false):sendV n=(msg0,16):=by unfold sendV;rw[if_neg (by simpa using h),if_pos h1]
theorem zFb {n:Nod}{m:Msg}(hm:sentM n=m)(h:nodE n=0)(h1:n.speaks=true):sendV n=(m,0):=by subst hm;unfold sendV;rw[if_neg (by simpa using h),if_neg (by rw[h1];simp)]
def zd6 (w:World) (v:Msg×Int) (e:Ending) (w':World):Prop:=∃A c,e=.returned (.tuple #[.agg (Lm v.1 A c),v.2])∧Ext w w'∧Own w w' 180 45 A v.1.recs.length c (v.1.recs.map recR)∧∀r∈v.1.recs,AcnAt w r.act
theorem zd6.err {w w':World}{v:Msg×Int}{x:Int}(h:v=(msg0,x))(hx:Ext w w'):zd6 w v (.returned (.tuple #[.agg Zm,x])) w':=by subst h;exact⟨none,0,rfl,hx,Own.nil _,by simp[msg0]⟩
theorem zdU (n:Nod)(A:Option Addr)(c:Nat)(w:World)(hs:za3 w A c n.log):Calls prog 135 #[.agg (Ln n A c)] w (zd6 w (sendV n)):=by
 have hl:=hs.len;have HS:=zh hs;clear hs;by_cases h:nodE n=0
 ·have hz:(nodE n !=0)=false:=by simpa using h
  have HN:=Lib.hid h;clear h;obtain⟨b,hb⟩:∃b,n.speaks=b:=⟨_,rfl⟩
  have HC:=zh (fun(w':World) (h:za3 w' A c n.log)=>zaA n A c w' h);rw[hb] at HC ⊢
  cases b with
  |false=>have HR:=zh (zFa HN.out hb);clear hb;go_enter func135,ntmps135;go_wp2_with (go_at_call 78;refine zzg (HC.out _ (HS.out.mono ex)) fun y=>?_);exact bodyPost_ret (v:=.tuple #[.agg Zm,.int .i64 16]) (by simp[results,results135,go_sem]) rfl (zd6.err HR.out ex)
  |true=>
   obtain⟨m,hm⟩:∃m,sentM n=m:=⟨_,rfl⟩
   have HR:=zh (zFb hm HN.out hb);have HD:=zh (fun(w':World) (h:za3 w' A c n.log)=>zq9 n m hm A c w' h ((zal n).1 HN.out));rw[hb] at HD;have HM:=zh hm;clear hm hb;go_enter func135,ntmps135;go_wp2_with (first|(go_at_call 78;refine zzg (HC.out _ (HS.out.mono ex)) fun y=>?_)|(go_at_call 106;refine(HD.out _ (HS.out.mono ex)).mono ?_;rintro e w' ⟨D,n',rfl,hx,hown,-⟩;have HO:=zh hown;obtain⟨yc,rfl⟩:=hx.get;clear hx hown));refine bodyPost_ret (v:=.tuple #[.agg (Lm m D n'),zI]) (by simp[results,results135,go_sem]) rfl ?_;rw[HR.out];have hel2:∀r∈m.recs,AcnAt w r.act:=by rw[←HM.out];exact fun r hr=>HS.out.el r (List.mem_of_mem_drop (List.mem_of_mem_take hr))
   exact⟨D,n',rfl,ex,Own.older (Own.shift HO.out sg) ex,hel2⟩
 ·have hz:(nodE n !=0)=true:=by simpa using h
  have HR:=zh (zF9 h);clear h;go_enter func135,ntmps135;go_wp2_with (go_at_call 78;refine zzg (zaA n A c _ (HS.out.mono ex)) fun y=>?_);exact bodyPost_ret (v:=.tuple #[.agg Zm,.int .i64 (nodE n)]) (by simp[results,results135,go_sem]) rfl (zd6.err HR.out ex)
