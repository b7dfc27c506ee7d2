import Derived.Test.YtnpdghjpcnjokaaGreatGwkg
set_option linter.all false
namespace Go.Proofs.YtnpdghjpcnjokaaGreat
set_option maxHeartbeats 6400000
set_option maxRecDepth 100000
open Go.RowKit Go.Proofs.Tryz

section
variable {w0 W:World} {w:Wld} {A B M:Option Addr} {a b m:Nat} {xs:List (Ltr×Option Addr×Nat)}
theorem zwS (hx:Ext w0 W)(hok:WldOk w)(ha:LogW w0 W A w.a.node.log.length a w.a.node.log)(hb:LogW w0 W B w.b.node.log.length b w.b.node.log)(hm:MailR w0 W M m w.mail xs){E:Option Addr}{ce:Nat}{l:List Evt}(hs:zbR W E ce l)(hel:∀x∈l,AcnAt w0 x.act)(hl0:evtsE l=0)(hn:w.now<1048576){u:Wld}(hu:tickW w l=u){n:Nat}(hln:l.length=n):Calls prog 20 #[.agg (Lw w A a B b M m),.slice E n ce] W fun e W1=>(∃A2 a2 B2 b2 M2 m2 xs2,e=.returned (.tuple #[.agg (Lw u A2 a2 B2 b2 M2 m2),zI])∧LogW w0 W1 A2 u.a.node.log.length a2 u.a.node.log∧LogW w0 W1 B2 u.b.node.log.length b2 u.b.node.log∧MailR w0 W1 M2 m2 u.mail xs2∧∀z cs,BoxAt W z cs 30 →OffZ M2 (xs2.map ltrR) z)∧Ext W W1:=by
 subst hln;have h:=zlq ha hb hm hx;have HCK:=zh (fun(X:World) (hx:Ext W X)=>by have:=zeq (h.mono hx);rwa [(zge w).2 hok] at this);have HRT:=zh (fun(X:World) (hx:Ext W X)=>by have:=zgQ X (hs.mono hx);rwa [hl0] at this);have hla:=h.a.len;have hlb:=h.b.len;have hml:=hok.len;have hll:=zfI hl0;have hn0:=hok.n0;have hnz:(w.now==1048576)=false:=by rw[beq_eq_false_iff_ne];omega
 have HQA:=zh ha;have HQB:=zh hb;have HMR:=zh hm;have HES:=zh hs.sl;have HEL:=zh hel;have HEV:=zh (zei hl0);have HOK:=zh hok;have HU:=zh hu;have HN:=zh hn;have HX:=zh hx;clear h hok ha hb hm hs hel hl0 hu hn hx;go_enter func20,ntmps20
 go_wp2_with (first
  |(go_at_call 14;refine zzg (HCK.out _ ex) fun ya=>?_)
  |(go_at_call 16;refine zzg (HRT.out _ ex) fun yb=>?_)
  |(go_at_call 57;refine(zlm (w0:=w0) (g:=W.heap.size) (w:=w) (A:=A) (a:=a) (B:=B) (b:=b) (M:=M) (m:=m) ⟨HX.out.trans ex,HX.out.size,bxA,HQA.out.mono ex,HQB.out.mono ex⟩ (HMR.out.mono ex) HOK.out (HES.out.mono ex) HEL.out om HEV.out HN.out).mono ?_;rintro e W2 ⟨rfl,hg2,A2,a2,B2,b2,M2,m2,xs2,hC3,hM3⟩;have hZ3:BoxAt W2 (W.heap.size+1) Zw 30:=BoxAt.grownB bxA hg2 om;have HZZ:=zh (fun(z:Nat) (cs:List Value) (hb:BoxAt W z cs 30)=>BoxAt.grownB (hb.mono ex) hg2 (by have:=hb.lt;omega));have HXW:=zh (Ext.over (show Ext W _ from ex) hg2 (fun k hk=>by injection hk with hk;omega));clear hg2;rw[HU.out] at hC3 hM3;have hrw:=hC3.box.row (n:=21) rfl)
  |(refine za2 rfl 30 (.tmp 4) (.tmp 26) rfl (hZ3.mono ex) rfl (Lw u A2 a2 B2 b2 M2 m2) rfl rfl (show 21<44 by decide) kr (zbm u A2 a2 B2 b2 M2 m2) ?_;intro W7 ht7 hb7))
 have hx7:Ext W W7:=ht7.ext (HXW.out.trans ex) om;refine bodyPost_ret (v:=.tuple #[.agg [.int .i64 u.now,.int .i64 u.limit,.int .i64 u.delay,.bool u.cut,.int .i64 u.a.node.id,.int .i64 u.a.node.term,.bool u.a.node.speaks,.slice A2 u.a.node.log.length a2,.int .i64 u.a.node.acked,.int .i64 u.a.node.next,.bool u.a.up,.int .i64 u.a.quiet,.int .i64 u.b.node.id,.int .i64 u.b.node.term,.bool u.b.node.speaks,.slice B2 u.b.node.log.length b2,.int .i64 u.b.node.acked,.int .i64 u.b.node.next,.bool u.b.up,.int .i64 u.b.quiet,.slice M2 u.mail.length m2].toArray,zI]) (zf1 (i:=4) (j:=5) (by simp[results20]) rfl rfl hb7.range rfl) rfl ?_;exact⟨⟨A2,a2,B2,b2,M2,m2,xs2,rfl,(hC3.qa.mono ex).turn ht7,(hC3.qb.mono ex).turn ht7,(hM3.read.mono ex).off (hM3.offZ hZ3) ht7,fun z cs hb=>hM3.offZ (HZZ.out z cs hb)⟩,hx7⟩
end
