import Derived.KernelRfl
import Derived.Test.YtnpdghjpcnjokaaGreatGwkg
set_option maxHeartbeats 12800000
set_option maxRecDepth 100000
set_option linter.all false
namespace Go.Proofs.YtnpdghjpcnjokaaGreat
namespace Tk

def upE (k i:Int):Evt:=⟨k,2,i,acnN,0⟩
def soonL (t u:Int):List Evt:=[downE t 1,upE u 1]
end Tk
namespace Tk

def cutL (t u:Int):List Evt:=[⟨t,3,0,acnN,0⟩,⟨u,4,0,acnN,0⟩]
def five (w:Wld):Bool×Int×Bool×Int×Int:=(w.a.node.speaks,w.a.node.term,w.b.node.speaks,w.b.node.term,zc6 w)
theorem cut_8:five (runW (cutL 5 9) 8 (newW 2 1).1)=(true,1,true,2,2):=by kernel_rfl
theorem cut_11:(runW (cutL 5 9) 11 (newW 2 1).1).a.node.speaks=false∧(runW (cutL 5 9) 11 (newW 2 1).1).b.node.speaks=true:=⟨by kernel_rfl,by kernel_rfl⟩
end Tk
namespace Tk

noncomputable def aw:Wld:=(newW 2 1).1
theorem aw_tr8:zce [] 8 aw=[1,1,1,1,1,1,1,1]:=by kernel_rfl
theorem aw_tr14:zce (soonL 5 10) 14 aw=[1,1,1,1,1,0,0,2,2,2,2,2,2,2]:=by kernel_rfl
theorem aw_ok:WldOk aw:=(zem om om om om).2
theorem aw_now:aw.now=0:=by unfold aw newW;rw[if_neg om]
theorem zve {t k:Int}(h1:k=3∨k=4):evtE ⟨t,k,0,acnN,0⟩=0:=by
 unfold evtE;rw[if_neg (by show ¬(k<0∨5<k);omega),if_neg (by show ¬(k≤2∧_∨k=5∧_);rintro(⟨h,-⟩|⟨h,-⟩)<;>omega),if_neg (by show ¬(k=0∧_);rintro⟨h,-⟩;omega),if_neg];rintro(⟨-,b⟩|⟨-,b⟩|⟨-,b⟩)
 ·exact b rfl
 ·exact b rfl
 ·have:sameA acnN acnN=false:=b;rw[zeb] at this;cases this
theorem zAE {t i k:Int}(h1:k=1∨k=2)(hi:1≤i)(hi2:i≤2):evtE ⟨t,k,i,acnN,0⟩=0:=by
 unfold evtE;rw[if_neg (by show ¬(k<0∨5<k);omega),if_neg (by show ¬(k≤2∧(i<1∨2<i)∨k=5∧_);rintro(⟨-,h⟩|⟨h,-⟩)<;>omega),if_neg (by show ¬(k=0∧_);rintro⟨h,-⟩;omega),if_neg];rintro(⟨a,-⟩|⟨-,b⟩|⟨-,b⟩)
 ·exact a (by show k≤2;omega)
 ·exact b rfl
 ·have:sameA acnN acnN=false:=b;rw[zeb] at this;cases this
theorem zxp {x y:Evt}(hx:evtE x=0)(hy:evtE y=0)(h0:0≤x.tick)(h1:x.tick≤y.tick)(h2:y.tick≤1048576):evtsE [x,y]=0:=by
 unfold evtsE;rw[if_neg (by show ¬(256<2);omega)];refine zf2 _ _ fun k z hz=> ?_
 match k,hz with
 |0,hz=>
  obtain rfl:x=z:=by injection hz
  unfold evtS;rw[if_neg om];exact hx
 |1,hz=>
  obtain rfl:y=z:=by injection hz
  unfold evtS;rw[if_neg om];show(if y.tick<x.tick then 9 else evtE y)=0;rw[if_neg om];exact hy
theorem soonL_right {t u:Int}(h0:0≤t)(h1:t≤u)(h2:u≤1048576):evtsE (soonL t u)=0:=zxp (zAE (k:=1) (.inl rfl) om om) (zAE (k:=2) (.inr rfl) om om) h0 h1 h2
theorem cutL_right {t u:Int}(h0:0≤t)(h1:t≤u)(h2:u≤1048576):evtsE (cutL t u)=0:=zxp (zve (.inl rfl)) (zve (.inr rfl)) h0 h1 h2
theorem aw_c8:(seqW (cutL 5 9) aw 8).a.node.speaks=true∧(seqW (cutL 5 9) aw 8).a.node.term=1∧(seqW (cutL 5 9) aw 8).b.node.speaks=true∧(seqW (cutL 5 9) aw 8).b.node.term=2∧zc6 (seqW (cutL 5 9) aw 8)=2:=by have h:=cut_8;rw[zu5] at h;unfold five at h;simp only[Prod.mk.injEq] at h;exact h
theorem aw_c11:(seqW (cutL 5 9) aw 11).a.node.speaks=false∧(seqW (cutL 5 9) aw 11).b.node.speaks=true:=by have h:=cut_11;rw[zu5 (cutL 5 9) 11 (newW 2 1).1] at h;exact h
theorem aw_spk:zeP (seqW (cutL 5 9) aw 8)=(2,0):=by have h:=(zhe (fun x hx=>zei (cutL_right (t:=5) (u:=9) om om om) x hx) aw_ok 8 (by rw[aw_now];omega)).1;unfold zeP;rw[if_neg (by rw[(zge _).2 h];simp),aw_c8.2.2.2.2]
end Tk
open Go.RowKit

def bldE (ps:Array (Nat×Value)):Sem Value:=Instr.build 101 ps
@[go_sem ↓ high] theorem bldE_at (ps : Array (Nat × Value)) : Instr.build 101 ps = bldE ps:=rfl
@[go_sem] theorem bldE_3 (w : World) (t k s : Int) : (bldE #[(0,.int .i64 t),(1,.int .i64 k),(2,.int .i64 s)]).run Tryz.prog w = .ok (.agg (evtR ⟨t,k,s,acnN,0⟩).toArray) w:=run_build w _ _ _ kr
@[go_sem] theorem bldE_2 (w : World) (t k : Int) : (bldE #[(0,.int .i64 t),(1,.int .i64 k)]).run Tryz.prog w = .ok (.agg (evtR ⟨t,k,0,acnN,0⟩).toArray) w:=run_build w _ _ _ kr
theorem run_buildTwoV {P:Program}(w:World)(t e:TypeId)(l1 l2:List Value)(n:Nat)(hu:P.underlying t=some (.slice e))(hsz:(P.info? e).map (·.size)=some n)(hz:((P.info? e).bind (·.zero)).isSome=true)(h1:l1.length=n)(h2:l2.length=n)(hpos:0<n)(hsmall:2 * n≤2 ^ 24):
  (Instr.buildSlice t 2 #[(0,.agg l1.toArray),(1,.agg l2.toArray)]).run P w=.ok (.slice (some ⟨w.heap.size,0,none⟩) 2 2) (w.alloc (.cells (l1++l2).toArray e)):=by
 subst h1;cases hie:P.info? e with
 |none=>simp[hie] at hsz
 |some ie=>simp only[hie,Option.map_some,Option.some.injEq,Option.bind_some] at hsz hz;obtain⟨z,hzz⟩:=Option.isSome_iff_exists.1 hz;refine run_buildSlice w t e 2 #[(0,.agg l1.toArray),(1,.agg l2.toArray)] (l1++l2).toArray ie z hu hie hzz (by rw[hsz];omega) (by rw[hsz];omega) ?_;have:=Great.fill_whole hpos [Value.agg l1.toArray,Value.agg l2.toArray] ((Array.range (2 * l1.length)).map (z.cells[· % z.cells.size]!)) (by simp[Value.cells,h2]) (by simp);rw[hsz];simpa [Value.cells] using this
def bldL (ps:Array (Nat×Value)):Sem Value:=Instr.buildSlice 31 2 ps
@[go_sem ↓ high] theorem bldL_at (ps : Array (Nat × Value)) : Instr.buildSlice 31 2 ps = bldL ps:=rfl
@[go_sem] theorem bldL_run (w : World) (x y : Evt) : (bldL #[(0,.agg (evtR x).toArray),(1,.agg (evtR y).toArray)]).run Tryz.prog w = .ok (.slice (some ⟨w.heap.size,0,none⟩) 2 2) (w.alloc (.cells (evtR x ++ evtR y).toArray 101)) :=
 run_buildTwoV w _ _ (evtR x) (evtR y) 48 Tryz.underlying31 kr kr (zcm x) (zcm y) dk dk
theorem zAy {w:World}{n:Nat}{x y:Evt}{T:TypeId}(hs:w.heap.size=n):Sl (w.alloc (.cells (evtR x++evtR y).toArray T)) (some ⟨n,0,none⟩) 48 ([x,y].map evtR):=
 Sl.alloc' hs (by simp) (by intro r hr;simp only[List.map_cons,List.map_nil,List.mem_cons,List.not_mem_nil,or_false] at hr;rcases hr with rfl|rfl<;>exact zcm _)
theorem zz2 {fn:Func}{tmps:Array Value}{w:World}{i b:Nat}{x:Evt}(hf:fn.results=#[.cell i 101])(ht:tmps.getD i undef=.pointer (some ⟨b,0,none⟩))(hr:w.rangeAt b 0 (evtR x)):(results fn tmps).run Tryz.prog w=.ok (.agg (evtR x).toArray) w:=by
 have hl:=run_loadVar_mid w b 0 101 (evtR x) _ hr Tryz.underlying101 rfl kr;have ha:(asAddr (tmps.getD i undef)).run Tryz.prog w=.ok ⟨b,0,none⟩ w:=by rw[ht];rfl
 generalize hq:evtR x=cs at *
 unfold results;rw[hf];simp only[List.mapM_toArray,List.mapM_cons,List.mapM_nil,Sem.run_bind,Sem.run_map,Sem.run_pure,bind_pure_comp,ha,hl,Result.andThen];rfl
theorem zA8 (t i:Int)(w:World):Calls Tryz.prog 32 #[t,i] w fun e w'=>e=.returned (.agg (evtR (downE t i)).toArray)∧Ext w w':=by go_enter Tryz.func32,Tryz.ntmps32;go_wp2_with (refine za7 rfl 101 _ _ rfl rfl sg (evtR (downE t i)) rfl rfl kr (zdt _) ?_);refine bodyPost_ret (v:=.agg (evtR (downE t i)).toArray) (zz2 (i:=4) (by simp[Tryz.results32]) rfl (zag w rfl (evtR (downE t i)) _)) rfl ?_;exact⟨rfl,ex⟩
theorem zmK (A:Option Addr)(c:Nat)(B:Option Addr)(d n:Nat)(l:List Int)(hn:l.length=n)(w:World)(hs:Sl w A 1 (l.map intRw))(hs':Sl w B 1 (l.map intRw))(hl:n≤maxLen):
  Calls Tryz.prog 26 #[.slice A n c,.slice B n d] w fun e w'=>e=.returned (.bool true)∧Ext w w':=by
 subst hn;have h:=zsN A c l B d l w hs hl hs' hl;rwa [decide_eq_true rfl] at h
theorem zgT {P:Program}{md:Region.Mode}{ops:Array Oper}{Q:Exit→Act→World→Prop}{S:Array Bool→World→Prop}{f:Nat}{L:Array Bool}{a:Act}{W:World}(h:∀W',W'=W→wpAnyL P md ops Q S f L a W'):wpAnyL P md ops Q S f L a W:=h W rfl
theorem zxq {P:Program}{ops:Array Oper}{rest:List Oper}{Q:Exit→Act→World→Prop}{a:Act}{W:World}(h:∀W',W'=W→wpList P ops Q rest a W'):wpList P ops Q rest a W:=h W rfl
theorem zDk:evtsE []=0:=by unfold evtsE;rw[if_neg (by simp)];rfl
theorem zBe (w:World):zbR w none 0 []:=⟨Sl.nil _ _ _,Nat.le_refl _,Nat.zero_le _,by intro x hx;cases hx⟩
theorem ziA {w:World}{E:Option Addr}{x y:Evt}(h:Sl w E 48 ([x,y].map evtR))(hx:AcnAt w x.act)(hy:AcnAt w y.act):zbR w E 2 [x,y]:=
 ⟨h,Nat.le_refl _,by unfold maxLen;decide,by intro z hz;simp only[List.mem_cons,List.not_mem_nil,or_false] at hz;rcases hz with rfl|rfl;exact hx;exact hy⟩
open Go.RowKit

theorem zfM (w:World):Calls Tryz.prog 8 #[] w fun e w'=>e=.returned (.bool true)∧Ext w w':=by
 obtain⟨v,hv⟩:∃v,Tk.aw=v:=⟨_,rfl⟩
 have HV:=zh (show(newW 2 1).1=v from hv);have hok:WldOk v:=by rw[←hv];exact Tk.aw_ok
 have hnow:v.now=0:=by rw[←hv];exact Tk.aw_now
 have e8:=Tk.aw_tr8;have e14:=Tk.aw_tr14;have es:=Tk.aw_spk;have f8:=Tk.aw_c8;have f11:=Tk.aw_c11;rw[hv] at e8 e14 es f8 f11;have HT1:=zh (fun(V:World) (A:Option Addr) (a:Nat) (B:Option Addr) (b:Nat) (M:Option Addr) (m:Nat) (h:WldAt V v A a B b M m [])=>(by have:=zg1 (T:=8) (l:=[]) h hok (zBe V) zDk dk (by rw[hnow];decide);rwa [e8] at this:Calls Tryz.prog 24 #[.agg (Lw v A a B b M m),.slice none 0 0,.int .i64 8] V fun e W1=> ∃O ko,e=.returned (.tuple #[.slice O 8 ko,zI])∧Ext V W1∧Sl W1 O 1 (([1,1,1,1,1,1,1,1]:List Int).map intRw)∧8≤ko∧ko≤maxLen));have HT2:=zh (fun(V:World) (A:Option Addr) (a:Nat) (B:Option Addr) (b:Nat) (M:Option Addr) (m:Nat) (h:WldAt V v A a B b M m []) (E:Option Addr) (hs:Sl V E 48 ((Tk.soonL 5 10).map evtR))=>(by have:=zg1 (T:=14) (l:=Tk.soonL 5 10) h hok (ziA hs (zbb V) (zbb V)) (Tk.soonL_right om om om) dk (by rw[hnow];decide);rwa [e14] at this:Calls Tryz.prog 24 #[.agg (Lw v A a B b M m),.slice E 2 2,.int .i64 14] V fun e W1=> ∃O ko,e=.returned (.tuple #[.slice O 14 ko,zI])∧Ext V W1∧Sl W1 O 1 (([1,1,1,1,1,0,0,2,2,2,2,2,2,2]:List Int).map intRw)∧14≤ko∧ko≤maxLen));obtain⟨u,hu⟩:∃x,seqW (Tk.cutL 5 9) v 8=x:=⟨_,rfl⟩
 have HRu:=zh (fun(V:World) (A:Option Addr) (a:Nat) (B:Option Addr) (b:Nat) (M:Option Addr) (m:Nat) (h:WldAt V v A a B b M m []) (E:Option Addr) (hs:Sl V E 48 ((Tk.cutL 5 9).map evtR))=>(by have:=zqs (T:=8) (l:=Tk.cutL 5 9) h hok (ziA hs (zbb V) (zbb V)) (Tk.cutL_right om om om) dk (by rw[hnow];decide);rwa [hu] at this:Calls Tryz.prog 22 #[.agg (Lw v A a B b M m),.slice E 2 2,.int .i64 8] V fun e W1=>(∃A1 a1 B1 b1 M1 m1 xs1,e=.returned (.tuple #[.agg (Lw u A1 a1 B1 b1 M1 m1),zI])∧WldAt W1 u A1 a1 B1 b1 M1 m1 xs1)∧Ext V W1));obtain⟨q,hq⟩:∃x,seqW (Tk.cutL 5 9) v 11=x:=⟨_,rfl⟩
 have HRq:=zh (fun(V:World) (A:Option Addr) (a:Nat) (B:Option Addr) (b:Nat) (M:Option Addr) (m:Nat) (h:WldAt V v A a B b M m []) (E:Option Addr) (hs:Sl V E 48 ((Tk.cutL 5 9).map evtR))=>(by have:=zqs (T:=11) (l:=Tk.cutL 5 9) h hok (ziA hs (zbb V) (zbb V)) (Tk.cutL_right om om om) dk (by rw[hnow];decide);rwa [hq] at this:Calls Tryz.prog 22 #[.agg (Lw v A a B b M m),.slice E 2 2,.int .i64 11] V fun e W1=>(∃A1 a1 B1 b1 M1 m1 xs1,e=.returned (.tuple #[.agg (Lw q A1 a1 B1 b1 M1 m1),zI])∧WldAt W1 q A1 a1 B1 b1 M1 m1 xs1)∧Ext V W1));rw[hu] at f8 es;rw[hq] at f11;obtain⟨fa1,fa2,fb1,fb2,-⟩:=f8;obtain⟨ga1,gb1⟩:=f11;have HSP:=zh (fun(V:World) (A:Option Addr) (a:Nat) (B:Option Addr) (b:Nat) (M:Option Addr) (m:Nat) (xs:List (Ltr×Option Addr×Nat)) (h:WldAt V u A a B b M m xs)=>(by have:=zqt h;rwa [es] at this:Calls Tryz.prog 11 #[.agg (Lw u A a B b M m)] V fun e W1=>e=.returned (.tuple #[.int .i64 2,zI])∧Ext V W1));have FA1:=zh fa1;have FA2:=zh fa2;have FB1:=zh fb1;have FB2:=zh fb2;have GA1:=zh ga1;have GB1:=zh gb1;clear hv hok hnow e8 e14 es hu hq fa1 fa2 fb1 fb2 ga1 gb1;go_enter Tryz.func8,Tryz.ntmps8
 go_wp2_with (first
  |(go_at_call 9;refine(zcH om om om om HV.out).mono ?_;rintro e w' ⟨A,a,B,b,M,m,rfl,hx,hw⟩;have HW:=zh hw;obtain⟨ya,rfl⟩:=hx.get;clear hx hw)
  |(refine za7 rfl 30 (.tmp 1) (.tmp 17) rfl rfl sg (Lw v A a B b M m) rfl rfl kr (zbm v A a B b M m) ?_))
 go_at_call 24;refine(HT1.out _ A a B b M m (HW.out.mono ex)).mono ?_;rintro e w' ⟨O1,k1,rfl,hx,hsl,-,hkm1⟩;have HO1:=zh hsl;obtain⟨yb,rfl⟩:=hx.get;clear hx hsl;go_wp2_with fail;refine zaG (fun W9 hW9=> ?_);have q9:BoxAt W9 (w.heap.size+ya.n) (Lw v A a B b M m) 30:=by rw[hW9];exact bxA
 have x9:Ext w W9:=by rw[hW9];exact ex
 have w9:=HW.out.mono (show Ext _ W9 from by rw[hW9];exact ex);have o1:=HO1.out.mono (show Ext _ W9 from by rw[hW9];exact ex);clear hW9;refine zaw (S:=fun _ w9=>Ext W9 w9) kr ex (fun hcl hS=> ?_);refine za1 (i:=0) (T:=(fun w9=>Ext W9 w9)) (v:=?_) rfl kr kr kr (fun _ _ _ h=>h) (fun _ _ _ _ hS=>hS) (fun _ _ h=>h) (fun _ _ h=>h) (Or.inl ⟨by rfl,?_⟩) hcl hS ?_;rotate_left
 ·(intro w9 hw9;(try dsimp only at hw9);have z9:=(q9.mono hw9).row (n:=21) rfl;go_simp;try with_reducible rfl)
 clear hcl hS;intro hcl hS
 (try simp only[Act.put,lsT,lsS,lsZ])
 refine za1 (i:=2) (T:=(fun w9=>Ext W9 w9)) (v:=?_) rfl kr kr kr (fun _ _ _ h=>h) (fun _ _ _ _ hS=>hS) (fun _ _ h=>h) (fun _ _ h=>h) (Or.inl ⟨by rfl,?_⟩) hcl hS ?_;rotate_left
 ·(intro w9 hw9;(try dsimp only at hw9);go_simp;try with_reducible rfl)
 clear hcl hS;intro hcl hS
 (try simp only[Act.put,lsT,lsS,lsZ])
 refine za9 (i:=1) kr rfl rfl hcl (fun K9 hK9=> ?_);clear hS hcl;go_simp;go_at_call 32;refine(zA8 5 1 _).mono ?_;rintro e w' ⟨rfl,hx⟩;obtain⟨yc,rfl⟩:=hx.get;clear hx;refine hK9 _ _ ex (fun hcl hS=> ?_);clear hK9;refine za9 (i:=3) kr rfl rfl hcl (fun K9 hK9=> ?_);clear hS hcl;go_simp;refine hK9 _ _ ex (fun hcl hS=> ?_);clear hK9;refine za9 (i:=4) kr rfl rfl hcl (fun K9 hK9=> ?_);clear hS hcl;go_simp;go_at_call 24;refine(HT2.out _ A a B b M m (w9.mono ex) _ (zAy sg)).mono ?_;rintro e w' ⟨O2,k2,rfl,hx,hsl,-,hkm2⟩;have HO2:=zh hsl;obtain⟨yd,rfl⟩:=hx.get;clear hx hsl;refine hK9 _ _ ex (fun hcl hS=> ?_);clear hK9;refine za9 (i:=5) kr rfl rfl hcl (fun K9 hK9=> ?_);clear hS hcl;go_simp;refine hK9 _ _ ex (fun hcl hS=> ?_);clear hK9;refine za1 (i:=6) (T:=(fun w9=>Ext W9 w9)) (v:=?_) rfl kr kr kr (fun _ _ _ h=>h) (fun _ _ _ _ hS=>hS) (fun _ _ h=>h) (fun _ _ h=>h) (Or.inl ⟨by rfl,?_⟩) hcl hS ?_;rotate_left
 ·(intro w9 hw9;(try dsimp only at hw9);go_simp;try with_reducible rfl)
 clear hcl hS;intro hcl hS
 (try simp only[Act.put,lsT,lsS,lsZ])
 refine za1 (i:=7) (T:=(fun w9=>Ext W9 w9)) (v:=?_) rfl kr kr kr (fun _ _ _ h=>h) (fun _ _ _ _ hS=>hS) (fun _ _ h=>h) (fun _ _ h=>h) (Or.inl ⟨by rfl,?_⟩) hcl hS ?_;rotate_left
 ·(intro w9 hw9;(try dsimp only at hw9);go_simp;try with_reducible rfl)
 clear hcl hS;intro hcl hS
 (try simp only[Act.put,lsT,lsS,lsZ])
 refine za9 (i:=8) kr rfl rfl hcl (fun K9 hK9=> ?_);clear hS hcl;go_simp;refine hK9 _ _ ex (fun hcl hS=> ?_);clear hK9;refine za9 (i:=9) kr rfl rfl hcl (fun K9 hK9=> ?_);clear hS hcl;go_simp;refine hK9 _ _ ex (fun hcl hS=> ?_);clear hK9;clear hcl hS;refine zas kr ?_ _;have q8:=q9.row (n:=21) rfl;go_wp2_with fail;go_at_call 22;refine(HRu.out _ A a B b M m (w9.mono ex) _ (zAy sg)).mono ?_;rintro e w' ⟨⟨A1,a1,B1,b1,M1,m1,xs1,rfl,hw1⟩,hx⟩;have HW1:=zh hw1;obtain⟨ye,rfl⟩:=hx.get;clear hx hw1;go_wp2_with (refine za7 rfl 30 (.tmp 7) (.tmp 38) rfl rfl sg (Lw u A1 a1 B1 b1 M1 m1) rfl rfl kr (zbm u A1 a1 B1 b1 M1 m1) ?_;refine zxq (fun W5 hW5=> ?_);have k5:BoxAt W5 (W9.heap.size+yc.n+1+yd.n+1+ye.n) (Lw u A1 a1 B1 b1 M1 m1) 30:=(by rw[hW5];exact BoxAt.new sg _ _);have x5:Ext W9 W5:=(by rw[hW5];exact ex);have HW5:=zh (HW1.out.mono (show Ext _ W5 from(by rw[hW5];exact ex)));have HO5:=zh (HO2.out.mono (show Ext _ W5 from(by rw[hW5];exact ex)));clear hW5;replace q8:=zfq x5 q8);go_at_call 22;refine(HRq.out _ A a B b M m ((w9.mono x5).mono ex) _ (zAy sg)).mono ?_;rintro e w' ⟨⟨A2,a2,B2,b2,M2,m2,xs2,rfl,hw2⟩,hx⟩;have HW2:=zh hw2;obtain⟨yf,rfl⟩:=hx.get;clear hx hw2;go_wp2_with (refine za7 rfl 30 (.tmp 9) (.tmp 46) rfl rfl sg (Lw q A2 a2 B2 b2 M2 m2) rfl rfl kr (zbm q A2 a2 B2 b2 M2 m2) ?_;refine zxq (fun W4 hW4=> ?_);have k4:BoxAt W4 (W5.heap.size+1+yf.n) (Lw q A2 a2 B2 b2 M2 m2) 30:=(by rw[hW4];exact BoxAt.new sg _ _);have x4:Ext W5 W4:=(by rw[hW4];exact ex);clear hW4;have k6:=(k5.mono x4).row (n:=21) rfl;have o4:=(o1.mono x5).mono x4;have p4:=HO5.out.mono x4;have w4:=HW5.out.mono x4);go_at_call 11;refine(HSP.out _ A1 a1 B1 b1 M1 m1 xs1 (w4.mono ex)).mono ?_;rintro e w' ⟨rfl,hx⟩;obtain⟨yg,rfl⟩:=hx.get;clear hx;go_wp2_with fail;go_at_call 26;refine(zmK O1 k1 _ _ 8 [1,1,1,1,1,1,1,1] rfl _ (o4.mono ex) (Sl.alloc' sg (by simp[intRw]) (by simp[intRw])) (by unfold maxLen;decide)).mono ?_;rintro e w' ⟨rfl,hx⟩;obtain⟨yh,rfl⟩:=hx.get;clear hx;go_wp2_with fail;go_at_call 26;refine(zmK O2 k2 _ _ 14 [1,1,1,1,1,0,0,2,2,2,2,2,2,2] rfl _ (p4.mono ex) (Sl.alloc' sg (by simp[intRw]) (by simp[intRw])) (by unfold maxLen;decide)).mono ?_;rintro e w' ⟨rfl,hx⟩;obtain⟨yi,rfl⟩:=hx.get;clear hx;go_wp2_with fail;refine zaG (fun W7 hW7=> ?_);have x6:Ext W4 W7:=by rw[hW7];exact ex
 have k7:=(k5.mono x4).mono x6;have k8:=k4.mono x6;have x7:Ext w W7:=((x9.trans x5).trans x4).trans x6;clear hW7 q8 k6 o4 p4 w4 o1 w9 q9 k5 k4;refine zaw (S:=fun _ w9=>Ext W7 w9) kr ex (fun hcl hS=> ?_);refine za1 (i:=0) (T:=(fun w9=>Ext W7 w9)) (v:=?_) rfl kr kr kr (fun _ _ _ h=>h) (fun _ _ _ _ hS=>hS) (fun _ _ h=>h) (fun _ _ h=>h) (Or.inl ⟨by rfl,?_⟩) hcl hS ?_;rotate_left
 ·(intro w9 hw9;(try dsimp only at hw9);go_simp;try with_reducible rfl)
 clear hcl hS;intro hcl hS
 (try simp only[Act.put,lsT,lsS,lsZ])
 refine za1 (i:=1) (T:=(fun w9=>Ext W7 w9)) (v:=?_) rfl kr kr kr (fun _ _ _ h=>h) (fun _ _ _ _ hS=>hS) (fun _ _ h=>h) (fun _ _ h=>h) (Or.inl ⟨by rfl,?_⟩) hcl hS ?_;rotate_left
 ·(intro w9 hw9;(try dsimp only at hw9);go_simp;try with_reducible rfl)
 clear hcl hS;intro hcl hS
 (try simp only[Act.put,lsT,lsS,lsZ])
 refine za1 (i:=2) (T:=(fun w9=>Ext W7 w9)) (v:=?_) rfl kr kr kr (fun _ _ _ h=>h) (fun _ _ _ _ hS=>hS) (fun _ _ h=>h) (fun _ _ h=>h) (Or.inl ⟨by rfl,?_⟩) hcl hS ?_;rotate_left
 ·(intro w9 hw9;(try dsimp only at hw9);go_simp;try with_reducible rfl)
 clear hcl hS;intro hcl hS
 (try simp only[Act.put,lsT,lsS,lsZ])
 refine za1 (i:=3) (T:=(fun w9=>Ext W7 w9)) (v:=?_) rfl kr kr kr (fun _ _ _ h=>h) (fun _ _ _ _ hS=>hS) (fun _ _ h=>h) (fun _ _ h=>h) (Or.inl ⟨by rfl,?_⟩) hcl hS ?_;rotate_left
 ·(intro w9 hw9;(try dsimp only at hw9);have z4:=hw9.cell (k7.c 4 rfl);have z5:=hw9.cell (k7.c 5 rfl);have z6:=hw9.cell (k7.c 6 rfl);have z7:=hw9.cell (k7.c 7 rfl);have z8:=hw9.cell (k7.c 8 rfl);have z9:=hw9.cell (k7.c 9 rfl);go_simp;try with_reducible rfl)
 clear hcl hS;intro hcl hS
 (try simp only[Act.put,lsT,lsS,lsZ])
 refine za1 (i:=4) (T:=(fun w9=>Ext W7 w9)) (v:=?_) rfl kr kr kr (fun _ _ _ h=>h) (fun _ _ _ _ hS=>hS) (fun _ _ h=>h) (fun _ _ h=>h) (Or.inl ⟨by rfl,?_⟩) hcl hS ?_;rotate_left
 ·(intro w9 hw9;(try dsimp only at hw9);go_simp;try with_reducible rfl)
 clear hcl hS;intro hcl hS
 (try simp only[Act.put,lsT,lsS,lsZ])
 refine za1 (i:=5) (T:=(fun w9=>Ext W7 w9)) (v:=?_) rfl kr kr kr (fun _ _ _ h=>h) (fun _ _ _ _ hS=>hS) (fun _ _ h=>h) (fun _ _ h=>h) (Or.inl ⟨by rfl,?_⟩) hcl hS ?_;rotate_left
 ·(intro w9 hw9;(try dsimp only at hw9);go_simp;try with_reducible rfl)
 clear hcl hS;intro hcl hS
 (try simp only[Act.put,lsT,lsS,lsZ])
 refine za1 (i:=6) (T:=(fun w9=>Ext W7 w9)) (v:=?_) rfl kr kr kr (fun _ _ _ h=>h) (fun _ _ _ _ hS=>hS) (fun _ _ h=>h) (fun _ _ h=>h) (Or.inl ⟨by rfl,?_⟩) hcl hS ?_;rotate_left
 ·(intro w9 hw9;(try dsimp only at hw9);go_simp;try with_reducible rfl)
 clear hcl hS;intro hcl hS
 (try simp only[Act.put,lsT,lsS,lsZ])
 refine za1 (i:=7) (T:=(fun w9=>Ext W7 w9)) (v:=?_) rfl kr kr kr (fun _ _ _ h=>h) (fun _ _ _ _ hS=>hS) (fun _ _ h=>h) (fun _ _ h=>h) (Or.inl ⟨by rfl,?_⟩) hcl hS ?_;rotate_left
 ·(intro w9 hw9;(try dsimp only at hw9);have z12:=hw9.cell (k7.c 12 rfl);have z13:=hw9.cell (k7.c 13 rfl);have z14:=hw9.cell (k7.c 14 rfl);have z15:=hw9.cell (k7.c 15 rfl);have z16:=hw9.cell (k7.c 16 rfl);have z17:=hw9.cell (k7.c 17 rfl);go_simp;try with_reducible rfl)
 clear hcl hS;intro hcl hS
 (try simp only[Act.put,lsT,lsS,lsZ])
 refine zdE (i:=8) (j:=9) kr rfl rfl rfl rfl hcl (fun K9 hK9=> ?_) (fun K9 hK9=> ?_);clear hS hcl;go_simp;refine hK9 _ _ ex (fun hcl hS=> ?_);clear hK9;refine za9 (i:=9) kr rfl rfl hcl (fun K9 hK9=> ?_);clear hS hcl;go_simp;refine hK9 _ _ ex (fun hcl hS=> ?_);clear hK9;refine zgT (fun V1 hV1=> ?_);have b10:BoxAt V1 (W7.heap.size) Zn 24:=by rw[hV1];exact(BoxAt.new (W:=W7) rfl Zn 24).mono ex
 have b11:BoxAt V1 (W7.heap.size+1) Zn 24:=by rw[hV1];exact(BoxAt.new (W:=W7.alloc (.cells Zn 24)) sg Zn 24).mono ex
 have hxx:Ext W7 V1:=by rw[hV1];exact ex
 clear hV1 hS;obtain⟨g10,hg10⟩:∃g,g=W7.heap.size:=⟨_,rfl⟩
 obtain⟨g11,hg11⟩:∃g,g=W7.heap.size+1:=⟨_,rfl⟩
 rw[←hg11] at b11 ⊢
 rw[←hg10] at b10 ⊢
 have hge10:W7.heap.size≤g10:=by omega
 have hge11:W7.heap.size≤g11:=by omega
 have hne:g10≠g11:=by omega
 clear hg10 hg11;rotate_left;clear hS hcl;go_simp;refine hK9 _ _ ex (fun hcl hS=> ?_);clear hK9;refine za9 (i:=8) kr rfl rfl hcl (fun K9 hK9=> ?_);clear hS hcl;go_simp;refine hK9 _ _ ex (fun hcl hS=> ?_);clear hK9;refine zgT (fun V1 hV1=> ?_);have b10:BoxAt V1 (W7.heap.size+1) Zn 24:=by rw[hV1];exact(BoxAt.new (W:=W7.alloc (.cells Zn 24)) sg Zn 24).mono ex
 have b11:BoxAt V1 (W7.heap.size) Zn 24:=by rw[hV1];exact(BoxAt.new (W:=W7) rfl Zn 24).mono ex
 have hxx:Ext W7 V1:=by rw[hV1];exact ex
 clear hV1 hS;obtain⟨g10,hg10⟩:∃g,g=W7.heap.size+1:=⟨_,rfl⟩
 obtain⟨g11,hg11⟩:∃g,g=W7.heap.size:=⟨_,rfl⟩
 rw[←hg10] at b10 ⊢
 rw[←hg11] at b11 ⊢
 have hge10:W7.heap.size≤g10:=by omega
 have hge11:W7.heap.size≤g11:=by omega
 have hne:g10≠g11:=by omega
 clear hg10 hg11;rotate_left
 all_goals
  refine zao (i:=10) kr rfl rfl hcl 24 (.tmp 13) (.tmp 84) rfl b10 rfl (Ln u.a.node A1 a1) rfl rfl (show 6<44 by decide) kr (zaa u.a.node A1 a1) ?_;intro W1 ht1 hb1;refine⟨ht1.ext hxx hge10,fun hcl hS=> ?_⟩;clear hS;refine zao (i:=11) kr rfl rfl hcl 24 (.tmp 14) (.tmp 88) rfl (b11.turn ht1 (Ne.symm hne)) rfl (Ln u.b.node B1 b1) rfl rfl (show 6<44 by decide) kr (zaa u.b.node B1 b1) ?_;intro W2 ht2 hb2;have e2:Ext W7 W2:=ht2.ext (ht1.ext hxx hge10) hge11;refine⟨e2,fun hcl hS=> ?_⟩;clear hcl hS;have j1:=hb1.turn ht2 hne;refine zas kr ?_ _;have X2:Ext w W2:=x7.trans e2;have k9:=k8.mono e2;obtain⟨p0,p1,p2,p3,p4,p5⟩:=j1.six;obtain⟨r0,r1,s2,s3,s4,s5⟩:=hb2.six;have d6:=k9.c 6 rfl;have d14:=k9.c 14 rfl;rw[FA1.out] at p2;rw[FA2.out] at p1;rw[FB1.out] at s2;rw[FB2.out] at r1;rw[GA1.out] at d6;rw[GB1.out] at d14;clear j1 hb1 hb2 ht1 ht2 b10 b11 k9 hxx e2;go_wp2;go_ret;exact⟨rfl,X2.trans ex⟩
