import Derived.Test.YtmhinhgflehkaaaGreatGwkg
import Derived.Test.YtmhinhgflehkaaaGreatGwka
import Derived.Test.YtmhinhgflehkaaaGreatGtkf
import Derived.Test.YtmhinhgflehkaaaGreatEqs
import Derived.Test.YtmhinhgflehkaaaGreatGrpj
set_option maxHeartbeats 12800000
set_option maxRecDepth 100000
namespace Go.Proofs.YtmhinhgflehkaaaGreat
open Go.RowKit

def bldE (ps:Array (Nat × Value)):Sem Value:=Instr.build 89 ps
@[go_sem ↓ high] theorem bldE_at (ps:Array (Nat × Value)):Instr.build 89 ps=bldE ps:=rfl
@[go_sem] theorem bldE_3 (w:World) (t k s:Int):(bldE #[(0,.int .i64 t),(1,.int .i64 k),(2,.int .i64 s)]).run Tryz.prog w = .ok (.agg (evtR ⟨t,k,s,acnN,0⟩).toArray) w:=run_build w _ _ _ (by kernel_rfl)
@[go_sem] theorem bldE_2 (w:World) (t k:Int):(bldE #[(0,.int .i64 t),(1,.int .i64 k)]).run Tryz.prog w = .ok (.agg (evtR ⟨t,k,0,acnN,0⟩).toArray) w:=run_build w _ _ _ (by kernel_rfl)
theorem run_buildTwo {P:Program} (w:World) (t e:TypeId) (l1 l2:List Value) (n:Nat) (hu:P.underlying t=some (.slice e)) (hsz:(P.info? e).map (·.size)=some n) (hz:((P.info? e).bind (·.zero)).isSome=true) (h1:l1.length=n) (h2:l2.length=n) (hpos:0 < n) (hsmall:2 * n≤2 ^ 24) :
  (Instr.buildSlice t 2 #[(0,.agg l1.toArray),(1,.agg l2.toArray)]).run P w = .ok (.slice (some ⟨w.heap.size,0,none⟩) 2 2) (w.alloc (.cells (l1 ++ l2).toArray e)):=by
 subst h1
 cases hie:P.info? e with
 | none=>simp [hie] at hsz
 | some ie =>
  simp only [hie,Option.map_some,Option.some.injEq,Option.bind_some] at hsz hz
  obtain ⟨z,hzz⟩:=Option.isSome_iff_exists.1 hz
  refine run_buildSlice w t e 2 #[(0,.agg l1.toArray),(1,.agg l2.toArray)] (l1 ++ l2).toArray ie z hu hie hzz (by rw [hsz];omega) (by rw [hsz];omega) ?_
  have:=Great.fill_whole hpos [Value.agg l1.toArray,Value.agg l2.toArray] ((Array.range (2 * l1.length)).map (z.cells[· % z.cells.size]!)) (by simp [Value.cells,h2]) (by simp)
  rw [hsz]
  simpa [Value.cells] using this
def bldL (ps:Array (Nat × Value)):Sem Value:=Instr.buildSlice 31 2 ps
@[go_sem ↓ high] theorem bldL_at (ps:Array (Nat × Value)):Instr.buildSlice 31 2 ps=bldL ps:=rfl
@[go_sem] theorem bldL_run (w:World) (x y:Evt):(bldL #[(0,.agg (evtR x).toArray),(1,.agg (evtR y).toArray)]).run Tryz.prog w = .ok (.slice (some ⟨w.heap.size,0,none⟩) 2 2) (w.alloc (.cells (evtR x ++ evtR y).toArray 89)) :=
 run_buildTwo w _ _ (evtR x) (evtR y) 48 Tryz.underlying31 (by kernel_rfl) (by kernel_rfl) (evtR_len x) (evtR_len y) (by decide) (by decide)
theorem sl_two {w:World} {n:Nat} {x y:Evt} {T:TypeId} (hs:w.heap.size=n):Sl (w.alloc (.cells (evtR x ++ evtR y).toArray T)) (some ⟨n,0,none⟩) 48 ([x,y].map evtR) :=
 Sl.alloc' hs (by simp) (by intro r hr;simp only [List.map_cons,List.map_nil,List.mem_cons,List.not_mem_nil,or_false] at hr;rcases hr with rfl | rfl <;> exact evtR_len _)
theorem results_evt {fn:Func} {tmps:Array Value} {w:World} {i b:Nat} {x:Evt} (hf:fn.results = #[.cell i 89]) (ht:tmps.getD i undef = .pointer (some ⟨b,0,none⟩)) (hr:w.rangeAt b 0 (evtR x)):(results fn tmps).run Tryz.prog w = .ok (.agg (evtR x).toArray) w:=by
 have hl:=run_loadVar_mid w b 0 89 (evtR x) _ hr Tryz.underlying89 rfl (by kernel_rfl)
 have ha:(asAddr (tmps.getD i undef)).run Tryz.prog w = .ok ⟨b,0,none⟩ w:=by rw [ht];rfl
 generalize hq:evtR x=cs at *
 unfold results
 rw [hf]
 simp only [List.mapM_toArray,List.mapM_cons,List.mapM_nil,Sem.run_bind,Sem.run_map,Sem.run_pure,bind_pure_comp,ha,hl,Result.andThen]
 rfl
theorem l55_down (t i:Int) (w:World):Calls Tryz.prog 29 #[.int .i64 t,.int .i64 i] w fun e w'=>e = .returned (.agg (evtR (downE t i)).toArray)∧Ext w w':=by
 go_enter Tryz.func29,Tryz.ntmps29
 go_wp2_with (refine wpList_store_top rfl 89 _ _ rfl rfl (by simp [go_sem]) (evtR (downE t i)) rfl rfl (by kernel_rfl) (evtR_one _) ?_)
 refine bodyPost_ret (v:=.agg (evtR (downE t i)).toArray) (results_evt (i:=4) (by simp [Tryz.results29]) rfl (rangeAt_new w rfl (evtR (downE t i)) _)) rfl ?_
 exact ⟨rfl,ex⟩
theorem Equal_I_refl (A:Option Addr) (c:Nat) (B:Option Addr) (d n:Nat) (l:List Int) (hn:l.length=n) (w:World) (hs:Sl w A 1 (l.map intRw)) (hs':Sl w B 1 (l.map intRw)) (hl:n≤maxLen) :
  Calls Tryz.prog 38 #[.slice A n c,.slice B n d] w fun e w'=>e = .returned (.bool true)∧Ext w w':=by
 subst hn
 have h:=Equal_I A c l B d l w hs hl hs' hl
 rwa [decide_eq_true rfl] at h
theorem wpAnyL_nm {P:Program} {md:Region.Mode} {ops:Array Oper} {Q:Exit→Act→World→Prop} {S:Array Bool→World→Prop} {f:Nat} {L:Array Bool} {a:Act} {W:World} (h:∀ W',W'=W→wpAnyL P md ops Q S f L a W'):wpAnyL P md ops Q S f L a W:=h W rfl
theorem wpList_nm {P:Program} {ops:Array Oper} {rest:List Oper} {Q:Exit→Act→World→Prop} {a:Act} {W:World} (h:∀ W',W'=W→wpList P ops Q rest a W'):wpList P ops Q rest a W:=h W rfl
theorem evtsE_nil:evtsE []=0:=by unfold evtsE;rw [if_neg (by simp)];rfl
theorem evtsAt_nil (w:World):EvtsAt w none 0 []:=⟨Sl.nil _ _ _,Nat.le_refl _,Nat.zero_le _,by intro x hx;cases hx⟩
theorem evtsAt_two {w:World} {E:Option Addr} {x y:Evt} (h:Sl w E 48 ([x,y].map evtR)) (hx:AcnAt w x.act) (hy:AcnAt w y.act):EvtsAt w E 2 [x,y] :=
 ⟨h,Nat.le_refl _,by unfold maxLen;decide,by intro z hz;simp only [List.mem_cons,List.not_mem_nil,or_false] at hz;rcases hz with rfl | rfl;exact hx;exact hy⟩
end Go.Proofs.YtmhinhgflehkaaaGreat

namespace Go.Proofs.YtmhinhgflehkaaaGreat
open Go.RowKit

theorem l55_awake (w:World):Calls Tryz.prog 16 #[] w fun e w'=>e = .returned (.bool true)∧Ext w w':=by
 obtain ⟨v,hv⟩:∃ v,Tk.aw=v:=⟨_,rfl⟩
 have HV:=Lib.hid (show (newW 2 1).1=v from hv)
 have hok:WldOk v:=by rw [← hv];exact Tk.aw_ok
 have hnow:v.now=0:=by rw [← hv];exact Tk.aw_now
 have e8:=Tk.aw_tr8
 have e14:=Tk.aw_tr14
 have es:=Tk.aw_spk
 have f8:=Tk.aw_c8
 have f11:=Tk.aw_c11
 rw [hv] at e8 e14 es f8 f11
 have HT1:=Lib.hid (fun (V:World) (A:Option Addr) (a:Nat) (B:Option Addr) (b:Nat) (M:Option Addr) (m:Nat) (h:WldAt V v A a B b M m [])=>(by have:=tak_Trace (T:=8) (l:=[]) h hok (evtsAt_nil V) evtsE_nil (by decide) (by rw [hnow];decide);rwa [e8] at this:Calls Tryz.prog 28 #[.agg (Lw v A a B b M m),.slice none 0 0,.int .i64 8] V fun e W1=>∃ O ko,e = .returned (.tuple #[.slice O 8 ko,.int .i64 0])∧Ext V W1∧Sl W1 O 1 (([1,1,1,1,1,1,1,1]:List Int).map intRw)∧8≤ko∧ko≤maxLen))
 have HT2:=Lib.hid (fun (V:World) (A:Option Addr) (a:Nat) (B:Option Addr) (b:Nat) (M:Option Addr) (m:Nat) (h:WldAt V v A a B b M m []) (E:Option Addr) (hs:Sl V E 48 ((Tk.soonL 5 10).map evtR))=>(by have:=tak_Trace (T:=14) (l:=Tk.soonL 5 10) h hok (evtsAt_two hs (acnN_at V) (acnN_at V)) (Tk.soonL_right (by omega) (by omega) (by omega)) (by decide) (by rw [hnow];decide);rwa [e14] at this:Calls Tryz.prog 28 #[.agg (Lw v A a B b M m),.slice E 2 2,.int .i64 14] V fun e W1=>∃ O ko,e = .returned (.tuple #[.slice O 14 ko,.int .i64 0])∧Ext V W1∧Sl W1 O 1 (([1,1,1,1,1,0,0,2,2,2,2,2,2,2]:List Int).map intRw)∧14≤ko∧ko≤maxLen))
 obtain ⟨u,hu⟩:∃ x,seqW (Tk.cutL 5 9) v 8=x:=⟨_,rfl⟩
 have HRu:=Lib.hid (fun (V:World) (A:Option Addr) (a:Nat) (B:Option Addr) (b:Nat) (M:Option Addr) (m:Nat) (h:WldAt V v A a B b M m []) (E:Option Addr) (hs:Sl V E 48 ((Tk.cutL 5 9).map evtR))=>(by have:=tak_Run (T:=8) (l:=Tk.cutL 5 9) h hok (evtsAt_two hs (acnN_at V) (acnN_at V)) (Tk.cutL_right (by omega) (by omega) (by omega)) (by decide) (by rw [hnow];decide);rwa [hu] at this:Calls Tryz.prog 30 #[.agg (Lw v A a B b M m),.slice E 2 2,.int .i64 8] V fun e W1=>(∃ A1 a1 B1 b1 M1 m1 xs1,e = .returned (.tuple #[.agg (Lw u A1 a1 B1 b1 M1 m1),.int .i64 0])∧WldAt W1 u A1 a1 B1 b1 M1 m1 xs1)∧Ext V W1))
 obtain ⟨q,hq⟩:∃ x,seqW (Tk.cutL 5 9) v 11=x:=⟨_,rfl⟩
 have HRq:=Lib.hid (fun (V:World) (A:Option Addr) (a:Nat) (B:Option Addr) (b:Nat) (M:Option Addr) (m:Nat) (h:WldAt V v A a B b M m []) (E:Option Addr) (hs:Sl V E 48 ((Tk.cutL 5 9).map evtR))=>(by have:=tak_Run (T:=11) (l:=Tk.cutL 5 9) h hok (evtsAt_two hs (acnN_at V) (acnN_at V)) (Tk.cutL_right (by omega) (by omega) (by omega)) (by decide) (by rw [hnow];decide);rwa [hq] at this:Calls Tryz.prog 30 #[.agg (Lw v A a B b M m),.slice E 2 2,.int .i64 11] V fun e W1=>(∃ A1 a1 B1 b1 M1 m1 xs1,e = .returned (.tuple #[.agg (Lw q A1 a1 B1 b1 M1 m1),.int .i64 0])∧WldAt W1 q A1 a1 B1 b1 M1 m1 xs1)∧Ext V W1))
 rw [hu] at f8 es
 rw [hq] at f11
 obtain ⟨fa1,fa2,fb1,fb2,-⟩:=f8
 obtain ⟨ga1,gb1⟩:=f11
 have HSP:=Lib.hid (fun (V:World) (A:Option Addr) (a:Nat) (B:Option Addr) (b:Nat) (M:Option Addr) (m:Nat) (xs:List (Ltr × Option Addr × Nat)) (h:WldAt V u A a B b M m xs)=>(by have:=tak_Speaker h;rwa [es] at this:Calls Tryz.prog 19 #[.agg (Lw u A a B b M m)] V fun e W1=>e = .returned (.tuple #[.int .i64 2,.int .i64 0])∧Ext V W1))
 have FA1:=Lib.hid fa1
 have FA2:=Lib.hid fa2
 have FB1:=Lib.hid fb1
 have FB2:=Lib.hid fb2
 have GA1:=Lib.hid ga1
 have GB1:=Lib.hid gb1
 clear hv hok hnow e8 e14 es hu hq fa1 fa2 fb1 fb2 ga1 gb1
 go_enter Tryz.func16,Tryz.ntmps16
 go_wp2_with (first
  | (go_at_call 17;refine (tak_New_at (by omega) (by omega) (by omega) (by omega) HV.out).mono ?_;rintro e w' ⟨A,a,B,b,M,m,rfl,hx,hw⟩;have HW:=Lib.hid hw;obtain ⟨ya,rfl⟩:=hx.get;clear hx hw)
  | (refine wpList_store_top rfl 30 (.tmp 1) (.tmp 17) rfl rfl (by simp [go_sem]) (Lw v A a B b M m) rfl rfl (by kernel_rfl) (wld_one v A a B b M m) ?_))
 go_at_call 28;refine (HT1.out _ A a B b M m (HW.out.mono (ex))).mono ?_;rintro e w' ⟨O1,k1,rfl,hx,hsl,-,hkm1⟩;have HO1:=Lib.hid hsl;obtain ⟨yb,rfl⟩:=hx.get;clear hx hsl
 go_wp2_with fail
 refine wp_name (fun W9 hW9 => ?_)
 have q9:BoxAt W9 (w.heap.size+ya.n) (Lw v A a B b M m) 30:=by rw [hW9];exact (by repeat (first | exact BoxAt.new (by first | rfl | (simp [go_sem];done) | (simp [go_sem];omega)) _ _ | apply BoxAt.xt | apply BoxAt.drew | apply BoxAt.drewN | apply BoxAt.alloc))
 have x9:Ext w W9:=by rw [hW9];exact (ex)
 have w9:=HW.out.mono (show Ext _ W9 from by rw [hW9];exact ex)
 have o1:=HO1.out.mono (show Ext _ W9 from by rw [hW9];exact ex)
 clear hW9
 refine wp_region_L (S:=fun _ w9=>Ext W9 w9) (by kernel_rfl) (ex) (fun hcl hS => ?_)
 refine wpAnyL_take (i:=0) (T:=(fun w9=>Ext W9 w9)) (v:=?_) rfl (by kernel_rfl) (by kernel_rfl) (by kernel_rfl) (fun _ _ _ h=>h) (fun _ _ _ _ hS=>hS) (fun _ _ h=>h) (fun _ _ h=>h) (Or.inl ⟨by rfl,?_⟩) hcl hS ?_
 rotate_left
 ·(intro w9 hw9;(try dsimp only at hw9);have z9:=(q9.mono hw9).row (n:=21) rfl;go_simp;try with_reducible rfl)
 clear hcl hS
 intro hcl hS
 (try simp only [Act.put]);(try simp only [List.setIfInBounds_toArray]);(repeat (first | simp only [List.set_cons_succ] | simp only [List.set_cons_zero]))
 refine wpAnyL_take (i:=2) (T:=(fun w9=>Ext W9 w9)) (v:=?_) rfl (by kernel_rfl) (by kernel_rfl) (by kernel_rfl) (fun _ _ _ h=>h) (fun _ _ _ _ hS=>hS) (fun _ _ h=>h) (fun _ _ h=>h) (Or.inl ⟨by rfl,?_⟩) hcl hS ?_
 rotate_left
 ·(intro w9 hw9;(try dsimp only at hw9);go_simp;try with_reducible rfl)
 clear hcl hS
 intro hcl hS
 (try simp only [Act.put]);(try simp only [List.setIfInBounds_toArray]);(repeat (first | simp only [List.set_cons_succ] | simp only [List.set_cons_zero]))
 refine wpAnyL_only (i:=1) (by kernel_rfl) rfl rfl hcl (fun K9 hK9 => ?_)
 clear hS hcl
 go_simp
 go_at_call 29;refine (l55_down 5 1 _).mono ?_;rintro e w' ⟨rfl,hx⟩;obtain ⟨yc,rfl⟩:=hx.get;clear hx
 refine hK9 _ _ (by exact ex) (fun hcl hS => ?_)
 clear hK9
 refine wpAnyL_only (i:=3) (by kernel_rfl) rfl rfl hcl (fun K9 hK9 => ?_)
 clear hS hcl
 go_simp
 refine hK9 _ _ (by exact ex) (fun hcl hS => ?_)
 clear hK9
 refine wpAnyL_only (i:=4) (by kernel_rfl) rfl rfl hcl (fun K9 hK9 => ?_)
 clear hS hcl
 go_simp
 go_at_call 28;refine (HT2.out _ A a B b M m (w9.mono (ex)) _ (sl_two (by simp [go_sem]))).mono ?_;rintro e w' ⟨O2,k2,rfl,hx,hsl,-,hkm2⟩;have HO2:=Lib.hid hsl;obtain ⟨yd,rfl⟩:=hx.get;clear hx hsl
 refine hK9 _ _ (by exact ex) (fun hcl hS => ?_)
 clear hK9
 refine wpAnyL_only (i:=5) (by kernel_rfl) rfl rfl hcl (fun K9 hK9 => ?_)
 clear hS hcl
 go_simp
 refine hK9 _ _ (by exact ex) (fun hcl hS => ?_)
 clear hK9
 refine wpAnyL_take (i:=6) (T:=(fun w9=>Ext W9 w9)) (v:=?_) rfl (by kernel_rfl) (by kernel_rfl) (by kernel_rfl) (fun _ _ _ h=>h) (fun _ _ _ _ hS=>hS) (fun _ _ h=>h) (fun _ _ h=>h) (Or.inl ⟨by rfl,?_⟩) hcl hS ?_
 rotate_left
 ·(intro w9 hw9;(try dsimp only at hw9);go_simp;try with_reducible rfl)
 clear hcl hS
 intro hcl hS
 (try simp only [Act.put]);(try simp only [List.setIfInBounds_toArray]);(repeat (first | simp only [List.set_cons_succ] | simp only [List.set_cons_zero]))
 refine wpAnyL_take (i:=7) (T:=(fun w9=>Ext W9 w9)) (v:=?_) rfl (by kernel_rfl) (by kernel_rfl) (by kernel_rfl) (fun _ _ _ h=>h) (fun _ _ _ _ hS=>hS) (fun _ _ h=>h) (fun _ _ h=>h) (Or.inl ⟨by rfl,?_⟩) hcl hS ?_
 rotate_left
 ·(intro w9 hw9;(try dsimp only at hw9);go_simp;try with_reducible rfl)
 clear hcl hS
 intro hcl hS
 (try simp only [Act.put]);(try simp only [List.setIfInBounds_toArray]);(repeat (first | simp only [List.set_cons_succ] | simp only [List.set_cons_zero]))
 refine wpAnyL_only (i:=8) (by kernel_rfl) rfl rfl hcl (fun K9 hK9 => ?_)
 clear hS hcl
 go_simp
 refine hK9 _ _ (by exact ex) (fun hcl hS => ?_)
 clear hK9
 refine wpAnyL_only (i:=9) (by kernel_rfl) rfl rfl hcl (fun K9 hK9 => ?_)
 clear hS hcl
 go_simp
 refine hK9 _ _ (by exact ex) (fun hcl hS => ?_)
 clear hK9
 clear hcl hS
 refine wpAnyL_done (by kernel_rfl) ?_ _
 have q8:=q9.row (n:=21) rfl
 go_wp2_with fail
 go_at_call 30;refine (HRu.out _ A a B b M m (w9.mono (ex)) _ (sl_two (by simp [go_sem]))).mono ?_;rintro e w' ⟨⟨A1,a1,B1,b1,M1,m1,xs1,rfl,hw1⟩,hx⟩;have HW1:=Lib.hid hw1;obtain ⟨ye,rfl⟩:=hx.get;clear hx hw1
 go_wp2_with (refine wpList_store_top rfl 30 (.tmp 7) (.tmp 38) rfl rfl (by simp [go_sem]) (Lw u A1 a1 B1 b1 M1 m1) rfl rfl (by kernel_rfl) (wld_one u A1 a1 B1 b1 M1 m1) ?_;refine wpList_nm (fun W5 hW5 => ?_);have k5:BoxAt W5 (W9.heap.size+yc.n+1+yd.n+1+ye.n) (Lw u A1 a1 B1 b1 M1 m1) 30:=(by rw [hW5];exact BoxAt.new (by simp [go_sem]) _ _);have x5:Ext W9 W5:=(by rw [hW5];exact ex);have HW5:=Lib.hid (HW1.out.mono (show Ext _ W5 from (by rw [hW5];exact ex)));have HO5:=Lib.hid (HO2.out.mono (show Ext _ W5 from (by rw [hW5];exact ex)));clear hW5;replace q8:=rowQ_ext x5 q8)
 go_at_call 30;refine (HRq.out _ A a B b M m ((w9.mono x5).mono (ex)) _ (sl_two (by simp [go_sem]))).mono ?_;rintro e w' ⟨⟨A2,a2,B2,b2,M2,m2,xs2,rfl,hw2⟩,hx⟩;have HW2:=Lib.hid hw2;obtain ⟨yf,rfl⟩:=hx.get;clear hx hw2
 go_wp2_with (refine wpList_store_top rfl 30 (.tmp 9) (.tmp 46) rfl rfl (by simp [go_sem]) (Lw q A2 a2 B2 b2 M2 m2) rfl rfl (by kernel_rfl) (wld_one q A2 a2 B2 b2 M2 m2) ?_;refine wpList_nm (fun W4 hW4 => ?_);have k4:BoxAt W4 (W5.heap.size+1+yf.n) (Lw q A2 a2 B2 b2 M2 m2) 30:=(by rw [hW4];exact BoxAt.new (by simp [go_sem]) _ _);have x4:Ext W5 W4:=(by rw [hW4];exact ex);clear hW4;have k6:=(k5.mono x4).row (n:=21) rfl;have o4:=(o1.mono x5).mono x4;have p4:=HO5.out.mono x4;have w4:=HW5.out.mono x4)
 go_at_call 19;refine (HSP.out _ A1 a1 B1 b1 M1 m1 xs1 (w4.mono (ex))).mono ?_;rintro e w' ⟨rfl,hx⟩;obtain ⟨yg,rfl⟩:=hx.get;clear hx
 go_wp2_with fail
 go_at_call 38;refine (Equal_I_refl O1 k1 _ _ 8 [1,1,1,1,1,1,1,1] rfl _ (o4.mono (ex)) (Sl.alloc' (by simp [go_sem]) (by simp [intRw]) (by simp [intRw])) (by unfold maxLen;decide)).mono ?_;rintro e w' ⟨rfl,hx⟩;obtain ⟨yh,rfl⟩:=hx.get;clear hx
 go_wp2_with fail
 go_at_call 38;refine (Equal_I_refl O2 k2 _ _ 14 [1,1,1,1,1,0,0,2,2,2,2,2,2,2] rfl _ (p4.mono (ex)) (Sl.alloc' (by simp [go_sem]) (by simp [intRw]) (by simp [intRw])) (by unfold maxLen;decide)).mono ?_;rintro e w' ⟨rfl,hx⟩;obtain ⟨yi,rfl⟩:=hx.get;clear hx
 go_wp2_with fail
 refine wp_name (fun W7 hW7 => ?_)
 have x6:Ext W4 W7:=by rw [hW7];exact (ex)
 have k7:=(k5.mono x4).mono x6
 have k8:=k4.mono x6
 have x7:Ext w W7:=((x9.trans x5).trans x4).trans x6
 clear hW7 q8 k6 o4 p4 w4 o1 w9 q9 k5 k4
 refine wp_region_L (S:=fun _ w9=>Ext W7 w9) (by kernel_rfl) (ex) (fun hcl hS => ?_)
 refine wpAnyL_take (i:=0) (T:=(fun w9=>Ext W7 w9)) (v:=?_) rfl (by kernel_rfl) (by kernel_rfl) (by kernel_rfl) (fun _ _ _ h=>h) (fun _ _ _ _ hS=>hS) (fun _ _ h=>h) (fun _ _ h=>h) (Or.inl ⟨by rfl,?_⟩) hcl hS ?_
 rotate_left
 ·(intro w9 hw9;(try dsimp only at hw9);go_simp;try with_reducible rfl)
 clear hcl hS
 intro hcl hS
 (try simp only [Act.put]);(try simp only [List.setIfInBounds_toArray]);(repeat (first | simp only [List.set_cons_succ] | simp only [List.set_cons_zero]))
 refine wpAnyL_take (i:=1) (T:=(fun w9=>Ext W7 w9)) (v:=?_) rfl (by kernel_rfl) (by kernel_rfl) (by kernel_rfl) (fun _ _ _ h=>h) (fun _ _ _ _ hS=>hS) (fun _ _ h=>h) (fun _ _ h=>h) (Or.inl ⟨by rfl,?_⟩) hcl hS ?_
 rotate_left
 ·(intro w9 hw9;(try dsimp only at hw9);go_simp;try with_reducible rfl)
 clear hcl hS
 intro hcl hS
 (try simp only [Act.put]);(try simp only [List.setIfInBounds_toArray]);(repeat (first | simp only [List.set_cons_succ] | simp only [List.set_cons_zero]))
 refine wpAnyL_take (i:=2) (T:=(fun w9=>Ext W7 w9)) (v:=?_) rfl (by kernel_rfl) (by kernel_rfl) (by kernel_rfl) (fun _ _ _ h=>h) (fun _ _ _ _ hS=>hS) (fun _ _ h=>h) (fun _ _ h=>h) (Or.inl ⟨by rfl,?_⟩) hcl hS ?_
 rotate_left
 ·(intro w9 hw9;(try dsimp only at hw9);go_simp;try with_reducible rfl)
 clear hcl hS
 intro hcl hS
 (try simp only [Act.put]);(try simp only [List.setIfInBounds_toArray]);(repeat (first | simp only [List.set_cons_succ] | simp only [List.set_cons_zero]))
 refine wpAnyL_take (i:=3) (T:=(fun w9=>Ext W7 w9)) (v:=?_) rfl (by kernel_rfl) (by kernel_rfl) (by kernel_rfl) (fun _ _ _ h=>h) (fun _ _ _ _ hS=>hS) (fun _ _ h=>h) (fun _ _ h=>h) (Or.inl ⟨by rfl,?_⟩) hcl hS ?_
 rotate_left
 ·(intro w9 hw9;(try dsimp only at hw9);have z4:=hw9.cell (k7.c 4 rfl);have z5:=hw9.cell (k7.c 5 rfl);have z6:=hw9.cell (k7.c 6 rfl);have z7:=hw9.cell (k7.c 7 rfl);have z8:=hw9.cell (k7.c 8 rfl);have z9:=hw9.cell (k7.c 9 rfl);go_simp;try with_reducible rfl)
 clear hcl hS
 intro hcl hS
 (try simp only [Act.put]);(try simp only [List.setIfInBounds_toArray]);(repeat (first | simp only [List.set_cons_succ] | simp only [List.set_cons_zero]))
 refine wpAnyL_take (i:=4) (T:=(fun w9=>Ext W7 w9)) (v:=?_) rfl (by kernel_rfl) (by kernel_rfl) (by kernel_rfl) (fun _ _ _ h=>h) (fun _ _ _ _ hS=>hS) (fun _ _ h=>h) (fun _ _ h=>h) (Or.inl ⟨by rfl,?_⟩) hcl hS ?_
 rotate_left
 ·(intro w9 hw9;(try dsimp only at hw9);go_simp;try with_reducible rfl)
 clear hcl hS
 intro hcl hS
 (try simp only [Act.put]);(try simp only [List.setIfInBounds_toArray]);(repeat (first | simp only [List.set_cons_succ] | simp only [List.set_cons_zero]))
 refine wpAnyL_take (i:=5) (T:=(fun w9=>Ext W7 w9)) (v:=?_) rfl (by kernel_rfl) (by kernel_rfl) (by kernel_rfl) (fun _ _ _ h=>h) (fun _ _ _ _ hS=>hS) (fun _ _ h=>h) (fun _ _ h=>h) (Or.inl ⟨by rfl,?_⟩) hcl hS ?_
 rotate_left
 ·(intro w9 hw9;(try dsimp only at hw9);go_simp;try with_reducible rfl)
 clear hcl hS
 intro hcl hS
 (try simp only [Act.put]);(try simp only [List.setIfInBounds_toArray]);(repeat (first | simp only [List.set_cons_succ] | simp only [List.set_cons_zero]))
 refine wpAnyL_take (i:=6) (T:=(fun w9=>Ext W7 w9)) (v:=?_) rfl (by kernel_rfl) (by kernel_rfl) (by kernel_rfl) (fun _ _ _ h=>h) (fun _ _ _ _ hS=>hS) (fun _ _ h=>h) (fun _ _ h=>h) (Or.inl ⟨by rfl,?_⟩) hcl hS ?_
 rotate_left
 ·(intro w9 hw9;(try dsimp only at hw9);go_simp;try with_reducible rfl)
 clear hcl hS
 intro hcl hS
 (try simp only [Act.put]);(try simp only [List.setIfInBounds_toArray]);(repeat (first | simp only [List.set_cons_succ] | simp only [List.set_cons_zero]))
 refine wpAnyL_take (i:=7) (T:=(fun w9=>Ext W7 w9)) (v:=?_) rfl (by kernel_rfl) (by kernel_rfl) (by kernel_rfl) (fun _ _ _ h=>h) (fun _ _ _ _ hS=>hS) (fun _ _ h=>h) (fun _ _ h=>h) (Or.inl ⟨by rfl,?_⟩) hcl hS ?_
 rotate_left
 ·(intro w9 hw9;(try dsimp only at hw9);have z12:=hw9.cell (k7.c 12 rfl);have z13:=hw9.cell (k7.c 13 rfl);have z14:=hw9.cell (k7.c 14 rfl);have z15:=hw9.cell (k7.c 15 rfl);have z16:=hw9.cell (k7.c 16 rfl);have z17:=hw9.cell (k7.c 17 rfl);go_simp;try with_reducible rfl)
 clear hcl hS
 intro hcl hS
 (try simp only [Act.put]);(try simp only [List.setIfInBounds_toArray]);(repeat (first | simp only [List.set_cons_succ] | simp only [List.set_cons_zero]))
 refine wpAnyL_two (i:=8) (j:=9) (by kernel_rfl) rfl rfl rfl rfl hcl (fun K9 hK9 => ?_) (fun K9 hK9 => ?_)
 clear hS hcl
 go_simp
 refine hK9 _ _ (by exact ex) (fun hcl hS => ?_)
 clear hK9
 refine wpAnyL_only (i:=9) (by kernel_rfl) rfl rfl hcl (fun K9 hK9 => ?_)
 clear hS hcl
 go_simp
 refine hK9 _ _ (by exact ex) (fun hcl hS => ?_)
 clear hK9
 refine wpAnyL_nm (fun V1 hV1 => ?_)
 have b10:BoxAt V1 (W7.heap.size) Zn 24:=by rw [hV1];exact (BoxAt.new (W:=W7) rfl Zn 24).mono (ex)
 have b11:BoxAt V1 (W7.heap.size+1) Zn 24:=by rw [hV1];exact (BoxAt.new (W:=W7.alloc (.cells Zn 24)) (by simp [go_sem]) Zn 24).mono (ex)
 have hxx:Ext W7 V1:=by rw [hV1];exact (ex)
 clear hV1 hS
 obtain ⟨g10,hg10⟩:∃ g,g=W7.heap.size:=⟨_,rfl⟩
 obtain ⟨g11,hg11⟩:∃ g,g=W7.heap.size+1:=⟨_,rfl⟩
 rw [← hg11] at b11 ⊢
 rw [← hg10] at b10 ⊢
 have hge10:W7.heap.size≤g10:=by omega
 have hge11:W7.heap.size≤g11:=by omega
 have hne:g10 ≠ g11:=by omega
 clear hg10 hg11
 rotate_left
 clear hS hcl
 go_simp
 refine hK9 _ _ (by exact ex) (fun hcl hS => ?_)
 clear hK9
 refine wpAnyL_only (i:=8) (by kernel_rfl) rfl rfl hcl (fun K9 hK9 => ?_)
 clear hS hcl
 go_simp
 refine hK9 _ _ (by exact ex) (fun hcl hS => ?_)
 clear hK9
 refine wpAnyL_nm (fun V1 hV1 => ?_)
 have b10:BoxAt V1 (W7.heap.size+1) Zn 24:=by rw [hV1];exact (BoxAt.new (W:=W7.alloc (.cells Zn 24)) (by simp [go_sem]) Zn 24).mono (ex)
 have b11:BoxAt V1 (W7.heap.size) Zn 24:=by rw [hV1];exact (BoxAt.new (W:=W7) rfl Zn 24).mono (ex)
 have hxx:Ext W7 V1:=by rw [hV1];exact (ex)
 clear hV1 hS
 obtain ⟨g10,hg10⟩:∃ g,g=W7.heap.size+1:=⟨_,rfl⟩
 obtain ⟨g11,hg11⟩:∃ g,g=W7.heap.size:=⟨_,rfl⟩
 rw [← hg10] at b10 ⊢
 rw [← hg11] at b11 ⊢
 have hge10:W7.heap.size≤g10:=by omega
 have hge11:W7.heap.size≤g11:=by omega
 have hne:g10 ≠ g11:=by omega
 clear hg10 hg11
 rotate_left
 all_goals
  refine wpAnyL_store (i:=10) (by kernel_rfl) rfl rfl hcl 24 (.tmp 13) (.tmp 84) rfl b10 rfl (Ln u.a.node A1 a1) rfl rfl (show 6 < 44 by decide) (by kernel_rfl) (nodl_one u.a.node A1 a1) ?_;intro W1 ht1 hb1
  refine ⟨ht1.ext hxx hge10,fun hcl hS => ?_⟩
  clear hS
  refine wpAnyL_store (i:=11) (by kernel_rfl) rfl rfl hcl 24 (.tmp 14) (.tmp 88) rfl (b11.turn ht1 (Ne.symm hne)) rfl (Ln u.b.node B1 b1) rfl rfl (show 6 < 44 by decide) (by kernel_rfl) (nodl_one u.b.node B1 b1) ?_;intro W2 ht2 hb2
  have e2:Ext W7 W2:=ht2.ext (ht1.ext hxx hge10) hge11
  refine ⟨e2,fun hcl hS => ?_⟩
  clear hcl hS
  have j1:=hb1.turn ht2 hne
  refine wpAnyL_done (by kernel_rfl) ?_ _
  have X2:Ext w W2:=x7.trans e2
  have k9:=k8.mono e2
  obtain ⟨p0,p1,p2,p3,p4,p5⟩:=j1.six
  obtain ⟨r0,r1,s2,s3,s4,s5⟩:=hb2.six
  have d6:=k9.c 6 rfl;have d14:=k9.c 14 rfl
  rw [FA1.out] at p2
  rw [FA2.out] at p1
  rw [FB1.out] at s2
  rw [FB2.out] at r1
  rw [GA1.out] at d6
  rw [GB1.out] at d14
  clear j1 hb1 hb2 ht1 ht2 b10 b11 k9 hxx e2
  go_wp2
  go_ret
  exact ⟨rfl,X2.trans (ex)⟩
end Go.Proofs.YtmhinhgflehkaaaGreat
