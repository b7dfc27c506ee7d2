import Derived.Test.YtmhinhgflehkaaaGreatGawx
import Derived.Test.YtmhinhgflehkaaaGreatGrv
import Derived.Test.YtmhinhgflehkaaaGreatGdel
import Derived.Test.YtmhinhgflehkaaaGreatDdw
import Derived.Test.YtmhinhgflehkaaaGreatGtkf
namespace Go.Proofs.YtmhinhgflehkaaaGreat
set_option maxHeartbeats 12800000
set_option maxRecDepth 100000
open Go.RowKit

def Stab.newv (v:Wld):Stab:=⟨fun x W=>∃ A a B b M m,x = .tuple #[.agg (Lw v A a B b M m),.int .i64 0]∧WldAt W v A a B b M m [],fun _ _ _ hx ⟨A,a,B,b,M,m,e,h⟩=>⟨A,a,B,b,M,m,e,h.mono hx⟩⟩
def Stab.wld (v:Wld):Stab:=⟨fun x W=>∃ A a B b M m,x = .agg (Lw v A a B b M m)∧WldAt W v A a B b M m [],fun _ _ _ hx ⟨A,a,B,b,M,m,e,h⟩=>⟨A,a,B,b,M,m,e,h.mono hx⟩⟩
theorem WldAt.fresh {W V:World} {v:Wld} {A B M:Option Addr} {a b m:Nat} {xs:List (Ltr × Option Addr × Nat)} (ha:v.a.node.log=[]) (hb:v.b.node.log=[]) (hm:v.mail=[]) (h:WldAt W v A a B b M m xs):WldAt V v A a B b M m [] :=
 ⟨⟨by rw [ha];exact Sl.nil _ _ _,by rw [ha];exact Nat.zero_le _,h.a.cap,by rw [ha];intro r hr;cases hr⟩,⟨by rw [hb];exact Sl.nil _ _ _,by rw [hb];exact Nat.zero_le _,h.b.cap,by rw [hb];intro r hr;cases hr⟩,⟨Sl.nil _ _ _,Nat.zero_le _,h.mail.cap,by intro r hr;cases hr⟩,hm.symm⟩
theorem l55_Stays2 (x:Int) (w:World):Calls Tryz.prog 45 #[.int .i64 x] w fun e w'=>e = .returned (.bool (x != 1))∧Ext w w':=by
 go_enter Tryz.func45,Tryz.ntmps45
 go_wp2
 go_ret
 exact ⟨rfl,ex⟩
theorem IndexFunc_ones (A:Option Addr) (k n:Nat) (l:List Int) (hl:∀ i,i < n→l[i]? = some 1) (hn:n≤1000000) (w:World) (hs:Sl w A 1 (l.map intRw)) :
  Calls Tryz.prog 98 #[.slice A n k,.func (Fn.func 45) #[] #[]] w fun e w'=>e = .returned (.int .i64 (-1))∧Ext w w':=by
 have HL:=Lib.hid hl
 have HS:=Lib.hid hs
 clear hl hs
 go_enter Tryz.func98,Tryz.ntmps98
 go_wp2
 go_loopw [8] (fun i wr=>∃ j:Nat,j≤n∧i = .int .i64 j∧Ext w wr) (fun i _=>n - (intOf i).toNat)
 case atStart=>exact ⟨0,by omega,rfl,Ext.refl _⟩
 case round =>
  obtain ⟨j,hj,rfl,hx⟩:=hrel
  obtain ⟨y,rfl⟩:=hx.get
  clear hx
  by_cases hlt:j < n
  ·obtain ⟨ob,oo,hO,hrg⟩:=HS.out.range (i:=j) (row:=intRw 1) (by rw [List.getElem?_map,HL.out j hlt];rfl)
   have c0:=hrg 0 _ rfl
   rw [Nat.mul_one,Nat.add_zero] at c0
   subst hO
   have hb0:(0:Int)≤(j:Int):=by omega
   have hd1:decide ((j:Int) < (n:Int))=true:=decide_eq_true (by omega)
   clear hrg
   go_wp2_with (go_at_call 45;refine (l55_Stays2 1 _).mono ?_;rintro e w' ⟨rfl,hx⟩;obtain ⟨y2,rfl⟩:=hx.get;clear hx)
   go_light
   exact ⟨⟨j+1,by omega,by go_num,ex⟩,by simp [intOf];omega⟩
  ·have hd1:decide ((j:Int) < (n:Int))=false:=decide_eq_false (by omega)
   go_wp2
   go_ret
   exact ⟨rfl,ex⟩
theorem ContainsFunc_ones (A:Option Addr) (k n:Nat) (l:List Int) (hl:∀ i,i < n→l[i]? = some 1) (hn:n≤1000000) (w:World) (hs:Sl w A 1 (l.map intRw)) :
  Calls Tryz.prog 44 #[.slice A n k,.func (Fn.func 45) #[] #[]] w fun e w'=>e = .returned (.bool false)∧Ext w w':=by
 have HL:=Lib.hid hl
 have HS:=Lib.hid hs
 clear hl hs
 go_enter Tryz.func44,Tryz.ntmps44
 go_wp2_with (go_at_call 98;refine (IndexFunc_ones A k n l HL.out hn _ (HS.out.mono (ex))).mono ?_;rintro e w' ⟨rfl,hx⟩;obtain ⟨y2,rfl⟩:=hx.get;clear hx)
 go_ret
 exact ⟨rfl,ex⟩
theorem l55_Stays (A0:Option Addr) (k0:Nat) (l:List Evt) (x1 x2:Int) (w:World) (hs:EvtsAt w A0 k0 l) (hb:0≤x1∧x1≤255) (hc:0≤x2∧x2≤255) (hn:l.length * 576≤140737488355328):Calls Tryz.prog 8 #[.slice A0 l.length k0,.int .u8 x1,.int .u8 x2] w fun e w'=>e = .returned (.bool true)∧Ext w w':=by
 obtain ⟨hb0,hb1⟩:=hb
 obtain ⟨hc0,hc1⟩:=hc
 obtain ⟨p,hp⟩:∃ p,x1 % 8=p:=⟨_,rfl⟩
 obtain ⟨n,hn2⟩:∃ n,1+p=n:=⟨_,rfl⟩
 obtain ⟨q,hq⟩:∃ q,x2 % n=q:=⟨_,rfl⟩
 obtain ⟨d,hd⟩:∃ d,1+q=d:=⟨_,rfl⟩
 have hp0:0≤p:=by omega
 have hp1:p < 8:=by omega
 have hn0:1≤n:=by omega
 have hn1:n≤8:=by omega
 have hq0:0≤q:=by rw [← hq];exact Int.emod_nonneg _ (by omega)
 have hq1:q < n:=by rw [← hq];exact Int.emod_lt_of_pos _ (by omega)
 have hd0:1≤d:=by omega
 have hd1:d≤n:=by omega
 have hw1:IntKind.i64.wrap x1=x1:=IntWalk.i64_in _ (by omega)
 have hw2:IntKind.i64.wrap x2=x2:=IntWalk.i64_in _ (by omega)
 have hw3:IntKind.i64.wrap p=p:=IntWalk.i64_in _ (by omega)
 have hw4:IntKind.i64.wrap n=n:=IntWalk.i64_in _ (by omega)
 have hw5:IntKind.i64.wrap d=d:=IntWalk.i64_in _ (by omega)
 have hw6:IntKind.i64.wrap q=q:=IntWalk.i64_in _ (by omega)
 have hqt:x2.tmod n=q:=by rw [Int.tmod_eq_emod_of_nonneg hc0];exact hq
 have hnz : ¬ n=0:=by omega
 have hnz2:(n == 0)=false:=by simpa using hnz
 have HS:=Lib.hid hs
 have HN:=Lib.hid hn
 clear hs hn
 go_enter Tryz.func8,Tryz.ntmps8
 go_wp2_with fail
 go_at_call 41;refine (Clone_E A0 k0 l _ (HS.out.sl.mono (ex)) HN.out).mono ?_;rintro e w' ⟨D,K,rfl,hx,ho⟩;have HO:=Lib.hid ho;obtain ⟨yb,rfl⟩:=hx.get;clear hx ho
 go_wp2_with fail
 go_at_call 40;refine (DeleteFunc_Stays _ D K l _ n _ (ex) HO.out HN.out (by simp [go_sem, *])).mono ?_;rintro e w' ⟨D2,K2,rfl,hx,ho⟩;have HO2:=Lib.hid ho;obtain ⟨yc,rfl⟩:=hx.get;clear hx ho
 obtain ⟨calm,hcalm⟩:∃ calm,(l.filter fun m => !((fun m:Evt=>stB n m) m))=calm:=⟨_,rfl⟩
 have HCL:=Lib.hid hcalm
 rw [hcalm] at HO2 ⊢
 clear hcalm
 go_wp2_with fail
 go_at_call 43;refine (l55_right A0 k0 l _ (HS.out.mono (ex)) HN.out).mono ?_;rintro e w' ⟨⟨b,rfl,hb⟩,hx⟩;have HB:=Lib.hid hb;obtain ⟨yr,rfl⟩:=hx.get;clear hx hb
 cases b with
 | false =>
  go_wp2_with (go_at_call 16;refine (l55_awake _).mono ?_;rintro e w' ⟨rfl,hx⟩;obtain ⟨y,rfl⟩:=hx.get;clear hx)
  go_ret
  exact ⟨rfl,ex⟩
 | true =>
  obtain ⟨h20,hez⟩:=HB.out rfl
  have hcz:evtsE calm=0:=by rw [← HCL.out];exact evtsE_filter hez _
  have hmild:∀ x,x ∈ calm→Tk.Mild n x:=fun x hx=>by
   rw [← HCL.out] at hx
   obtain ⟨h1,h2⟩:=List.mem_filter.1 hx
   refine ⟨evtsE_ok hez x h1,?_⟩
   have h3:stB n x=false:=by simpa using h2
   unfold stB at h3
   by_cases e0:x.kind=0
   ·exact .inl e0
   ·right
    have k0:(x.kind != 0)=true:=by simpa using e0
    rw [k0,Bool.true_and,Bool.or_eq_false_iff] at h3
    exact ⟨by simpa using h3.1,by have:=of_decide_eq_false h3.2;omega⟩
  have hcel:∀ x,x ∈ calm→x ∈ l:=fun x hx=>by rw [← HCL.out] at hx;exact (List.mem_filter.1 hx).1
  obtain ⟨v,hv⟩:∃ v,(newW n d).1=v:=⟨_,rfl⟩
  have HV:=Lib.hid hv
  have hok:WldOk v:=by rw [← hv];exact (newW_ok (by omega) (by omega) (by omega) (by omega)).2
  have hnow:v.now=0:=by rw [← hv];unfold newW;rw [if_neg (by omega)]
  have hva:v.a.node.log=[]:=by rw [← hv];unfold newW;rw [if_neg (by omega)]
  have hvb:v.b.node.log=[]:=by rw [← hv];unfold newW;rw [if_neg (by omega)]
  have hvm:v.mail=[]:=by rw [← hv];unfold newW;rw [if_neg (by omega)]
  have HFR:=Lib.hid (And.intro hva (And.intro hvb hvm))
  have HTR:=Lib.hid (fun (V:World) (A:Option Addr) (a:Nat) (B:Option Addr) (b:Nat) (M:Option Addr) (m:Nat) (h:WldAt V v A a B b M m []) (E:Option Addr) (ce:Nat) (hs2:EvtsAt V E ce calm)=>(tak_Trace (T:=40) (l:=calm) h hok hs2 hcz (by decide) (by rw [hnow];decide):Calls Tryz.prog 28 #[.agg (Lw v A a B b M m),.slice E calm.length ce,.int .i64 40] V _))
  have HSP:=Lib.hid (fun (i:Nat) (h2:i < 40)=>(by have:=Tk.stays_all (n:=n) (d:=d) hn0 (by omega) hd0 (by omega) hd1 hmild (N:=40) (by omega) h2;rwa [hv] at this:(traceW calm 40 v)[i]? = some 1))
  obtain ⟨tr,htr⟩:∃ tr,traceW calm 40 v=tr:=⟨_,rfl⟩
  rw [htr] at HTR HSP
  have HCE:=Lib.hid hcel
  clear hv hok hnow hva hvb hvm htr hcel hmild hcz hez HB
  go_wp2_with fail
  refine wp_name (fun W9 hW9 => ?_)
  have x9:Ext w W9:=by rw [hW9];exact (ex)
  have c7:W9.cell? ⟨w.heap.size,0,none⟩=some (.int .i64 n):=by rw [hW9];simp [go_sem]
  have HE9:=Lib.hid (show EvtsAt W9 D2 K2 calm from ⟨(HO2.out.sl).mono (by rw [hW9];exact ex),HO2.out.le,HO2.out.cap,fun x hx=>(HS.out.el x (HCE.out x hx)).mono x9⟩)
  clear hW9
  refine wp_region_stab 11 [9] [Stab.is (.int .i64 n),Stab.is (.int .u8 x2),Stab.is (.int .i64 x2),Stab.is (.int .i64 n),Stab.is (.int .i64 q),Stab.is (.int .i64 d),Stab.newv v,Stab.newv v,Stab.wld v,Stab.is (.int .i64 0),Stab.box W9.heap.size Zw 30] (fun u=>by (simp only [putAll,List.take_succ_cons,List.take_zero,Act.put,Nat.zero_add,Nat.reduceAdd]);(try simp only [List.setIfInBounds_toArray]);(repeat (first | simp only [List.set_cons_succ] | simp only [List.set_cons_zero]));exact rfl) (by kernel_rfl) (by kernel_rfl) (fun _ _ _ _ _ h=>h) ?_ ?_
  ·refine ⟨?_,?_,?_,?_,?_,?_,?_,?_,?_,?_,?_,trivial⟩
   ·(show SlotA _ _ _ _ _ _ _);intro u w1 hx1 hd;obtain ⟨y9,rfl⟩:=hx1.get;clear hx1
    refine slot_run rfl rfl rfl ?_;intro K9 hK
    go_simp;exact hK _ _ rfl (ex) rfl
   ·(show SlotA _ _ _ _ _ _ _);intro u w1 hx1 hd;obtain ⟨y9,rfl⟩:=hx1.get;clear hx1
    refine slot_run rfl rfl rfl ?_;intro K9 hK
    go_simp;exact hK _ _ rfl (ex) rfl
   ·(show SlotA _ _ _ _ _ _ _);intro u w1 hx1 hd;obtain ⟨y9,rfl⟩:=hx1.get;clear hx1
    have e1:u 1 = .int .u8 x2:=hd 1 (by kernel_rfl)
    simp only [e1]
    refine slot_run rfl rfl rfl ?_;intro K9 hK
    go_simp;exact hK _ _ rfl (ex) rfl
   ·(show SlotA _ _ _ _ _ _ _);intro u w1 hx1 hd;obtain ⟨y9,rfl⟩:=hx1.get;clear hx1
    refine slot_run rfl rfl rfl ?_;intro K9 hK
    go_simp;exact hK _ _ rfl (ex) rfl
   ·(show SlotA _ _ _ _ _ _ _);intro u w1 hx1 hd;obtain ⟨y9,rfl⟩:=hx1.get;clear hx1
    have e2:u 2 = .int .i64 x2:=hd 2 (by kernel_rfl)
    have e3:u 3 = .int .i64 n:=hd 3 (by kernel_rfl)
    simp only [e2,e3]
    refine slot_run rfl rfl rfl ?_;intro K9 hK
    go_simp;exact hK _ _ rfl (ex) rfl
   ·(show SlotA _ _ _ _ _ _ _);intro u w1 hx1 hd;obtain ⟨y9,rfl⟩:=hx1.get;clear hx1
    have e4:u 4 = .int .i64 q:=hd 4 (by kernel_rfl)
    simp only [e4]
    refine slot_run rfl rfl rfl ?_;intro K9 hK
    go_simp;exact hK _ _ rfl (ex) rfl
   ·(show SlotA _ _ _ _ _ _ _);intro u w1 hx1 hd;obtain ⟨y9,rfl⟩:=hx1.get;clear hx1
    have e0:u 0 = .int .i64 n:=hd 0 (by kernel_rfl)
    have e5:u 5 = .int .i64 d:=hd 5 (by kernel_rfl)
    simp only [e0,e5]
    refine slot_run rfl rfl rfl ?_;intro K9 hK
    go_simp;go_at_call 17;refine (tak_New_at hn0 (by omega) hd0 (by omega) HV.out).mono ?_;rintro e w' ⟨A,a,B,b,M,m,rfl,hx,hw⟩;exact hK _ _ rfl hx ⟨A,a,B,b,M,m,rfl,hw⟩
   ·(show SlotA _ _ _ _ _ _ _);intro u w1 hx1 hd;obtain ⟨y9,rfl⟩:=hx1.get;clear hx1
    obtain ⟨A6,a6,B6,b6,M6,m6,e6,h6⟩:=hd 6 (by kernel_rfl)
    simp only [e6]
    refine slot_run rfl rfl rfl ?_;intro K9 hK
    go_simp;exact hK _ _ rfl (ex) ⟨A6,a6,B6,b6,M6,m6,rfl,h6⟩
   ·(show SlotA _ _ _ _ _ _ _);intro u w1 hx1 hd;obtain ⟨y9,rfl⟩:=hx1.get;clear hx1
    obtain ⟨A6,a6,B6,b6,M6,m6,e7,h6⟩:=hd 7 (by kernel_rfl)
    simp only [e7]
    refine slot_run rfl rfl rfl ?_;intro K9 hK
    go_simp;exact hK _ _ rfl (ex) ⟨A6,a6,B6,b6,M6,m6,rfl,h6⟩
   ·(show PureA _ _ _ _ _ _);intro u w1 hx1 hd;obtain ⟨y9,rfl⟩:=hx1.get;clear hx1
    obtain ⟨A6,a6,B6,b6,M6,m6,e7,h6⟩:=hd 7 (by kernel_rfl)
    simp only [e7]
    refine pure_run (v:=.int .i64 0) rfl rfl (fun w9 => ?_) rfl
    go_simp
   ·(show SlotA _ _ _ _ _ _ _);intro u w1 hx1 hd;obtain ⟨y9,rfl⟩:=hx1.get;clear hx1
    refine slot_run rfl rfl rfl ?_;intro K9 hK
    go_simp;exact hK _ _ rfl (ex) ⟨_,rfl,(by first | exact Nat.le_refl _ | omega | (simp [go_sem];done) | (simp [go_sem];omega)),BoxAt.new (by first | rfl | simp [go_sem]) _ _⟩
  ·intro u w2 hx2 hT;obtain ⟨t0,t1,t2,t3,t4,t5,t6,t7,t8,t9,t10,-⟩:=hT;obtain ⟨y9,rfl⟩:=hx2.get;clear hx2
   obtain ⟨A8,a8,B8,b8,M8,m8,e8,h8⟩:=t8
   have e9:u 9 = .int .i64 0:=t9
   obtain ⟨g10,e10,hg10,b10⟩:=t10
   simp only [e8,e9,e10]
   clear e8 e9 e10 t0 t1 t2 t3 t4 t5 t6 t7 t9
   simp only [List.drop_succ_cons,List.drop_zero]
   have hxx:Ext W9 (xt W9.drew y9):=ex
   go_wp2_with (refine wpList_store_at rfl 30 (.tmp 9) (.tmp 33) rfl b10 rfl (Lw v A8 a8 B8 b8 M8 m8) rfl rfl (show 21 < 44 by decide) (by kernel_rfl) (wld_one v A8 a8 B8 b8 M8 m8) ?_;intro W1 ht1 hb1;have x1:Ext W9 W1:=ht1.ext hxx hg10;have X1:Ext w W1:=x9.trans x1;have hrow:=hb1.row (n:=21) rfl;clear ht1 b10 hxx)
   go_at_call 28;refine (HTR.out _ A8 a8 B8 b8 M8 m8 (WldAt.fresh HFR.out.1 HFR.out.2.1 HFR.out.2.2 h8) D2 K2 ((HE9.out.mono x1).mono (ex))).mono ?_;rintro e w' ⟨O,ko,rfl,hx,hsl,hko,hkm⟩;have HO3:=Lib.hid hsl;obtain ⟨yd,rfl⟩:=hx.get;clear hx hsl
   go_wp2_with fail
   go_at_call 44;refine (ContainsFunc_ones O ko 40 tr HSP.out (by omega) _ (HO3.out.mono (ex))).mono ?_;rintro e w' ⟨rfl,hx⟩;obtain ⟨ye,rfl⟩:=hx.get;clear hx
   go_wp2_with (go_at_call 16;refine (l55_awake _).mono ?_;rintro e w' ⟨rfl,hx⟩;obtain ⟨y,rfl⟩:=hx.get;clear hx)
   go_ret
   exact ⟨rfl,X1.trans (ex)⟩
end Go.Proofs.YtmhinhgflehkaaaGreat
