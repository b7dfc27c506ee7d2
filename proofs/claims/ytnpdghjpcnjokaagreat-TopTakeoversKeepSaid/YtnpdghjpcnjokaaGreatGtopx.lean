import Derived.Test.YtnpdghjpcnjokaaGreatGtak
import Derived.Test.YtnpdghjpcnjokaaGreatGsetl
import Derived.Test.YtnpdghjpcnjokaaGreatGrpm
set_option maxHeartbeats 6400000
set_option maxRecDepth 100000
namespace Go.Proofs.YtnpdghjpcnjokaaGreat
open Go.RowKit

noncomputable def exR5 : Rec:=⟨1,goA 5⟩
theorem exE5 : acnE (goA 5) = 0:=zff om om
theorem zkJ (lo : Int) (h : lo ≤ 1) : recsE lo 1 [exR5] = 0:=by
 have h2 : ¬ 1 < lo:=by omega
 simp [recsE,scan,recS,exR5,exE5,h2]
theorem ztk (a b : Int) : recsE a b [] = 0:=by simp [recsE,scan]
theorem ex5_act : actV ⟨1,1,true,[],0,0⟩ (goA 5) = (⟨1,1,true,[exR5],0,0⟩,0):=by
 simp [actV,nodE,ztk,ownB,exE5,early,actN,exR5]
theorem ex5_r1 : recvV ⟨2,0,false,[],0,0⟩ ⟨0,1,0,0,[exR5],0⟩ = (⟨2,1,false,[exR5],0,0⟩,⟨1,1,1,0,[],0⟩,true,0):=by
 have h : max (0 : Int) (min 0 1) = 0:=by decide
 simp [recvV,nodE,msgE,appE,ztk,zkJ,ownB,recdV,inTerm,takeV,tookL,keepN,ansM,h]
theorem ex5_r2 : recvV ⟨1,1,true,[exR5],0,0⟩ ⟨1,1,1,0,[],0⟩ = (⟨1,1,true,[exR5],1,1⟩,msg0,false,0):=by
 have h : max (0 : Int) 1 = 1:=by decide
 simp [recvV,nodE,msgE,ansE,zkJ,ownB,recdV,inTerm,ackN,h]
theorem ex5_r3 : recvV ⟨2,1,false,[exR5],0,0⟩ ⟨0,1,1,1,[],1⟩ = (⟨2,1,false,[exR5],1,0⟩,⟨1,1,1,0,[],0⟩,true,0):=by
 have h : max (0 : Int) 1 = 1:=by decide
 simp [recvV,nodE,msgE,appE,ztk,zkJ,ownB,recdV,inTerm,takeV,tookL,keepN,ansM,zaQ,show exR5.term = 1 from rfl,h]
theorem ex5_r4 : recvV ⟨1,1,true,[exR5],1,1⟩ ⟨1,1,1,0,[],0⟩ = (⟨1,1,true,[exR5],1,1⟩,msg0,false,0):=by
 simp [recvV,nodE,msgE,ansE,zkJ,ownB,recdV,inTerm,ackN]
theorem ex5_s1 : sentM ⟨1,1,true,[exR5],0,0⟩ = ⟨0,1,0,0,[exR5],0⟩:=by simp [sentM]
theorem ex5_s2 : sentM ⟨1,1,true,[exR5],1,1⟩ = ⟨0,1,1,1,[],1⟩:=by simp [sentM,zaQ,show exR5.term = 1 from rfl]
theorem ex5_n1 : nodE ⟨1,1,true,[exR5],0,0⟩ = 0:=by simp [nodE,zkJ,ownB]
theorem ex5_n2 : nodE ⟨2,0,false,[],0,0⟩ = 0:=zs8 om om
theorem zBg : zaS ⟨1,1,true,[exR5],0,0⟩ ⟨2,0,false,[],0,0⟩ = (⟨1,1,true,[exR5],1,1⟩,⟨2,1,false,[exR5],1,0⟩,2,0):=by
 have b0 : zaJ ⟨1,1,true,[exR5],0,0⟩ ⟨2,0,false,[],0,0⟩ = false:=by simp [zaJ,zaR]
 have b1 : zaJ ⟨1,1,true,[exR5],1,1⟩ ⟨2,1,false,[exR5],0,0⟩ = false:=by simp [zaJ]
 have b2 : zaJ ⟨1,1,true,[exR5],1,1⟩ ⟨2,1,false,[exR5],1,0⟩ = true:=by
  have : zaR [exR5] [exR5] = true:=zbr _
  simp [zaJ,this]
 unfold zaS
 rw [ex5_n1,ex5_n2,if_neg (by simp),if_neg (by simp),if_neg (by simp),if_neg (by simp)]
 conv => lhs;unfold zaK
 rw [b0,ex5_s1,ex5_r1]
 simp only [Bool.false_eq_true,if_false,ne_eq,not_true_eq_false]
 rw [ex5_r2]
 simp only [if_false,not_true_eq_false]
 conv => lhs;unfold zaK
 rw [b1,ex5_s2,ex5_r3]
 simp only [Bool.false_eq_true,if_false,ne_eq,not_true_eq_false]
 rw [ex5_r4]
 simp only [if_false,not_true_eq_false]
 conv => lhs;unfold zaK
 rw [b2]
 simp
def wld31 : Wld:=⟨0,3,1,false,⟨⟨1,1,true,[],0,0⟩,true,0⟩,⟨⟨2,0,false,[],0,0⟩,true,0⟩,[]⟩
theorem ex5_w : newW 3 1 = (wld31,0):=by unfold newW;rw [if_neg om];rfl
theorem ex5_wE : wldE wld31 = 0:=by
 have h1 : nodE ⟨1,1,true,[],0,0⟩ = 0:=by simp [nodE,ztk,ownB]
 have h2 : nodE ⟨2,0,false,[],0,0⟩ = 0:=ex5_n2
 simp [wldE,wld31,staE,h1,h2,scan]
theorem ex5_sp : zeP wld31 = (1,0):=by
 unfold zeP
 rw [if_neg (by rw [ex5_wE];simp)]
 simp [zc6,wld31]
theorem zDl (w : World) : ∀ r ∈ [exR5],AcnAt w r.act:=fun r hr => by
 simp at hr;subst hr;exact zdH _ _ _ _ w

theorem ex5_Act (w0 w : World) (D : Option Addr) (K : Nat) (hK : K ≤ maxLen) : Calls Tryz.prog 70 #[.agg #[.int .i64 1,.int .i64 1,.bool true,.slice D 0 K,.int .i64 0,.int .i64 0],.agg (acnR (goA 5)).toArray] w fun e w' => ∃ D K,e = .returned (.tuple #[.agg #[.int .i64 1,.int .i64 1,.bool true,.slice D 1 K,.int .i64 0,.int .i64 0],.int .i64 0]) ∧ Ext w w' ∧ LogW w0 w' D 1 K [exR5]:=by
 refine (zgl ⟨1,1,true,[],0,0⟩ D K (goA 5) w ⟨Sl.nil _ _ _,Nat.zero_le _,hK,by simp⟩ (zdH _ _ _ _ _)).mono fun e w' h => ?_
 obtain ⟨A,c,he,hx,hl⟩:=zaH.parts (w0:=w0) h ex5_act (zDl w0)
 exact ⟨A,c,he,hx,hl⟩
theorem zBf (w0 w : World) (D : Option Addr) (K : Nat) (E : Option Addr) (J : Nat) (hJ : J ≤ maxLen) (hl : za3 w D K [exR5]) : Calls Tryz.prog 72 #[.agg #[.int .i64 1,.int .i64 1,.bool true,.slice D 1 K,.int .i64 0,.int .i64 0],.agg #[.int .i64 2,.int .i64 0,.bool false,.slice E 0 J,.int .i64 0,.int .i64 0]] w fun e w' => ∃ D K E J,e = .returned (.tuple #[.agg #[.int .i64 1,.int .i64 1,.bool true,.slice D 1 K,.int .i64 1,.int .i64 1],.agg #[.int .i64 2,.int .i64 1,.bool false,.slice E 1 J,.int .i64 1,.int .i64 0],.int .i64 2,.int .i64 0]) ∧ Ext w w':=by
 refine (zdA ⟨1,1,true,[exR5],0,0⟩ D K ⟨2,0,false,[],0,0⟩ E J w hl ⟨Sl.nil _ _ _,Nat.zero_le _,hJ,by simp⟩).mono fun e w' h => ?_
 obtain ⟨A,c,B,d,he,hx,-,-⟩:=zaU.parts (w0:=w0) h zBg (zDl w0) (zDl w0)
 exact ⟨A,c,B,d,he,hx⟩
theorem ex5_New (w : World) : Calls Tryz.prog 9 #[.int .i64 3,.int .i64 1] w fun e w' => ∃ A a B b M k,e = .returned (.tuple #[.agg (Lw wld31 A a B b M k),.int .i64 0]) ∧ Ext w w' ∧ a ≤ maxLen ∧ b ≤ maxLen ∧ k ≤ maxLen:=by
 have h:=zFj 3 1 w
 rw [ex5_w] at h
 exact h
theorem zyh (w : World) (A : Option Addr) (a : Nat) (B : Option Addr) (b : Nat) (M : Option Addr) (k : Nat) (h1 : a ≤ maxLen) (h2 : b ≤ maxLen) (h3 : k ≤ maxLen) : Calls Tryz.prog 11 #[.agg (Lw wld31 A a B b M k)] w fun e w' => e = .returned (.tuple #[.int .i64 1,.int .i64 0]) ∧ Ext w w':=by
 have h:=zqt (w:=wld31) (W:=w) (A:=A) (B:=B) (M:=M) (c:=a) (d:=b) (k:=k) (xs:=[]) ⟨⟨Sl.nil _ _ _,Nat.zero_le _,h1,by simp [wld31]⟩,⟨Sl.nil _ _ _,Nat.zero_le _,h2,by simp [wld31]⟩,⟨Sl.nil _ _ _,Nat.zero_le _,h3,by simp⟩,rfl⟩
 rw [ex5_sp] at h
 exact h
end Go.Proofs.YtnpdghjpcnjokaaGreat

namespace Go.Proofs.YtnpdghjpcnjokaaGreat
open Go.RowKit

def Stab.actx (w : World) : Stab:=⟨fun v W => ∃ D K,v = .tuple #[.agg #[.int .i64 1,.int .i64 1,.bool true,.slice D 1 K,.int .i64 0,.int .i64 0],.int .i64 0] ∧ LogW w W D 1 K [exR5],fun _ _ _ hx ⟨D,K,e,h⟩ => ⟨D,K,e,h.mono hx⟩⟩
def Stab.nodx (w : World) : Stab:=⟨fun v W => ∃ D K,v = .agg #[.int .i64 1,.int .i64 1,.bool true,.slice D 1 K,.int .i64 0,.int .i64 0] ∧ LogW w W D 1 K [exR5],fun _ _ _ hx ⟨D,K,e,h⟩ => ⟨D,K,e,h.mono hx⟩⟩
theorem zaB (w : World) : Calls Tryz.prog 28 #[] w fun e w' => e = .returned (.bool true) ∧ Ext w w':=by
 go_enter Tryz.func28,Tryz.ntmps28
 go_wp2_with fail
 go_at_call 34;refine (zck 1 om om _).mono ?_;rintro e w' ⟨D1,K1,rfl,hx,h1⟩;obtain ⟨ya,rfl⟩:=hx.get;clear hx
 go_wp2_with fail
 go_at_call 34;refine (zck 2 om om _).mono ?_;rintro e w' ⟨D2,K2,rfl,hx,h2⟩;obtain ⟨yb,rfl⟩:=hx.get;clear hx
 go_wp2_with fail
 go_at_call 35;refine (zq8 D1 K1 h1 _).mono ?_;rintro e w' ⟨D3,K3,rfl,hx,h3⟩;obtain ⟨yc,rfl⟩:=hx.get;clear hx
 go_wp2_with (refine za2 rfl 24 (.tmp 1) (.tmp 25) rfl ((BoxAt.new (W:=xt w ya) (b:=(w.heap.size + ya.n)) sg [.int .i64 1,.int .i64 0,.bool false,.slice D1 0 K1,.int .i64 0,.int .i64 0] 24).mono ex) rfl [.int .i64 1,.int .i64 1,.bool true,.slice D3 0 K3,.int .i64 0,.int .i64 0] rfl rfl (show 6 < 44 by decide) kr (cells_one _ rfl) ?_;intro W1 ht1 hb1;have hex1 : Ext w W1:=ht1.ext ex om;have k3:=BoxAt.turn ht1 om ((BoxAt.new (W:=xt ((xt w ya).alloc (.cells #[.int .i64 1,.int .i64 0,.bool false,.slice D1 0 K1,.int .i64 0,.int .i64 0] 24)) yb) (b:=(w.heap.size + ya.n + 1 + yb.n)) sg [.int .i64 2,.int .i64 0,.bool false,.slice D2 0 K2,.int .i64 0,.int .i64 0] 24).mono ex))
 have hs3:=k3.lt
 obtain ⟨c0,c1,c2,c3,c4,c5⟩:=hb1.six
 refine zrD 6 [5] [Stab.is (.agg #[.int .i64 1,.int .i64 1,.bool true,.slice D3 0 K3,.int .i64 0,.int .i64 0]),Stab.is (.agg (acnR (goA 5)).toArray),Stab.actx w,Stab.actx w,Stab.nodx w,Stab.is (.int .i64 0)] (fun u => by (simp only [zc0,List.take_succ_cons,List.take_zero,Act.put,Nat.zero_add,Nat.reduceAdd]);(try simp only [List.setIfInBounds_toArray]);(repeat (first | simp only [List.set_cons_succ] | simp only [List.set_cons_zero]));exact rfl) kr kr (fun _ _ _ _ _ h => h) ?_ ?_
 ·refine ⟨?_,?_,?_,?_,?_,?_,trivial⟩
  ·(show SlotA _ _ _ _ _ _ _);intro u w1 hx1 hd;obtain ⟨y9,rfl⟩:=hx1.get;clear hx1
   refine za0 rfl rfl rfl ?_;intro K9 hK
   go_simp;exact hK _ _ rfl ex rfl
  ·(show SlotA _ _ _ _ _ _ _);intro u w1 hx1 hd;obtain ⟨y9,rfl⟩:=hx1.get;clear hx1
   refine za0 rfl rfl rfl ?_;intro K9 hK
   go_simp;go_at_call 71;refine (zhY _ _).mono ?_;rintro e w' ⟨rfl,hx⟩;exact hK _ _ rfl hx rfl
  ·(show SlotA _ _ _ _ _ _ _);intro u w1 hx1 hd;obtain ⟨y9,rfl⟩:=hx1.get;clear hx1
   have e0 : u 0 = .agg #[.int .i64 1,.int .i64 1,.bool true,.slice D3 0 K3,.int .i64 0,.int .i64 0]:=hd 0 kr
   have e1 : u 1 = .agg (acnR (goA 5)).toArray:=hd 1 kr
   simp only [e0,e1]
   refine za0 rfl rfl rfl ?_;intro K9 hK
   go_simp;go_at_call 70;refine (ex5_Act w _ D3 K3 h3).mono ?_;rintro e w' ⟨D,K,rfl,hx,hl⟩;exact hK _ _ rfl hx ⟨D,K,rfl,hl⟩
  ·(show SlotA _ _ _ _ _ _ _);intro u w1 hx1 hd;obtain ⟨y9,rfl⟩:=hx1.get;clear hx1
   obtain ⟨D4,K4,e2,h4⟩:=hd 2 kr
   simp only [e2]
   refine za0 rfl rfl rfl ?_;intro K9 hK
   go_simp;exact hK _ _ rfl ex ⟨D4,K4,rfl,h4⟩
  ·(show SlotA _ _ _ _ _ _ _);intro u w1 hx1 hd;obtain ⟨y9,rfl⟩:=hx1.get;clear hx1
   obtain ⟨D4,K4,e3,h4⟩:=hd 3 kr
   simp only [e3]
   refine za0 rfl rfl rfl ?_;intro K9 hK
   go_simp;exact hK _ _ rfl ex ⟨D4,K4,rfl,h4⟩
  ·(show PureA _ _ _ _ _ _);intro u w1 hx1 hd;obtain ⟨y9,rfl⟩:=hx1.get;clear hx1
   obtain ⟨D4,K4,e3,h4⟩:=hd 3 kr
   simp only [e3]
   refine zaI (v:=.int .i64 0) rfl rfl (fun w9 => ?_) rfl
   go_simp
 ·intro u w2 hx2 hT;obtain ⟨t0,t1,t2,t3,t4,t5,-⟩:=hT;obtain ⟨y9,rfl⟩:=hx2.get;clear hx2
  obtain ⟨D5,K5,e4,h5⟩:=t4
  have e5 : u 5 = .int .i64 0:=t5
  simp only [e4,e5]
  clear e4 e5 t0 t1 t2 t3 t5
  simp only [List.drop_succ_cons,List.drop_zero]
  have hxx : Ext W1 (xt W1.drew y9):=ex
  go_wp2_with (refine za2 rfl 24 (.tmp 1) (.tmp 31) rfl (hb1.mono hxx) rfl [.int .i64 1,.int .i64 1,.bool true,.slice D5 1 K5,.int .i64 0,.int .i64 0] rfl rfl (show 6 < 44 by decide) kr (cells_one _ rfl) ?_;intro W2 ht2 hb2;have j3:=(k3.mono hxx).turn ht2 om;have hs4:=j3.lt;have hex2 : Ext w W2:=ht2.ext (hex1.trans hxx) om;have m5:=h5.turn ht2;obtain ⟨d0,d1,d2,d3,d4,d5⟩:=hb2.six;obtain ⟨e0,e1,e2,e3,e4,e5⟩:=j3.six)
  go_at_call 72;refine (zBf w _ D5 K5 D2 K2 h2 (m5.recs hex2 ex)).mono ?_;rintro e w' ⟨D6,K6,D7,K7,rfl,hx⟩;obtain ⟨yd,rfl⟩:=hx.get;clear hx
  clear c0 c1 c2 c3 c4 c5
  go_wp2_with (first
   | (refine za2 rfl 24 (.tmp 7) (.tmp 37) rfl ((BoxAt.new (W:=xt W2 yd) (b:=W2.heap.size + yd.n) sg Zn 24).mono ex) rfl [.int .i64 1,.int .i64 1,.bool true,.slice D6 1 K6,.int .i64 1,.int .i64 1] rfl rfl (show 6 < 44 by decide) kr (cells_one _ rfl) ?_;intro W3 ht3 hb3;have i3:=BoxAt.turn ht3 om (j3.mono (show Ext W2 _ from ex));have hex3 : Ext w W3:=ht3.ext (hex2.trans ex) (by have:=hex2.size;omega))
   | (refine za2 rfl 24 (.tmp 3) (.tmp 38) rfl i3 rfl [.int .i64 2,.int .i64 1,.bool false,.slice D7 1 K7,.int .i64 1,.int .i64 0] rfl rfl (show 6 < 44 by decide) kr (cells_one _ rfl) ?_;intro W4 ht4 hb4;have hex4 : Ext w W4:=ht4.ext hex3 om;obtain ⟨f0,f1,f2,f3,f4,f5⟩:=hb4.six))
  go_at_call 9;refine (ex5_New _).mono ?_;rintro e w' ⟨A9,a9,B9,b9,M9,k9,rfl,hx,q1,q2,q3⟩;obtain ⟨ye,rfl⟩:=hx.get;clear hx
  go_wp2_with (refine za7 rfl 30 (.tmp 10) (.tmp 43) rfl rfl sg (Lw wld31 A9 a9 B9 b9 M9 k9) rfl rfl kr (cells_one _ rfl) ?_)
  go_at_call 11;refine (zyh _ A9 a9 B9 b9 M9 k9 q1 q2 q3).mono ?_;rintro e w' ⟨rfl,hx⟩;obtain ⟨yf,rfl⟩:=hx.get;clear hx
  go_wp2
  go_ret
  exact ⟨rfl,hex4.trans ex⟩
end Go.Proofs.YtnpdghjpcnjokaaGreat
