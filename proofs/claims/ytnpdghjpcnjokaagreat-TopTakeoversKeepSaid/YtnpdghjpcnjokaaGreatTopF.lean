import Derived.Test.YtnpdghjpcnjokaaGreatGtopa
import Derived.Test.YtnpdghjpcnjokaaGreatRq4
namespace Go.Proofs.YtnpdghjpcnjokaaGreat
set_option maxHeartbeats 6400000
set_option maxRecDepth 100000
open Go.RowKit

theorem zc4 (A : Option Addr) (c n : Nat) (l : List Rec) (hn : l.length = n) (B : Option Addr) (d k : Nat) (m : List Rec) (hk : m.length = k) (v : Bool) (hv : zaR l m = v) (w : World) (h1 : za3 w A c l) (h2 : za3 w B d m) :
  Calls Tryz.prog 74 #[.slice A n c,.slice B k d] w fun e w' => e = .returned (.bool v) ∧ Ext w w':=by
 subst hv
 exact zdl A c n l hn B d k m hk w h1 h2
theorem both_0 (a b : Nod) (A : Option Addr) (c : Nat) (B : Option Addr) (d : Nat) (W : World) (ha : za3 W A c a.log) (hb : za3 W B d b.log) (hl1 : a.log.length ≤ 256) (hl2 : b.log.length ≤ 256) (h0 : 0 ≤ a.acked) (h1 : 0 ≤ b.acked) (q : Nat) (hq : max a.acked b.acked = (q : Int)) (hqm : q ≤ min a.log.length b.log.length) (he : a.log.take q = b.log.take q) (hsa : a.speaks = false) :
  Calls Tryz.prog 73 #[.agg (Ln a A c),.agg (Ln b B d)] W fun e w' => e = .returned (.bool true) ∧ Ext W w':=by
 have HA:=zh ha
 have HB:=zh hb
 have hb1 : a.log.length * 552 ≤ 140737488355328:=by omega
 have hb2 : b.log.length * 552 ≤ 140737488355328:=by omega
 have hz1 : decide (a.acked < 0) = false:=decide_eq_false om
 have hz2 : decide (b.acked < 0) = false:=decide_eq_false om
 have hz3 : decide (min (a.log.length : Int) (b.log.length : Int) < (q : Int)) = false:=decide_eq_false om
 have i1 : (q : Int) ≤ (a.log.length : Int):=by omega
 have i2 : (q : Int) ≤ (b.log.length : Int):=by omega
 have i3 : (0 : Int) ≤ (q : Int):=by omega
 have HQ:=zh hq
 have HE:=zh he
 have HT:=zh (show zaR (a.log.take q) (b.log.take q) = true by rw [he];exact zbr _)
 clear ha hb he hqm
 have HSa:=zh hsa
 clear hsa
 go_enter Tryz.func73,Tryz.ntmps73
 go_wp2_with fail
 refine zaG (fun W9 hW9 => ?_)
 have k2 : BoxAt W9 W.heap.size (Ln a A c) 24:=by rw [hW9];exact (by repeat (first | exact BoxAt.new (by first | rfl | (simp [go_sem];done) | (simp [go_sem];omega)) _ _ | apply BoxAt.xt | apply BoxAt.drew | apply BoxAt.drewN | apply BoxAt.alloc))
 have k3 : BoxAt W9 (W.heap.size + 1) (Ln b B d) 24:=by rw [hW9];exact (by repeat (first | exact BoxAt.new (by first | rfl | (simp [go_sem];done) | (simp [go_sem];omega)) _ _ | apply BoxAt.xt | apply BoxAt.drew | apply BoxAt.drewN | apply BoxAt.alloc))
 have hex : Ext W W9:=by rw [hW9];exact ex
 have ra : za3 W9 A c a.log:=by rw [hW9];exact HA.out.mono ex
 have rb : za3 W9 B d b.log:=by rw [hW9];exact HB.out.mono ex
 clear hW9
 obtain ⟨c0,c1,c2,c3,c4,c5⟩:=k2.six
 obtain ⟨d0,d1,d2,d3,d4,d5⟩:=k3.six
 refine zod 6 [] [4,5] [Stab.is (.agg (Ln a A c)),Stab.nod W a,Stab.is (.agg (Ln b B d)),Stab.nod W b,Stab.box W9.heap.size Zn 40,Stab.box W9.heap.size Zn 40] (fun u => by (simp only [zc0,List.take_succ_cons,List.take_zero,Act.put,Nat.zero_add,Nat.reduceAdd]);(try simp only [List.setIfInBounds_toArray]);(repeat (first | simp only [List.set_cons_succ] | simp only [List.set_cons_zero]));exact rfl) kr kr kr (fun _ _ _ _ _ h => h) ?_ ?_ ?_
 ·intro j9 hj9 v9 w9 h9
  have hj9' : j9 = 4 ∨ j9 = 5:=by simpa using hj9
  rcases hj9' with rfl | rfl
  ·obtain ⟨g,rfl,-,h⟩:=h9;exact ⟨g,rfl,h.lt⟩
  ·obtain ⟨g,rfl,-,h⟩:=h9;exact ⟨g,rfl,h.lt⟩
 ·refine ⟨?_,?_,?_,?_,?_,?_,trivial⟩
  ·(show SlotB _ _ _ _ _ _ _ _);intro u w1 hx1 hd;obtain ⟨y9,rfl⟩:=hx1.get;clear hx1
   refine zaf rfl rfl rfl ?_;intro K9 hK0
   have hK:=fun a9 w9 h1 h2 h3 => hK0 a9 w9 h1 h2 h3 (fun h => by cases h);clear hK0
   go_simp;exact hK _ _ rfl ex rfl
  ·(show SlotB _ _ _ _ _ _ _ _);intro u w1 hx1 hd;obtain ⟨y9,rfl⟩:=hx1.get;clear hx1
   have e0 : u 0 = .agg (Ln a A c):=hd 0 kr
   simp only [e0]
   refine zaf rfl rfl rfl ?_;intro K9 hK0
   have hK:=fun a9 w9 h1 h2 h3 => hK0 a9 w9 h1 h2 h3 (fun h => by cases h);clear hK0
   go_simp;go_at_call 41;refine (zbA a A c _ (ra.mono ex) hb1).mono ?_;rintro e w' ⟨D,K,rfl,hx,hown⟩;exact hK _ _ rfl hx ⟨D,K,rfl,LogW.own hown HA.out.el⟩
  ·(show SlotB _ _ _ _ _ _ _ _);intro u w1 hx1 hd;obtain ⟨y9,rfl⟩:=hx1.get;clear hx1
   refine zaf rfl rfl rfl ?_;intro K9 hK0
   have hK:=fun a9 w9 h1 h2 h3 => hK0 a9 w9 h1 h2 h3 (fun h => by cases h);clear hK0
   go_simp;exact hK _ _ rfl ex rfl
  ·(show SlotB _ _ _ _ _ _ _ _);intro u w1 hx1 hd;obtain ⟨y9,rfl⟩:=hx1.get;clear hx1
   have e2 : u 2 = .agg (Ln b B d):=hd 2 kr
   simp only [e2]
   refine zaf rfl rfl rfl ?_;intro K9 hK0
   have hK:=fun a9 w9 h1 h2 h3 => hK0 a9 w9 h1 h2 h3 (fun h => by cases h);clear hK0
   go_simp;go_at_call 41;refine (zbA b B d _ (rb.mono ex) hb2).mono ?_;rintro e w' ⟨D,K,rfl,hx,hown⟩;exact hK _ _ rfl hx ⟨D,K,rfl,LogW.own hown HB.out.el⟩
  ·(show SlotB _ _ _ _ _ _ _ _);intro u w1 hx1 hd;obtain ⟨y9,rfl⟩:=hx1.get;clear hx1
   refine zaf rfl rfl rfl ?_;intro K9 hK0
   go_simp;exact hK0 _ _ rfl ex ⟨_,rfl,(by first | omega | (simp [go_sem];done) | (simp [go_sem];omega)),BoxAt.new (by first | rfl | simp [go_sem]) _ _⟩ (fun _ => ⟨_,rfl,by first | exact Nat.le_refl _ | simp [go_sem]⟩)
  ·(show SlotB _ _ _ _ _ _ _ _);intro u w1 hx1 hd;obtain ⟨y9,rfl⟩:=hx1.get;clear hx1
   refine zaf rfl rfl rfl ?_;intro K9 hK0
   go_simp;exact hK0 _ _ rfl ex ⟨_,rfl,(by first | omega | (simp [go_sem];done) | (simp [go_sem];omega)),BoxAt.new (by first | rfl | simp [go_sem]) _ _⟩ (fun _ => ⟨_,rfl,by first | exact Nat.le_refl _ | simp [go_sem]⟩)
 ·intro u w2 hx2 hT hdd;obtain ⟨t0,t1,t2,t3,t4,t5,-⟩:=hT;obtain ⟨y9,rfl⟩:=hx2.get;clear hx2
  obtain ⟨D1,K1,e1,h1'⟩:=t1
  obtain ⟨D3,K3,e3,h3'⟩:=t3
  obtain ⟨g4,e4,hg4,b4⟩:=t4
  obtain ⟨g5,e5,hg5,b5⟩:=t5
  have hne0:=hdd 4 5 dk dk kr kr dk
  rw [e4,e5] at hne0
  replace hne0 : g4 ≠ g5:=fun h => hne0 (by rw [h])
  clear hdd
  simp only [e1,e3,e4,e5]
  clear e1 e3 e4 e5 t0 t2
  simp only [List.drop_succ_cons,List.drop_zero]
  have hxx : Ext W9 (xt W9.drew y9):=ex
  go_wp2_with (first
   | (refine za2 rfl 40 (.tmp 5) (.tmp 9) rfl b4 rfl (Ln a D1 K1) rfl rfl (show 6 < 44 by decide) kr (zaa a D1 K1) ?_;intro W1 ht1 hb1';have j4:=hb1')
   | (refine za2 rfl 40 (.tmp 6) (.tmp 11) rfl (b5.turn ht1 om) rfl (Ln b D3 K3) rfl rfl (show 6 < 44 by decide) kr (zaa b D3 K3) ?_;intro W2 ht2 hb2';have j2:=((k2.mono hxx).turn ht1 (by have:=k2.lt;omega)).turn ht2 (by have:=k2.lt;omega);have j3:=((k3.mono hxx).turn ht1 (by have:=k3.lt;omega)).turn ht2 (by have:=k3.lt;omega);have j4:=hb1'.turn ht2 om;obtain ⟨p0,p1,p2,p3,p4,p5⟩:=j4.six;obtain ⟨q0,q1,q2,q3,q4,q5⟩:=hb2'.six;obtain ⟨r0,r1,r2,r3,r4,r5⟩:=j2.six;obtain ⟨s0,s1,s2,s3,s4,s5⟩:=j3.six))
  have hex2 : Ext W W2:=ht2.ext (ht1.ext (hex.trans hxx) (by have:=hex.size;omega)) (by have:=hex.size;omega)
  have m1:=(h1'.turn ht1).turn ht2
  have m3:=(h3'.turn ht1).turn ht2
  have pa : za3 W2 D1 K1 (a.log.take q):=by have:=((m1.recs hex2 (Ext.refl _)).part 0 q om q (Nat.sub_zero q)).1;rwa [zb2,Nat.sub_zero,List.drop_zero] at this
  have pb : za3 W2 D3 K3 (b.log.take q):=by have:=((m3.recs hex2 (Ext.refl _)).part 0 q om q (Nat.sub_zero q)).1;rwa [zb2,Nat.sub_zero,List.drop_zero] at this
  have LA:=zh (show (a.log.take q).length = q by rw [List.length_take];omega)
  have LB:=zh (show (b.log.take q).length = q by rw [List.length_take];omega)
  have i4 : (q : Int) ≤ (K1 : Int):=by have:=m1.le;omega
  have i5 : (q : Int) ≤ (K3 : Int):=by have:=m3.le;omega
  clear ht1 ht2 hb1' hb2' h1' h3' b4 b5 hxx ra rb k2 k3 c0 c1 c2 c3 c4 c5 d0 d1 d2 d3 d4 d5 m1 m3 hq
  rw [HSa.out] at r2
  refine zrD 27 [] [Stab.is (.pointer (some ⟨g4,3,none⟩)),Stab.is (.slice D1 a.log.length K1),Stab.is (.int .i64 q),Stab.is (.slice D1 q K1),Stab.is (.pointer (some ⟨g5,3,none⟩)),Stab.is (.slice D3 b.log.length K3),Stab.is (.int .i64 q),Stab.is (.slice D3 q K3),Stab.is (.bool true),Stab.is (.bool true),Stab.is (.pointer (some ⟨W.heap.size,2,none⟩)),Stab.is (.bool false),Stab.is (.bool true),Stab.is (.bool true),Stab.any,Stab.any,Stab.any,Stab.is (.bool true),Stab.is (.bool true),Stab.any,Stab.any,Stab.any,Stab.any,Stab.any,Stab.is (.bool true),Stab.is (.bool true),Stab.is (.bool true)] (fun u => by (simp only [zc0,List.take_succ_cons,List.take_zero,Act.put,Nat.zero_add,Nat.reduceAdd]);(try simp only [List.setIfInBounds_toArray]);(repeat (first | simp only [List.set_cons_succ] | simp only [List.set_cons_zero]));exact rfl) kr kr (fun _ _ _ _ _ h => h) ?_ ?_
  ·refine ⟨?_,?_,?_,?_,?_,?_,?_,?_,?_,?_,?_,?_,?_,?_,?_,?_,?_,?_,?_,?_,?_,?_,?_,?_,?_,?_,?_,trivial⟩
   ·(show SlotA _ _ _ _ _ _ _);intro u w1 hx1 hd;obtain ⟨y9,rfl⟩:=hx1.get;clear hx1
    refine za0 rfl rfl rfl ?_;intro K9 hK
    go_simp;exact hK _ _ rfl ex rfl
   ·(show SlotA _ _ _ _ _ _ _);intro u w1 hx1 hd;obtain ⟨y9,rfl⟩:=hx1.get;clear hx1
    have e0 : u 0 = .pointer (some ⟨g4,3,none⟩):=hd 0 kr
    simp only [e0]
    refine za0 rfl rfl rfl ?_;intro K9 hK
    go_simp;exact hK _ _ rfl ex rfl
   ·(show SlotA _ _ _ _ _ _ _);intro u w1 hx1 hd;obtain ⟨y9,rfl⟩:=hx1.get;clear hx1
    refine za0 rfl rfl rfl ?_;intro K9 hK
    go_simp;exact hK _ _ rfl ex rfl
   ·(show SlotA _ _ _ _ _ _ _);intro u w1 hx1 hd;obtain ⟨y9,rfl⟩:=hx1.get;clear hx1
    have e1 : u 1 = .slice D1 a.log.length K1:=hd 1 kr
    have e2 : u 2 = .int .i64 q:=hd 2 kr
    simp only [e1,e2]
    refine za0 rfl rfl rfl ?_;intro K9 hK
    go_simp;exact hK _ _ rfl ex rfl
   ·(show SlotA _ _ _ _ _ _ _);intro u w1 hx1 hd;obtain ⟨y9,rfl⟩:=hx1.get;clear hx1
    refine za0 rfl rfl rfl ?_;intro K9 hK
    go_simp;exact hK _ _ rfl ex rfl
   ·(show SlotA _ _ _ _ _ _ _);intro u w1 hx1 hd;obtain ⟨y9,rfl⟩:=hx1.get;clear hx1
    have e4 : u 4 = .pointer (some ⟨g5,3,none⟩):=hd 4 kr
    simp only [e4]
    refine za0 rfl rfl rfl ?_;intro K9 hK
    go_simp;exact hK _ _ rfl ex rfl
   ·(show SlotA _ _ _ _ _ _ _);intro u w1 hx1 hd;obtain ⟨y9,rfl⟩:=hx1.get;clear hx1
    refine za0 rfl rfl rfl ?_;intro K9 hK
    go_simp;exact hK _ _ rfl ex rfl
   ·(show SlotA _ _ _ _ _ _ _);intro u w1 hx1 hd;obtain ⟨y9,rfl⟩:=hx1.get;clear hx1
    have e5 : u 5 = .slice D3 b.log.length K3:=hd 5 kr
    have e6 : u 6 = .int .i64 q:=hd 6 kr
    simp only [e5,e6]
    refine za0 rfl rfl rfl ?_;intro K9 hK
    go_simp;exact hK _ _ rfl ex rfl
   ·(show SlotA _ _ _ _ _ _ _);intro u w1 hx1 hd;obtain ⟨y9,rfl⟩:=hx1.get;clear hx1
    have e3 : u 3 = .slice D1 q K1:=hd 3 kr
    have e7 : u 7 = .slice D3 q K3:=hd 7 kr
    simp only [e3,e7]
    refine za0 rfl rfl rfl ?_;intro K9 hK
    go_simp;go_at_call 74;refine (zc4 D1 K1 q (a.log.take q) LA.out D3 K3 q (b.log.take q) LB.out true HT.out _ (pa.mono ex) (pb.mono ex)).mono ?_;rintro e w' ⟨rfl,hx⟩;exact hK _ _ rfl hx rfl
   ·(show SlotA _ _ _ _ _ _ _);intro u w1 hx1 hd;obtain ⟨y9,rfl⟩:=hx1.get;clear hx1
    have e8 : u 8 = .bool true:=hd 8 kr
    simp only [e8]
    refine za0 rfl rfl rfl ?_;intro K9 hK
    go_simp;exact hK _ _ rfl ex rfl
   ·(show SlotA _ _ _ _ _ _ _);intro u w1 hx1 hd;obtain ⟨y9,rfl⟩:=hx1.get;clear hx1
    have e9 : u 9 = .bool true:=hd 9 kr
    simp only [e9]
    refine za0 rfl rfl rfl ?_;intro K9 hK
    go_simp;exact hK _ _ rfl ex rfl
   ·(show SlotA _ _ _ _ _ _ _);intro u w1 hx1 hd;obtain ⟨y9,rfl⟩:=hx1.get;clear hx1
    have e9 : u 9 = .bool true:=hd 9 kr
    have e10 : u 10 = .pointer (some ⟨W.heap.size,2,none⟩):=hd 10 kr
    simp only [e9,e10]
    refine za0 rfl rfl rfl ?_;intro K9 hK
    go_simp;exact hK _ _ rfl ex rfl
   ·(show SlotA _ _ _ _ _ _ _);intro u w1 hx1 hd;obtain ⟨y9,rfl⟩:=hx1.get;clear hx1
    have e9 : u 9 = .bool true:=hd 9 kr
    have e11 : u 11 = .bool false:=hd 11 kr
    simp only [e9,e11]
    refine za0 rfl rfl rfl ?_;intro K9 hK
    go_simp;exact hK _ _ rfl ex rfl
   ·(show SlotA _ _ _ _ _ _ _);intro u w1 hx1 hd;obtain ⟨y9,rfl⟩:=hx1.get;clear hx1
    have e9 : u 9 = .bool true:=hd 9 kr
    have e12 : u 12 = .bool true:=hd 12 kr
    simp only [e9,e12]
    refine za0 rfl rfl rfl ?_;intro K9 hK
    go_simp;exact hK _ _ rfl ex rfl
   ·(show SlotA _ _ _ _ _ _ _);intro u w1 hx1 hd;obtain ⟨y9,rfl⟩:=hx1.get;clear hx1
    have e13 : u 13 = .bool true:=hd 13 kr
    simp only [e13]
    exact zcG rfl rfl trivial
   ·(show SlotA _ _ _ _ _ _ _);intro u w1 hx1 hd;obtain ⟨y9,rfl⟩:=hx1.get;clear hx1
    have e13 : u 13 = .bool true:=hd 13 kr
    simp only [e13]
    exact zcG rfl rfl trivial
   ·(show SlotA _ _ _ _ _ _ _);intro u w1 hx1 hd;obtain ⟨y9,rfl⟩:=hx1.get;clear hx1
    have e13 : u 13 = .bool true:=hd 13 kr
    simp only [e13]
    exact zcG rfl rfl trivial
   ·(show SlotA _ _ _ _ _ _ _);intro u w1 hx1 hd;obtain ⟨y9,rfl⟩:=hx1.get;clear hx1
    have e9 : u 9 = .bool true:=hd 9 kr
    have e13 : u 13 = .bool true:=hd 13 kr
    simp only [e9,e13]
    refine za0 rfl rfl rfl ?_;intro K9 hK
    go_simp;exact hK _ _ rfl ex rfl
   ·(show SlotA _ _ _ _ _ _ _);intro u w1 hx1 hd;obtain ⟨y9,rfl⟩:=hx1.get;clear hx1
    have e9 : u 9 = .bool true:=hd 9 kr
    have e17 : u 17 = .bool true:=hd 17 kr
    simp only [e9,e17]
    refine za0 rfl rfl rfl ?_;intro K9 hK
    go_simp;exact hK _ _ rfl ex rfl
   ·(show SlotA _ _ _ _ _ _ _);intro u w1 hx1 hd;obtain ⟨y9,rfl⟩:=hx1.get;clear hx1
    have e18 : u 18 = .bool true:=hd 18 kr
    simp only [e18]
    exact zcG rfl rfl trivial
   ·(show SlotA _ _ _ _ _ _ _);intro u w1 hx1 hd;obtain ⟨y9,rfl⟩:=hx1.get;clear hx1
    have e18 : u 18 = .bool true:=hd 18 kr
    simp only [e18]
    exact zcG rfl rfl trivial
   ·(show SlotA _ _ _ _ _ _ _);intro u w1 hx1 hd;obtain ⟨y9,rfl⟩:=hx1.get;clear hx1
    have e18 : u 18 = .bool true:=hd 18 kr
    simp only [e18]
    exact zcG rfl rfl trivial
   ·(show SlotA _ _ _ _ _ _ _);intro u w1 hx1 hd;obtain ⟨y9,rfl⟩:=hx1.get;clear hx1
    have e18 : u 18 = .bool true:=hd 18 kr
    simp only [e18]
    exact zcG rfl rfl trivial
   ·(show SlotA _ _ _ _ _ _ _);intro u w1 hx1 hd;obtain ⟨y9,rfl⟩:=hx1.get;clear hx1
    have e18 : u 18 = .bool true:=hd 18 kr
    simp only [e18]
    exact zcG rfl rfl trivial
   ·(show SlotA _ _ _ _ _ _ _);intro u w1 hx1 hd;obtain ⟨y9,rfl⟩:=hx1.get;clear hx1
    have e9 : u 9 = .bool true:=hd 9 kr
    have e18 : u 18 = .bool true:=hd 18 kr
    simp only [e9,e18]
    refine za0 rfl rfl rfl ?_;intro K9 hK
    go_simp;exact hK _ _ rfl ex rfl
   ·(show SlotA _ _ _ _ _ _ _);intro u w1 hx1 hd;obtain ⟨y9,rfl⟩:=hx1.get;clear hx1
    have e9 : u 9 = .bool true:=hd 9 kr
    have e24 : u 24 = .bool true:=hd 24 kr
    simp only [e9,e24]
    refine za0 rfl rfl rfl ?_;intro K9 hK
    go_simp;exact hK _ _ rfl ex rfl
   ·(show SlotA _ _ _ _ _ _ _);intro u w1 hx1 hd;obtain ⟨y9,rfl⟩:=hx1.get;clear hx1
    have e25 : u 25 = .bool true:=hd 25 kr
    simp only [e25]
    refine za0 rfl rfl rfl ?_;intro K9 hK
    go_simp;exact hK _ _ rfl ex rfl
  ·intro u w2 hx2 hT;obtain ⟨t0,t1,t2,t3,t4,t5,t6,t7,t8,t9,t10,t11,t12,t13,t14,t15,t16,t17,t18,t19,t20,t21,t22,t23,t24,t25,t26,-⟩:=hT;obtain ⟨y9,rfl⟩:=hx2.get;clear hx2
   have e26 : u 26 = .bool true:=t26
   simp only [e26]
   clear e26 t0 t1 t2 t3 t4 t5 t6 t7 t8 t9 t10 t11 t12 t13 t14 t15 t16 t17 t18 t19 t20 t21 t22 t23 t24 t25 t26
   simp only [List.drop_succ_cons,List.drop_zero]
   refine wpList_nil ?_
   go_wp2
   go_ret
   exact ⟨rfl,hex2.trans ex⟩
theorem both_1 (a b : Nod) (A : Option Addr) (c : Nat) (B : Option Addr) (d : Nat) (W : World) (ha : za3 W A c a.log) (hb : za3 W B d b.log) (hl1 : a.log.length ≤ 256) (hl2 : b.log.length ≤ 256) (h0 : 0 ≤ a.acked) (h1 : 0 ≤ b.acked) (q : Nat) (hq : max a.acked b.acked = (q : Int)) (hqm : q ≤ min a.log.length b.log.length) (he : a.log.take q = b.log.take q) (hsa : a.speaks = true) (hsb : b.speaks = false) :
  Calls Tryz.prog 73 #[.agg (Ln a A c),.agg (Ln b B d)] W fun e w' => e = .returned (.bool true) ∧ Ext W w':=by
 have HA:=zh ha
 have HB:=zh hb
 have hb1 : a.log.length * 552 ≤ 140737488355328:=by omega
 have hb2 : b.log.length * 552 ≤ 140737488355328:=by omega
 have hz1 : decide (a.acked < 0) = false:=decide_eq_false om
 have hz2 : decide (b.acked < 0) = false:=decide_eq_false om
 have hz3 : decide (min (a.log.length : Int) (b.log.length : Int) < (q : Int)) = false:=decide_eq_false om
 have i1 : (q : Int) ≤ (a.log.length : Int):=by omega
 have i2 : (q : Int) ≤ (b.log.length : Int):=by omega
 have i3 : (0 : Int) ≤ (q : Int):=by omega
 have HQ:=zh hq
 have HE:=zh he
 have HT:=zh (show zaR (a.log.take q) (b.log.take q) = true by rw [he];exact zbr _)
 clear ha hb he hqm
 have HSa:=zh hsa
 clear hsa
 have HSb:=zh hsb
 clear hsb
 go_enter Tryz.func73,Tryz.ntmps73
 go_wp2_with fail
 refine zaG (fun W9 hW9 => ?_)
 have k2 : BoxAt W9 W.heap.size (Ln a A c) 24:=by rw [hW9];exact (by repeat (first | exact BoxAt.new (by first | rfl | (simp [go_sem];done) | (simp [go_sem];omega)) _ _ | apply BoxAt.xt | apply BoxAt.drew | apply BoxAt.drewN | apply BoxAt.alloc))
 have k3 : BoxAt W9 (W.heap.size + 1) (Ln b B d) 24:=by rw [hW9];exact (by repeat (first | exact BoxAt.new (by first | rfl | (simp [go_sem];done) | (simp [go_sem];omega)) _ _ | apply BoxAt.xt | apply BoxAt.drew | apply BoxAt.drewN | apply BoxAt.alloc))
 have hex : Ext W W9:=by rw [hW9];exact ex
 have ra : za3 W9 A c a.log:=by rw [hW9];exact HA.out.mono ex
 have rb : za3 W9 B d b.log:=by rw [hW9];exact HB.out.mono ex
 clear hW9
 obtain ⟨c0,c1,c2,c3,c4,c5⟩:=k2.six
 obtain ⟨d0,d1,d2,d3,d4,d5⟩:=k3.six
 refine zod 6 [] [4,5] [Stab.is (.agg (Ln a A c)),Stab.nod W a,Stab.is (.agg (Ln b B d)),Stab.nod W b,Stab.box W9.heap.size Zn 40,Stab.box W9.heap.size Zn 40] (fun u => by (simp only [zc0,List.take_succ_cons,List.take_zero,Act.put,Nat.zero_add,Nat.reduceAdd]);(try simp only [List.setIfInBounds_toArray]);(repeat (first | simp only [List.set_cons_succ] | simp only [List.set_cons_zero]));exact rfl) kr kr kr (fun _ _ _ _ _ h => h) ?_ ?_ ?_
 ·intro j9 hj9 v9 w9 h9
  have hj9' : j9 = 4 ∨ j9 = 5:=by simpa using hj9
  rcases hj9' with rfl | rfl
  ·obtain ⟨g,rfl,-,h⟩:=h9;exact ⟨g,rfl,h.lt⟩
  ·obtain ⟨g,rfl,-,h⟩:=h9;exact ⟨g,rfl,h.lt⟩
 ·refine ⟨?_,?_,?_,?_,?_,?_,trivial⟩
  ·(show SlotB _ _ _ _ _ _ _ _);intro u w1 hx1 hd;obtain ⟨y9,rfl⟩:=hx1.get;clear hx1
   refine zaf rfl rfl rfl ?_;intro K9 hK0
   have hK:=fun a9 w9 h1 h2 h3 => hK0 a9 w9 h1 h2 h3 (fun h => by cases h);clear hK0
   go_simp;exact hK _ _ rfl ex rfl
  ·(show SlotB _ _ _ _ _ _ _ _);intro u w1 hx1 hd;obtain ⟨y9,rfl⟩:=hx1.get;clear hx1
   have e0 : u 0 = .agg (Ln a A c):=hd 0 kr
   simp only [e0]
   refine zaf rfl rfl rfl ?_;intro K9 hK0
   have hK:=fun a9 w9 h1 h2 h3 => hK0 a9 w9 h1 h2 h3 (fun h => by cases h);clear hK0
   go_simp;go_at_call 41;refine (zbA a A c _ (ra.mono ex) hb1).mono ?_;rintro e w' ⟨D,K,rfl,hx,hown⟩;exact hK _ _ rfl hx ⟨D,K,rfl,LogW.own hown HA.out.el⟩
  ·(show SlotB _ _ _ _ _ _ _ _);intro u w1 hx1 hd;obtain ⟨y9,rfl⟩:=hx1.get;clear hx1
   refine zaf rfl rfl rfl ?_;intro K9 hK0
   have hK:=fun a9 w9 h1 h2 h3 => hK0 a9 w9 h1 h2 h3 (fun h => by cases h);clear hK0
   go_simp;exact hK _ _ rfl ex rfl
  ·(show SlotB _ _ _ _ _ _ _ _);intro u w1 hx1 hd;obtain ⟨y9,rfl⟩:=hx1.get;clear hx1
   have e2 : u 2 = .agg (Ln b B d):=hd 2 kr
   simp only [e2]
   refine zaf rfl rfl rfl ?_;intro K9 hK0
   have hK:=fun a9 w9 h1 h2 h3 => hK0 a9 w9 h1 h2 h3 (fun h => by cases h);clear hK0
   go_simp;go_at_call 41;refine (zbA b B d _ (rb.mono ex) hb2).mono ?_;rintro e w' ⟨D,K,rfl,hx,hown⟩;exact hK _ _ rfl hx ⟨D,K,rfl,LogW.own hown HB.out.el⟩
  ·(show SlotB _ _ _ _ _ _ _ _);intro u w1 hx1 hd;obtain ⟨y9,rfl⟩:=hx1.get;clear hx1
   refine zaf rfl rfl rfl ?_;intro K9 hK0
   go_simp;exact hK0 _ _ rfl ex ⟨_,rfl,(by first | omega | (simp [go_sem];done) | (simp [go_sem];omega)),BoxAt.new (by first | rfl | simp [go_sem]) _ _⟩ (fun _ => ⟨_,rfl,by first | exact Nat.le_refl _ | simp [go_sem]⟩)
  ·(show SlotB _ _ _ _ _ _ _ _);intro u w1 hx1 hd;obtain ⟨y9,rfl⟩:=hx1.get;clear hx1
   refine zaf rfl rfl rfl ?_;intro K9 hK0
   go_simp;exact hK0 _ _ rfl ex ⟨_,rfl,(by first | omega | (simp [go_sem];done) | (simp [go_sem];omega)),BoxAt.new (by first | rfl | simp [go_sem]) _ _⟩ (fun _ => ⟨_,rfl,by first | exact Nat.le_refl _ | simp [go_sem]⟩)
 ·intro u w2 hx2 hT hdd;obtain ⟨t0,t1,t2,t3,t4,t5,-⟩:=hT;obtain ⟨y9,rfl⟩:=hx2.get;clear hx2
  obtain ⟨D1,K1,e1,h1'⟩:=t1
  obtain ⟨D3,K3,e3,h3'⟩:=t3
  obtain ⟨g4,e4,hg4,b4⟩:=t4
  obtain ⟨g5,e5,hg5,b5⟩:=t5
  have hne0:=hdd 4 5 dk dk kr kr dk
  rw [e4,e5] at hne0
  replace hne0 : g4 ≠ g5:=fun h => hne0 (by rw [h])
  clear hdd
  simp only [e1,e3,e4,e5]
  clear e1 e3 e4 e5 t0 t2
  simp only [List.drop_succ_cons,List.drop_zero]
  have hxx : Ext W9 (xt W9.drew y9):=ex
  go_wp2_with (first
   | (refine za2 rfl 40 (.tmp 5) (.tmp 9) rfl b4 rfl (Ln a D1 K1) rfl rfl (show 6 < 44 by decide) kr (zaa a D1 K1) ?_;intro W1 ht1 hb1';have j4:=hb1')
   | (refine za2 rfl 40 (.tmp 6) (.tmp 11) rfl (b5.turn ht1 om) rfl (Ln b D3 K3) rfl rfl (show 6 < 44 by decide) kr (zaa b D3 K3) ?_;intro W2 ht2 hb2';have j2:=((k2.mono hxx).turn ht1 (by have:=k2.lt;omega)).turn ht2 (by have:=k2.lt;omega);have j3:=((k3.mono hxx).turn ht1 (by have:=k3.lt;omega)).turn ht2 (by have:=k3.lt;omega);have j4:=hb1'.turn ht2 om;obtain ⟨p0,p1,p2,p3,p4,p5⟩:=j4.six;obtain ⟨q0,q1,q2,q3,q4,q5⟩:=hb2'.six;obtain ⟨r0,r1,r2,r3,r4,r5⟩:=j2.six;obtain ⟨s0,s1,s2,s3,s4,s5⟩:=j3.six))
  have hex2 : Ext W W2:=ht2.ext (ht1.ext (hex.trans hxx) (by have:=hex.size;omega)) (by have:=hex.size;omega)
  have m1:=(h1'.turn ht1).turn ht2
  have m3:=(h3'.turn ht1).turn ht2
  have pa : za3 W2 D1 K1 (a.log.take q):=by have:=((m1.recs hex2 (Ext.refl _)).part 0 q om q (Nat.sub_zero q)).1;rwa [zb2,Nat.sub_zero,List.drop_zero] at this
  have pb : za3 W2 D3 K3 (b.log.take q):=by have:=((m3.recs hex2 (Ext.refl _)).part 0 q om q (Nat.sub_zero q)).1;rwa [zb2,Nat.sub_zero,List.drop_zero] at this
  have LA:=zh (show (a.log.take q).length = q by rw [List.length_take];omega)
  have LB:=zh (show (b.log.take q).length = q by rw [List.length_take];omega)
  have i4 : (q : Int) ≤ (K1 : Int):=by have:=m1.le;omega
  have i5 : (q : Int) ≤ (K3 : Int):=by have:=m3.le;omega
  clear ht1 ht2 hb1' hb2' h1' h3' b4 b5 hxx ra rb k2 k3 c0 c1 c2 c3 c4 c5 d0 d1 d2 d3 d4 d5 m1 m3 hq
  rw [HSa.out] at r2
  rw [HSb.out] at s2
  refine zrD 27 [] [Stab.is (.pointer (some ⟨g4,3,none⟩)),Stab.is (.slice D1 a.log.length K1),Stab.is (.int .i64 q),Stab.is (.slice D1 q K1),Stab.is (.pointer (some ⟨g5,3,none⟩)),Stab.is (.slice D3 b.log.length K3),Stab.is (.int .i64 q),Stab.is (.slice D3 q K3),Stab.is (.bool true),Stab.is (.bool true),Stab.is (.pointer (some ⟨W.heap.size,2,none⟩)),Stab.is (.bool true),Stab.is (.bool false),Stab.is (.bool false),Stab.is (.pointer (some ⟨W.heap.size + 1,2,none⟩)),Stab.is (.bool false),Stab.is (.bool true),Stab.is (.bool true),Stab.is (.bool true),Stab.any,Stab.any,Stab.any,Stab.any,Stab.any,Stab.is (.bool true),Stab.is (.bool true),Stab.is (.bool true)] (fun u => by (simp only [zc0,List.take_succ_cons,List.take_zero,Act.put,Nat.zero_add,Nat.reduceAdd]);(try simp only [List.setIfInBounds_toArray]);(repeat (first | simp only [List.set_cons_succ] | simp only [List.set_cons_zero]));exact rfl) kr kr (fun _ _ _ _ _ h => h) ?_ ?_
  ·refine ⟨?_,?_,?_,?_,?_,?_,?_,?_,?_,?_,?_,?_,?_,?_,?_,?_,?_,?_,?_,?_,?_,?_,?_,?_,?_,?_,?_,trivial⟩
   ·(show SlotA _ _ _ _ _ _ _);intro u w1 hx1 hd;obtain ⟨y9,rfl⟩:=hx1.get;clear hx1
    refine za0 rfl rfl rfl ?_;intro K9 hK
    go_simp;exact hK _ _ rfl ex rfl
   ·(show SlotA _ _ _ _ _ _ _);intro u w1 hx1 hd;obtain ⟨y9,rfl⟩:=hx1.get;clear hx1
    have e0 : u 0 = .pointer (some ⟨g4,3,none⟩):=hd 0 kr
    simp only [e0]
    refine za0 rfl rfl rfl ?_;intro K9 hK
    go_simp;exact hK _ _ rfl ex rfl
   ·(show SlotA _ _ _ _ _ _ _);intro u w1 hx1 hd;obtain ⟨y9,rfl⟩:=hx1.get;clear hx1
    refine za0 rfl rfl rfl ?_;intro K9 hK
    go_simp;exact hK _ _ rfl ex rfl
   ·(show SlotA _ _ _ _ _ _ _);intro u w1 hx1 hd;obtain ⟨y9,rfl⟩:=hx1.get;clear hx1
    have e1 : u 1 = .slice D1 a.log.length K1:=hd 1 kr
    have e2 : u 2 = .int .i64 q:=hd 2 kr
    simp only [e1,e2]
    refine za0 rfl rfl rfl ?_;intro K9 hK
    go_simp;exact hK _ _ rfl ex rfl
   ·(show SlotA _ _ _ _ _ _ _);intro u w1 hx1 hd;obtain ⟨y9,rfl⟩:=hx1.get;clear hx1
    refine za0 rfl rfl rfl ?_;intro K9 hK
    go_simp;exact hK _ _ rfl ex rfl
   ·(show SlotA _ _ _ _ _ _ _);intro u w1 hx1 hd;obtain ⟨y9,rfl⟩:=hx1.get;clear hx1
    have e4 : u 4 = .pointer (some ⟨g5,3,none⟩):=hd 4 kr
    simp only [e4]
    refine za0 rfl rfl rfl ?_;intro K9 hK
    go_simp;exact hK _ _ rfl ex rfl
   ·(show SlotA _ _ _ _ _ _ _);intro u w1 hx1 hd;obtain ⟨y9,rfl⟩:=hx1.get;clear hx1
    refine za0 rfl rfl rfl ?_;intro K9 hK
    go_simp;exact hK _ _ rfl ex rfl
   ·(show SlotA _ _ _ _ _ _ _);intro u w1 hx1 hd;obtain ⟨y9,rfl⟩:=hx1.get;clear hx1
    have e5 : u 5 = .slice D3 b.log.length K3:=hd 5 kr
    have e6 : u 6 = .int .i64 q:=hd 6 kr
    simp only [e5,e6]
    refine za0 rfl rfl rfl ?_;intro K9 hK
    go_simp;exact hK _ _ rfl ex rfl
   ·(show SlotA _ _ _ _ _ _ _);intro u w1 hx1 hd;obtain ⟨y9,rfl⟩:=hx1.get;clear hx1
    have e3 : u 3 = .slice D1 q K1:=hd 3 kr
    have e7 : u 7 = .slice D3 q K3:=hd 7 kr
    simp only [e3,e7]
    refine za0 rfl rfl rfl ?_;intro K9 hK
    go_simp;go_at_call 74;refine (zc4 D1 K1 q (a.log.take q) LA.out D3 K3 q (b.log.take q) LB.out true HT.out _ (pa.mono ex) (pb.mono ex)).mono ?_;rintro e w' ⟨rfl,hx⟩;exact hK _ _ rfl hx rfl
   ·(show SlotA _ _ _ _ _ _ _);intro u w1 hx1 hd;obtain ⟨y9,rfl⟩:=hx1.get;clear hx1
    have e8 : u 8 = .bool true:=hd 8 kr
    simp only [e8]
    refine za0 rfl rfl rfl ?_;intro K9 hK
    go_simp;exact hK _ _ rfl ex rfl
   ·(show SlotA _ _ _ _ _ _ _);intro u w1 hx1 hd;obtain ⟨y9,rfl⟩:=hx1.get;clear hx1
    have e9 : u 9 = .bool true:=hd 9 kr
    simp only [e9]
    refine za0 rfl rfl rfl ?_;intro K9 hK
    go_simp;exact hK _ _ rfl ex rfl
   ·(show SlotA _ _ _ _ _ _ _);intro u w1 hx1 hd;obtain ⟨y9,rfl⟩:=hx1.get;clear hx1
    have e9 : u 9 = .bool true:=hd 9 kr
    have e10 : u 10 = .pointer (some ⟨W.heap.size,2,none⟩):=hd 10 kr
    simp only [e9,e10]
    refine za0 rfl rfl rfl ?_;intro K9 hK
    go_simp;exact hK _ _ rfl ex rfl
   ·(show SlotA _ _ _ _ _ _ _);intro u w1 hx1 hd;obtain ⟨y9,rfl⟩:=hx1.get;clear hx1
    have e9 : u 9 = .bool true:=hd 9 kr
    have e11 : u 11 = .bool true:=hd 11 kr
    simp only [e9,e11]
    refine za0 rfl rfl rfl ?_;intro K9 hK
    go_simp;exact hK _ _ rfl ex rfl
   ·(show SlotA _ _ _ _ _ _ _);intro u w1 hx1 hd;obtain ⟨y9,rfl⟩:=hx1.get;clear hx1
    have e9 : u 9 = .bool true:=hd 9 kr
    have e12 : u 12 = .bool false:=hd 12 kr
    simp only [e9,e12]
    refine za0 rfl rfl rfl ?_;intro K9 hK
    go_simp;exact hK _ _ rfl ex rfl
   ·(show SlotA _ _ _ _ _ _ _);intro u w1 hx1 hd;obtain ⟨y9,rfl⟩:=hx1.get;clear hx1
    have e13 : u 13 = .bool false:=hd 13 kr
    simp only [e13]
    refine za0 rfl rfl rfl ?_;intro K9 hK
    go_simp;exact hK _ _ rfl ex rfl
   ·(show SlotA _ _ _ _ _ _ _);intro u w1 hx1 hd;obtain ⟨y9,rfl⟩:=hx1.get;clear hx1
    have e13 : u 13 = .bool false:=hd 13 kr
    have e14 : u 14 = .pointer (some ⟨W.heap.size + 1,2,none⟩):=hd 14 kr
    simp only [e13,e14]
    refine za0 rfl rfl rfl ?_;intro K9 hK
    go_simp;exact hK _ _ rfl ex rfl
   ·(show SlotA _ _ _ _ _ _ _);intro u w1 hx1 hd;obtain ⟨y9,rfl⟩:=hx1.get;clear hx1
    have e13 : u 13 = .bool false:=hd 13 kr
    have e15 : u 15 = .bool false:=hd 15 kr
    simp only [e13,e15]
    refine za0 rfl rfl rfl ?_;intro K9 hK
    go_simp;exact hK _ _ rfl ex rfl
   ·(show SlotA _ _ _ _ _ _ _);intro u w1 hx1 hd;obtain ⟨y9,rfl⟩:=hx1.get;clear hx1
    have e9 : u 9 = .bool true:=hd 9 kr
    have e13 : u 13 = .bool false:=hd 13 kr
    have e16 : u 16 = .bool true:=hd 16 kr
    simp only [e9,e13,e16]
    refine za0 rfl rfl rfl ?_;intro K9 hK
    go_simp;exact hK _ _ rfl ex rfl
   ·(show SlotA _ _ _ _ _ _ _);intro u w1 hx1 hd;obtain ⟨y9,rfl⟩:=hx1.get;clear hx1
    have e9 : u 9 = .bool true:=hd 9 kr
    have e17 : u 17 = .bool true:=hd 17 kr
    simp only [e9,e17]
    refine za0 rfl rfl rfl ?_;intro K9 hK
    go_simp;exact hK _ _ rfl ex rfl
   ·(show SlotA _ _ _ _ _ _ _);intro u w1 hx1 hd;obtain ⟨y9,rfl⟩:=hx1.get;clear hx1
    have e18 : u 18 = .bool true:=hd 18 kr
    simp only [e18]
    exact zcG rfl rfl trivial
   ·(show SlotA _ _ _ _ _ _ _);intro u w1 hx1 hd;obtain ⟨y9,rfl⟩:=hx1.get;clear hx1
    have e18 : u 18 = .bool true:=hd 18 kr
    simp only [e18]
    exact zcG rfl rfl trivial
   ·(show SlotA _ _ _ _ _ _ _);intro u w1 hx1 hd;obtain ⟨y9,rfl⟩:=hx1.get;clear hx1
    have e18 : u 18 = .bool true:=hd 18 kr
    simp only [e18]
    exact zcG rfl rfl trivial
   ·(show SlotA _ _ _ _ _ _ _);intro u w1 hx1 hd;obtain ⟨y9,rfl⟩:=hx1.get;clear hx1
    have e18 : u 18 = .bool true:=hd 18 kr
    simp only [e18]
    exact zcG rfl rfl trivial
   ·(show SlotA _ _ _ _ _ _ _);intro u w1 hx1 hd;obtain ⟨y9,rfl⟩:=hx1.get;clear hx1
    have e18 : u 18 = .bool true:=hd 18 kr
    simp only [e18]
    exact zcG rfl rfl trivial
   ·(show SlotA _ _ _ _ _ _ _);intro u w1 hx1 hd;obtain ⟨y9,rfl⟩:=hx1.get;clear hx1
    have e9 : u 9 = .bool true:=hd 9 kr
    have e18 : u 18 = .bool true:=hd 18 kr
    simp only [e9,e18]
    refine za0 rfl rfl rfl ?_;intro K9 hK
    go_simp;exact hK _ _ rfl ex rfl
   ·(show SlotA _ _ _ _ _ _ _);intro u w1 hx1 hd;obtain ⟨y9,rfl⟩:=hx1.get;clear hx1
    have e9 : u 9 = .bool true:=hd 9 kr
    have e24 : u 24 = .bool true:=hd 24 kr
    simp only [e9,e24]
    refine za0 rfl rfl rfl ?_;intro K9 hK
    go_simp;exact hK _ _ rfl ex rfl
   ·(show SlotA _ _ _ _ _ _ _);intro u w1 hx1 hd;obtain ⟨y9,rfl⟩:=hx1.get;clear hx1
    have e25 : u 25 = .bool true:=hd 25 kr
    simp only [e25]
    refine za0 rfl rfl rfl ?_;intro K9 hK
    go_simp;exact hK _ _ rfl ex rfl
  ·intro u w2 hx2 hT;obtain ⟨t0,t1,t2,t3,t4,t5,t6,t7,t8,t9,t10,t11,t12,t13,t14,t15,t16,t17,t18,t19,t20,t21,t22,t23,t24,t25,t26,-⟩:=hT;obtain ⟨y9,rfl⟩:=hx2.get;clear hx2
   have e26 : u 26 = .bool true:=t26
   simp only [e26]
   clear e26 t0 t1 t2 t3 t4 t5 t6 t7 t8 t9 t10 t11 t12 t13 t14 t15 t16 t17 t18 t19 t20 t21 t22 t23 t24 t25 t26
   simp only [List.drop_succ_cons,List.drop_zero]
   refine wpList_nil ?_
   go_wp2
   go_ret
   exact ⟨rfl,hex2.trans ex⟩
theorem both_2 (a b : Nod) (A : Option Addr) (c : Nat) (B : Option Addr) (d : Nat) (W : World) (ha : za3 W A c a.log) (hb : za3 W B d b.log) (hl1 : a.log.length ≤ 256) (hl2 : b.log.length ≤ 256) (h0 : 0 ≤ a.acked) (h1 : 0 ≤ b.acked) (q : Nat) (hq : max a.acked b.acked = (q : Int)) (hqm : q ≤ min a.log.length b.log.length) (he : a.log.take q = b.log.take q) (hsa : a.speaks = true) (hsb : b.speaks = true) (ht : a.term ≠ b.term) :
  Calls Tryz.prog 73 #[.agg (Ln a A c),.agg (Ln b B d)] W fun e w' => e = .returned (.bool true) ∧ Ext W w':=by
 have HA:=zh ha
 have HB:=zh hb
 have hb1 : a.log.length * 552 ≤ 140737488355328:=by omega
 have hb2 : b.log.length * 552 ≤ 140737488355328:=by omega
 have hz1 : decide (a.acked < 0) = false:=decide_eq_false om
 have hz2 : decide (b.acked < 0) = false:=decide_eq_false om
 have hz3 : decide (min (a.log.length : Int) (b.log.length : Int) < (q : Int)) = false:=decide_eq_false om
 have i1 : (q : Int) ≤ (a.log.length : Int):=by omega
 have i2 : (q : Int) ≤ (b.log.length : Int):=by omega
 have i3 : (0 : Int) ≤ (q : Int):=by omega
 have HQ:=zh hq
 have HE:=zh he
 have HT:=zh (show zaR (a.log.take q) (b.log.take q) = true by rw [he];exact zbr _)
 clear ha hb he hqm
 have HSa:=zh hsa
 clear hsa
 have HSb:=zh hsb
 clear hsb
 have hz4 : (a.term != b.term) = true:=by simpa using ht
 clear ht
 go_enter Tryz.func73,Tryz.ntmps73
 go_wp2_with fail
 refine zaG (fun W9 hW9 => ?_)
 have k2 : BoxAt W9 W.heap.size (Ln a A c) 24:=by rw [hW9];exact (by repeat (first | exact BoxAt.new (by first | rfl | (simp [go_sem];done) | (simp [go_sem];omega)) _ _ | apply BoxAt.xt | apply BoxAt.drew | apply BoxAt.drewN | apply BoxAt.alloc))
 have k3 : BoxAt W9 (W.heap.size + 1) (Ln b B d) 24:=by rw [hW9];exact (by repeat (first | exact BoxAt.new (by first | rfl | (simp [go_sem];done) | (simp [go_sem];omega)) _ _ | apply BoxAt.xt | apply BoxAt.drew | apply BoxAt.drewN | apply BoxAt.alloc))
 have hex : Ext W W9:=by rw [hW9];exact ex
 have ra : za3 W9 A c a.log:=by rw [hW9];exact HA.out.mono ex
 have rb : za3 W9 B d b.log:=by rw [hW9];exact HB.out.mono ex
 clear hW9
 obtain ⟨c0,c1,c2,c3,c4,c5⟩:=k2.six
 obtain ⟨d0,d1,d2,d3,d4,d5⟩:=k3.six
 refine zod 6 [] [4,5] [Stab.is (.agg (Ln a A c)),Stab.nod W a,Stab.is (.agg (Ln b B d)),Stab.nod W b,Stab.box W9.heap.size Zn 40,Stab.box W9.heap.size Zn 40] (fun u => by (simp only [zc0,List.take_succ_cons,List.take_zero,Act.put,Nat.zero_add,Nat.reduceAdd]);(try simp only [List.setIfInBounds_toArray]);(repeat (first | simp only [List.set_cons_succ] | simp only [List.set_cons_zero]));exact rfl) kr kr kr (fun _ _ _ _ _ h => h) ?_ ?_ ?_
 ·intro j9 hj9 v9 w9 h9
  have hj9' : j9 = 4 ∨ j9 = 5:=by simpa using hj9
  rcases hj9' with rfl | rfl
  ·obtain ⟨g,rfl,-,h⟩:=h9;exact ⟨g,rfl,h.lt⟩
  ·obtain ⟨g,rfl,-,h⟩:=h9;exact ⟨g,rfl,h.lt⟩
 ·refine ⟨?_,?_,?_,?_,?_,?_,trivial⟩
  ·(show SlotB _ _ _ _ _ _ _ _);intro u w1 hx1 hd;obtain ⟨y9,rfl⟩:=hx1.get;clear hx1
   refine zaf rfl rfl rfl ?_;intro K9 hK0
   have hK:=fun a9 w9 h1 h2 h3 => hK0 a9 w9 h1 h2 h3 (fun h => by cases h);clear hK0
   go_simp;exact hK _ _ rfl ex rfl
  ·(show SlotB _ _ _ _ _ _ _ _);intro u w1 hx1 hd;obtain ⟨y9,rfl⟩:=hx1.get;clear hx1
   have e0 : u 0 = .agg (Ln a A c):=hd 0 kr
   simp only [e0]
   refine zaf rfl rfl rfl ?_;intro K9 hK0
   have hK:=fun a9 w9 h1 h2 h3 => hK0 a9 w9 h1 h2 h3 (fun h => by cases h);clear hK0
   go_simp;go_at_call 41;refine (zbA a A c _ (ra.mono ex) hb1).mono ?_;rintro e w' ⟨D,K,rfl,hx,hown⟩;exact hK _ _ rfl hx ⟨D,K,rfl,LogW.own hown HA.out.el⟩
  ·(show SlotB _ _ _ _ _ _ _ _);intro u w1 hx1 hd;obtain ⟨y9,rfl⟩:=hx1.get;clear hx1
   refine zaf rfl rfl rfl ?_;intro K9 hK0
   have hK:=fun a9 w9 h1 h2 h3 => hK0 a9 w9 h1 h2 h3 (fun h => by cases h);clear hK0
   go_simp;exact hK _ _ rfl ex rfl
  ·(show SlotB _ _ _ _ _ _ _ _);intro u w1 hx1 hd;obtain ⟨y9,rfl⟩:=hx1.get;clear hx1
   have e2 : u 2 = .agg (Ln b B d):=hd 2 kr
   simp only [e2]
   refine zaf rfl rfl rfl ?_;intro K9 hK0
   have hK:=fun a9 w9 h1 h2 h3 => hK0 a9 w9 h1 h2 h3 (fun h => by cases h);clear hK0
   go_simp;go_at_call 41;refine (zbA b B d _ (rb.mono ex) hb2).mono ?_;rintro e w' ⟨D,K,rfl,hx,hown⟩;exact hK _ _ rfl hx ⟨D,K,rfl,LogW.own hown HB.out.el⟩
  ·(show SlotB _ _ _ _ _ _ _ _);intro u w1 hx1 hd;obtain ⟨y9,rfl⟩:=hx1.get;clear hx1
   refine zaf rfl rfl rfl ?_;intro K9 hK0
   go_simp;exact hK0 _ _ rfl ex ⟨_,rfl,(by first | omega | (simp [go_sem];done) | (simp [go_sem];omega)),BoxAt.new (by first | rfl | simp [go_sem]) _ _⟩ (fun _ => ⟨_,rfl,by first | exact Nat.le_refl _ | simp [go_sem]⟩)
  ·(show SlotB _ _ _ _ _ _ _ _);intro u w1 hx1 hd;obtain ⟨y9,rfl⟩:=hx1.get;clear hx1
   refine zaf rfl rfl rfl ?_;intro K9 hK0
   go_simp;exact hK0 _ _ rfl ex ⟨_,rfl,(by first | omega | (simp [go_sem];done) | (simp [go_sem];omega)),BoxAt.new (by first | rfl | simp [go_sem]) _ _⟩ (fun _ => ⟨_,rfl,by first | exact Nat.le_refl _ | simp [go_sem]⟩)
 ·intro u w2 hx2 hT hdd;obtain ⟨t0,t1,t2,t3,t4,t5,-⟩:=hT;obtain ⟨y9,rfl⟩:=hx2.get;clear hx2
  obtain ⟨D1,K1,e1,h1'⟩:=t1
  obtain ⟨D3,K3,e3,h3'⟩:=t3
  obtain ⟨g4,e4,hg4,b4⟩:=t4
  obtain ⟨g5,e5,hg5,b5⟩:=t5
  have hne0:=hdd 4 5 dk dk kr kr dk
  rw [e4,e5] at hne0
  replace hne0 : g4 ≠ g5:=fun h => hne0 (by rw [h])
  clear hdd
  simp only [e1,e3,e4,e5]
  clear e1 e3 e4 e5 t0 t2
  simp only [List.drop_succ_cons,List.drop_zero]
  have hxx : Ext W9 (xt W9.drew y9):=ex
  go_wp2_with (first
   | (refine za2 rfl 40 (.tmp 5) (.tmp 9) rfl b4 rfl (Ln a D1 K1) rfl rfl (show 6 < 44 by decide) kr (zaa a D1 K1) ?_;intro W1 ht1 hb1';have j4:=hb1')
   | (refine za2 rfl 40 (.tmp 6) (.tmp 11) rfl (b5.turn ht1 om) rfl (Ln b D3 K3) rfl rfl (show 6 < 44 by decide) kr (zaa b D3 K3) ?_;intro W2 ht2 hb2';have j2:=((k2.mono hxx).turn ht1 (by have:=k2.lt;omega)).turn ht2 (by have:=k2.lt;omega);have j3:=((k3.mono hxx).turn ht1 (by have:=k3.lt;omega)).turn ht2 (by have:=k3.lt;omega);have j4:=hb1'.turn ht2 om;obtain ⟨p0,p1,p2,p3,p4,p5⟩:=j4.six;obtain ⟨q0,q1,q2,q3,q4,q5⟩:=hb2'.six;obtain ⟨r0,r1,r2,r3,r4,r5⟩:=j2.six;obtain ⟨s0,s1,s2,s3,s4,s5⟩:=j3.six))
  have hex2 : Ext W W2:=ht2.ext (ht1.ext (hex.trans hxx) (by have:=hex.size;omega)) (by have:=hex.size;omega)
  have m1:=(h1'.turn ht1).turn ht2
  have m3:=(h3'.turn ht1).turn ht2
  have pa : za3 W2 D1 K1 (a.log.take q):=by have:=((m1.recs hex2 (Ext.refl _)).part 0 q om q (Nat.sub_zero q)).1;rwa [zb2,Nat.sub_zero,List.drop_zero] at this
  have pb : za3 W2 D3 K3 (b.log.take q):=by have:=((m3.recs hex2 (Ext.refl _)).part 0 q om q (Nat.sub_zero q)).1;rwa [zb2,Nat.sub_zero,List.drop_zero] at this
  have LA:=zh (show (a.log.take q).length = q by rw [List.length_take];omega)
  have LB:=zh (show (b.log.take q).length = q by rw [List.length_take];omega)
  have i4 : (q : Int) ≤ (K1 : Int):=by have:=m1.le;omega
  have i5 : (q : Int) ≤ (K3 : Int):=by have:=m3.le;omega
  clear ht1 ht2 hb1' hb2' h1' h3' b4 b5 hxx ra rb k2 k3 c0 c1 c2 c3 c4 c5 d0 d1 d2 d3 d4 d5 m1 m3 hq
  rw [HSa.out] at r2
  rw [HSb.out] at s2
  refine zrD 27 [] [Stab.is (.pointer (some ⟨g4,3,none⟩)),Stab.is (.slice D1 a.log.length K1),Stab.is (.int .i64 q),Stab.is (.slice D1 q K1),Stab.is (.pointer (some ⟨g5,3,none⟩)),Stab.is (.slice D3 b.log.length K3),Stab.is (.int .i64 q),Stab.is (.slice D3 q K3),Stab.is (.bool true),Stab.is (.bool true),Stab.is (.pointer (some ⟨W.heap.size,2,none⟩)),Stab.is (.bool true),Stab.is (.bool false),Stab.is (.bool false),Stab.is (.pointer (some ⟨W.heap.size + 1,2,none⟩)),Stab.is (.bool true),Stab.is (.bool false),Stab.is (.bool false),Stab.is (.bool false),Stab.is (.pointer (some ⟨W.heap.size,1,none⟩)),Stab.is (.int .i64 a.term),Stab.is (.pointer (some ⟨W.heap.size + 1,1,none⟩)),Stab.is (.int .i64 b.term),Stab.is (.bool true),Stab.is (.bool true),Stab.is (.bool true),Stab.is (.bool true)] (fun u => by (simp only [zc0,List.take_succ_cons,List.take_zero,Act.put,Nat.zero_add,Nat.reduceAdd]);(try simp only [List.setIfInBounds_toArray]);(repeat (first | simp only [List.set_cons_succ] | simp only [List.set_cons_zero]));exact rfl) kr kr (fun _ _ _ _ _ h => h) ?_ ?_
  ·refine ⟨?_,?_,?_,?_,?_,?_,?_,?_,?_,?_,?_,?_,?_,?_,?_,?_,?_,?_,?_,?_,?_,?_,?_,?_,?_,?_,?_,trivial⟩
   ·(show SlotA _ _ _ _ _ _ _);intro u w1 hx1 hd;obtain ⟨y9,rfl⟩:=hx1.get;clear hx1
    refine za0 rfl rfl rfl ?_;intro K9 hK
    go_simp;exact hK _ _ rfl ex rfl
   ·(show SlotA _ _ _ _ _ _ _);intro u w1 hx1 hd;obtain ⟨y9,rfl⟩:=hx1.get;clear hx1
    have e0 : u 0 = .pointer (some ⟨g4,3,none⟩):=hd 0 kr
    simp only [e0]
    refine za0 rfl rfl rfl ?_;intro K9 hK
    go_simp;exact hK _ _ rfl ex rfl
   ·(show SlotA _ _ _ _ _ _ _);intro u w1 hx1 hd;obtain ⟨y9,rfl⟩:=hx1.get;clear hx1
    refine za0 rfl rfl rfl ?_;intro K9 hK
    go_simp;exact hK _ _ rfl ex rfl
   ·(show SlotA _ _ _ _ _ _ _);intro u w1 hx1 hd;obtain ⟨y9,rfl⟩:=hx1.get;clear hx1
    have e1 : u 1 = .slice D1 a.log.length K1:=hd 1 kr
    have e2 : u 2 = .int .i64 q:=hd 2 kr
    simp only [e1,e2]
    refine za0 rfl rfl rfl ?_;intro K9 hK
    go_simp;exact hK _ _ rfl ex rfl
   ·(show SlotA _ _ _ _ _ _ _);intro u w1 hx1 hd;obtain ⟨y9,rfl⟩:=hx1.get;clear hx1
    refine za0 rfl rfl rfl ?_;intro K9 hK
    go_simp;exact hK _ _ rfl ex rfl
   ·(show SlotA _ _ _ _ _ _ _);intro u w1 hx1 hd;obtain ⟨y9,rfl⟩:=hx1.get;clear hx1
    have e4 : u 4 = .pointer (some ⟨g5,3,none⟩):=hd 4 kr
    simp only [e4]
    refine za0 rfl rfl rfl ?_;intro K9 hK
    go_simp;exact hK _ _ rfl ex rfl
   ·(show SlotA _ _ _ _ _ _ _);intro u w1 hx1 hd;obtain ⟨y9,rfl⟩:=hx1.get;clear hx1
    refine za0 rfl rfl rfl ?_;intro K9 hK
    go_simp;exact hK _ _ rfl ex rfl
   ·(show SlotA _ _ _ _ _ _ _);intro u w1 hx1 hd;obtain ⟨y9,rfl⟩:=hx1.get;clear hx1
    have e5 : u 5 = .slice D3 b.log.length K3:=hd 5 kr
    have e6 : u 6 = .int .i64 q:=hd 6 kr
    simp only [e5,e6]
    refine za0 rfl rfl rfl ?_;intro K9 hK
    go_simp;exact hK _ _ rfl ex rfl
   ·(show SlotA _ _ _ _ _ _ _);intro u w1 hx1 hd;obtain ⟨y9,rfl⟩:=hx1.get;clear hx1
    have e3 : u 3 = .slice D1 q K1:=hd 3 kr
    have e7 : u 7 = .slice D3 q K3:=hd 7 kr
    simp only [e3,e7]
    refine za0 rfl rfl rfl ?_;intro K9 hK
    go_simp;go_at_call 74;refine (zc4 D1 K1 q (a.log.take q) LA.out D3 K3 q (b.log.take q) LB.out true HT.out _ (pa.mono ex) (pb.mono ex)).mono ?_;rintro e w' ⟨rfl,hx⟩;exact hK _ _ rfl hx rfl
   ·(show SlotA _ _ _ _ _ _ _);intro u w1 hx1 hd;obtain ⟨y9,rfl⟩:=hx1.get;clear hx1
    have e8 : u 8 = .bool true:=hd 8 kr
    simp only [e8]
    refine za0 rfl rfl rfl ?_;intro K9 hK
    go_simp;exact hK _ _ rfl ex rfl
   ·(show SlotA _ _ _ _ _ _ _);intro u w1 hx1 hd;obtain ⟨y9,rfl⟩:=hx1.get;clear hx1
    have e9 : u 9 = .bool true:=hd 9 kr
    simp only [e9]
    refine za0 rfl rfl rfl ?_;intro K9 hK
    go_simp;exact hK _ _ rfl ex rfl
   ·(show SlotA _ _ _ _ _ _ _);intro u w1 hx1 hd;obtain ⟨y9,rfl⟩:=hx1.get;clear hx1
    have e9 : u 9 = .bool true:=hd 9 kr
    have e10 : u 10 = .pointer (some ⟨W.heap.size,2,none⟩):=hd 10 kr
    simp only [e9,e10]
    refine za0 rfl rfl rfl ?_;intro K9 hK
    go_simp;exact hK _ _ rfl ex rfl
   ·(show SlotA _ _ _ _ _ _ _);intro u w1 hx1 hd;obtain ⟨y9,rfl⟩:=hx1.get;clear hx1
    have e9 : u 9 = .bool true:=hd 9 kr
    have e11 : u 11 = .bool true:=hd 11 kr
    simp only [e9,e11]
    refine za0 rfl rfl rfl ?_;intro K9 hK
    go_simp;exact hK _ _ rfl ex rfl
   ·(show SlotA _ _ _ _ _ _ _);intro u w1 hx1 hd;obtain ⟨y9,rfl⟩:=hx1.get;clear hx1
    have e9 : u 9 = .bool true:=hd 9 kr
    have e12 : u 12 = .bool false:=hd 12 kr
    simp only [e9,e12]
    refine za0 rfl rfl rfl ?_;intro K9 hK
    go_simp;exact hK _ _ rfl ex rfl
   ·(show SlotA _ _ _ _ _ _ _);intro u w1 hx1 hd;obtain ⟨y9,rfl⟩:=hx1.get;clear hx1
    have e13 : u 13 = .bool false:=hd 13 kr
    simp only [e13]
    refine za0 rfl rfl rfl ?_;intro K9 hK
    go_simp;exact hK _ _ rfl ex rfl
   ·(show SlotA _ _ _ _ _ _ _);intro u w1 hx1 hd;obtain ⟨y9,rfl⟩:=hx1.get;clear hx1
    have e13 : u 13 = .bool false:=hd 13 kr
    have e14 : u 14 = .pointer (some ⟨W.heap.size + 1,2,none⟩):=hd 14 kr
    simp only [e13,e14]
    refine za0 rfl rfl rfl ?_;intro K9 hK
    go_simp;exact hK _ _ rfl ex rfl
   ·(show SlotA _ _ _ _ _ _ _);intro u w1 hx1 hd;obtain ⟨y9,rfl⟩:=hx1.get;clear hx1
    have e13 : u 13 = .bool false:=hd 13 kr
    have e15 : u 15 = .bool true:=hd 15 kr
    simp only [e13,e15]
    refine za0 rfl rfl rfl ?_;intro K9 hK
    go_simp;exact hK _ _ rfl ex rfl
   ·(show SlotA _ _ _ _ _ _ _);intro u w1 hx1 hd;obtain ⟨y9,rfl⟩:=hx1.get;clear hx1
    have e9 : u 9 = .bool true:=hd 9 kr
    have e13 : u 13 = .bool false:=hd 13 kr
    have e16 : u 16 = .bool false:=hd 16 kr
    simp only [e9,e13,e16]
    refine za0 rfl rfl rfl ?_;intro K9 hK
    go_simp;exact hK _ _ rfl ex rfl
   ·(show SlotA _ _ _ _ _ _ _);intro u w1 hx1 hd;obtain ⟨y9,rfl⟩:=hx1.get;clear hx1
    have e9 : u 9 = .bool true:=hd 9 kr
    have e17 : u 17 = .bool false:=hd 17 kr
    simp only [e9,e17]
    refine za0 rfl rfl rfl ?_;intro K9 hK
    go_simp;exact hK _ _ rfl ex rfl
   ·(show SlotA _ _ _ _ _ _ _);intro u w1 hx1 hd;obtain ⟨y9,rfl⟩:=hx1.get;clear hx1
    have e18 : u 18 = .bool false:=hd 18 kr
    simp only [e18]
    refine za0 rfl rfl rfl ?_;intro K9 hK
    go_simp;exact hK _ _ rfl ex rfl
   ·(show SlotA _ _ _ _ _ _ _);intro u w1 hx1 hd;obtain ⟨y9,rfl⟩:=hx1.get;clear hx1
    have e18 : u 18 = .bool false:=hd 18 kr
    have e19 : u 19 = .pointer (some ⟨W.heap.size,1,none⟩):=hd 19 kr
    simp only [e18,e19]
    refine za0 rfl rfl rfl ?_;intro K9 hK
    go_simp;exact hK _ _ rfl ex rfl
   ·(show SlotA _ _ _ _ _ _ _);intro u w1 hx1 hd;obtain ⟨y9,rfl⟩:=hx1.get;clear hx1
    have e18 : u 18 = .bool false:=hd 18 kr
    simp only [e18]
    refine za0 rfl rfl rfl ?_;intro K9 hK
    go_simp;exact hK _ _ rfl ex rfl
   ·(show SlotA _ _ _ _ _ _ _);intro u w1 hx1 hd;obtain ⟨y9,rfl⟩:=hx1.get;clear hx1
    have e18 : u 18 = .bool false:=hd 18 kr
    have e21 : u 21 = .pointer (some ⟨W.heap.size + 1,1,none⟩):=hd 21 kr
    simp only [e18,e21]
    refine za0 rfl rfl rfl ?_;intro K9 hK
    go_simp;exact hK _ _ rfl ex rfl
   ·(show SlotA _ _ _ _ _ _ _);intro u w1 hx1 hd;obtain ⟨y9,rfl⟩:=hx1.get;clear hx1
    have e18 : u 18 = .bool false:=hd 18 kr
    have e20 : u 20 = .int .i64 a.term:=hd 20 kr
    have e22 : u 22 = .int .i64 b.term:=hd 22 kr
    simp only [e18,e20,e22]
    refine za0 rfl rfl rfl ?_;intro K9 hK
    go_simp;exact hK _ _ rfl ex rfl
   ·(show SlotA _ _ _ _ _ _ _);intro u w1 hx1 hd;obtain ⟨y9,rfl⟩:=hx1.get;clear hx1
    have e9 : u 9 = .bool true:=hd 9 kr
    have e18 : u 18 = .bool false:=hd 18 kr
    have e23 : u 23 = .bool true:=hd 23 kr
    simp only [e9,e18,e23]
    refine za0 rfl rfl rfl ?_;intro K9 hK
    go_simp;exact hK _ _ rfl ex rfl
   ·(show SlotA _ _ _ _ _ _ _);intro u w1 hx1 hd;obtain ⟨y9,rfl⟩:=hx1.get;clear hx1
    have e9 : u 9 = .bool true:=hd 9 kr
    have e24 : u 24 = .bool true:=hd 24 kr
    simp only [e9,e24]
    refine za0 rfl rfl rfl ?_;intro K9 hK
    go_simp;exact hK _ _ rfl ex rfl
   ·(show SlotA _ _ _ _ _ _ _);intro u w1 hx1 hd;obtain ⟨y9,rfl⟩:=hx1.get;clear hx1
    have e25 : u 25 = .bool true:=hd 25 kr
    simp only [e25]
    refine za0 rfl rfl rfl ?_;intro K9 hK
    go_simp;exact hK _ _ rfl ex rfl
  ·intro u w2 hx2 hT;obtain ⟨t0,t1,t2,t3,t4,t5,t6,t7,t8,t9,t10,t11,t12,t13,t14,t15,t16,t17,t18,t19,t20,t21,t22,t23,t24,t25,t26,-⟩:=hT;obtain ⟨y9,rfl⟩:=hx2.get;clear hx2
   have e26 : u 26 = .bool true:=t26
   simp only [e26]
   clear e26 t0 t1 t2 t3 t4 t5 t6 t7 t8 t9 t10 t11 t12 t13 t14 t15 t16 t17 t18 t19 t20 t21 t22 t23 t24 t25 t26
   simp only [List.drop_succ_cons,List.drop_zero]
   refine wpList_nil ?_
   go_wp2
   go_ret
   exact ⟨rfl,hex2.trans ex⟩
theorem zum (a b : Nod) (A : Option Addr) (c : Nat) (B : Option Addr) (d : Nat) (W : World) (ha : za3 W A c a.log) (hb : za3 W B d b.log) (hl1 : a.log.length ≤ 256) (hl2 : b.log.length ≤ 256) (h0 : 0 ≤ a.acked) (h1 : 0 ≤ b.acked) (hm : max a.acked b.acked ≤ min (a.log.length : Int) (b.log.length : Int)) (he : a.log.take (max a.acked b.acked).toNat = b.log.take (max a.acked b.acked).toNat) (ht : a.speaks = true → b.speaks = true → a.term ≠ b.term) :
  Calls Tryz.prog 73 #[.agg (Ln a A c),.agg (Ln b B d)] W fun e w' => e = .returned (.bool true) ∧ Ext W w':=by
 have hq : max a.acked b.acked = ((max a.acked b.acked).toNat : Int):=by omega
 have hqm : (max a.acked b.acked).toNat ≤ min a.log.length b.log.length:=by omega
 cases h : a.speaks with
 | false => have:=both_0 a b A c B d W ha hb hl1 hl2 h0 h1 _ hq hqm he h;rwa [h] at this
 | true =>
  cases h2 : b.speaks with
  | false => have:=both_1 a b A c B d W ha hb hl1 hl2 h0 h1 _ hq hqm he h h2;rwa [h,h2] at this
  | true => have:=both_2 a b A c B d W ha hb hl1 hl2 h0 h1 _ hq hqm he h h2 (ht h h2);rwa [h,h2] at this
end Go.Proofs.YtnpdghjpcnjokaaGreat
