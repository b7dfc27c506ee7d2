import Derived.Test.YtnpdghjpcnjokaaGreatGrpa
import Derived.SizedLaws
set_option maxHeartbeats 3200000
set_option maxRecDepth 100000
namespace Go.Proofs.YtnpdghjpcnjokaaGreat
open Go.ChangeShapes Go.WideShapes Go.ChangeAt Go.RowKit Go.Joins Go.Deep

section
variable {H:Type} {enc:TypeId×Value→H} {w:World} {base:Nat} {spare:Nat→Bool} {held:Bool} {r:Reach} {b0:Nat} {v:Value} {d:DataW H} {p:List MemPlace}

theorem open_ints {m:Nat}{c:Value}{y:DataW H×List MemPlace}(h:DataW.trod enc Tryz.prog w base spare held m 66 [c]=some y):
  ∃(A:Option Addr) (k:Nat) (l:List Int),c=.slice A l.length k∧l.length≤k∧k≤maxLen∧Sl w A 1 (l.map intR):=by
 obtain⟨A,len,cap,hc,h1,h2,h3⟩:=zbT (n:=5) (ts:=[3]) Tryz.underlying66 kr kr dk h;injection hc with hc;subst hc;obtain⟨l,rfl,hs⟩:=zcY (w:=w) (A:=A) (len:=len) (size:=1) intR (fun i hi=>by
  obtain⟨b,o,row,hA,hl,hcell,hg⟩:=h3 i hi;obtain⟨c0,m0,y0,e0,g0⟩:=hg 0 _ rfl;obtain⟨z0,rfl,_⟩:=zad Tryz.underlying3 g0;have hrow:=zaY (intR z0) hl rfl (fun j hj=>by
   match j,hj with
   |0,_=>exact e0)
  subst hrow;exact⟨_,b,o,hA,rfl,hcell⟩)
 exact⟨A,cap,l,rfl,h1,h2,hs⟩
theorem zpP {m:Nat}{c:Value}{y:DataW H×List MemPlace}(h:DataW.trod enc Tryz.prog w base spare held m 83 [c]=some y):
  ∃(A:Option Addr) (k:Nat) (l:List Hue),c=.slice A l.length k∧l.length≤k∧k≤maxLen∧Sl w A 3 (l.map hueR):=by
 obtain⟨A,len,cap,hc,h1,h2,h3⟩:=zbT (n:=5) (ts:=[3,3,3]) Tryz.underlying83 kr kr dk h;injection hc with hc;subst hc;obtain⟨l,rfl,hs⟩:=zcY (w:=w) (A:=A) (len:=len) (size:=3) hueR (fun i hi=>by
  obtain⟨b,o,row,hA,hl,hcell,hg⟩:=h3 i hi;obtain⟨c0,m0,y0,e0,g0⟩:=hg 0 _ rfl;obtain⟨c1,m1,y1,e1,g1⟩:=hg 1 _ rfl;obtain⟨c2,m2,y2,e2,g2⟩:=hg 2 _ rfl;obtain⟨z0,rfl,_⟩:=zad Tryz.underlying3 g0;obtain⟨z1,rfl,_⟩:=zad Tryz.underlying3 g1;obtain⟨z2,rfl,_⟩:=zad Tryz.underlying3 g2;have hrow:=zaY (hueR ⟨⟨z0,z1⟩,z2⟩) hl rfl (fun j hj=>by
   match j,hj with
   |0,_=>exact e0
   |1,_=>exact e1
   |2,_=>exact e2)
  subst hrow;exact⟨_,b,o,hA,rfl,hcell⟩)
 exact⟨A,cap,l,rfl,h1,h2,hs⟩
theorem zmi {m:Nat}{c:Value}{y:DataW H×List MemPlace}(h:DataW.trod enc Tryz.prog w base spare held m 88 [c]=some y):
  ∃(A:Option Addr) (k:Nat) (l:List Gain),c=.slice A l.length k∧l.length≤k∧k≤maxLen∧Sl w A 3 (l.map gainR):=by
 obtain⟨A,len,cap,hc,h1,h2,h3⟩:=zbT (n:=5) (ts:=[3,3,3]) Tryz.underlying88 kr kr dk h;injection hc with hc;subst hc;obtain⟨l,rfl,hs⟩:=zcY (w:=w) (A:=A) (len:=len) (size:=3) gainR (fun i hi=>by
  obtain⟨b,o,row,hA,hl,hcell,hg⟩:=h3 i hi;obtain⟨c0,m0,y0,e0,g0⟩:=hg 0 _ rfl;obtain⟨c1,m1,y1,e1,g1⟩:=hg 1 _ rfl;obtain⟨c2,m2,y2,e2,g2⟩:=hg 2 _ rfl;obtain⟨z0,rfl,_⟩:=zad Tryz.underlying3 g0;obtain⟨z1,rfl,_⟩:=zad Tryz.underlying3 g1;obtain⟨z2,rfl,_⟩:=zad Tryz.underlying3 g2;have hrow:=zaY (gainR ⟨⟨z0,z1⟩,z2⟩) hl rfl (fun j hj=>by
   match j,hj with
   |0,_=>exact e0
   |1,_=>exact e1
   |2,_=>exact e2)
  subst hrow;exact⟨_,b,o,hA,rfl,hcell⟩)
 exact⟨A,cap,l,rfl,h1,h2,hs⟩
theorem ztz {m:Nat}{c:Value}{y:DataW H×List MemPlace}(h:DataW.trod enc Tryz.prog w base spare held m 91 [c]=some y):
  ∃(A:Option Addr) (k:Nat) (l:List Pt),c=.slice A l.length k∧l.length≤k∧k≤maxLen∧Sl w A 2 (l.map ptR):=by
 obtain⟨A,len,cap,hc,h1,h2,h3⟩:=zbT (n:=5) (ts:=[3,3]) Tryz.underlying91 kr kr dk h;injection hc with hc;subst hc;obtain⟨l,rfl,hs⟩:=zcY (w:=w) (A:=A) (len:=len) (size:=2) ptR (fun i hi=>by
  obtain⟨b,o,row,hA,hl,hcell,hg⟩:=h3 i hi;obtain⟨c0,m0,y0,e0,g0⟩:=hg 0 _ rfl;obtain⟨c1,m1,y1,e1,g1⟩:=hg 1 _ rfl;obtain⟨z0,rfl,_⟩:=zad Tryz.underlying3 g0;obtain⟨z1,rfl,_⟩:=zad Tryz.underlying3 g1;have hrow:=zaY (ptR ⟨z0,z1⟩) hl rfl (fun j hj=>by
   match j,hj with
   |0,_=>exact e0
   |1,_=>exact e1)
  subst hrow;exact⟨_,b,o,hA,rfl,hcell⟩)
 exact⟨A,cap,l,rfl,h1,h2,hs⟩
def acn0:Acn:=⟨0,0,0,⟨#[]⟩,0,0,⟨[],none,0⟩,⟨[],none,0⟩,⟨[],none,0⟩,zdP⟩
def acnT:List TypeId:=[3,3,3,9,3,3,77,78,66,3,3,3,3,9,9,9,79,80,4,4,3,9,3,3,83,3,66,3,3,4,88,3,3,91,3,3,3,3,3,9,3,3,3,9]
theorem zuW {row:List Value}(hl:row.length=44)(hg:∀(j:Nat) (T:TypeId),acnT[j]?=some T→∃(c:Value) (m:Nat) (y:DataW H×List MemPlace),row[j]?=some c∧DataW.trod enc Tryz.prog w base spare held m T [c]=some y):
  ∃a:Acn,row=acnR a∧AcnAt w a:=by
 obtain⟨c0,m0,y0,e0,g0⟩:=hg 0 _ rfl;obtain⟨c1,m1,y1,e1,g1⟩:=hg 1 _ rfl;obtain⟨c2,m2,y2,e2,g2⟩:=hg 2 _ rfl;obtain⟨c3,m3,y3,e3,g3⟩:=hg 3 _ rfl;obtain⟨c4,m4,y4,e4,g4⟩:=hg 4 _ rfl;obtain⟨c5,m5,y5,e5,g5⟩:=hg 5 _ rfl;obtain⟨c6,m6,y6,e6,g6⟩:=hg 6 _ rfl;obtain⟨c7,m7,y7,e7,g7⟩:=hg 7 _ rfl;obtain⟨c8,m8,y8,e8,g8⟩:=hg 8 _ rfl;obtain⟨c9,m9,y9,e9,g9⟩:=hg 9 _ rfl;obtain⟨c10,m10,y10,e10,g10⟩:=hg 10 _ rfl;obtain⟨c11,m11,y11,e11,g11⟩:=hg 11 _ rfl;obtain⟨c12,m12,y12,e12,g12⟩:=hg 12 _ rfl;obtain⟨c13,m13,y13,e13,g13⟩:=hg 13 _ rfl;obtain⟨c14,m14,y14,e14,g14⟩:=hg 14 _ rfl;obtain⟨c15,m15,y15,e15,g15⟩:=hg 15 _ rfl;obtain⟨c16,m16,y16,e16,g16⟩:=hg 16 _ rfl;obtain⟨c17,m17,y17,e17,g17⟩:=hg 17 _ rfl;obtain⟨c18,m18,y18,e18,g18⟩:=hg 18 _ rfl;obtain⟨c19,m19,y19,e19,g19⟩:=hg 19 _ rfl;obtain⟨c20,m20,y20,e20,g20⟩:=hg 20 _ rfl;obtain⟨c21,m21,y21,e21,g21⟩:=hg 21 _ rfl;obtain⟨c22,m22,y22,e22,g22⟩:=hg 22 _ rfl;obtain⟨c23,m23,y23,e23,g23⟩:=hg 23 _ rfl;obtain⟨c24,m24,y24,e24,g24⟩:=hg 24 _ rfl;obtain⟨c25,m25,y25,e25,g25⟩:=hg 25 _ rfl;obtain⟨c26,m26,y26,e26,g26⟩:=hg 26 _ rfl;obtain⟨c27,m27,y27,e27,g27⟩:=hg 27 _ rfl;obtain⟨c28,m28,y28,e28,g28⟩:=hg 28 _ rfl;obtain⟨c29,m29,y29,e29,g29⟩:=hg 29 _ rfl;obtain⟨c30,m30,y30,e30,g30⟩:=hg 30 _ rfl;obtain⟨c31,m31,y31,e31,g31⟩:=hg 31 _ rfl;obtain⟨c32,m32,y32,e32,g32⟩:=hg 32 _ rfl;obtain⟨c33,m33,y33,e33,g33⟩:=hg 33 _ rfl;obtain⟨c34,m34,y34,e34,g34⟩:=hg 34 _ rfl;obtain⟨c35,m35,y35,e35,g35⟩:=hg 35 _ rfl;obtain⟨c36,m36,y36,e36,g36⟩:=hg 36 _ rfl;obtain⟨c37,m37,y37,e37,g37⟩:=hg 37 _ rfl;obtain⟨c38,m38,y38,e38,g38⟩:=hg 38 _ rfl;obtain⟨c39,m39,y39,e39,g39⟩:=hg 39 _ rfl;obtain⟨c40,m40,y40,e40,g40⟩:=hg 40 _ rfl;obtain⟨c41,m41,y41,e41,g41⟩:=hg 41 _ rfl;obtain⟨c42,m42,y42,e42,g42⟩:=hg 42 _ rfl;obtain⟨c43,m43,y43,e43,g43⟩:=hg 43 _ rfl;obtain⟨z0,rfl,-⟩:=zad Tryz.underlying3 g0;obtain⟨z1,rfl,-⟩:=zad Tryz.underlying3 g1;obtain⟨z2,rfl,-⟩:=zad Tryz.underlying3 g2;obtain⟨z3,rfl,s3⟩:=zbH Tryz.underlying9 g3;obtain⟨z4,rfl,-⟩:=zad Tryz.underlying3 g4;obtain⟨z5,rfl,-⟩:=zad Tryz.underlying3 g5;obtain⟨A6,k6,z6,rfl,l6,n6,s6⟩:=zi1 g6;obtain⟨A7,k7,z7,rfl,l7,n7,s7⟩:=zjR g7;obtain⟨A8,k8,z8,rfl,l8,n8,s8⟩:=open_ints g8;obtain⟨z9,rfl,-⟩:=zad Tryz.underlying3 g9;obtain⟨z10,rfl,-⟩:=zad Tryz.underlying3 g10;obtain⟨z11,rfl,-⟩:=zad Tryz.underlying3 g11;obtain⟨z12,rfl,-⟩:=zad Tryz.underlying3 g12;obtain⟨z13,rfl,s13⟩:=zbH Tryz.underlying9 g13;obtain⟨z14,rfl,s14⟩:=zbH Tryz.underlying9 g14;obtain⟨z15,rfl,s15⟩:=zbH Tryz.underlying9 g15;obtain⟨A16,k16,z16,rfl,l16,n16,s16⟩:=ziL g16;obtain⟨A17,k17,z17,rfl,l17,n17,s17⟩:=zi3 g17;obtain⟨z18,rfl⟩:=zdv Tryz.underlying4 g18;obtain⟨z19,rfl⟩:=zdv Tryz.underlying4 g19;obtain⟨z20,rfl,-⟩:=zad Tryz.underlying3 g20;obtain⟨z21,rfl,s21⟩:=zbH Tryz.underlying9 g21;obtain⟨z22,rfl,-⟩:=zad Tryz.underlying3 g22;obtain⟨z23,rfl,-⟩:=zad Tryz.underlying3 g23;obtain⟨A24,k24,z24,rfl,l24,n24,s24⟩:=zpP g24;obtain⟨z25,rfl,-⟩:=zad Tryz.underlying3 g25;obtain⟨A26,k26,z26,rfl,l26,n26,s26⟩:=open_ints g26;obtain⟨z27,rfl,-⟩:=zad Tryz.underlying3 g27;obtain⟨z28,rfl,-⟩:=zad Tryz.underlying3 g28;obtain⟨z29,rfl⟩:=zdv Tryz.underlying4 g29;obtain⟨A30,k30,z30,rfl,l30,n30,s30⟩:=zmi g30;obtain⟨z31,rfl,-⟩:=zad Tryz.underlying3 g31;obtain⟨z32,rfl,-⟩:=zad Tryz.underlying3 g32;obtain⟨A33,k33,z33,rfl,l33,n33,s33⟩:=ztz g33;obtain⟨z34,rfl,-⟩:=zad Tryz.underlying3 g34;obtain⟨z35,rfl,-⟩:=zad Tryz.underlying3 g35;obtain⟨z36,rfl,-⟩:=zad Tryz.underlying3 g36;obtain⟨z37,rfl,-⟩:=zad Tryz.underlying3 g37;obtain⟨z38,rfl,-⟩:=zad Tryz.underlying3 g38;obtain⟨z39,rfl,s39⟩:=zbH Tryz.underlying9 g39;obtain⟨z40,rfl,-⟩:=zad Tryz.underlying3 g40;obtain⟨z41,rfl,-⟩:=zad Tryz.underlying3 g41;obtain⟨z42,rfl,-⟩:=zad Tryz.underlying3 g42;obtain⟨z43,rfl,s43⟩:=zbH Tryz.underlying9 g43;clear hg;refine⟨⟨z0,z1,z2,z3,z4,z5,⟨z6,A6,k6⟩,⟨z7,A7,k7⟩,⟨z8,A8,k8⟩,⟨z9,z10,z11,z12,z13,⟨z14,z15,z16,z17,z18,z19,z20,z21,z22⟩,A16,k16,A17,k17,z23,⟨z24,A24,k24⟩,z25,⟨z26,A26,k26⟩,⟨z27,z28,z29,⟨z30,A30,k30⟩⟩,⟨z31,z32,⟨z33,A33,k33⟩,z34,z35,z36⟩,⟨z37,z38,z39,z40,z41,z42,z43⟩⟩⟩,zaY _ hl rfl (fun j hj=> ?_),⟨s3,⟨s6,l6,n6⟩,⟨s7,l7,n7⟩,⟨s8,l8,n8⟩,⟨s13,⟨s16,s17,l16,l17,n16,n17,s14,s15,s21⟩,⟨s24,l24,n24⟩,⟨s26,l26,n26⟩,⟨s30,l30,n30⟩,⟨s33,l33,n33⟩,s39,s43⟩⟩⟩
 match j,hj with
 |0,_=>exact e0
 |1,_=>exact e1
 |2,_=>exact e2
 |3,_=>exact e3
 |4,_=>exact e4
 |5,_=>exact e5
 |6,_=>exact e6
 |7,_=>exact e7
 |8,_=>exact e8
 |9,_=>exact e9
 |10,_=>exact e10
 |11,_=>exact e11
 |12,_=>exact e12
 |13,_=>exact e13
 |14,_=>exact e14
 |15,_=>exact e15
 |16,_=>exact e16
 |17,_=>exact e17
 |18,_=>exact e18
 |19,_=>exact e19
 |20,_=>exact e20
 |21,_=>exact e21
 |22,_=>exact e22
 |23,_=>exact e23
 |24,_=>exact e24
 |25,_=>exact e25
 |26,_=>exact e26
 |27,_=>exact e27
 |28,_=>exact e28
 |29,_=>exact e29
 |30,_=>exact e30
 |31,_=>exact e31
 |32,_=>exact e32
 |33,_=>exact e33
 |34,_=>exact e34
 |35,_=>exact e35
 |36,_=>exact e36
 |37,_=>exact e37
 |38,_=>exact e38
 |39,_=>exact e39
 |40,_=>exact e40
 |41,_=>exact e41
 |42,_=>exact e42
 |43,_=>exact e43
 |j+44,h=>exact absurd (show j+44<44 from h) om
theorem ziT {α:Type}(P:α→Prop)(f:α→List Value){A:Option Addr}{len size:Nat}(h:∀i,i<len→∃(m:α) (b o:Nat),P m∧A=some ⟨b,o,none⟩∧(f m).length=size∧∀j v,(f m)[j]?=some v→w.cell? ⟨b,o+i * size+j,none⟩=some v):
  ∃l:List α,l.length=len∧Sl w A size (l.map f)∧∀a∈l,P a:=by
 have h1:∀i:Fin len,∃(m:α),P m∧∃(b o:Nat),A=some ⟨b,o,none⟩∧(f m).length=size∧∀j v,(f m)[j]?=some v→w.cell? ⟨b,o+i * size+j,none⟩=some v:=fun i=>by obtain⟨m,b,o,hp,hh⟩:=h i i.isLt;exact⟨m,hp,b,o,hh⟩
 obtain⟨g,hg⟩:=Classical.axiomOfChoice h1;refine⟨List.ofFn g,by simp,⟨fun i row hr=> ?_⟩,fun a ha=> ?_⟩
 ·simp only[List.getElem?_map,List.getElem?_ofFn] at hr;split at hr
  ·rename_i hi;simp at hr;subst hr;obtain⟨-,b,o,h2,h3,h4⟩:=hg ⟨i,hi⟩;exact⟨h3,b,o,h2,h4⟩
  ·simp at hr
 ·obtain⟨i,rfl⟩:=List.mem_ofFn.1 ha;exact(hg i).1
end
open Go.ChangeShapes Go.WideShapes Go.ChangeAt Go.RowKit Go.Joins Go.Deep

section
variable {H:Type} {enc:TypeId×Value→H} {w:World} {base:Nat} {spare:Nat→Bool} {held:Bool} {r:Reach} {b0:Nat} {v:Value} {d:DataW H} {p:List MemPlace}
theorem rec_of {row:List Value}(hl:row.length=45)(hg:∀(j:Nat) (T:TypeId),(3 ::acnT)[j]?=some T→∃(c:Value) (m:Nat) (y:DataW H×List MemPlace),row[j]?=some c∧DataW.trod enc Tryz.prog w base spare held m T [c]=some y):
  ∃x:Rec,row=recR x∧AcnAt w x.act:=by
 cases row with
 |nil=>simp at hl
 |cons x row=>
  obtain⟨c0,m0,y0,e0,g0⟩:=hg 0 _ rfl;obtain⟨z0,rfl,-⟩:=zad Tryz.underlying3 g0;obtain rfl:x=.int .i64 z0:=by simpa using e0
  obtain⟨a,rfl,ha⟩:=zuW (row:=row) (by simpa using hl) (fun j T hT=>by obtain⟨c,m,y,e,g⟩:=hg (j+1) T (by simpa using hT);exact⟨c,m,y,by simpa using e,g⟩)
  exact⟨⟨z0,a⟩,rfl,ha⟩
theorem zvL {m:Nat}{c:Value}{y:DataW H×List MemPlace}(h:DataW.trod enc Tryz.prog w base spare held m 22 [c]=some y):
  ∃(A:Option Addr) (k:Nat) (l:List Rec),c=.slice A l.length k∧za3 w A k l:=by
 obtain⟨A,len,cap,hc,h1,h2,h3⟩:=zbT (n:=6) (ts:=3 ::acnT) Tryz.underlying22 kr kr dk h;injection hc with hc;subst hc;obtain⟨l,rfl,hs,ha⟩:=ziT (w:=w) (A:=A) (len:=len) (size:=45) (fun x:Rec=>AcnAt w x.act) recR (fun i hi=>by obtain⟨b,o,row,hA,hl,hcell,hg⟩:=h3 i hi;obtain⟨m,rfl,hm⟩:=rec_of hl hg;exact⟨m,b,o,hm,hA,rfl,hcell⟩)
 exact⟨A,cap,l,rfl,hs,h1,h2,ha⟩
end
open Go.ChangeShapes Go.WideShapes Go.ChangeAt Go.RowKit Go.Joins Go.Deep

theorem mapM_at {α β:Type}{f:α→Option β}:∀{l:List α} {ys:List β},l.mapM f=some ys→∀{j:Nat} {x:α},l[j]?=some x→∃y,f x=some y∧ys[j]?=some y
 |[],ys,_,j,x,hx=>by simp at hx
 |a::l,ys,h,j,x,hx=>by
  rw[List.mapM_cons] at h;cases ha:f a with
  |none=>rw[ha] at h;cases h
  |some b=>
   cases hl:l.mapM f with
   |none=>rw[ha,hl] at h;cases h
   |some zs=>
    rw[ha,hl] at h;obtain rfl:b::zs=ys:=by injection h
    cases j with
    |zero=>
     obtain rfl:a=x:=by simpa using hx
     exact⟨b,ha,rfl⟩
    |succ j=>obtain⟨y,h1,h2⟩:=mapM_at hl (j:=j) (by simpa using hx);exact⟨y,h1,by simpa using h2⟩
theorem mapM_len {α β:Type}{f:α→Option β}:∀{l:List α} {ys:List β},l.mapM f=some ys→ys.length=l.length
 |[],ys,h=>by
  rw[List.mapM_nil] at h;obtain rfl:[]=ys:=by injection h
  rfl
 |a::l,ys,h=>by
  rw[List.mapM_cons] at h;cases ha:f a with
  |none=>rw[ha] at h;cases h
  |some b=>
   cases hl:l.mapM f with
   |none=>rw[ha,hl] at h;cases h
   |some zs=>
    rw[ha,hl] at h;obtain rfl:b::zs=ys:=by injection h
    simp[mapM_len hl]
section
variable {H:Type} {enc:TypeId×Value→H} {P:Program} {w:World} {base:Nat} {spare:Nat→Bool} {held:Bool}
theorem zkK {t:TypeId}{fs:Array Field}(hu:P.underlying t=some (.struct fs)){cs:Array Value}{d:DataW H}{p:List MemPlace}(h:DataW.Trod enc P w base spare held t (.agg cs) d p){j:Nat}{f:Field}(hf:fs.toList[j]?=some f):
  ∃(m:Nat) (y:DataW H×List MemPlace),DataW.trod enc P w base spare held m f.type ((cs.toList.drop f.offset).take (P.cellsOf f.type))=some y∧∀x∈y.1.weights P f.type,x∈d.weights P t:=by
 obtain⟨fuel,h⟩:=h;cases fuel with
 |zero=>simp[DataW.trod] at h
 |succ fuel=>
  have hc:(Value.agg cs).cells.toList=cs.toList:=rfl;rw[hc] at h;unfold DataW.trod at h;rw[hu] at h;simp only at h;split at h
  ·obtain⟨xs,hxs,he⟩:=Option.map_eq_some_iff.1 h;obtain⟨y,hy,hj⟩:=mapM_at hxs hf;refine⟨fuel,y,hy,fun x hx=> ?_⟩;have:d=.agg (xs.map (·.1)):=by injection he with h1 h2;exact h1.symm
   subst this;simp only[DataW.weights,hu];exact DataW.weights_mem_each (j:=j) (t:=f.type) (d:=y.1) (by simp[hf]) (by simp[hj]) x hx
  ·cases h
theorem zgc {t e:TypeId}(hu:P.underlying t=some (.slice e)){A:Option Addr}{len cap m:Nat}{y:DataW H×List MemPlace}(h:DataW.trod enc P w base spare held m t [.slice A len cap]=some y)(hr:∀x∈y.1.weights P t,x≤reachBytes):len * P.bytesOf e≤reachBytes:=by
 cases m with
 |zero=>simp[DataW.trod] at h
 |succ m=>
  unfold DataW.trod at h;rw[hu] at h;cases A with
  |none=>
   cases len with
   |zero=>simp
   |succ len=>cases cap<;>simp at h
  |some a=>
   simp only at h;split at h
   ·obtain⟨elems,he,h⟩:=Option.bind_eq_some_iff.1 h;obtain⟨rest,hrest,h⟩:=Option.map_eq_some_iff.1 h;subst h;have hl:elems.length=len:=by have:=mapM_len he;simpa using this
    have:=hr ((elems.length+rest.length) * P.bytesOf e) (by simp[DataW.weights,hu]);rw[hl] at this;exact Nat.le_trans (Nat.mul_le_mul_right _ (Nat.le_add_right _ _)) this
   ·cases h
end
theorem zD3: Tryz.prog.bytesOf 180 =552:=by kernel_rfl
theorem zzO: Tryz.prog.cellsOf 22 =1:=by kernel_rfl
section
variable {H:Type} {enc:TypeId×Value→H} {w:World} {base:Nat} {spare:Nat→Bool} {held:Bool}
theorem zd2 {n:Nod}{A:Option Addr}{c:Nat}{d:DataW H}{p:List MemPlace}(h:DataW.Trod enc Tryz.prog w base spare held 24 (.agg (Ln n A c)) d p)(hr:∀x∈d.weights Tryz.prog 24,x≤reachBytes):n.log.length * 552≤140737488355328:=by obtain⟨m,y,hy,hx⟩:=zkK Tryz.underlying24 h (j:=3) rfl;rw[zzO] at hy;have:=zgc Tryz.underlying22 (A:=A) (len:=n.log.length) (cap:=c) hy (fun x h=>hr x (hx x h));rw[zD3] at this;exact Nat.le_trans this dk
theorem zfl {n:Msg}{A:Option Addr}{c:Nat}{d:DataW H}{p:List MemPlace}(h:DataW.Trod enc Tryz.prog w base spare held 113 (.agg (Lm n A c)) d p)(hr:∀x∈d.weights Tryz.prog 113,x≤reachBytes):n.recs.length * 552≤140737488355328:=by obtain⟨m,y,hy,hx⟩:=zkK Tryz.underlying113 h (j:=4) rfl;rw[zzO] at hy;have:=zgc Tryz.underlying22 (A:=A) (len:=n.recs.length) (cap:=c) hy (fun x h=>hr x (hx x h));rw[zD3] at this;exact Nat.le_trans this dk
end
