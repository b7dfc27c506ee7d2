import Derived.Test.YtnpdghjpcnjokaaGreatGqf
set_option linter.all false
namespace Go.Proofs.YtnpdghjpcnjokaaGreat
set_option maxHeartbeats 6400000
set_option maxRecDepth 100000
open Go.RowKit Go.Proofs.Tryz

def Lz (_:Wld) (_:Int) (_:Bool) (_:Nod) (_:Bool) (_:Int) (_:Option Addr) (_:Nat) (_:Bool) (_:Int) (_:Nod) (_:Bool) (_:Int) (_:Option Addr) (_:Nat) (_:Bool) (_:Int) (_:Option Addr) (_:Nat) (_:Nat):RX:=⟨0⟩
instance (w : Wld) (dl : Int) (ct : Bool) (x : Nod) (sx : Bool) (nx : Int) (A : Option Addr) (a : Nat) (p : Bool) (q : Int) (y : Nod) (sy : Bool) (ny : Int) (B : Option Addr) (b : Nat) (r : Bool) (s : Int) (M : Option Addr) (ml : Nat) (m : Nat) : CoeDep RX (Lz w dl ct x sx nx A a p q y sy ny B b r s M ml m) (List Value):=⟨[w.now,w.limit,dl,ct,x.id,x.term,sx,.slice A x.log.length a,x.acked,nx,p,q,y.id,y.term,sy,.slice B y.log.length b,y.acked,ny,r,s,.slice M ml m]⟩
def Lq (_:Wld) (_:Bool) (_:Option Addr) (_:Nat) (_:Bool) (_:Option Addr) (_:Nat) (_:Bool) (_:Option Addr) (_:Nat):RX:=⟨0⟩
instance (w : Wld) (ct : Bool) (A : Option Addr) (a : Nat) (p : Bool) (B : Option Addr) (b : Nat) (r : Bool) (M : Option Addr) (m : Nat) : CoeDep RX (Lq w ct A a p B b r M m) (List Value):=⟨[w.now,w.limit,w.delay,ct,w.a.node.id,w.a.node.term,w.a.node.speaks,.slice A w.a.node.log.length a,w.a.node.acked,w.a.node.next,p,w.a.quiet,w.b.node.id,w.b.node.term,w.b.node.speaks,.slice B w.b.node.log.length b,w.b.node.acked,w.b.node.next,r,w.b.quiet,.slice M w.mail.length m]⟩
def Lt (_:Nod) (_:Bool) (_:Int) (_:Option Addr) (_:Nat) (_:Bool) (_:Int):RX:=⟨0⟩
instance (x : Nod) (sx : Bool) (nx : Int) (A : Option Addr) (a : Nat) (p : Bool) (q : Int) : CoeDep RX (Lt x sx nx A a p q) (List Value):=⟨[x.id,x.term,sx,.slice A x.log.length a,x.acked,nx,p,q]⟩
def Zz:RX:=⟨0⟩
instance : CoeDep RX Zz (List Value):=⟨Zw⟩
theorem Stab.eq {x v:Value}{w:World}(h:(Stab.is v).p x w):x=v:=h
theorem zs_A0 {P:Program}{ops:Array Oper}{Q:Exit→Act→World→Prop}{T:Nat→Value→World→Prop}{A:(Nat→Value)→Act}{w0:World}{i:Nat}(h:∀(u:Nat→Value) (w:World),Ext w0 w→wpOp P ops Q i (fun a' w'=> ∃v,a'=(A u).put (dstB ops i) v∧Ext w w'∧T i v w') (A u) w:=by intro u w1 hx1;obtain⟨y9,rfl⟩:=hx1.get;clear hx1;refine za0 rfl rfl rfl ?_;intro K9 hK;go_simp;exact hK _ _ rfl ex rfl):SlotA P ops Q T A w0 i:=fun u w hx hd=>h u w hx
theorem zs_A1 {P:Program}{ops:Array Oper}{Q:Exit→Act→World→Prop}{T:Nat→Value→World→Prop}{A:(Nat→Value)→Act}{w0:World}{i:Nat}(j1:Nat)(h1:zdI .any ops i j1=true:=by kernel_rfl)(h:∀(u:Nat→Value) (w:World),Ext w0 w→T j1 (u j1) w→wpOp P ops Q i (fun a' w'=> ∃v,a'=(A u).put (dstB ops i) v∧Ext w w'∧T i v w') (A u) w:=by intro u w1 hx1 e1;obtain⟨y9,rfl⟩:=hx1.get;clear hx1;simp only[Stab.eq e1];refine za0 rfl rfl rfl ?_;intro K9 hK;go_simp;exact hK _ _ rfl ex rfl):SlotA P ops Q T A w0 i:=fun u w hx hd=>h u w hx (hd _ h1)
theorem zs_B0 {P:Program}{ops:Array Oper}{Q:Exit→Act→World→Prop}{T:Nat→Value→World→Prop}{Al:List Nat}{A:(Nat→Value)→Act}{w0:World}{i:Nat}(h:∀(u:Nat→Value) (w:World),Ext w0 w→wpOp P ops Q i (fun a' w'=> ∃v,a'=(A u).put (dstB ops i) v∧Ext w w'∧T i v w'∧(Al.contains i=true→zzA w v)) (A u) w:=by intro u w1 hx1;obtain⟨y9,rfl⟩:=hx1.get;clear hx1;refine slr rfl rfl rfl rfl ?_;intro K9 hK;go_simp;exact hK _ _ rfl ex rfl):SlotB P ops Q T Al A w0 i:=fun u w hx hd=>h u w hx
theorem zs_B1 {P:Program}{ops:Array Oper}{Q:Exit→Act→World→Prop}{T:Nat→Value→World→Prop}{Al:List Nat}{A:(Nat→Value)→Act}{w0:World}{i:Nat}(j1:Nat)(h1:zdI .any ops i j1=true:=by kernel_rfl)(h:∀(u:Nat→Value) (w:World),Ext w0 w→T j1 (u j1) w→wpOp P ops Q i (fun a' w'=> ∃v,a'=(A u).put (dstB ops i) v∧Ext w w'∧T i v w'∧(Al.contains i=true→zzA w v)) (A u) w:=by intro u w1 hx1 e1;obtain⟨y9,rfl⟩:=hx1.get;clear hx1;simp only[Stab.eq e1];refine slr rfl rfl rfl rfl ?_;intro K9 hK;go_simp;exact hK _ _ rfl ex rfl):SlotB P ops Q T Al A w0 i:=fun u w hx hd=>h u w hx (hd _ h1)
theorem zs_B2 {P:Program}{ops:Array Oper}{Q:Exit→Act→World→Prop}{T:Nat→Value→World→Prop}{Al:List Nat}{A:(Nat→Value)→Act}{w0:World}{i:Nat}(j1 j2:Nat)(h1:zdI .any ops i j1=true:=by kernel_rfl)(h2:zdI .any ops i j2=true:=by kernel_rfl)(h:∀(u:Nat→Value) (w:World),Ext w0 w→T j1 (u j1) w→T j2 (u j2) w→wpOp P ops Q i (fun a' w'=> ∃v,a'=(A u).put (dstB ops i) v∧Ext w w'∧T i v w'∧(Al.contains i=true→zzA w v)) (A u) w:=by intro u w1 hx1 e1 e2;obtain⟨y9,rfl⟩:=hx1.get;clear hx1;simp only[Stab.eq e1,Stab.eq e2];refine slr rfl rfl rfl rfl ?_;intro K9 hK;go_simp;exact hK _ _ rfl ex rfl):SlotB P ops Q T Al A w0 i:=fun u w hx hd=>h u w hx (hd _ h1) (hd _ h2)
theorem zs_B3 {P:Program}{ops:Array Oper}{Q:Exit→Act→World→Prop}{T:Nat→Value→World→Prop}{Al:List Nat}{A:(Nat→Value)→Act}{w0:World}{i:Nat}(j1 j2 j3:Nat)(h1:zdI .any ops i j1=true:=by kernel_rfl)(h2:zdI .any ops i j2=true:=by kernel_rfl)(h3:zdI .any ops i j3=true:=by kernel_rfl)(h:∀(u:Nat→Value) (w:World),Ext w0 w→T j1 (u j1) w→T j2 (u j2) w→T j3 (u j3) w→wpOp P ops Q i (fun a' w'=> ∃v,a'=(A u).put (dstB ops i) v∧Ext w w'∧T i v w'∧(Al.contains i=true→zzA w v)) (A u) w:=by intro u w1 hx1 e1 e2 e3;obtain⟨y9,rfl⟩:=hx1.get;clear hx1;simp only[Stab.eq e1,Stab.eq e2,Stab.eq e3];refine slr rfl rfl rfl rfl ?_;intro K9 hK;go_simp;exact hK _ _ rfl ex rfl):SlotB P ops Q T Al A w0 i:=fun u w hx hd=>h u w hx (hd _ h1) (hd _ h2) (hd _ h3)
def none55 (ps:Array (Nat×Value)):Sem Value:=Instr.buildSlice 44 0 ps
@[go_sem ↓ high] theorem none55_at (ps : Array (Nat × Value)) : Instr.buildSlice 44 0 ps = none55 ps:=rfl
@[go_sem] theorem none55_run (w : World) : (none55 #[]).run prog w = .ok (.slice (some ⟨w.heap.size,0,none⟩) 0 0) (w.alloc (.cells #[] 120)) :=
 zu6 w _ _ 8 underlying44 kr
def Stab.empty:Stab:=⟨fun v _=> ∃g,v=.slice (some ⟨g,0,none⟩) 0 0,fun _ _ _ _ h=>h⟩
def Stab.ownL (X:World) (n:Nat) (rows:List (List Value)):Stab:=⟨fun v W=> ∃D K,v=.slice D n K∧Own X W 120 8 D n K rows,fun _ _ _ hx ⟨D,K,e,h⟩=>⟨D,K,e,h.mono hx⟩⟩
def Stab.oneR (row:List Value):Stab:=⟨fun v W=> ∃g,v=.slice (some ⟨g,0,none⟩) 1 1∧Sl W (some ⟨g,0,none⟩) 8 [row],fun _ _ _ hx ⟨g,e,h⟩=>⟨g,e,h.mono hx⟩⟩
theorem Own.pass {w0 w w':World}{E:TypeId}{sz n k b:Nat}{A:Option Addr}{rows:List (List Value)}(h:Own w0 w E sz A n k rows)(hn:0<n)(ht:Turn b w w')(hb:b<w0.heap.size):Own w0 w' E sz A n k rows:=by
 refine⟨h.len,h.row,h.one,h.le,h.cap,?_⟩;rcases h.at_ with h0|⟨g,cur,h1,h2,h3,h4⟩
 ·have:=h.le;omega
 ·exact .inr ⟨g,cur,h1,h2,by rw[ht.else_ g om];exact h3,h4⟩
theorem Own.far {w0 w:World}{E:TypeId}{sz n k:Nat}{A:Option Addr}{rows:List (List Value)}(h:Own w0 w E sz A n k rows)(hn:0<n):∀p,A=some p→w0.heap.size≤p.block:=fun p hp=>by
 rcases h.at_ with h0|⟨g,cur,h1,h2,-⟩
 ·have:=h.le;omega
 ·rw[h1] at hp;injection hp with hp;subst hp;exact h2
def Away (g:Nat) (M:Option Addr) (xs:List (Ltr×Option Addr×Nat)):Prop:=xs=[]∨∀p,M=some p→p.block≠g
theorem Away.new {W:World}{g:Nat}{M:Option Addr}{xs:List (Ltr×Option Addr×Nat)}(h:Sl W M 8 (xs.map ltrR))(hg:W.heap.size≤g):Away g M xs:=by
 cases xs with
 |nil=>exact .inl rfl
 |cons x l=>
  refine .inr fun p hp=> ?_;obtain⟨-,b,o,h2,h3⟩:=h.at_ 0 (ltrR x) rfl;have:=World.block_lt_of_cell? W _ (h3 0 (.int .i64 x.1.dst) rfl);rw[h2] at hp;injection hp with hp;subst hp
  show b≠g;have:b<W.heap.size:=this;omega
theorem Sl.away {W V:World}{g:Nat}{M:Option Addr}{xs:List (Ltr×Option Addr×Nat)}(h:Sl W M 8 (xs.map ltrR))(ha:Away g M xs)(ht:Turn g W V):Sl V M 8 (xs.map ltrR):=
 ⟨fun i row hr=>by
  obtain⟨h1,b,o,h2,h3⟩:=h.at_ i row hr;refine⟨h1,b,o,h2,fun j v hv=> ?_⟩;have hb:b≠g:=by
   rcases ha with ha|ha
   ·subst ha;simp at hr
   ·exact ha _ h2
  rw[World.cell?_of_block (ht.else_ b hb)];exact h3 j v hv⟩
structure WldW (w0 W : World) (w : Wld) (A : Option Addr) (a : Nat) (B : Option Addr) (b : Nat) (M : Option Addr) (m : Nat) (xs : List (Ltr × Option Addr × Nat)) : Prop where
 ext:Ext w0 W
 qa:LogW w0 W A w.a.node.log.length a w.a.node.log
 qb:LogW w0 W B w.b.node.log.length b w.b.node.log
 sl:Sl W M 8 (xs.map ltrR)
 le:xs.length≤m
 cap:m≤maxLen
 is:xs.map (·.1)=w.mail
 el:∀x∈xs,LogW w0 W x.2.1 x.1.msg.recs.length x.2.2 x.1.msg.recs
def RetW (w0 W:World) (M:Option Addr) (xs:List (Ltr×Option Addr×Nat)) (v:Wld) (e:Ending) (W':World):Prop:=∃A a B b N n ys,e=.returned (.agg (Lw v A a B b N n))∧Ext W W'∧WldW w0 W' v A a B b N n ys∧∀g,g<W.heap.size→Away g M xs→Away g N ys
section
variable {w0 W V:World} {w v:Wld} {A B M:Option Addr} {c d k:Nat} {xs:List (Ltr×Option Addr×Nat)}
theorem WldW.of (h:WldAt W w A c B d M k xs):WldW W W w A c B d M k xs:=⟨Ext.refl _,LogW.of h.a (Ext.refl _),LogW.of h.b (Ext.refl _),h.mail.sl,h.mail.le,h.mail.cap,h.is,fun x hm=>LogW.of (h.mail.el x hm) (Ext.refl _)⟩
theorem WldW.at (h:WldW w0 W w A c B d M k xs):WldAt W w A c B d M k xs:=⟨h.qa.recs h.ext (Ext.refl _),h.qb.recs h.ext (Ext.refl _),⟨h.sl,h.le,h.cap,fun x hm=>(h.el x hm).recs h.ext (Ext.refl _)⟩,h.is⟩
theorem WldW.mono (h:WldW w0 W w A c B d M k xs)(hx:Ext W V):WldW w0 V w A c B d M k xs:=⟨h.ext.trans hx,h.qa.mono hx,h.qb.mono hx,h.sl.mono hx,h.le,h.cap,h.is,fun x hm=>(h.el x hm).mono hx⟩
theorem WldW.turn {g:Nat}(h:WldW w0 W w A c B d M k xs)(ht:Turn g W V)(hg:w0.heap.size≤g)(ha:Away g M xs):WldW w0 V w A c B d M k xs:=⟨ht.ext h.ext hg,h.qa.turn ht,h.qb.turn ht,h.sl.away ha ht,h.le,h.cap,h.is,fun x hm=>(h.el x hm).turn ht⟩
theorem WldW.len (h:WldW w0 W w A c B d M k xs):xs.length=w.mail.length:=by rw[←h.is,List.length_map]
theorem WldW.sta (h:WldW w0 W w A c B d M k xs){A' B':Option Addr}{c' d':Nat}(hm:v.mail=w.mail)(ha:LogW w0 W A' v.a.node.log.length c' v.a.node.log)(hb:LogW w0 W B' v.b.node.log.length d' v.b.node.log):WldW w0 W v A' c' B' d' M k xs:=⟨h.ext,ha,hb,h.sl,h.le,h.cap,by rw[hm];exact h.is,h.el⟩
theorem postW_no {w:Wld}{d:Int}{x:Msg}(h:w.cut=true∨w.mail.length=256):postW w d x=w:=by unfold postW;rw[if_pos (h.imp id (fun h=>by omega))]
theorem postW_yes {w:Wld}{d:Int}{x:Msg}(h1:w.cut=false)(h2:w.mail.length<256):postW w d x=⟨w.now,w.limit,w.delay,w.cut,w.a,w.b,w.mail++[⟨d,min (w.now+w.delay) 1048576,x⟩]⟩:=by unfold postW;rw[if_neg (fun hc=>hc.elim (fun h=>by rw[h1] at h;cases h) (fun h=>absurd h om))]
theorem r55_posted_no (h:WldW w0 W w A c B d M k xs)(hno:w.cut=true∨w.mail.length=256)(i:Int)(x:Msg)(E:Option Addr)(j:Nat):Calls prog 138 #[.agg (Lw w A c B d M k),i,.agg (Lm x E j)] W (RetW w0 W M xs (postW w i x)):=by
 have HW:=Lib.hid h;have hla:=h.at.a.len;have hlb:=h.at.b.len;rw[postW_no hno];clear h;cases hc:w.cut
 ·have h6:(w.mail.length:Int)=256:=by
   rcases hno with hno|hno
   ·rw[hc] at hno;cases hno
   ·omega
  have h7:((w.mail.length:Int)==256)=true:=by simp[h6]
  have HC:=zh hc;clear hno;go_enter func138,ntmps138
  go_upto_region 1 with fail
  refine zaG (fun W9 hW9=> ?_);have x9:Ext W W9:=by rw[hW9];exact ex
  have k3:BoxAt W9 W.heap.size (Lq w false A c w.a.up B d w.b.up M k) 46:=by rw[hW9];exact bxA
  have k6:BoxAt W9 (W.heap.size+2) Zz 46:=by rw[hW9];exact bxA
  have c3:=k3.c 3 rfl;have c20:=k3.c 20 rfl;have hrw:=k3.row (n:=21) rfl;clear hW9;go_wp2_with (refine za2 rfl 46 (.tmp 6) (.tmp 15) rfl (k6.mono ex) rfl (Lq w false A c w.a.up B d w.b.up M k) rfl rfl (show 21<44 by decide) kr (cells_one _ rfl) ?_;intro V2 ht2 hb2);refine bodyPost_ret (v:=.agg ((Lq w false A c w.a.up B d w.b.up M k):List Value).toArray) (results_one (i:=6) (by simp[results138]) rfl hb2.range rfl) rfl ?_;have hV:Ext W V2:=ht2.ext (x9.trans ex) om;exact⟨A,c,B,d,M,k,xs,by rw[HC.out],hV,HW.out.mono hV,fun _ _ h=>h⟩
 ·have HC:=zh hc;clear hno;go_enter func138,ntmps138
  go_upto_region 1 with fail
  refine zaG (fun W9 hW9=> ?_);have x9:Ext W W9:=by rw[hW9];exact ex
  have k3:BoxAt W9 W.heap.size (Lq w true A c w.a.up B d w.b.up M k) 46:=by rw[hW9];exact bxA
  have k6:BoxAt W9 (W.heap.size+2) Zz 46:=by rw[hW9];exact bxA
  have c3:=k3.c 3 rfl;have c20:=k3.c 20 rfl;have hrw:=k3.row (n:=21) rfl;clear hW9;go_wp2_with (refine za2 rfl 46 (.tmp 6) (.tmp 15) rfl (k6.mono ex) rfl (Lq w true A c w.a.up B d w.b.up M k) rfl rfl (show 21<44 by decide) kr (cells_one _ rfl) ?_;intro V2 ht2 hb2);refine bodyPost_ret (v:=.agg ((Lq w true A c w.a.up B d w.b.up M k):List Value).toArray) (results_one (i:=6) (by simp[results138]) rfl hb2.range rfl) rfl ?_;have hV:Ext W V2:=ht2.ext (x9.trans ex) om;exact⟨A,c,B,d,M,k,xs,by rw[HC.out],hV,HW.out.mono hV,fun _ _ h=>h⟩
theorem r55_posted_go (h:WldW w0 W w A c B d M k xs)(hn0:0≤w.now)(hn1:w.now≤1048576)(hd0:0≤w.delay)(hd1:w.delay≤8)(hcut:w.cut=false)(hlen:w.mail.length<256)(i:Int)(x:Msg)(E:Option Addr)(j:Nat)(hx:LogW w0 W E x.recs.length j x.recs):Calls prog 138 #[.agg (Lw w A c B d M k),i,.agg (Lm x E j)] W (RetW w0 W M xs (postW w i x)):=by
 have HW:=Lib.hid h;have HX:=zh hx;have hla:=h.at.a.len;have hlb:=h.at.b.len;have hxl:=(hx.recs h.ext (Ext.refl _)).len;have hxn:xs.length=w.mail.length:=h.len;rw[postW_yes hcut hlen,hcut];have hw1:IntKind.i64.wrap (w.now+w.delay)=w.now+w.delay:=IntWalk.i64_in _ om;have h7:((w.mail.length:Int)==256)=false:=by simp;omega
 have HSL:=zh h.sl;have HC:=zh hcut;obtain⟨q,hq⟩:∃q,min (w.now+w.delay) 1048576=q:=⟨_,rfl⟩
 rw[hq];have HQ:=zh hq;clear h hx hcut hq;go_enter func138,ntmps138;go_wp2_with fail;refine zaG (fun W9 hW9=> ?_);have x9:Ext W W9:=by rw[hW9];exact ex
 have k3:BoxAt W9 W.heap.size (Lq w false A c w.a.up B d w.b.up M k) 46:=by rw[hW9];exact bxA
 have k5:BoxAt W9 (W.heap.size+1) (Lm x E j) 117:=by rw[hW9];exact bxA
 have k6:BoxAt W9 (W.heap.size+2) Zz 46:=by rw[hW9];exact bxA
 have hsz:W.heap.size+3≤W9.heap.size:=by have:=k6.lt;omega
 have c0:=k3.c 0 rfl;have c2:=k3.c 2 rfl;have c20:=k3.c 20 rfl;obtain⟨p0,p1,p2,p3,p4,p5⟩:=k5.six;clear hW9;refine zGr 14 [] [] [Stab.empty,Stab.is (.pointer (some ⟨W.heap.size,20,none⟩)),Stab.is (.slice M w.mail.length k),Stab.ownL W9 w.mail.length (xs.map ltrR),Stab.is (.int .i64 i),Stab.is (.pointer (some ⟨W.heap.size,0,none⟩)),Stab.is (.int .i64 w.now),Stab.is (.pointer (some ⟨W.heap.size,2,none⟩)),Stab.is (.int .i64 w.delay),Stab.is (.int .i64 (w.now+w.delay)),Stab.is (.int .i64 q),Stab.is (.agg (Lm x E j)),Stab.is (.agg #[i,q,x.kind,x.term,x.at_,x.before,.slice E x.recs.length j,x.acked]),Stab.oneR [i,q,x.kind,x.term,x.at_,x.before,.slice E x.recs.length j,x.acked]] (fun u=>by(simp only[zc0,List.take_succ_cons,List.take_zero,Act.put,Nat.zero_add,Nat.reduceAdd]);(try simp only[lsT,lsS,lsZ]);exact rfl) kr kr kr (fun _ _ _ _ _ h=>h) ?_ ?_ ?_
 ·intro j9 hj9;cases hj9
 ·refine⟨?_,zs_B0,(zs_B1 1),?_,zs_B0,zs_B0,(zs_B1 5),zs_B0,(zs_B1 7),(zs_B2 6 8),?_,zs_B0,(zs_B3 4 10 11),?_,trivial⟩
  ·refine slb fun u y9 hd=>?_;refine slr rfl rfl rfl rfl ?_;intro K9 hK;go_simp;exact hK _ _ rfl ex ⟨_,rfl⟩
  ·refine slb fun u y9 hd=>?_;obtain⟨g0,e0⟩:=hd 0 kr;have e2:u 2=.slice M w.mail.length k:=hd 2 kr;simp only[e0,e2];refine slr rfl rfl rfl rfl ?_;intro K9 hK;refine zgn (w0:=xt W9.drew y9) _ _ 44 44 rfl 120 120 8 80 underlying44 underlying44 info_L5 dk (Ext.refl _) (some ⟨g0,0,none⟩) 0 0 [] rfl (Own.nil _) M w.mail.length k (xs.map ltrR) rfl (HSL.out.mono (x9.trans ex)) (by simp[hxn]) (zon xs) (by unfold maxLen;omega) om w.mail.length om (xs.map ltrR) rfl ?_;intro D2 K2 w2 hx2 hown hg hA;exact hK _ _ rfl hx2 ⟨D2,K2,rfl,Own.older hown ex⟩
  ·refine slb fun u y9 hd=>?_;have e9:u 9=.int .i64 (w.now+w.delay):=hd 9 kr;simp only[e9];refine slr rfl rfl rfl rfl ?_;intro K9 hK;go_simp;exact hK _ _ rfl ex (by rw[←HQ.out];rfl)
  ·refine slb fun u y9 hd=>?_;have e12:u 12=.agg #[i,q,x.kind,x.term,x.at_,x.before,.slice E x.recs.length j,x.acked]:=hd 12 kr;simp only[e12];refine slr rfl rfl rfl rfl ?_;intro K9 hK;go_simp;exact hK _ _ rfl ex ⟨_,rfl,Sl.alloc' sg (by simp) (by simp)⟩
 ·intro u w2 hx2 hT hdd;obtain⟨t0,t1,t2,t3,t4,t5,t6,t7,t8,t9,t10,t11,t12,t13,-⟩:=hT;obtain⟨y9,rfl⟩:=hx2.get;clear hx2;obtain⟨D3,K3,e3,h3⟩:=t3;obtain⟨g13,e13,s13⟩:=t13;clear hdd;simp only[e3,e13];clear e3 e13 t0 t1 t2 t4 t5 t6 t7 t8 t9 t10 t11 t12;simp only[List.drop_succ_cons,List.drop_zero];have hxx:Ext W9 (xt W9.drew y9):=ex
  go_wp2_with (first
   |(at_builtin;refine za6 (w0:=W9) rfl _ _ 44 44 rfl 120 120 8 80 underlying44 underlying44 info_L5 dk hxx D3 w.mail.length K3 (xs.map ltrR) rfl h3 (some ⟨g13,0,none⟩) 1 1 [[i,q,x.kind,x.term,x.at_,x.before,.slice E x.recs.length j,x.acked]] rfl s13 rfl (zon [(⟨i,q,x⟩,E,j)]) (by unfold maxLen;omega) om (w.mail.length+1) rfl ((xs++[((⟨i,q,x⟩:Ltr),E,j)]).map ltrR) (by rw[List.map_append];rfl) ?_;intro M5 m5 V5 hx5 hown5 hg5 hA5;have hb5:=k3.mono hx5)
   |(refine zae rfl 44 (.tmp 31) (.tmp 30) rfl hb5 20 rfl (.slice M5 (w.mail.length+1) m5) rfl (show 20<21 by decide) (show 21<44 by decide) kr rfl (Lz w w.delay false w.a.node w.a.node.speaks w.a.node.next A c w.a.up w.a.quiet w.b.node w.b.node.speaks w.b.node.next B d w.b.up w.b.quiet M5 (w.mail.length+1) m5) rfl ?_;intro V6 ht6 hb6;have hrw:=hb6.row (n:=21) rfl;have k66:=(k6.mono hx5).turn ht6 om)
   |(refine za2 rfl 46 (.tmp 6) (.tmp 32) rfl (k66.mono ex) rfl (Lz w w.delay false w.a.node w.a.node.speaks w.a.node.next A c w.a.up w.a.quiet w.b.node w.b.node.speaks w.b.node.next B d w.b.up w.b.quiet M5 (w.mail.length+1) m5) rfl rfl (show 21<44 by decide) kr (cells_one _ rfl) ?_;intro V2 ht2 hb2))
  refine bodyPost_ret (v:=.agg ((Lz w w.delay false w.a.node w.a.node.speaks w.a.node.next A c w.a.up w.a.quiet w.b.node w.b.node.speaks w.b.node.next B d w.b.up w.b.quiet M5 (w.mail.length+1) m5):List Value).toArray) (results_one (i:=6) (by simp[results138]) rfl hb2.range rfl) rfl ?_;have hV6:Ext W V6:=ht6.ext (x9.trans hx5) (Nat.le_refl _);have hV:Ext W V2:=ht2.ext (hV6.trans ex) om;have ho:=((hown5.pass om ht6 om).mono (show Ext V6 _ from ex)).pass om ht2 om;refine⟨A,c,B,d,M5,m5,xs++[((⟨i,q,x⟩:Ltr),E,j)],by simp,hV,⟨HW.out.ext.trans hV,HW.out.qa.mono hV,HW.out.qb.mono hV,ho.sl,by have:=ho.le;rw[List.length_append,hxn];exact this,ho.cap,by rw[List.map_append,HW.out.is];rfl,fun z hz=> ?_⟩,fun g hg _=> .inr fun p hp=>by have:=hown5.far om p hp;have:=x9.size;omega⟩;rcases List.mem_append.1 hz with hz|hz
  ·exact(HW.out.el z hz).mono hV
  ·simp only[List.mem_singleton] at hz;subst hz;exact HX.out.mono hV
theorem r55_posted (h:WldW w0 W w A c B d M k xs)(hn0:0≤w.now)(hn1:w.now≤1048576)(hd0:0≤w.delay)(hd1:w.delay≤8)(hl:w.mail.length≤256)(i:Int)(x:Msg)(E:Option Addr)(j:Nat)(hx:LogW w0 W E x.recs.length j x.recs){u:Wld}(hu:postW w i x=u):Calls prog 138 #[.agg (Lw w A c B d M k),i,.agg (Lm x E j)] W (RetW w0 W M xs u):=by
 subst hu;by_cases hno:w.cut=true∨w.mail.length=256
 ·exact r55_posted_no h hno i x E j
 ·have h1:w.cut=false:=by
   cases hc:w.cut
   ·rfl
   ·exact absurd (.inl hc) hno
  exact r55_posted_go h hn0 hn1 hd0 hd1 h1 om i x E j hx
end
