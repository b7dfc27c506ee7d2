import Derived.Test.YtnpdghjpcnjokaaGreatGlog
namespace Go.Proofs.YtnpdghjpcnjokaaGreat

structure Rec where
 term:Int
 act:Acn
structure Nod where
 id:Int
 term:Int
 speaks:Bool
 log:List Rec
 acked:Int
 next:Int
structure Msg where
 kind:Int
 term:Int
 at_:Int
 before:Int
 recs:List Rec
 acked:Int
def nod0:Nod:=⟨0,0,false,[],0,0⟩
def msg0:Msg:=⟨0,0,0,0,[],0⟩
structure RX where
  k:Nat
def Ln (_:Nod) (_:Option Addr) (_:Nat):RX:=⟨0⟩
instance (x : Nod) (A : Option Addr) (a : Nat) : CoeDep RX (Ln x A a) (List Value) := ⟨[x.id, .int .i64 x.term, .bool x.speaks, .slice A x.log.length a, .int .i64 x.acked, .int .i64 x.next]⟩
instance (x : Nod) (A : Option Addr) (a : Nat) : CoeDep RX (Ln x A a) (Array Value) := ⟨#[x.id, .int .i64 x.term, .bool x.speaks, .slice A x.log.length a, .int .i64 x.acked, .int .i64 x.next]⟩
def Lm (_:Msg) (_:Option Addr) (_:Nat):RX:=⟨0⟩
instance (x : Msg) (A : Option Addr) (a : Nat) : CoeDep RX (Lm x A a) (List Value) := ⟨[x.kind, .int .i64 x.term, .int .i64 x.at_, .int .i64 x.before, .slice A x.recs.length a, .int .i64 x.acked]⟩
instance (x : Msg) (A : Option Addr) (a : Nat) : CoeDep RX (Lm x A a) (Array Value) := ⟨#[x.kind, .int .i64 x.term, .int .i64 x.at_, .int .i64 x.before, .slice A x.recs.length a, .int .i64 x.acked]⟩
def La (_:Msg):RX:=⟨0⟩
instance (x : Msg) : CoeDep RX (La x) (List Value) := ⟨[x.kind, .int .i64 x.term, .int .i64 x.at_, .int .i64 0, .slice none 0 0, .int .i64 0]⟩
instance (x : Msg) : CoeDep RX (La x) (Array Value) := ⟨#[x.kind, .int .i64 x.term, .int .i64 x.at_, .int .i64 0, .slice none 0 0, .int .i64 0]⟩
def Zn:RX:=⟨0⟩
instance : CoeDep RX (Zn) (List Value) := ⟨[zI, .int .i64 0, .bool false, .slice none 0 0, .int .i64 0, .int .i64 0]⟩
instance : CoeDep RX (Zn) (Array Value) := ⟨#[zI, .int .i64 0, .bool false, .slice none 0 0, .int .i64 0, .int .i64 0]⟩
def Zm:RX:=⟨0⟩
instance : CoeDep RX (Zm) (List Value) := ⟨[zI, .int .i64 0, .int .i64 0, .int .i64 0, .slice none 0 0, .int .i64 0]⟩
instance : CoeDep RX (Zm) (Array Value) := ⟨#[zI, .int .i64 0, .int .i64 0, .int .i64 0, .slice none 0 0, .int .i64 0]⟩

def ownB (id term:Int):Bool:=decide (1≤term∧term % 2=id % 2)
noncomputable def recS (low high:Int) (q:Option Rec) (r:Rec):Int:=
 if r.term<1∨high<r.term then 2 else if acnE r.act≠0 then acnE r.act else
  match q with
  |some p=>if r.term<p.term∨r.act.at_<p.act.at_ then 9 else 0
  |none=>if r.term<low then 9 else 0
noncomputable def recsE (low high:Int) (l:List Rec):Int:=scan (recS low high) none l
noncomputable def nodE (n:Nod):Int:=
 if n.id<1∨2<n.id∨n.term<0∨1048576<n.term then 2
 else if n.speaks=true∧ownB n.id n.term=false then 16
 else if 256<n.log.length then 5
 else if recsE 1 n.term n.log≠0 then recsE 1 n.term n.log
 else if n.acked<0∨(n.log.length:Int)<n.acked∨n.next<0∨(if n.speaks=true then(n.log.length:Int) else 0)<n.next then 2 else 0
noncomputable def appE (m:Msg):Int:=
 if m.before<(if 0<m.at_ then 1 else 0)∨(if 0<m.at_ then m.term else 0)<m.before then 2
 else if 16<m.recs.length then 5
 else if recsE m.before m.term m.recs≠0 then recsE m.before m.term m.recs
 else if m.acked<0∨256<m.acked then 2 else 0
def ansE (m:Msg):Int:=if m.before≠0∨m.recs≠[]∨m.acked≠0 then 3 else 0
noncomputable def msgE (m:Msg):Int:=
 if m.kind<0∨2<m.kind then 1
 else if m.term<1∨1048576<m.term∨m.at_<0∨256<m.at_ then 2
 else if m.kind=0 then appE m else ansE m

def newV (id:Int):Nod×Int:=if id<1∨2<id then(nod0,2) else(⟨id,0,false,[],0,0⟩,0)
def ledN (n:Nod) (term:Int):Nod:=⟨n.id,term,true,n.log,n.acked,n.log.length⟩
noncomputable def leadV (n:Nod) (term:Int):Nod×Int:=
 if nodE n≠0 then(nod0,nodE n)
 else if term<1∨1048576<term then(nod0,2)
 else if ownB n.id term=false then(nod0,11)
 else if term≤n.term then(nod0,9) else(ledN n term,0)
def actN (n:Nod) (a:Acn):Nod:=⟨n.id,n.term,n.speaks,n.log++[⟨n.term,a⟩],n.acked,n.next⟩
def early (l:List Rec) (a:Acn):Bool:=match l.getLast? with|some r=>decide (a.at_<r.act.at_)|none=>false
noncomputable def actV (n:Nod) (a:Acn):Nod×Int:=
 if nodE n≠0 then(nod0,nodE n)
 else if n.speaks=false then(nod0,16)
 else if acnE a≠0 then(nod0,acnE a)
 else if early n.log a=true then(nod0,9)
 else if n.log.length=256 then(nod0,5) else(actN n a,0)
def zaQ (l:List Rec) (k:Int):Int:=if k<0 then 0 else match l[k.toNat]? with|some r=>r.term|none=>0
def sentM (n:Nod):Msg:=⟨0,n.term,n.next,if 0<n.next then zaQ n.log (n.next - 1) else 0,(n.log.drop n.next.toNat).take 16,n.acked⟩
noncomputable def sendV (n:Nod):Msg×Int:=if nodE n≠0 then(msg0,nodE n) else if n.speaks=false then(msg0,16) else(sentM n,0)
def ansM (n:Nod) (kind at_:Int):Msg:=⟨kind,n.term,at_,0,[],0⟩
def keepN:List Rec→List Rec→Nat
 |x::l,y::m=>if x.term=y.term then keepN l m+1 else 0
 |_,_=>0
def tookL (n:Nod) (m:Msg):List Rec:=
 let at_:=m.at_.toNat
 let k:=keepN (n.log.drop at_) m.recs
 if k<m.recs.length then n.log.take (at_+k)++m.recs.drop k else n.log
noncomputable def takeV (n:Nod) (m:Msg):Nod×Msg×Bool×Int:=
 let k:=keepN (n.log.drop m.at_.toNat) m.recs
 if(n.log.length:Int)<m.at_ then(n,ansM n 2 n.log.length,true,0)
 else if 0<m.at_∧zaQ n.log (m.at_ - 1)≠m.before then(n,ansM n 2 (m.at_ - 1),true,0)
 else if k<m.recs.length∧m.at_+k<min n.acked n.log.length then(n,msg0,false,19)
 else if 256<(tookL n m).length then(n,msg0,false,5)
 else if recsE 1 n.term (tookL n m)≠0 then(n,msg0,false,9)
 else(⟨n.id,n.term,n.speaks,tookL n m,max n.acked (min m.acked (m.at_+m.recs.length)),n.next⟩,ansM n 1 (m.at_+m.recs.length),true,0)
def ackN (n:Nod) (m:Msg):Nod:=if n.speaks=true∧m.at_≤n.log.length then⟨n.id,n.term,n.speaks,n.log,max n.acked m.at_,max n.next m.at_⟩ else n
def zar (n:Nod) (m:Msg):Nod:=if n.speaks=true then⟨n.id,n.term,n.speaks,n.log,n.acked,max (min n.next m.at_) n.acked⟩ else n
def inTerm (n:Nod) (m:Msg):Nod:=if n.term<m.term then⟨n.id,m.term,false,n.log,n.acked,0⟩ else n
noncomputable def recdV (n:Nod) (m:Msg):Nod×Msg×Bool×Int:=
 if m.term<n.term then(if m.kind=0 then(n,ansM n 2 0,true,0) else(n,msg0,false,0))
 else if m.kind=0 then takeV (inTerm n m) m
 else if m.kind=1 then(ackN (inTerm n m) m,msg0,false,0)
 else(zar (inTerm n m) m,msg0,false,0)
noncomputable def recvV (n:Nod) (m:Msg):Nod×Msg×Bool×Int:=
 if nodE n≠0 then(nod0,msg0,false,nodE n)
 else if msgE m≠0 then(nod0,msg0,false,msgE m)
 else if m.kind=0∧ownB n.id m.term=true then(nod0,msg0,false,11)
 else if(recdV n m).2.2.2≠0 then(nod0,msg0,false,(recdV n m).2.2.2) else recdV n m
noncomputable def sameR (x y:Rec):Bool:=decide (x.term=y.term) && sameA x.act y.act
noncomputable def zaR:List Rec→List Rec→Bool
 |[],[]=>true
 |x::l,y::m=>sameR x y && zaR l m
 |_,_=>false
noncomputable def sameN (a b:Nod):Bool:=decide (a.id=b.id) && decide (a.term=b.term) && (a.speaks==b.speaks) && decide (a.acked=b.acked) && decide (a.next=b.next) && zaR a.log b.log
noncomputable def sameM (a b:Msg):Bool:=decide (a.kind=b.kind) && decide (a.term=b.term) && decide (a.at_=b.at_) && decide (a.before=b.before) && decide (a.acked=b.acked) && zaR a.recs b.recs
noncomputable def zaJ (a b:Nod):Bool:=zaR a.log (b.log.take a.log.length) && decide (a.acked=a.log.length) && decide (b.acked=a.log.length)
noncomputable def zaK:Nat→Int→Nod→Nod→Nod×Nod×Int×Int
 |0,_,_,_=>(nod0,nod0,0,16)
 |f+1,k,a,b=>
  if zaJ a b=true then(a,b,k,0)
  else if(recvV b (sentM a)).2.2.2≠0 then(nod0,nod0,0,(recvV b (sentM a)).2.2.2)
  else if(recvV b (sentM a)).2.2.1=false then zaK f (k+1) a (recvV b (sentM a)).1
  else if(recvV a (recvV b (sentM a)).2.1).2.2.2≠0 then(nod0,nod0,0,(recvV a (recvV b (sentM a)).2.1).2.2.2)
  else zaK f (k+1) (recvV a (recvV b (sentM a)).2.1).1 (recvV b (sentM a)).1
noncomputable def zaS (a b:Nod):Nod×Nod×Int×Int:=
 if nodE a≠0 then(nod0,nod0,0,nodE a)
 else if nodE b≠0 then(nod0,nod0,0,nodE b)
 else if a.id=b.id then(nod0,nod0,0,11)
 else if a.speaks=false∨a.term<b.term then(nod0,nod0,0,16)
 else zaK 521 0 a b
noncomputable def zb0 (n:Nod):List Acn×Int:=if nodE n≠0 then([],nodE n) else((n.log.take n.acked.toNat).map (·.act),0)

structure zbY (low high : Int) (l : List Rec) : Prop where
 lo:∀r∈l,low≤r.term
 pos:∀r∈l,1≤r.term
 hi:∀r∈l,r.term≤high
 act:∀r∈l,acnE r.act=0
 asc:l.Pairwise fun a b=>a.term≤b.term∧a.act.at_≤b.act.at_
theorem zbY.nil (low high:Int):zbY low high []:=⟨by simp,by simp,by simp,by simp,List.Pairwise.nil⟩
theorem zbY.sub {low high:Int}{l l':List Rec}(h:zbY low high l)(hs:l'.Sublist l):zbY low high l':=
 ⟨fun r hr=>h.lo r (hs.subset hr),fun r hr=>h.pos r (hs.subset hr),fun r hr=>h.hi r (hs.subset hr),fun r hr=>h.act r (hs.subset hr),h.asc.sublist hs⟩
theorem zbY.wide {low high low' high':Int}{l:List Rec}(h:zbY low high l)(h1:low'≤low∨low'≤1)(h2:high≤high'):zbY low' high' l:=
 ⟨fun r hr=>by have:=h.lo r hr;have:=h.pos r hr;omega,h.pos,fun r hr=>by have:=h.hi r hr;omega,h.act,h.asc⟩
theorem zq6 {low high:Int}{q:Option Rec}{r:Rec}(h:recS low high q r=0):1≤r.term∧r.term≤high∧acnE r.act=0∧(∀p,q=some p→p.term≤r.term∧p.act.at_≤r.act.at_)∧(q=none→low≤r.term):=by
 unfold recS at h;split at h
 ·omega
 split at h
 ·contradiction
 rename_i h1 h2;refine⟨by omega,by omega,by simpa using h2,?_,?_⟩
 ·rintro p rfl;simp only at h;split at h<;>omega
 ·rintro rfl;simp only at h;split at h<;>omega
theorem recS_ok {low high:Int}{q:Option Rec}{r:Rec}(h1:1≤r.term)(h2:r.term≤high)(h3:acnE r.act=0)(h4:∀p,q=some p→p.term≤r.term∧p.act.at_≤r.act.at_)(h5:q=none→low≤r.term):recS low high q r=0:=by
 unfold recS;rw[if_neg om,if_neg (by simpa using h3)];cases q with
 |none=>have:=h5 rfl;simp only;rw[if_neg om]
 |some p=>have:=h4 p rfl;simp only;rw[if_neg om]
theorem zCU:∀(l:List Rec) (_:∀k a b,l[k]?=some a→l[k+1]?=some b→a.term≤b.term∧a.act.at_≤b.act.at_),l.Pairwise fun a b=>a.term≤b.term∧a.act.at_≤b.act.at_
 |[],_=>List.Pairwise.nil
 |[a],_=>by simp
 |a::b::r,h=>by
  have h1:=zCU (b::r) (fun k x y hx hy=>h (k+1) x y (by simpa using hx) (by simpa using hy));have h0:=h 0 a b rfl rfl;refine List.Pairwise.cons (fun y hy=> ?_) h1;rcases List.mem_cons.1 hy with rfl|hy
  ·exact h0
  ·have:=(List.pairwise_cons.1 h1).1 y hy;omega
theorem zl4 {l:List Rec}(h:l.Pairwise fun a b=>a.term≤b.term∧a.act.at_≤b.act.at_){i j:Nat}{a b:Rec}(hij:i<j)(ha:l[i]?=some a)(hb:l[j]?=some b):a.term≤b.term∧a.act.at_≤b.act.at_:=by obtain⟨h1,rfl⟩:=List.getElem?_eq_some_iff.1 ha;obtain⟨h2,rfl⟩:=List.getElem?_eq_some_iff.1 hb;exact List.pairwise_iff_getElem.1 h i j h1 h2 hij
theorem zgM (low high:Int)(l:List Rec):recsE low high l=0↔zbY low high l:=by
 constructor
 ·intro h;have hk:=ze3 (recS low high) l h;have hasc:=zCU l fun k a b ha hb=>(zq6 (by have:=hk (k+1) b hb;rwa [zbk,ha] at this)).2.2.2.1 a rfl;refine⟨fun r hr=> ?_,fun r hr=> ?_,fun r hr=> ?_,fun r hr=> ?_,hasc⟩
  all_goals
   obtain⟨k,hk'⟩:=List.getElem?_of_mem hr;have h1:=zq6 (hk k r hk')
  ·cases l with
   |nil=>simp at hr
   |cons a t=>
    have h0:=(zq6 (hk 0 a rfl)).2.2.2.2 rfl;rcases List.mem_cons.1 hr with rfl|hr
    ·exact h0
    ·have:=(List.pairwise_cons.1 hasc).1 r hr;omega
  ·exact h1.1
  ·exact h1.2.1
  ·exact h1.2.2.1
 ·intro h;refine zf2 _ l fun k r hk=> ?_;have hm:=List.mem_of_getElem? hk;refine recS_ok (h.pos r hm) (h.hi r hm) (h.act r hm) ?_ ?_
  ·intro p hp;cases k with
   |zero=>simp[prv] at hp
   |succ k=>rw[zbk] at hp;exact zl4 h.asc (Nat.lt_succ_self k) hp hk
  ·intro _;exact h.lo r hm
theorem zbY.append {low high:Int}{a b:List Rec}(ha:zbY low high a)(hb:zbY low high b)(h:∀x,a.getLast?=some x→∀y,b.head?=some y→x.term≤y.term∧x.act.at_≤y.act.at_):zbY low high (a++b):=by
 refine⟨fun r hr=> ?_,fun r hr=> ?_,fun r hr=> ?_,fun r hr=> ?_,List.pairwise_append.2 ⟨ha.asc,hb.asc,fun x hx y hy=> ?_⟩⟩
 ·rcases List.mem_append.1 hr with hr|hr
  ·exact ha.lo r hr
  ·exact hb.lo r hr
 ·rcases List.mem_append.1 hr with hr|hr
  ·exact ha.pos r hr
  ·exact hb.pos r hr
 ·rcases List.mem_append.1 hr with hr|hr
  ·exact ha.hi r hr
  ·exact hb.hi r hr
 ·rcases List.mem_append.1 hr with hr|hr
  ·exact ha.act r hr
  ·exact hb.act r hr
 ·have h1:∃z,a.getLast?=some z∧x.term≤z.term∧x.act.at_≤z.act.at_:=by
   obtain⟨i,hi⟩:=List.getElem?_of_mem hx;have hlt:=(List.getElem?_eq_some_iff.1 hi).1;refine⟨a[a.length - 1]' om,?_,?_⟩
   ·rw[List.getLast?_eq_getElem?,List.getElem?_eq_getElem om]
   ·by_cases he:i=a.length - 1
    ·subst he;obtain⟨_,rfl⟩:=List.getElem?_eq_some_iff.1 hi;omega
    ·exact zl4 ha.asc (show i<a.length - 1 by omega) hi (List.getElem?_eq_getElem om)
  have h2:∃z,b.head?=some z∧z.term≤y.term∧z.act.at_≤y.act.at_:=by
   cases b with
   |nil=>simp at hy
   |cons z t=>
    refine⟨z,rfl,?_⟩;rcases List.mem_cons.1 hy with rfl|hy
    ·omega
    ·exact(List.pairwise_cons.1 hb.asc).1 y hy
  obtain⟨z,hz,hz1,hz2⟩:=h1;obtain⟨u,hu,hu1,hu2⟩:=h2;have:=h z hz u hu;omega

structure NodOk (n : Nod) : Prop where
 id1:1≤n.id
 id2:n.id≤2
 t0:0≤n.term
 t1:n.term≤1048576
 own:n.speaks=true→ownB n.id n.term=true
 len:n.log.length≤256
 recs:zbY 1 n.term n.log
 a0:0≤n.acked
 a1:n.acked≤n.log.length
 n0:0≤n.next
 n1:n.next≤n.log.length
 n2:n.speaks=false→n.next=0
theorem zal (n:Nod):nodE n=0↔NodOk n:=by
 unfold nodE;constructor
 ·intro h;split at h
  ·omega
  split at h
  ·omega
  split at h
  ·omega
  split at h
  ·contradiction
  rename_i h1 h2 h3 h4;have h6:=(zgM 1 n.term n.log).1 (by simpa using h4);have h5:¬(n.acked<0∨(n.log.length:Int)<n.acked∨n.next<0∨(if n.speaks=true then(n.log.length:Int) else 0)<n.next):=fun hc=>by rw[if_pos hc] at h;cases h
  refine⟨by omega,by omega,by omega,by omega,fun hs=> ?_,by omega,h6,by omega,by omega,by omega,?_,fun hs=> ?_⟩
  ·cases ho:ownB n.id n.term
   ·exact absurd ⟨hs,ho⟩ h2
   ·rfl
  ·by_cases hs:n.speaks=true
   ·rw[if_pos hs] at h5;omega
   ·rw[if_neg hs] at h5;omega
  ·rw[hs] at h5;simp at h5;omega
 ·intro h;have h1:=h.id1;have h2:=h.id2;have h3:=h.t0;have h4:=h.t1;have h5:=h.len;have h6:=h.a0;have h7:=h.a1;have h8:=h.n0;have h9:=h.n1;rw[if_neg om,if_neg,if_neg om,if_neg (by simpa using (zgM 1 n.term n.log).2 h.recs),if_neg]
  ·cases hs:n.speaks
   ·have:=h.n2 hs;simp;omega
   ·simp;omega
  ·rintro⟨hs,ho⟩;rw[h.own hs] at ho;cases ho
structure AppOk (m : Msg) : Prop where
 b0:m.at_=0→m.before=0
 b1:0<m.at_→1≤m.before∧m.before≤m.term
 len:m.recs.length≤16
 recs:zbY m.before m.term m.recs
 a0:0≤m.acked
 a1:m.acked≤256
structure MsgOk (m : Msg) : Prop where
 k0:0≤m.kind
 k1:m.kind≤2
 t0:1≤m.term
 t1:m.term≤1048576
 at0:0≤m.at_
 at1:m.at_≤256
 app:m.kind=0→AppOk m
 ans:m.kind≠0→m.before=0∧m.recs=[]∧m.acked=0
theorem zzM (m:Msg)(h0:0≤m.at_):appE m=0↔AppOk m:=by
 unfold appE;constructor
 ·intro h;have h1:¬(m.before<(if 0<m.at_ then 1 else 0)∨(if 0<m.at_ then m.term else 0)<m.before):=fun hc=>by rw[if_pos hc] at h;cases h
  rw[if_neg h1] at h;have h2:¬16<m.recs.length:=fun hc=>by rw[if_pos hc] at h;cases h
  rw[if_neg h2] at h;have h3:recsE m.before m.term m.recs=0:=by
   by_cases hc:recsE m.before m.term m.recs=0
   ·exact hc
   ·rw[if_pos hc] at h;exact h
  rw[if_neg (by simpa using h3)] at h;have h4:¬(m.acked<0∨256<m.acked):=fun hc=>by rw[if_pos hc] at h;cases h
  refine⟨fun ha=> ?_,fun ha=> ?_,by omega,(zgM _ _ _).1 h3,by omega,by omega⟩
  ·rw[if_neg om,if_neg om] at h1;omega
  ·rw[if_pos ha,if_pos ha] at h1;omega
 ·intro h;have h1:=h.len;have h2:=h.a0;have h3:=h.a1;rw[if_neg,if_neg om,if_neg (by simpa using (zgM _ _ _).2 h.recs),if_neg om];by_cases ha:0<m.at_
  ·rw[if_pos ha,if_pos ha];have:=h.b1 ha;omega
  ·rw[if_neg ha,if_neg ha];have:=h.b0 om;omega
theorem zcp (m:Msg):msgE m=0↔MsgOk m:=by
 unfold msgE;constructor
 ·intro h;split at h
  ·omega
  split at h
  ·omega
  rename_i h1 h2;split at h
  ·rename_i h3;exact⟨by omega,by omega,by omega,by omega,by omega,by omega,fun _=>(zzM m om).1 h,fun h4=>absurd h3 h4⟩
  ·rename_i h3;unfold ansE at h;split at h
   ·omega
   ·rename_i h4;refine⟨by omega,by omega,by omega,by omega,by omega,by omega,fun h5=>absurd h5 h3,fun _=> ?_⟩;refine⟨by omega,?_,by omega⟩;by_cases h5:m.recs=[]
    ·exact h5
    ·exact absurd (Or.inr (Or.inl h5)) h4
 ·intro h;have h1:=h.k0;have h2:=h.k1;have h3:=h.t0;have h4:=h.t1;have h5:=h.at0;have h6:=h.at1;rw[if_neg om,if_neg om];by_cases hk:m.kind=0
  ·rw[if_pos hk];exact(zzM m h5).2 (h.app hk)
  ·rw[if_neg hk];unfold ansE;obtain⟨a,b,c⟩:=h.ans hk;rw[if_neg];rintro(h|h|h)<;>contradiction

theorem zcy:∀(l r:List Rec),keepN l r≤l.length∧keepN l r≤r.length
 |[],r=>by simp[keepN]
 |_::_,[]=>by simp[keepN]
 |x::l,y::r=>by
  have:=zcy l r;unfold keepN;split
  ·simp;omega
  ·simp
theorem ze8:∀(l r:List Rec) (i:Nat),i<keepN l r→(l[i]?).map (·.term)=(r[i]?).map (·.term)
 |[],r,i,h=>by simp[keepN] at h
 |_::_,[],i,h=>by simp[keepN] at h
 |x::l,y::r,i,h=>by
  unfold keepN at h;split at h
  ·rename_i he;cases i with
   |zero=>simp[he]
   |succ i=>simpa using ze8 l r i om
  ·omega
theorem ziG:∀(l r:List Rec) (n:Nat),n≤l.length→n≤r.length→(∀i,i<n→(l[i]?).map (·.term)=(r[i]?).map (·.term))→n≤keepN l r
 |_,_,0,_,_,_=>Nat.zero_le _
 |[],_,n+1,h,_,_=>by simp at h
 |_::_,[],n+1,_,h,_=>by simp at h
 |x::l,y::r,n+1,h1,h2,h=>by unfold keepN;have h0:=h 0 om;simp at h0;rw[if_pos h0];have:=ziG l r n (by simpa using h1) (by simpa using h2) (fun i hi=>by simpa using h (i+1) om);omega
section
variable {n:Nod} {m:Msg}
theorem zsC (h:m.at_.toNat≤n.log.length):(tookL n m).take (m.at_.toNat+keepN (n.log.drop m.at_.toNat) m.recs)=n.log.take (m.at_.toNat+keepN (n.log.drop m.at_.toNat) m.recs):=by
 have hk:=(zcy (n.log.drop m.at_.toNat) m.recs).1;rw[List.length_drop] at hk;unfold tookL;simp only;split
 ·rw[List.take_append_of_le_length (by rw[List.length_take];omega),List.take_take,Nat.min_self]
 ·rfl
theorem zcr (h:m.at_.toNat≤n.log.length):(keepN (n.log.drop m.at_.toNat) m.recs<m.recs.length→(tookL n m).length=m.at_.toNat+m.recs.length)∧(¬keepN (n.log.drop m.at_.toNat) m.recs<m.recs.length→tookL n m=n.log)∧m.at_.toNat+m.recs.length≤(tookL n m).length:=by
 have hk:=zcy (n.log.drop m.at_.toNat) m.recs;rw[List.length_drop] at hk;unfold tookL;simp only;split
 ·rename_i hlt;rw[List.length_append,List.length_take,List.length_drop];exact⟨fun _=>by omega,fun hh=>absurd hlt hh,by omega⟩
 ·rename_i hlt;exact⟨fun hh=>absurd hh hlt,fun _=>rfl,by omega⟩
end

structure Taken (n : Nod) (m : Msg) : Prop where
 at_:m.at_≤n.log.length
 before:0<m.at_→zaQ n.log (m.at_ - 1)=m.before
 keep:keepN (n.log.drop m.at_.toNat) m.recs<m.recs.length→(min n.acked n.log.length:Int)≤m.at_+keepN (n.log.drop m.at_.toNat) m.recs
 len:(tookL n m).length≤256
 recs:zbY 1 n.term (tookL n m)
def tookN (n:Nod) (m:Msg):Nod:=⟨n.id,n.term,n.speaks,tookL n m,max n.acked (min m.acked (m.at_+m.recs.length)),n.next⟩
theorem zcv {n:Nod}{m:Msg}(h:Taken n m):takeV n m=(tookN n m,ansM n 1 (m.at_+m.recs.length),true,0):=by
 have h1:=h.at_;have h3:=h.len;unfold takeV;simp only;rw[if_neg om,if_neg,if_neg,if_neg om,if_neg (by simpa using (zgM _ _ _).2 h.recs)]
 ·rfl
 ·rintro⟨a,b⟩;have:=h.keep a;omega
 ·rintro⟨a,b⟩;exact b (h.before a)
theorem zdp {n:Nod}{m:Msg}(h:(n.log.length:Int)<m.at_):takeV n m=(n,ansM n 2 n.log.length,true,0):=by unfold takeV;simp only;rw[if_pos h]
theorem zc7 {n:Nod}{m:Msg}(h:m.at_≤n.log.length)(h0:0<m.at_)(h1:zaQ n.log (m.at_ - 1)≠m.before):takeV n m=(n,ansM n 2 (m.at_ - 1),true,0):=by unfold takeV;simp only;rw[if_neg om,if_pos ⟨h0,h1⟩]
theorem ze4 {n:Nod}{m:Msg}(h:(takeV n m).2.2.2=0):(n.log.length:Int)<m.at_∨(m.at_≤n.log.length∧0<m.at_∧zaQ n.log (m.at_ - 1)≠m.before)∨Taken n m:=by
 by_cases h1:(n.log.length:Int)<m.at_
 ·exact .inl h1
 by_cases h2:0<m.at_∧zaQ n.log (m.at_ - 1)≠m.before
 ·exact .inr (.inl ⟨by omega,h2.1,h2.2⟩)
 refine .inr (.inr ?_);unfold takeV at h;simp only at h;rw[if_neg h1,if_neg h2] at h;split at h
 ·simp at h
 split at h
 ·simp at h
 split at h
 ·simp at h
 rename_i h3 h4 h5;refine⟨by omega,fun h0=> ?_,fun hk=> ?_,by omega,(zgM _ _ _).1 (by simpa using h5)⟩
 ·by_cases he:zaQ n.log (m.at_ - 1)=m.before
  ·exact he
  ·exact absurd ⟨h0,he⟩ h2
 ·by_cases hh:m.at_+(keepN (n.log.drop m.at_.toNat) m.recs:Int)<min n.acked n.log.length
  ·exact absurd ⟨hk,hh⟩ h3
  ·omega

theorem NodOk.inTerm {n:Nod}{m:Msg}(hn:NodOk n)(hm:MsgOk m):NodOk (inTerm n m):=by
 unfold YtnpdghjpcnjokaaGreat.inTerm;split
 ·have:=hm.t0;exact⟨hn.id1,hn.id2,by show 0≤m.term;omega,hm.t1,(fun h=>by cases h),hn.len,hn.recs.wide (.inl (Int.le_refl _)) (by show n.term≤m.term;omega),hn.a0,hn.a1,Int.le_refl _,by show(0:Int)≤(n.log.length:Int);omega,fun _=>rfl⟩
 ·exact hn
theorem zed {α:Type}{a b:List α}{i j:Nat}(h:a.take j=b.take j)(hij:i≤j):a.take i=b.take i:=by have:=congrArg (List.take i) h;rwa [List.take_take,List.take_take,Nat.min_eq_left hij] at this
theorem Taken.kept {n:Nod}{m:Msg}(hn:NodOk n)(hm:MsgOk m)(ht:Taken n m):n.acked≤(tookL n m).length∧(tookL n m).take n.acked.toNat=n.log.take n.acked.toNat:=by
 have h1:=ht.at_;have h2:=hm.at0;have h3:=hn.a0;have h4:=hn.a1;have hl:m.at_.toNat≤n.log.length:=by omega
 obtain⟨q1,q2,q3⟩:=zcr (m:=m) hl;have hkl:=(zcy (n.log.drop m.at_.toNat) m.recs).2;by_cases hk:keepN (n.log.drop m.at_.toNat) m.recs<m.recs.length
 ·have h5:=ht.keep hk;have h6:=q1 hk;exact⟨by omega,zed (zsC hl) om⟩
 ·rw[q2 hk];exact⟨h4,rfl⟩
theorem Taken.node {n:Nod}{m:Msg}(hn:NodOk n)(hm:MsgOk m)(hk:m.kind=0)(hs:n.speaks=false)(ht:Taken n m):NodOk (tookN n m):=by
 have h1:=ht.at_;have h2:=hm.at0;have h3:=hn.a0;have h4:=hn.a1;have h5:=(hm.app hk).a0;have hl:m.at_.toNat≤n.log.length:=by omega
 have q3:=(zcr (m:=m) hl).2.2;have q4:=(ht.kept hn hm).1;refine⟨hn.id1,hn.id2,hn.t0,hn.t1,fun h=> ?_,ht.len,ht.recs,?_,?_,hn.n0,?_,hn.n2⟩
 ·rw[show(tookN n m).speaks=n.speaks from rfl,hs] at h;cases h
 ·show 0≤max n.acked (min m.acked (m.at_+m.recs.length));omega
 ·show max n.acked (min m.acked (m.at_+m.recs.length))≤(tookL n m).length;omega
 ·show n.next≤(tookL n m).length;rw[hn.n2 hs];omega
theorem zt3 {n:Nod}{k at_:Int}(hk:k=1∨k=2)(ht:1≤n.term)(ht2:n.term≤1048576)(h0:0≤at_)(h1:at_≤256):MsgOk (ansM n k at_):=
 ⟨by show 0≤k;omega,by show k≤2;omega,ht,ht2,h0,h1,fun h=>by have:k=0:=h;omega,fun _=>⟨rfl,rfl,rfl⟩⟩
structure Left (n : Nod) (m : Msg) (x : Nod) (a : Msg) (ok : Bool) : Prop where
 node:NodOk x
 id:x.id=n.id
 term:n.term≤x.term
 mine:m.term≤x.term
 acked:n.acked≤x.acked
 log:x.log.take n.acked.toNat=n.log.take n.acked.toNat
 speaks:x.speaks=true→n.speaks=true
 ans:ok=true→MsgOk a∧a.term=x.term∧a.kind≠0
theorem zbN {n:Nod}{m:Msg}(h:¬m.term<n.term):(inTerm n m).term=m.term:=by
 unfold inTerm;split
 ·rfl
 ·omega
theorem zdN (n:Nod)(m:Msg):(inTerm n m).id=n.id:=by unfold inTerm;split<;>rfl
theorem zch (n:Nod)(m:Msg):(inTerm n m).log=n.log:=by unfold inTerm;split<;>rfl
theorem zbZ (n:Nod)(m:Msg):(inTerm n m).acked=n.acked:=by unfold inTerm;split<;>rfl
theorem zfh {n:Nod}{m:Msg}(h:(inTerm n m).speaks=true):n.speaks=true∧n.term=m.term∨n.speaks=true∧m.term<n.term:=by
 unfold inTerm at h;split at h
 ·cases h
 ·by_cases h2:n.term=m.term
  ·exact .inl ⟨h,h2⟩
  ·exact .inr ⟨h,by omega⟩
theorem zb5 {n:Nod}{m:Msg}(h:n.term=m.term):inTerm n m=n:=by unfold inTerm;rw[if_neg om]
theorem zhW {n:Nod}{m:Msg}(hn:NodOk n)(ht:¬m.term<n.term)(ho:ownB n.id m.term=false):(inTerm n m).speaks=false:=by
 cases hs:(inTerm n m).speaks with
 |false=>rfl
 |true=>
  rcases zfh hs with⟨h1,h2⟩|⟨h1,h2⟩
  ·have:=hn.own h1;rw[h2,ho] at this;cases this
  ·omega
theorem zxX {n:Nod}{m:Msg}(hn:NodOk n)(hm:MsgOk m):NodOk (ackN n m):=by
 unfold ackN;split
 ·rename_i h;have h1:=hn.a0;have h2:=hn.a1;have h3:=hn.n0;have h4:=hn.n1;have h5:=hm.at0;have h6:=h.2;exact⟨hn.id1,hn.id2,hn.t0,hn.t1,hn.own,hn.len,hn.recs,by show 0≤max n.acked m.at_;omega,by show max n.acked m.at_≤(n.log.length:Int);omega,by show 0≤max n.next m.at_;omega,by show max n.next m.at_≤(n.log.length:Int);omega,fun hs=>by rw[show n.speaks=false from hs] at h;cases h.1⟩
 ·exact hn
theorem zmr {n:Nod}{m:Msg}(hn:NodOk n):NodOk (zar n m):=by
 unfold zar;split
 ·rename_i h;have h1:=hn.a0;have h2:=hn.a1;have h3:=hn.n0;have h4:=hn.n1;exact⟨hn.id1,hn.id2,hn.t0,hn.t1,hn.own,hn.len,hn.recs,hn.a0,hn.a1,by show 0≤max (min n.next m.at_) n.acked;omega,by show max (min n.next m.at_) n.acked≤(n.log.length:Int);omega,fun hs=>by rw[show n.speaks=false from hs] at h;cases h⟩
 ·exact hn
theorem zgL {n:Nod}{m:Msg}(hn:NodOk n)(hm:MsgOk m)(ho:m.kind=0→ownB n.id m.term=false)(he:(recdV n m).2.2.2=0):Left n m (recdV n m).1 (recdV n m).2.1 (recdV n m).2.2.1:=by
 have hin:=hn.inTerm hm;have hl:=hn.len;have ht1:=hn.t1;have a0:=hm.at0;have a1:=hm.at1;have m0:=hm.t0;unfold recdV at he ⊢
 by_cases ht:m.term<n.term
 ·rw[if_pos ht] at he ⊢
  by_cases hk:m.kind=0
  ·rw[if_pos hk];exact⟨hn,rfl,Int.le_refl _,by show m.term≤n.term;omega,Int.le_refl _,rfl,id,fun _=>⟨zt3 (.inr rfl) om ht1 om om,rfl,by show(2:Int)≠0;omega⟩⟩
  ·rw[if_neg hk];exact⟨hn,rfl,Int.le_refl _,by show m.term≤n.term;omega,Int.le_refl _,rfl,id,fun h=>by cases h⟩
 ·rw[if_neg ht] at he ⊢
  have hit:=zbN ht;have hil:=zch n m;have hia:=zbZ n m;have htt:n.term≤m.term:=by omega
  have hsp:(inTerm n m).speaks=true→n.speaks=true:=fun h=>by rcases zfh h with h|h<;>exact h.1
  by_cases hk:m.kind=0
  ·rw[if_pos hk] at he ⊢
   have hq:=zhW hn ht (ho hk);have same:∀at_:Int,0≤at_→at_≤256→Left n m (inTerm n m) (ansM (inTerm n m) 2 at_) true:=fun at_ g0 g1=>⟨hin,zdN n m,by rw[hit];exact htt,by rw[hit];exact Int.le_refl _,by rw[hia];exact Int.le_refl _,by rw[hil],hsp,fun _=>⟨zt3 (.inr rfl) (by rw[hit];exact m0) (by rw[hit];exact hm.t1) g0 g1,rfl,by show(2:Int)≠0;omega⟩⟩
   rcases ze4 he with h|⟨h,h0,h1⟩|h
   ·rw[zdp h];exact same _ om (by rw[hil];omega)
   ·rw[zc7 h h0 h1];exact same _ om om
   ·rw[zcv h];have hkept:=h.kept hin hm;have h4:=h.at_;have h3:=(zcr (n:=inTerm n m) (m:=m) om).2.2;have h5:=h.len;refine⟨h.node hin hm hk hq,zdN n m,by show n.term≤(inTerm n m).term;rw[hit];exact htt,by show m.term≤(inTerm n m).term;rw[hit];exact Int.le_refl _,?_,?_,hsp,fun _=>⟨zt3 (.inl rfl) (by rw[hit];exact m0) (by rw[hit];exact hm.t1) om om,rfl,by show(1:Int)≠0;omega⟩⟩
    ·show n.acked≤max (inTerm n m).acked _;rw[hia];omega
    ·show(tookL (inTerm n m) m).take _=_;have:=hkept.2;rwa [hia,hil] at this
  ·rw[if_neg hk] at he ⊢
   by_cases hk1:m.kind=1
   ·rw[if_pos hk1] at he ⊢
    have e1:(ackN (inTerm n m) m).id=n.id:=by rw[←zdN n m];unfold ackN;split<;>rfl
    have e2:(ackN (inTerm n m) m).term=m.term:=by rw[←hit];unfold ackN;split<;>rfl
    have e3:n.acked≤(ackN (inTerm n m) m).acked:=by rw[←hia];unfold ackN;split<;>simp<;>omega
    have e4:(ackN (inTerm n m) m).log=n.log:=by rw[←hil];unfold ackN;split<;>rfl
    have e5:(ackN (inTerm n m) m).speaks=(inTerm n m).speaks:=by unfold ackN;split<;>rfl
    exact⟨zxX hin hm,e1,by rw[e2];exact htt,by rw[e2];exact Int.le_refl _,e3,by rw[e4],fun h=>hsp (by rw[←e5];exact h),fun h=>by cases h⟩
   ·rw[if_neg hk1] at he ⊢
    have e1:(zar (inTerm n m) m).id=n.id:=by rw[←zdN n m];unfold zar;split<;>rfl
    have e2:(zar (inTerm n m) m).term=m.term:=by rw[←hit];unfold zar;split<;>rfl
    have e3:n.acked≤(zar (inTerm n m) m).acked:=by rw[←hia];unfold zar;split<;>simp
    have e4:(zar (inTerm n m) m).log=n.log:=by rw[←hil];unfold zar;split<;>rfl
    have e5:(zar (inTerm n m) m).speaks=(inTerm n m).speaks:=by unfold zar;split<;>rfl
    exact⟨zmr hin,e1,by rw[e2];exact htt,by rw[e2];exact Int.le_refl _,e3,by rw[e4],fun h=>hsp (by rw[←e5];exact h),fun h=>by cases h⟩
theorem zdy {n:Nod}{m:Msg}(h:(recvV n m).2.2.2=0):NodOk n∧MsgOk m∧(m.kind=0→ownB n.id m.term=false)∧(recdV n m).2.2.2=0∧recvV n m=recdV n m:=by
 unfold recvV at h ⊢
 split at h
 ·contradiction
 split at h
 ·contradiction
 split at h
 ·simp at h
 split at h
 ·contradiction
 rename_i h1 h2 h3 h4;rw[if_neg h1,if_neg h2,if_neg h3,if_neg h4];refine⟨(zal n).1 (by simpa using h1),(zcp m).1 (by simpa using h2),fun hk=> ?_,by simpa using h4,rfl⟩;cases ho:ownB n.id m.term
 ·rfl
 ·exact absurd ⟨hk,ho⟩ h3
theorem zb8 {n:Nod}{m:Msg}(h:(recvV n m).2.2.2=0):Left n m (recvV n m).1 (recvV n m).2.1 (recvV n m).2.2.1:=by obtain⟨h1,h2,h3,h4,h5⟩:=zdy h;rw[h5];exact zgL h1 h2 h3 h4
open Go.RowKit

def mkA (t k g v:Int):Acn:=⟨t,k,g,⟨#[]⟩,v,0,⟨[],none,0⟩,⟨[],none,0⟩,⟨[],none,0⟩,zdP⟩
open Classical in
def fullA (a:Acn) (A B:Option Addr):Acn:={a with target:=max a.target 1,cue:=⟨#[49]⟩,level:=max a.level 1,time:=max a.time 1,params:=⟨[⟨1,0⟩],A,1⟩,chans:=⟨[1],B,1⟩}

open Classical in
theorem ziU {a b:Acn}:sameA a b=true↔SameA a b:=by unfold sameA;exact decide_eq_true_iff
theorem zfA {x y:Rec}:sameR x y=true↔x.term=y.term∧SameA x.act y.act:=by unfold sameR;rw[Bool.and_eq_true,decide_eq_true_eq,ziU]
theorem zby:∀(l m:List Rec),zaR l m=true↔l.length=m.length∧∀(i:Nat) (x y:Rec),l[i]?=some x→m[i]?=some y→sameR x y=true
 |[],[]=>by simp[zaR]
 |[],_::_=>by simp[zaR]
 |_::_,[]=>by simp[zaR]
 |x::l,y::m=>by
  have ih:=zby l m;simp only[zaR,Bool.and_eq_true,ih,List.length_cons];constructor
  ·rintro⟨h1,h2,h3⟩;refine⟨by omega,fun i a b ha hb=> ?_⟩;cases i with
   |zero=>simp at ha hb;subst ha hb;exact h1
   |succ i=>exact h3 i a b (by simpa using ha) (by simpa using hb)
  ·rintro⟨h1,h2⟩;exact⟨h2 0 x y rfl rfl,by omega,fun i a b ha hb=>h2 (i+1) a b (by simpa using ha) (by simpa using hb)⟩
theorem zbr (l:List Rec):zaR l l=true:=by rw[zby];refine⟨rfl,fun i x y hx hy=> ?_⟩;rw[hx] at hy;injection hy with hy;subst hy;exact zfA.2 ⟨rfl,SameA.refl _⟩
theorem zeD {i t:Int}(h:ownB i t=true):1≤t:=by unfold ownB at h;exact(of_decide_eq_true h).1
theorem zdD {l:List Rec}{k:Nat}{r:Rec}(h:l[k]?=some r):zaQ l (k:Int)=r.term:=by unfold zaQ;rw[if_neg om,Int.toNat_natCast,h]
theorem zdW {n:Nod}(hn:NodOk n)(hs:n.speaks=true):MsgOk (sentM n):=by
 have h1:=zeD (hn.own hs);have h2:=hn.n0;have h3:=hn.n1;have h4:=hn.len;have h5:=hn.a0;have h6:=hn.a1;have h7:=hn.t1;have hb:0<n.next→∃r,n.log[(n.next - 1).toNat]?=some r∧zaQ n.log (n.next - 1)=r.term:=fun h0=>by refine⟨n.log[(n.next - 1).toNat]' om,List.getElem?_eq_getElem om,?_⟩;have:=zdD (List.getElem?_eq_getElem (l:=n.log) (i:=(n.next - 1).toNat) om);rwa [Int.toNat_of_nonneg om] at this
 refine⟨Int.le_refl _,by show(0:Int)≤2;omega,h1,h7,h2,by show n.next≤256;omega,fun _=>⟨fun h0=> ?_,fun h0=> ?_,?_,?_,h5,by show n.acked≤256;omega⟩,fun h=>absurd rfl h⟩
 ·show(if 0<n.next then _ else(0:Int))=0;have h0':n.next=0:=h0;rw[if_neg om]
 ·have h0':0<n.next:=h0;show 1≤(if 0<n.next then _ else(0:Int))∧(if 0<n.next then _ else(0:Int))≤n.term;rw[if_pos h0'];obtain⟨r,hr,he⟩:=hb h0';have hm:=List.mem_of_getElem? hr;have:=hn.recs.pos r hm;have:=hn.recs.hi r hm;omega
 ·show((n.log.drop n.next.toNat).take 16).length≤16;rw[List.length_take];omega
 ·have hsub:=hn.recs.sub ((List.take_sublist 16 _).trans (List.drop_sublist n.next.toNat n.log));refine⟨fun r hr=> ?_,hsub.pos,hsub.hi,hsub.act,hsub.asc⟩;show(if 0<n.next then _ else(0:Int))≤r.term;by_cases h0:0<n.next
  ·rw[if_pos h0];obtain⟨q,hq,he⟩:=hb h0;obtain⟨j,hj⟩:=List.getElem?_of_mem (List.mem_of_mem_take hr);rw[List.getElem?_drop] at hj;have:=(zl4 hn.recs.asc (show(n.next - 1).toNat<n.next.toNat+j by omega) hq hj).1;omega
  ·rw[if_neg h0];have:=hsub.pos r hr;omega

structure Pair (a b : Nod) : Prop where
 na:NodOk a
 nb:NodOk b
 ne:¬a.id=b.id
 speaks:a.speaks=true
 term:b.term≤a.term
structure Half (L : List Rec) (n : Nat) (T : Int) (s o : Nod) : Prop where
 pair:Pair s o
 len:L.length=n+1
 log:s.log=L
 term:s.term=T
 acked:s.acked=n
 next:s.next≤n
 oacked:o.acked=n
 olen:n≤o.log.length
 same:zaR (L.take n) (o.log.take n)=true
 new:∀r,o.log[n]?=some r→r.term≠T
 last:(L[n]?).map (·.term)=some T
structure Full (L : List Rec) (n : Nat) (T : Int) (s o : Nod) : Prop where
 pair:Pair s o
 len:L.length=n+1
 log:s.log=L
 term:s.term=T
 acked:s.acked=n+1
 next:s.next=n+1
 oacked:o.acked≤n+1
 same:zaR L o.log=true
structure Done (L : List Rec) (p q : Nod) : Prop where
 np:NodOk p
 nq:NodOk q
 log:p.log=L
 same:zaR L q.log=true
 pa:p.acked=L.length
 qa:q.acked=L.length

def goA (t:Int):Acn:=mkA t 0 1 0

noncomputable def exR0:Rec:=⟨1,goA 0⟩
noncomputable def exR1:Rec:=⟨1,goA 100⟩
noncomputable def exR7:Rec:=⟨2,goA 7⟩
