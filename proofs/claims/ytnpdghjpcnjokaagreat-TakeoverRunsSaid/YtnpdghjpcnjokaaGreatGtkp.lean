import Derived.Test.YtnpdghjpcnjokaaGreatGrpl
namespace Go.Proofs.YtnpdghjpcnjokaaGreat

def acnN:Acn:=⟨0,0,0,⟨#[]⟩,0,0,⟨[],none,0⟩,⟨[],none,0⟩,⟨[],none,0⟩,zdP⟩
structure Sta where
 node:Nod
 up:Bool
 quiet:Int
structure Ltr where
 dst:Int
 at_:Int
 msg:Msg
structure Evt where
 tick:Int
 kind:Int
 station:Int
 act:Acn
 delay:Int
structure Wld where
 now:Int
 limit:Int
 delay:Int
 cut:Bool
 a:Sta
 b:Sta
 mail:List Ltr
def sta0:Sta:=⟨nod0,false,0⟩
def wld0:Wld:=⟨0,0,0,false,sta0,sta0,[]⟩
def Ls (_:Sta) (_:Option Addr) (_:Nat):RX:=⟨0⟩
instance (x : Sta) (A : Option Addr) (a : Nat) : CoeDep RX (Ls x A a) (List Value) := ⟨[x.node.id, .int .i64 x.node.term, .bool x.node.speaks, .slice A x.node.log.length a, .int .i64 x.node.acked, .int .i64 x.node.next, .bool x.up, .int .i64 x.quiet]⟩
instance (x : Sta) (A : Option Addr) (a : Nat) : CoeDep RX (Ls x A a) (Array Value) := ⟨#[x.node.id, .int .i64 x.node.term, .bool x.node.speaks, .slice A x.node.log.length a, .int .i64 x.node.acked, .int .i64 x.node.next, .bool x.up, .int .i64 x.quiet]⟩
def Ll (_:Ltr) (_:Option Addr) (_:Nat):RX:=⟨0⟩
instance (x : Ltr) (A : Option Addr) (a : Nat) : CoeDep RX (Ll x A a) (List Value) := ⟨[x.dst, .int .i64 x.at_, .int .i64 x.msg.kind, .int .i64 x.msg.term, .int .i64 x.msg.at_, .int .i64 x.msg.before, .slice A x.msg.recs.length a, .int .i64 x.msg.acked]⟩
instance (x : Ltr) (A : Option Addr) (a : Nat) : CoeDep RX (Ll x A a) (Array Value) := ⟨#[x.dst, .int .i64 x.at_, .int .i64 x.msg.kind, .int .i64 x.msg.term, .int .i64 x.msg.at_, .int .i64 x.msg.before, .slice A x.msg.recs.length a, .int .i64 x.msg.acked]⟩
def Zw:RX:=⟨0⟩
instance : CoeDep RX (Zw) (List Value) := ⟨[zI, .int .i64 0, .int .i64 0, .bool false, .int .i64 0, .int .i64 0, .bool false, .slice none 0 0, .int .i64 0, .int .i64 0, .bool false, .int .i64 0, .int .i64 0, .int .i64 0, .bool false, .slice none 0 0, .int .i64 0, .int .i64 0, .bool false, .int .i64 0, .slice none 0 0]⟩
instance : CoeDep RX (Zw) (Array Value) := ⟨#[zI, .int .i64 0, .int .i64 0, .bool false, .int .i64 0, .int .i64 0, .bool false, .slice none 0 0, .int .i64 0, .int .i64 0, .bool false, .int .i64 0, .int .i64 0, .int .i64 0, .bool false, .slice none 0 0, .int .i64 0, .int .i64 0, .bool false, .int .i64 0, .slice none 0 0]⟩
def Lw (_:Wld) (_:Option Addr) (_:Nat) (_:Option Addr) (_:Nat) (_:Option Addr) (_:Nat):RX:=⟨0⟩
instance (w : Wld) (A : Option Addr) (a : Nat) (B : Option Addr) (b : Nat) (M : Option Addr) (m : Nat) : CoeDep RX (Lw w A a B b M m) (List Value) := ⟨[w.now, .int .i64 w.limit, .int .i64 w.delay, .bool w.cut, .int .i64 w.a.node.id, .int .i64 w.a.node.term, .bool w.a.node.speaks, .slice A w.a.node.log.length a, .int .i64 w.a.node.acked, .int .i64 w.a.node.next, .bool w.a.up, .int .i64 w.a.quiet, .int .i64 w.b.node.id, .int .i64 w.b.node.term, .bool w.b.node.speaks, .slice B w.b.node.log.length b, .int .i64 w.b.node.acked, .int .i64 w.b.node.next, .bool w.b.up, .int .i64 w.b.quiet, .slice M w.mail.length m]⟩
instance (w : Wld) (A : Option Addr) (a : Nat) (B : Option Addr) (b : Nat) (M : Option Addr) (m : Nat) : CoeDep RX (Lw w A a B b M m) (Array Value) := ⟨#[w.now, .int .i64 w.limit, .int .i64 w.delay, .bool w.cut, .int .i64 w.a.node.id, .int .i64 w.a.node.term, .bool w.a.node.speaks, .slice A w.a.node.log.length a, .int .i64 w.a.node.acked, .int .i64 w.a.node.next, .bool w.a.up, .int .i64 w.a.quiet, .int .i64 w.b.node.id, .int .i64 w.b.node.term, .bool w.b.node.speaks, .slice B w.b.node.log.length b, .int .i64 w.b.node.acked, .int .i64 w.b.node.next, .bool w.b.up, .int .i64 w.b.quiet, .slice M w.mail.length m]⟩
def Lv (_:Wld) (_:Nod) (_:Option Addr) (_:Nat) (_:Bool) (_:Int) (_:Nod) (_:Option Addr) (_:Nat) (_:Bool) (_:Int) (_:Option Addr) (_:Nat):RX:=⟨0⟩
instance (w : Wld) (x : Nod) (A : Option Addr) (a : Nat) (p : Bool) (q : Int) (y : Nod) (B : Option Addr) (b : Nat) (r : Bool) (s : Int) (M : Option Addr) (m : Nat) : CoeDep RX (Lv w x A a p q y B b r s M m) (List Value) := ⟨[w.now, .int .i64 w.limit, .int .i64 w.delay, .bool w.cut, .int .i64 x.id, .int .i64 x.term, .bool x.speaks, .slice A x.log.length a, .int .i64 x.acked, .int .i64 x.next, .bool p, .int .i64 q, .int .i64 y.id, .int .i64 y.term, .bool y.speaks, .slice B y.log.length b, .int .i64 y.acked, .int .i64 y.next, .bool r, .int .i64 s, .slice M w.mail.length m]⟩
instance (w : Wld) (x : Nod) (A : Option Addr) (a : Nat) (p : Bool) (q : Int) (y : Nod) (B : Option Addr) (b : Nat) (r : Bool) (s : Int) (M : Option Addr) (m : Nat) : CoeDep RX (Lv w x A a p q y B b r s M m) (Array Value) := ⟨#[w.now, .int .i64 w.limit, .int .i64 w.delay, .bool w.cut, .int .i64 x.id, .int .i64 x.term, .bool x.speaks, .slice A x.log.length a, .int .i64 x.acked, .int .i64 x.next, .bool p, .int .i64 q, .int .i64 y.id, .int .i64 y.term, .bool y.speaks, .slice B y.log.length b, .int .i64 y.acked, .int .i64 y.next, .bool r, .int .i64 s, .slice M w.mail.length m]⟩

noncomputable def staE (id:Int) (s:Sta):Int:=
 if nodE s.node≠0 then nodE s.node
 else if s.node.id≠id then 11
 else if s.quiet<0∨1048576<s.quiet then 2 else 0
noncomputable def ltrE (x:Ltr):Int:=
 if x.dst<1∨2<x.dst∨x.at_<0∨1048576<x.at_ then 2 else msgE x.msg
noncomputable def wldE (w:Wld):Int:=
 if w.now<0∨1048576<w.now∨w.limit<1∨16<w.limit∨w.delay<1∨8<w.delay then 2
 else if staE 1 w.a≠0 then staE 1 w.a
 else if staE 2 w.b≠0 then staE 2 w.b
 else if 256<w.mail.length then 5
 else scan (fun _ x=>ltrE x) none w.mail
noncomputable def evtE (x:Evt):Int:=
 if x.kind<0∨5<x.kind then 1
 else if x.kind≤2∧(x.station<1∨2<x.station)∨x.kind=5∧(x.delay<1∨8<x.delay) then 2
 else if x.kind=0∧acnE x.act≠0 then acnE x.act
 else if ¬x.kind≤2∧x.station≠0∨x.kind≠5∧x.delay≠0∨x.kind≠0∧sameA x.act acnN=false then 3 else 0
noncomputable def evtS (q:Option Evt) (x:Evt):Int:=
 if x.tick<0∨1048576<x.tick then 2
 else match q with
  |some p=>if x.tick<p.tick then 9 else evtE x
  |none=>evtE x
noncomputable def evtsE (l:List Evt):Int:=if 256<l.length then 5 else scan evtS none l

def newW (limit delay:Int):Wld×Int:=
 if limit<1∨16<limit∨delay<1∨8<delay then(wld0,2)
 else(⟨0,limit,delay,false,⟨⟨1,1,true,[],0,0⟩,true,0⟩,⟨⟨2,0,false,[],0,0⟩,true,0⟩,[]⟩,0)
def zc6 (w:Wld):Int:=
 if w.b.up=true∧w.b.node.speaks=true∧((w.a.up=true∧w.a.node.speaks=true)→w.a.node.term<w.b.node.term) then 2
 else if w.a.up=true∧w.a.node.speaks=true then 1 else 0
noncomputable def zeP (w:Wld):Int×Int:=if wldE w≠0 then(0,wldE w) else(zc6 w,0)
def postW (w:Wld) (dst:Int) (m:Msg):Wld:=
 if w.cut=true∨256≤w.mail.length then w
 else⟨w.now,w.limit,w.delay,w.cut,w.a,w.b,w.mail++[⟨dst,min (w.now+w.delay) 1048576,m⟩]⟩
def getS (w:Wld) (i:Int):Sta:=if i=1 then w.a else w.b
def setS (w:Wld) (i:Int) (s:Sta):Wld:=if i=1 then⟨w.now,w.limit,w.delay,w.cut,s,w.b,w.mail⟩ else⟨w.now,w.limit,w.delay,w.cut,w.a,s,w.mail⟩
noncomputable def zcf (s:Sta) (x:Evt):Sta:=
 if x.kind=0 then(if s.up=true∧(actV s.node x.act).2=0 then⟨(actV s.node x.act).1,s.up,s.quiet⟩ else s)
 else if x.kind=1 then⟨s.node,false,s.quiet⟩
 else if s.up=true then s else⟨⟨s.node.id,s.node.term,false,s.node.log,s.node.acked,0⟩,true,0⟩
noncomputable def zap (w:Wld) (x:Evt):Wld:=
 if x.kind≤2 then setS w x.station (zcf (getS w x.station) x)
 else if x.kind=3 then⟨w.now,w.limit,w.delay,true,w.a,w.b,w.mail⟩
 else if x.kind=4 then⟨w.now,w.limit,w.delay,false,w.a,w.b,w.mail⟩
 else⟨w.now,w.limit,x.delay,w.cut,w.a,w.b,w.mail⟩
noncomputable def zau (w:Wld) (x:Ltr):Wld:=
 let s:=getS w x.dst
 let r:=recvV s.node x.msg
 if s.up=false∨r.2.2.2≠0 then w
 else
  let w':=setS w x.dst ⟨r.1,s.up,if x.msg.kind=0∧x.msg.term=r.1.term then 0 else s.quiet⟩
  if r.2.2.1=true then postW w' (3 - x.dst) r.2.1 else w'
noncomputable def leadS (limit:Int) (s:Sta):Sta:=
 let q:=min (s.quiet+1) 1048576
 if q≤limit then⟨s.node,s.up,q⟩
 else if(leadV s.node (s.node.term+1)).2=0 then⟨(leadV s.node (s.node.term+1)).1,s.up,0⟩
 else if(leadV s.node (s.node.term+2)).2=0 then⟨(leadV s.node (s.node.term+2)).1,s.up,0⟩
 else⟨s.node,s.up,q⟩
noncomputable def workW (w:Wld) (id:Int):Wld:=
 if(getS w id).up=false then w
 else
  let s:=if(getS w id).node.speaks=true then getS w id else leadS w.limit (getS w id)
  if s.node.speaks=true then postW (setS w id s) (3 - id) (sentM s.node) else setS w id s
noncomputable def dueL (now:Int) (l:List Ltr):List Ltr:=l.filter fun x=>decide (x.at_≤now)
noncomputable def lateL (now:Int) (l:List Ltr):List Ltr:=l.filter fun x=> !decide (x.at_≤now)
noncomputable def tickW (w:Wld) (l:List Evt):Wld:=
 let w1:=l.foldl zap w
 let w2:Wld:=⟨w1.now,w1.limit,w1.delay,w1.cut,w1.a,w1.b,lateL w1.now w1.mail⟩
 let w3:=workW (workW ((dueL w1.now w1.mail).foldl zau w2) 1) 2
 ⟨w3.now+1,w3.limit,w3.delay,w3.cut,w3.a,w3.b,w3.mail⟩
noncomputable def tickV (w:Wld) (l:List Evt):Wld×Int:=
 if wldE w≠0 then(wld0,wldE w)
 else if evtsE l≠0 then(wld0,evtsE l)
 else if w.now=1048576 then(wld0,24) else(tickW w l,0)
noncomputable def atL (l:List Evt) (t:Int):List Evt:=l.filter fun x=>decide (x.tick=t)
noncomputable def runW (l:List Evt):Nat→Wld→Wld
 |0,w=>w
 |n+1,w=>runW l n (tickW w (atL l w.now))
noncomputable def zce (l:List Evt):Nat→Wld→List Int
 |0,_=>[]
 |n+1,w=>zc6 (tickW w (atL l w.now))::zce l n (tickW w (atL l w.now))
noncomputable def gaveE (w:Wld) (l:List Evt) (ticks:Int):Int:=
 if wldE w≠0 then wldE w
 else if evtsE l≠0 then evtsE l
 else if ticks<0∨4096<ticks then 2
 else if 1048576<w.now+ticks then 24 else 0
noncomputable def runV (w:Wld) (l:List Evt) (ticks:Int):Wld×Int:=if gaveE w l ticks≠0 then(wld0,gaveE w l ticks) else(runW l ticks.toNat w,0)
noncomputable def traceV (w:Wld) (l:List Evt) (ticks:Int):List Int×Int:=if gaveE w l ticks≠0 then([],gaveE w l ticks) else(zce l ticks.toNat w,0)
noncomputable def sameSt (x y:Sta):Bool:=(x.up==y.up) && decide (x.quiet=y.quiet) && sameN x.node y.node
noncomputable def sameLt (x y:Ltr):Bool:=decide (x.dst=y.dst) && decide (x.at_=y.at_) && sameM x.msg y.msg
noncomputable def zF5:List Ltr→List Ltr→Bool
 |[],[]=>true
 |x::l,y::m=>sameLt x y && zF5 l m
 |_,_=>false
noncomputable def sameWl (x y:Wld):Bool:=decide (x.now=y.now) && decide (x.limit=y.limit) && decide (x.delay=y.delay) && (x.cut==y.cut) && sameSt x.a y.a && sameSt x.b y.b && zF5 x.mail y.mail

structure StaOk (id : Int) (s : Sta) : Prop where
 node:NodOk s.node
 id:s.node.id=id
 q0:0≤s.quiet
 q1:s.quiet≤1048576
structure LtrOk (x : Ltr) : Prop where
 d0:1≤x.dst
 d1:x.dst≤2
 a0:0≤x.at_
 a1:x.at_≤1048576
 msg:MsgOk x.msg
structure WldOk (w : Wld) : Prop where
 n0:0≤w.now
 n1:w.now≤1048576
 l0:1≤w.limit
 l1:w.limit≤16
 d0:1≤w.delay
 d1:w.delay≤8
 a:StaOk 1 w.a
 b:StaOk 2 w.b
 len:w.mail.length≤256
 mail:∀x∈w.mail,LtrOk x
theorem zoq (id:Int)(s:Sta):staE id s=0↔StaOk id s:=by
 unfold staE;constructor
 ·intro h;split at h
  ·contradiction
  split at h
  ·cases h
  split at h
  ·cases h
  rename_i h1 h2 h3;exact⟨(zal _).1 (by simpa using h1),by simpa using h2,by omega,by omega⟩
 ·intro h;rw[if_neg (by rw[(zal _).2 h.node];simp),if_neg (by rw[h.id];simp),if_neg (by have:=h.q0;have:=h.q1;omega)]
theorem zAc (x:Ltr):ltrE x=0↔LtrOk x:=by
 unfold ltrE;constructor
 ·intro h;split at h
  ·cases h
  ·exact⟨by omega,by omega,by omega,by omega,(zcp _).1 h⟩
 ·intro h;rw[if_neg (by have:=h.d0;have:=h.d1;have:=h.a0;have:=h.a1;omega)];exact(zcp _).2 h.msg
theorem zqg {α:Type}(f:α→Int):∀(q:Option α) (l:List α),scan (fun _ x=>f x) q l=0↔∀x∈l,f x=0
 |_,[]=>by simp[scan]
 |q,x::l=>by
  rw[scan];by_cases h:f x=0
  ·rw[if_neg (by simpa using h),zqg f (some x) l];simp[h]
  ·rw[if_pos h];simp[h]
theorem zge (w:Wld):wldE w=0↔WldOk w:=by
 unfold wldE;constructor
 ·intro h;split at h
  ·cases h
  split at h
  ·contradiction
  split at h
  ·contradiction
  split at h
  ·cases h
  rename_i h1 h2 h3 h4;refine⟨by omega,by omega,by omega,by omega,by omega,by omega,(zoq _ _).1 (by simpa using h2),(zoq _ _).1 (by simpa using h3),by omega,fun x hx=>(zAc x).1 ((zqg ltrE none _).1 h x hx)⟩
 ·intro h;have:=h.n0;have:=h.n1;have:=h.l0;have:=h.l1;have:=h.d0;have:=h.d1;rw[if_neg om,if_neg (by rw[(zoq _ _).2 h.a];simp),if_neg (by rw[(zoq _ _).2 h.b];simp),if_neg (by have:=h.len;omega)];exact(zqg ltrE none _).2 fun x hx=>(zAc x).2 (h.mail x hx)
theorem zy0 {n:Nod}{a:Acn}(hn:NodOk n)(h:(actV n a).2=0):actV n a=(actN n a,0)∧NodOk (actN n a)∧n.speaks=true∧acnE a=0∧early n.log a=false∧n.log.length<256:=by
 unfold actV at h ⊢
 rw[if_neg (by rw[(zal n).2 hn];simp)] at h ⊢
 split at h
 ·cases h
 split at h
 ·contradiction
 split at h
 ·cases h
 split at h
 ·cases h
 rename_i h2 h3 h4 h5;have hs:n.speaks=true:=by simpa using h2
 have ha:acnE a=0:=by simpa using h3
 have he:early n.log a=false:=by simpa using h4
 have hl:=hn.len;have ho:=zeD (hn.own hs);refine⟨by rw[if_neg h2,if_neg (by simpa using ha),if_neg h4,if_neg h5],?_,hs,ha,he,by omega⟩;have hro:zbY 1 n.term (n.log++[⟨n.term,a⟩]):=by refine hn.recs.append ⟨by simp;omega,by simp;omega,by simp,by simpa using ha,by simp⟩ ?_;intro x hx y hy;simp at hy;subst hy;have:=hn.recs.hi x (List.mem_of_getLast? hx);refine⟨this,?_⟩;unfold early at he;rw[hx] at he;simp at he;exact he
 have:=hn.a0;have:=hn.a1;have:=hn.n0;have:=hn.n1;exact⟨hn.id1,hn.id2,hn.t0,hn.t1,hn.own,by show(n.log++_).length≤256;simp;omega,hro,hn.a0,by show n.acked≤((n.log++_).length:Int);simp;omega,hn.n0,by show n.next≤((n.log++_).length:Int);simp;omega,hn.n2⟩
theorem ziJ {n:Nod}{T:Int}(hn:NodOk n)(h:(leadV n T).2=0):leadV n T=(ledN n T,0)∧NodOk (ledN n T)∧n.term<T:=by
 unfold leadV at h ⊢
 rw[if_neg (by rw[(zal n).2 hn];simp)] at h ⊢
 split at h
 ·cases h
 split at h
 ·cases h
 split at h
 ·cases h
 rename_i h1 h2 h3;have h2':ownB n.id T=true:=by simpa using h2
 have:=zeD h2';refine⟨by rw[if_neg h1,if_neg h2,if_neg h3],⟨hn.id1,hn.id2,by show 0≤T;omega,by show T≤1048576;omega,fun _=>h2',hn.len,hn.recs.wide (.inl (Int.le_refl _)) (by show n.term≤T;omega),hn.a0,hn.a1,by show(0:Int)≤(n.log.length:Int);omega,by show(n.log.length:Int)≤(n.log.length:Int);omega,(fun h=>by cases h)⟩,by omega⟩
theorem zDa {n:Nod}(hn:NodOk n):NodOk ⟨n.id,n.term,false,n.log,n.acked,0⟩:=
 ⟨hn.id1,hn.id2,hn.t0,hn.t1,(fun h=>by cases h),hn.len,hn.recs,hn.a0,hn.a1,Int.le_refl _,by show(0:Int)≤(n.log.length:Int);omega,fun _=>rfl⟩
structure EvtOk (x : Evt) : Prop where
 k0:0≤x.kind
 k1:x.kind≤5
 st:x.kind≤2→1≤x.station∧x.station≤2
 dl:x.kind=5→1≤x.delay∧x.delay≤8
 act:x.kind=0→acnE x.act=0
theorem zDf {x:Evt}(h:evtE x=0):EvtOk x:=by
 unfold evtE at h;split at h
 ·cases h
 split at h
 ·cases h
 split at h
 ·rename_i h3;exact absurd h h3.2
 split at h
 ·cases h
 rename_i h1 h2 h3 _;refine⟨by omega,by omega,fun hk=> ?_,fun hk=> ?_,fun hk=> ?_⟩
 ·by_cases hc:x.station<1∨2<x.station
  ·exact absurd (.inl ⟨hk,hc⟩) h2
  ·omega
 ·by_cases hc:x.delay<1∨8<x.delay
  ·exact absurd (.inr ⟨hk,hc⟩) h2
  ·omega
 ·by_cases hc:acnE x.act=0
  ·exact hc
  ·exact absurd ⟨hk,hc⟩ h3
theorem zei {l:List Evt}(h:evtsE l=0):∀x∈l,EvtOk x:=by
 unfold evtsE at h;split at h
 ·cases h
 intro x hx;obtain⟨k,hk⟩:=List.getElem?_of_mem hx;have h1:=ze3 evtS l h k x hk;unfold evtS at h1;split at h1
 ·cases h1
 split at h1
 ·split at h1
  ·cases h1
  ·exact zDf h1
 ·exact zDf h1

structure StaTo (s s' : Sta) : Prop where
 id:s'.node.id=s.node.id
 term:s.node.term≤s'.node.term
theorem zhg {w:Wld}(h:WldOk w){i:Int}{s:Sta}(hi:i=1∨i=2)(hs:StaOk i s):WldOk (setS w i s):=by
 unfold setS;rcases hi with rfl|rfl
 ·rw[if_pos rfl];exact⟨h.n0,h.n1,h.l0,h.l1,h.d0,h.d1,hs,h.b,h.len,h.mail⟩
 ·rw[if_neg om];exact⟨h.n0,h.n1,h.l0,h.l1,h.d0,h.d1,h.a,hs,h.len,h.mail⟩
theorem ztn {w:Wld}(h:WldOk w){i:Int}(hi:i=1∨i=2):StaOk i (getS w i):=by
 unfold getS;rcases hi with rfl|rfl
 ·rw[if_pos rfl];exact h.a
 ·rw[if_neg om];exact h.b
theorem ztE {w:Wld}(h:WldOk w){d:Int}{m:Msg}(h1:1≤d)(h2:d≤2)(hm:MsgOk m):WldOk (postW w d m):=by
 unfold postW;split
 ·exact h
 ·rename_i hc;refine⟨h.n0,h.n1,h.l0,h.l1,h.d0,h.d1,h.a,h.b,by show(w.mail++_).length≤256;simp;omega,fun x hx=> ?_⟩;rcases List.mem_append.1 hx with hx|hx
  ·exact h.mail x hx
  ·simp at hx;subst hx;have:=h.n0;have:=h.d0;exact⟨h1,h2,by show 0≤min _ _;omega,by show min _ _≤(1048576:Int);omega,hm⟩
theorem zBk {s:Sta}{i:Int}{x:Evt}(h:StaOk i s):StaOk i (zcf s x)∧StaTo s (zcf s x):=by
 unfold zcf;split
 ·split
  ·rename_i hc;obtain⟨e,hn,-⟩:=zy0 h.node hc.2;rw[e];exact⟨⟨hn,h.id,h.q0,h.q1⟩,rfl,Int.le_refl _⟩
  ·exact⟨h,rfl,Int.le_refl _⟩
 split
 ·exact⟨⟨h.node,h.id,h.q0,h.q1⟩,rfl,Int.le_refl _⟩
 split
 ·exact⟨h,rfl,Int.le_refl _⟩
 ·exact⟨⟨zDa h.node,h.id,Int.le_refl _,by show(0:Int)≤1048576;omega⟩,rfl,Int.le_refl _⟩
structure WldTo (w w' : Wld) : Prop where
 now:w'.now=w.now
 limit:w'.limit=w.limit
 a:StaTo w.a w'.a
 b:StaTo w.b w'.b
theorem StaTo.refl (s:Sta):StaTo s s:=⟨rfl,Int.le_refl _⟩
theorem StaTo.trans {s t u:Sta}(h:StaTo s t)(k:StaTo t u):StaTo s u:=⟨k.id.trans h.id,Int.le_trans h.term k.term⟩
theorem WldTo.refl (w:Wld):WldTo w w:=⟨rfl,rfl,StaTo.refl _,StaTo.refl _⟩
theorem WldTo.trans {w v u:Wld}(h:WldTo w v)(k:WldTo v u):WldTo w u:=⟨k.now.trans h.now,k.limit.trans h.limit,h.a.trans k.a,h.b.trans k.b⟩
theorem zu8 {w:Wld}{i:Int}{s:Sta}(hi:i=1∨i=2)(hs:StaTo (getS w i) s):WldTo w (setS w i s):=by
 unfold getS at hs;unfold setS;rcases hi with rfl|rfl
 ·rw[if_pos rfl] at hs ⊢;exact⟨rfl,rfl,hs,StaTo.refl _⟩
 ·rw[if_neg om] at hs ⊢;exact⟨rfl,rfl,StaTo.refl _,hs⟩
theorem zAl (w:Wld)(d:Int)(m:Msg):WldTo w (postW w d m):=by
 unfold postW;split
 ·exact WldTo.refl w
 ·exact⟨rfl,rfl,StaTo.refl _,StaTo.refl _⟩
theorem ze7 {w:Wld}(h:WldOk w){x:Evt}(hx:EvtOk x):WldOk (zap w x)∧WldTo w (zap w x):=by
 unfold zap;split
 ·rename_i hk;obtain⟨s1,s2⟩:=hx.st hk;have hi:x.station=1∨x.station=2:=by omega
  obtain⟨g1,g2⟩:=zBk (x:=x) (ztn h hi);exact⟨zhg h hi g1,zu8 hi g2⟩
 split
 ·exact⟨⟨h.n0,h.n1,h.l0,h.l1,h.d0,h.d1,h.a,h.b,h.len,h.mail⟩,rfl,rfl,StaTo.refl _,StaTo.refl _⟩
 split
 ·exact⟨⟨h.n0,h.n1,h.l0,h.l1,h.d0,h.d1,h.a,h.b,h.len,h.mail⟩,rfl,rfl,StaTo.refl _,StaTo.refl _⟩
 ·rename_i h1 h2 h3;obtain⟨d1,d2⟩:=hx.dl (by have:=hx.k0;have:=hx.k1;omega);exact⟨⟨h.n0,h.n1,h.l0,h.l1,d1,d2,h.a,h.b,h.len,h.mail⟩,rfl,rfl,StaTo.refl _,StaTo.refl _⟩
theorem zfH {w:Wld}(h:WldOk w){x:Ltr}(hx:LtrOk x):WldOk (zau w x)∧WldTo w (zau w x):=by
 have hd1:=hx.d0;have hd2:=hx.d1;have hi:x.dst=1∨x.dst=2:=by omega
 have hg:=ztn h hi;unfold zau;simp only;split
 ·exact⟨h,WldTo.refl w⟩
 ·rename_i hc;have he:(recvV (getS w x.dst).node x.msg).2.2.2=0:=by
   by_cases h0:(recvV (getS w x.dst).node x.msg).2.2.2=0
   ·exact h0
   ·exact absurd (.inr h0) hc
  have hl:=zb8 he;have hq0:=hg.q0;have hq1:=hg.q1
  have hs:StaOk x.dst ⟨(recvV (getS w x.dst).node x.msg).1,(getS w x.dst).up,if x.msg.kind=0∧x.msg.term=(recvV (getS w x.dst).node x.msg).1.term then 0 else(getS w x.dst).quiet⟩:=
   ⟨hl.node,by show(recvV _ _).1.id=_;rw[hl.id,hg.id],by show(0:Int)≤if _ then _ else _;split<;>omega,by show(if _ then _ else _)≤(1048576:Int);split<;>omega⟩
  have h1:=zhg h hi hs;have h2:WldTo w (setS w x.dst ⟨(recvV (getS w x.dst).node x.msg).1,(getS w x.dst).up,if x.msg.kind=0∧x.msg.term=(recvV (getS w x.dst).node x.msg).1.term then 0 else(getS w x.dst).quiet⟩):=zu8 hi ⟨hl.id,hl.term⟩;split
  ·rename_i hok;exact⟨ztE h1 om om (hl.ans hok).1,h2.trans (zAl _ _ _)⟩
  ·exact⟨h1,h2⟩
theorem zh3 {s:Sta}{i l:Int}(h:StaOk i s):StaOk i (leadS l s)∧StaTo s (leadS l s):=by
 have hq0:=h.q0;have hq1:=h.q1;have hq:StaOk i ⟨s.node,s.up,min (s.quiet+1) 1048576⟩:=⟨h.node,h.id,by show 0≤min _ _;omega,by show min _ _≤(1048576:Int);omega⟩
 unfold leadS;simp only;split
 ·exact⟨hq,rfl,Int.le_refl _⟩
 split
 ·rename_i he;obtain⟨e,hn,ht⟩:=ziJ h.node he;rw[e];exact⟨⟨hn,h.id,Int.le_refl _,by show(0:Int)≤1048576;omega⟩,rfl,by show s.node.term≤s.node.term+1;omega⟩
 split
 ·rename_i he;obtain⟨e,hn,ht⟩:=ziJ h.node he;rw[e];exact⟨⟨hn,h.id,Int.le_refl _,by show(0:Int)≤1048576;omega⟩,rfl,by show s.node.term≤s.node.term+2;omega⟩
 ·exact⟨hq,rfl,Int.le_refl _⟩
theorem zgf {w:Wld}(h:WldOk w){i:Int}(hi:i=1∨i=2):WldOk (workW w i)∧WldTo w (workW w i):=by
 have hg:=ztn h hi;unfold workW;split
 ·exact⟨h,WldTo.refl w⟩
 ·simp only;obtain⟨k1,k2⟩:StaOk i (if(getS w i).node.speaks=true then getS w i else leadS w.limit (getS w i))∧StaTo (getS w i) (if(getS w i).node.speaks=true then getS w i else leadS w.limit (getS w i)):=by
   split
   ·exact⟨hg,StaTo.refl _⟩
   ·exact zh3 hg
  generalize (if(getS w i).node.speaks=true then getS w i else leadS w.limit (getS w i))=s at k1 k2 ⊢
  split
  ·rename_i hsp;exact⟨ztE (zhg h hi k1) om om (zdW k1.node hsp),(zu8 hi k2).trans (zAl _ _ _)⟩
  ·exact⟨zhg h hi k1,zu8 hi k2⟩
theorem zjL {α:Type}{f:Wld→α→Wld}{p:α→Prop}(hf:∀w x,WldOk w→p x→WldOk (f w x)∧WldTo w (f w x)):∀(l:List α) (w:Wld),WldOk w→(∀x∈l,p x)→WldOk (l.foldl f w)∧WldTo w (l.foldl f w)
 |[],w,h,_=>⟨h,WldTo.refl w⟩
 |x::l,w,h,hp=>by obtain⟨h1,h2⟩:=hf w x h (hp x (by simp));obtain⟨h3,h4⟩:=zjL hf l (f w x) h1 (fun y hy=>hp y (by simp[hy]));exact⟨h3,h2.trans h4⟩
theorem ziY {w:Wld}(h:WldOk w){l:List Evt}(hl:∀x∈l,EvtOk x)(hn:w.now<1048576):WldOk (tickW w l)∧(tickW w l).now=w.now+1∧(tickW w l).limit=w.limit∧StaTo w.a (tickW w l).a∧StaTo w.b (tickW w l).b:=by
 obtain⟨h1,t1⟩:=zjL (p:=EvtOk) (fun w x h hx=>ze7 h hx) l w h hl
 have h2:WldOk ⟨(l.foldl zap w).now,(l.foldl zap w).limit,(l.foldl zap w).delay,(l.foldl zap w).cut,(l.foldl zap w).a,(l.foldl zap w).b,lateL (l.foldl zap w).now (l.foldl zap w).mail⟩:=
  ⟨h1.n0,h1.n1,h1.l0,h1.l1,h1.d0,h1.d1,h1.a,h1.b,Nat.le_trans (List.length_filter_le _ _) h1.len,fun x hx=>h1.mail x (List.mem_filter.1 hx).1⟩
 obtain⟨h3,t3⟩:=zjL (p:=LtrOk) (fun w x h hx=>zfH h hx) (dueL (l.foldl zap w).now (l.foldl zap w).mail) _ h2 (fun x hx=>h1.mail x (List.mem_filter.1 hx).1);obtain⟨h4,t4⟩:=zgf h3 (.inl rfl);obtain⟨h5,t5⟩:=zgf h4 (i:=2) (.inr rfl);have tt:=t3.trans (t4.trans t5);have e1:(workW (workW ((dueL (l.foldl zap w).now (l.foldl zap w).mail).foldl zau ⟨(l.foldl zap w).now,(l.foldl zap w).limit,(l.foldl zap w).delay,(l.foldl zap w).cut,(l.foldl zap w).a,(l.foldl zap w).b,lateL (l.foldl zap w).now (l.foldl zap w).mail⟩) 1) 2).now=w.now:=tt.now.trans t1.now;unfold tickW;simp only;refine⟨⟨by show 0≤_+(1:Int);rw[e1];have:=h.n0;omega,by show _+(1:Int)≤_;rw[e1];omega,h5.l0,h5.l1,h5.d0,h5.d1,h5.a,h5.b,h5.len,h5.mail⟩,by rw[e1],tt.limit.trans t1.limit,t1.a.trans tt.a,t1.b.trans tt.b⟩
theorem zem {l d:Int}(h1:1≤l)(h2:l≤16)(h3:1≤d)(h4:d≤8):(newW l d).2=0∧WldOk (newW l d).1:=by
 unfold newW;rw[if_neg om];refine⟨rfl,Int.le_refl _,by show(0:Int)≤1048576;omega,h1,h2,h3,h4,?_,?_,Nat.zero_le _,by simp⟩
 ·exact⟨⟨Int.le_refl _,by show(1:Int)≤2;omega,by show(0:Int)≤1;omega,by show(1:Int)≤1048576;omega,fun _=>by show ownB 1 1=true;decide,Nat.zero_le _,zbY.nil _ _,Int.le_refl _,Int.le_refl _,Int.le_refl _,Int.le_refl _,(fun h=>by cases h)⟩,rfl,Int.le_refl _,by show(0:Int)≤1048576;omega⟩
 ·exact⟨⟨by show(1:Int)≤2;omega,Int.le_refl _,Int.le_refl _,by show(0:Int)≤1048576;omega,(fun h=>by cases h),Nat.zero_le _,zbY.nil _ _,Int.le_refl _,Int.le_refl _,Int.le_refl _,Int.le_refl _,fun _=>rfl⟩,rfl,Int.le_refl _,by show(0:Int)≤1048576;omega⟩

noncomputable def seqW (l:List Evt) (w:Wld):Nat→Wld
 |0=>w
 |j+1=>tickW (seqW l w j) (atL l (seqW l w j).now)
theorem zmC (l:List Evt)(w:Wld):∀j,seqW l (tickW w (atL l w.now)) j=seqW l w (j+1)
 |0=>rfl
 |j+1=>by show tickW (seqW l (tickW w (atL l w.now)) j) (atL l (seqW l (tickW w (atL l w.now)) j).now)=tickW (seqW l w (j+1)) (atL l (seqW l w (j+1)).now);rw[zmC l w j]
theorem zu5 (l:List Evt):∀(n:Nat) (w:Wld),runW l n w=seqW l w n
 |0,_=>rfl
 |n+1,w=>by rw[runW,zu5 l n,zmC]
theorem zmH (l:List Evt):∀(n:Nat) (w:Wld),(zce l n w).length=n
 |0,_=>rfl
 |n+1,w=>by rw[zce,List.length_cons,zmH l n]
theorem zgS (l:List Evt):∀(n:Nat) (w:Wld) (i:Nat),i<n→(zce l n w)[i]?=some (zc6 (seqW l w (i+1)))
 |0,_,_,h=>by omega
 |n+1,w,0,_=>rfl
 |n+1,w,i+1,h=>by rw[zce,List.getElem?_cons_succ,zgS l n _ i om,zmC]
theorem zjj {l:List Evt}(hl:∀x∈l,EvtOk x)(t:Int):∀x∈atL l t,EvtOk x:=fun x hx=>hl x (List.mem_filter.1 hx).1
theorem zhe {l:List Evt}{w:Wld}(hl:∀x∈l,EvtOk x)(h:WldOk w):∀n:Nat,w.now+n≤1048576→WldOk (seqW l w n)∧(seqW l w n).now=w.now+n∧(seqW l w n).limit=w.limit
 |0,_=>⟨h,by show w.now=w.now+((0:Nat):Int);omega,rfl⟩
 |n+1,hn=>by obtain⟨h1,h2,h3⟩:=zhe hl h n om;obtain⟨g1,g2,g3,-⟩:=ziY h1 (zjj hl (seqW l w n).now) (by rw[h2];omega);exact⟨g1,by show(tickW _ _).now=_;rw[g2,h2];omega,g3.trans h3⟩
noncomputable def tick1 (w:Wld) (l:List Evt):Wld:=l.foldl zap w
noncomputable def tick2 (w:Wld):Wld:=⟨w.now,w.limit,w.delay,w.cut,w.a,w.b,lateL w.now w.mail⟩
noncomputable def tick3 (w:Wld):Wld:=(dueL w.now w.mail).foldl zau (tick2 w)
noncomputable def tick5 (w:Wld):Wld:=workW (workW (tick3 w) 1) 2
theorem zk6 (w:Wld)(l:List Evt):tickW w l=⟨(tick5 (tick1 w l)).now+1,(tick5 (tick1 w l)).limit,(tick5 (tick1 w l)).delay,(tick5 (tick1 w l)).cut,(tick5 (tick1 w l)).a,(tick5 (tick1 w l)).b,(tick5 (tick1 w l)).mail⟩:=rfl

theorem zfJ {α β:Type}{f:β→α→β}{P:β→Prop}:∀(l:List α) (b:β),P b→(∀c x,x∈l→P c→P (f c x))→P (l.foldl f b)
 |[],_,h,_=>h
 |x::l,b,h,hs=>zfJ l (f b x) (hs b x (by simp) h) fun c y hy hc=>hs c y (by simp[hy]) hc
theorem zeu (w:Wld):getS w 1=w.a:=if_pos rfl
theorem zgt (w:Wld):getS w 2=w.b:=if_neg om
theorem zgO (w:Wld)(s:Sta):setS w 1 s=⟨w.now,w.limit,w.delay,w.cut,s,w.b,w.mail⟩:=if_pos rfl
theorem zlc (w:Wld)(s:Sta):setS w 2 s=⟨w.now,w.limit,w.delay,w.cut,w.a,s,w.mail⟩:=if_neg om
structure PostTo (w v : Wld) (d : Int) (m : Msg) : Prop where
 now:v.now=w.now
 limit:v.limit=w.limit
 delay:v.delay=w.delay
 cut:v.cut=w.cut
 a:v.a=w.a
 b:v.b=w.b
 mail:∀x∈v.mail,x∈w.mail∨x=⟨d,min (w.now+w.delay) 1048576,m⟩
structure Spk (k n m s K : Int) (w : Wld) : Prop where
 ok:WldOk w
 now:w.now=s
 limit:w.limit=m
 delay:w.delay=n
 up:w.b.up=true
 down:k≤s→w.a.up=false
 quiet:w.b.quiet≤m
 ta:w.a.node.term≤K
 tb:w.b.node.term≤K
 mail:∀x∈w.mail,x.msg.term≤K∧s+1≤x.at_∧(x.dst=2→x.at_<k+n)
 wait:k+n≤s→w.b.node.speaks=true∨s - (k+n)≤w.b.quiet
section
variable {k n m s K:Int} {w:Wld}
theorem zj1 {w:Wld}{i:Int}(h:(getS w i).up=false):workW w i=w:=by unfold workW;rw[if_pos h]
theorem zhl {w:Wld}{i:Int}(h:(getS w i).up=true){x:Sta}(hx:(if(getS w i).node.speaks=true then getS w i else leadS w.limit (getS w i))=x):workW w i=if x.node.speaks=true then postW (setS w i x) (3 - i) (sentM x.node) else setS w i x:=by subst hx;unfold workW;rw[if_neg (by rw[h];simp)]
structure SpkO (k n m s K : Int) (w : Wld) : Prop where
 ok:WldOk w
 now:w.now=s
 limit:w.limit=m
 delay:w.delay=n
 up:w.b.up=true
 down:k<s→w.a.up=false
 quiet:w.b.quiet≤m
 ta:w.a.node.term≤K
 tb:w.b.node.term≤K
 mail:∀x∈w.mail,x.msg.term≤K∧s≤x.at_∧(x.dst=2→x.at_<k+n)
 wait:k+n≤s→w.b.node.speaks=true∨s - (k+n)≤w.b.quiet
def downE (k i:Int):Evt:=⟨k,1,i,acnN,0⟩
end
