import Derived.Test.YtnpdghjpcnjokaaGreatGrpl
namespace Go.Proofs.YtnpdghjpcnjokaaGreat
open Go.RowKit

def mkA (t k g v : Int) : Acn:=⟨t,k,g,⟨#[]⟩,v,0,⟨[],none,0⟩,⟨[],none,0⟩,⟨[],none,0⟩,zdP⟩
theorem zdH (t k g v : Int) (w : World) : AcnAt w (mkA t k g v):=⟨Nat.zero_le _,LstAt.nil,LstAt.nil,LstAt.nil,zhZ w⟩
open Classical in
theorem zhL (t k g v : Int) (hk : ¬ (k < 0 ∨ 20 ≤ k)) (ht : inE t 0 10000000 = 0) :
  acnE (mkA t k g v) = chkS (useB k) (fun i => [inE g 1 1048576,numE ⟨#[]⟩,zbo k v,inE 0 0 10000000,setE [],parsE [],zb3 [],editE zdP].getD i 0) (fun i => [g == 0,true,v == 0,true,true,true,true,true].getD i true) 8 0 true:=by
 have hs : sameE zdP zdP = true:=by unfold sameE;exact decide_eq_true ⟨rfl,rfl,rfl,rfl,rfl,rfl,rfl,rfl,rfl,rfl,rfl,rfl,rfl,rfl,rfl,rfl,rfl,rfl,rfl,rfl,rfl⟩
 unfold acnE
 rw [if_neg (show ¬ ((mkA t k g v).kind < 0 ∨ 20 ≤ (mkA t k g v).kind) from hk),if_neg (by show ¬ inE t 0 10000000 ≠ 0;simpa using ht)]
 unfold zg6
 have hc : (⟨#[]⟩ : ByteArray).toList.isEmpty = true:=by decide +kernel
 simp only [mkA,hs,hc]
 rfl
def fullA (a : Acn) (A B : Option Addr) : Acn:={ a with target:=max a.target 1,cue:=⟨#[49]⟩,level:=max a.level 1,time:=max a.time 1,params:=⟨[⟨1,0⟩],A,1⟩,chans:=⟨[1],B,1⟩ }
end Go.Proofs.YtnpdghjpcnjokaaGreat

namespace Go.Proofs.YtnpdghjpcnjokaaGreat

theorem SameE.symm {a b : Edit} (h : SameE a b) : SameE b a:=by
 obtain ⟨h1,h2,h3,h4,h5,h6,h7,h8,h9,h10,h11,h12,h13,h14,h15,h16,h17,h18,h19,h20,h21⟩:=h
 exact ⟨h1.symm,h2.symm,h3.symm,h4.symm,h5.symm,h6.symm,h7.symm,h8.symm,h9.symm,h10.symm,h11.symm,h12.symm,h13.symm,h14.symm,h15.symm,h16.symm,h17.symm,h18.symm,h19.symm,h20.symm,h21.symm⟩
theorem SameA.symm {a b : Acn} (h : SameA a b) : SameA b a:=by
 obtain ⟨h1,h2,h3,h4,h5,h6,h7,h8,h9,h10⟩:=h
 exact ⟨h1.symm,h2.symm,h3.symm,h4.symm,h5.symm,h6.symm,h7.symm,h8.symm,h9.symm,h10.symm⟩
open Classical in
theorem ziU {a b : Acn} : sameA a b = true ↔ SameA a b:=by
 unfold sameA
 exact decide_eq_true_iff
theorem zfA {x y : Rec} : sameR x y = true ↔ x.term = y.term ∧ SameA x.act y.act:=by
 unfold sameR
 rw [Bool.and_eq_true,decide_eq_true_eq,ziU]
theorem zby : ∀ (l m : List Rec),zaR l m = true ↔ l.length = m.length ∧ ∀ (i : Nat) (x y : Rec),l[i]? = some x → m[i]? = some y → sameR x y = true
 | [],[] => by simp [zaR]
 | [],_ :: _ => by simp [zaR]
 | _ :: _,[] => by simp [zaR]
 | x :: l,y :: m => by
  have ih:=zby l m
  simp only [zaR,Bool.and_eq_true,ih,List.length_cons]
  constructor
  ·rintro ⟨h1,h2,h3⟩
   refine ⟨by omega,fun i a b ha hb => ?_⟩
   cases i with
   | zero => simp at ha hb;subst ha hb;exact h1
   | succ i => exact h3 i a b (by simpa using ha) (by simpa using hb)
  ·rintro ⟨h1,h2⟩
   exact ⟨h2 0 x y rfl rfl,by omega,fun i a b ha hb => h2 (i + 1) a b (by simpa using ha) (by simpa using hb)⟩
theorem zbr (l : List Rec) : zaR l l = true:=by
 rw [zby]
 refine ⟨rfl,fun i x y hx hy => ?_⟩
 rw [hx] at hy
 injection hy with hy
 subst hy
 exact zfA.2 ⟨rfl,SameA.refl _⟩
theorem zq7 {n : Nod} {m : Msg} (he : (recdV n m).2.2.2 = 0) : (recdV n m).1.term = max n.term m.term:=by
 unfold recdV at he ⊢
 by_cases ht : m.term < n.term
 ·rw [if_pos ht]
  split <;> (show n.term = _;omega)
 ·rw [if_neg ht] at he ⊢
  have hit:=zbN ht
  by_cases hk : m.kind = 0
  ·rw [if_pos hk] at he ⊢
   rcases ze4 he with h | ⟨h,h0,h1⟩ | h
   ·rw [zdp h];show (inTerm n m).term = _;omega
   ·rw [zc7 h h0 h1];show (inTerm n m).term = _;omega
   ·rw [zcv h];show (inTerm n m).term = _;omega
  ·rw [if_neg hk]
   split
   ·have e2 : (ackN (inTerm n m) m).term = m.term:=by rw [← hit];unfold ackN;split <;> rfl
    show (ackN (inTerm n m) m).term = _;omega
   ·have e2 : (zar (inTerm n m) m).term = m.term:=by rw [← hit];unfold zar;split <;> rfl
    show (zar (inTerm n m) m).term = _;omega
theorem zn4 {n : Nod} {m : Msg} (hk : m.kind ≠ 0) (ht : m.term = n.term) : (recdV n m).1.log = n.log ∧ (recdV n m).1.speaks = n.speaks ∧ (recdV n m).1.term = n.term ∧ (recdV n m).1.id = n.id ∧ (recdV n m).2.2.2 = 0:=by
 unfold recdV
 rw [if_neg om,if_neg hk,zb5 ht.symm]
 split
 ·unfold ackN;split <;> exact ⟨rfl,rfl,rfl,rfl,rfl⟩
 ·unfold zar;split <;> exact ⟨rfl,rfl,rfl,rfl,rfl⟩
theorem zpS {i j t : Int} (hi1 : 1 ≤ i) (hi2 : i ≤ 2) (hj1 : 1 ≤ j) (hj2 : j ≤ 2) (hne : ¬ i = j) (h : ownB i t = true) : ownB j t = false:=by
 unfold ownB at h ⊢
 have:=of_decide_eq_true h
 apply decide_eq_false
 omega
theorem zeD {i t : Int} (h : ownB i t = true) : 1 ≤ t:=by
 unfold ownB at h
 exact (of_decide_eq_true h).1
theorem zdD {l : List Rec} {k : Nat} {r : Rec} (h : l[k]? = some r) : zaQ l (k : Int) = r.term:=by
 unfold zaQ
 rw [if_neg om,Int.toNat_natCast,h]
theorem zdW {n : Nod} (hn : NodOk n) (hs : n.speaks = true) : MsgOk (sentM n):=by
 have h1:=zeD (hn.own hs)
 have h2:=hn.n0;have h3:=hn.n1;have h4:=hn.len;have h5:=hn.a0;have h6:=hn.a1;have h7:=hn.t1
 have hb : 0 < n.next → ∃ r,n.log[(n.next - 1).toNat]? = some r ∧ zaQ n.log (n.next - 1) = r.term:=fun h0 => by
  refine ⟨n.log[(n.next - 1).toNat]' om,List.getElem?_eq_getElem om,?_⟩
  have:=zdD (List.getElem?_eq_getElem (l:=n.log) (i:=(n.next - 1).toNat) om)
  rwa [Int.toNat_of_nonneg om] at this
 refine ⟨Int.le_refl _,by show (0 : Int) ≤ 2;omega,h1,h7,h2,by show n.next ≤ 256;omega,fun _ => ⟨fun h0 => ?_,fun h0 => ?_,?_,?_,h5,by show n.acked ≤ 256;omega⟩,fun h => absurd rfl h⟩
 ·show (if 0 < n.next then _ else (0 : Int)) = 0
  have h0' : n.next = 0:=h0
  rw [if_neg om]
 ·have h0' : 0 < n.next:=h0
  show 1 ≤ (if 0 < n.next then _ else (0 : Int)) ∧ (if 0 < n.next then _ else (0 : Int)) ≤ n.term
  rw [if_pos h0']
  obtain ⟨r,hr,he⟩:=hb h0'
  have hm:=List.mem_of_getElem? hr
  have:=hn.recs.pos r hm;have:=hn.recs.hi r hm
  omega
 ·show ((n.log.drop n.next.toNat).take 16).length ≤ 16
  rw [List.length_take];omega
 ·have hsub:=hn.recs.sub ((List.take_sublist 16 _).trans (List.drop_sublist n.next.toNat n.log))
  refine ⟨fun r hr => ?_,hsub.pos,hsub.hi,hsub.act,hsub.asc⟩
  show (if 0 < n.next then _ else (0 : Int)) ≤ r.term
  by_cases h0 : 0 < n.next
  ·rw [if_pos h0]
   obtain ⟨q,hq,he⟩:=hb h0
   obtain ⟨j,hj⟩:=List.getElem?_of_mem (List.mem_of_mem_take hr)
   rw [List.getElem?_drop] at hj
   have:=(zl4 hn.recs.asc (show (n.next - 1).toNat < n.next.toNat + j by omega) hq hj).1
   omega
  ·rw [if_neg h0];have:=hsub.pos r hr;omega

structure Pair (a b : Nod) : Prop where
 na : NodOk a
 nb : NodOk b
 ne : ¬ a.id = b.id
 speaks : a.speaks = true
 term : b.term ≤ a.term
theorem Pair.quiet {a b : Nod} (h : Pair a b) : ownB b.id (sentM a).term = false:=zpS h.na.id1 h.na.id2 h.nb.id1 h.nb.id2 h.ne (h.na.own h.speaks)
theorem zg0 {x y : Nod} (h : zaJ x y = true) : zaR x.log (y.log.take x.log.length) = true ∧ x.acked = x.log.length ∧ y.acked = x.log.length:=by
 unfold zaJ at h
 simp only [Bool.and_eq_true,decide_eq_true_eq] at h
 exact ⟨h.1.1,h.1.2,h.2⟩

structure Half (L : List Rec) (n : Nat) (T : Int) (s o : Nod) : Prop where
 pair : Pair s o
 len : L.length = n + 1
 log : s.log = L
 term : s.term = T
 acked : s.acked = n
 next : s.next ≤ n
 oacked : o.acked = n
 olen : n ≤ o.log.length
 same : zaR (L.take n) (o.log.take n) = true
 new : ∀ r,o.log[n]? = some r → r.term ≠ T
 last : (L[n]?).map (·.term) = some T
structure Full (L : List Rec) (n : Nat) (T : Int) (s o : Nod) : Prop where
 pair : Pair s o
 len : L.length = n + 1
 log : s.log = L
 term : s.term = T
 acked : s.acked = n + 1
 next : s.next = n + 1
 oacked : o.acked ≤ n + 1
 same : zaR L o.log = true
structure Done (L : List Rec) (p q : Nod) : Prop where
 np : NodOk p
 nq : NodOk q
 log : p.log = L
 same : zaR L q.log = true
 pa : p.acked = L.length
 qa : q.acked = L.length
theorem Full.done {L : List Rec} {n : Nat} {T : Int} {s o : Nod} (h : Full L n T s o) (ha : o.acked = n + 1) : zaJ s o = true ∧ Done L s o:=by
 have hl:=(zby _ _).1 h.same
 have hlen:=h.len
 refine ⟨?_,h.pair.na,h.pair.nb,h.log,h.same,by rw [h.acked,hlen];omega,by rw [ha,hlen];omega⟩
 unfold zaJ
 rw [h.log,List.take_of_length_le om,h.same,h.acked,ha,hlen]
 simp
theorem exchange {s o : Nod} (hp : Pair s o) (ht : Taken (inTerm o (sentM s)) (sentM s)) :
  recvV o (sentM s) = (tookN (inTerm o (sentM s)) (sentM s),ansM (inTerm o (sentM s)) 1 (s.next + (sentM s).recs.length),true,0):=by
 have hrd : recdV o (sentM s) = (tookN (inTerm o (sentM s)) (sentM s),ansM (inTerm o (sentM s)) 1 (s.next + (sentM s).recs.length),true,0):=by
  unfold recdV
  rw [if_neg (by have:=hp.term;show ¬ s.term < o.term;omega),if_pos (show (sentM s).kind = 0 from rfl),zcv ht]
  rfl
 have:=zl5 hp.nb (zdW hp.na hp.speaks) (fun _ => hp.quiet) (by rw [hrd])
 rw [this,hrd]
theorem zfg {s o : Nod} (hp : Pair s o) (k : Int) (h0 : 0 ≤ k) (h : k ≤ s.log.length) :
  recvV s (ansM (inTerm o (sentM s)) 1 k) = (⟨s.id,s.term,s.speaks,s.log,max s.acked k,max s.next k⟩,msg0,false,0):=by
 have hit : (inTerm o (sentM s)).term = s.term:=by
  have h1 : (sentM s).term = s.term:=rfl
  have h2:=zbN (n:=o) (m:=sentM s) (by have:=hp.term;omega)
  omega
 have hl:=hp.na.len
 have hrd : recdV s (ansM (inTerm o (sentM s)) 1 k) = (⟨s.id,s.term,s.speaks,s.log,max s.acked k,max s.next k⟩,msg0,false,0):=by
  unfold recdV
  have e : (ansM (inTerm o (sentM s)) 1 k).term = s.term:=hit
  rw [if_neg om,if_neg (by show ¬ (1 : Int) = 0;omega),if_pos (show (ansM (inTerm o (sentM s)) 1 k).kind = 1 from rfl),zb5 e.symm]
  unfold ackN
  rw [if_pos ⟨hp.speaks,h⟩]
  rfl
 have:=zl5 hp.na (m:=ansM (inTerm o (sentM s)) 1 k) (zt3 (.inl rfl) (by rw [hit];exact zeD (hp.na.own hp.speaks)) (by rw [hit];exact hp.na.t1) h0 om) (fun hk => by have : (1 : Int) = 0:=hk;omega) (by rw [hrd])
 rw [this,hrd]
theorem Pair.next {s o : Nod} (hp : Pair s o) (ht : Taken (inTerm o (sentM s)) (sentM s)) (k : Int) (h0 : 0 ≤ k) (h : k ≤ s.log.length) : Pair ⟨s.id,s.term,s.speaks,s.log,max s.acked k,max s.next k⟩ (tookN (inTerm o (sentM s)) (sentM s)):=by
 have e1:=zb8 (n:=o) (m:=sentM s) (by rw [exchange hp ht])
 have e2:=zb8 (n:=s) (m:=ansM (inTerm o (sentM s)) 1 k) (by rw [zfg hp k h0 h])
 rw [exchange hp ht] at e1
 rw [zfg hp k h0 h] at e2
 have hit : (inTerm o (sentM s)).term = s.term:=by
  have h1 : (sentM s).term = s.term:=rfl
  have h2:=zbN (n:=o) (m:=sentM s) (by have:=hp.term;omega)
  omega
 exact ⟨e2.node,e1.node,by rw [e1.id];exact hp.ne,hp.speaks,by show (inTerm o (sentM s)).term ≤ s.term;omega⟩
end Go.Proofs.YtnpdghjpcnjokaaGreat

namespace Go.Proofs.YtnpdghjpcnjokaaGreat

def goA (t : Int) : Acn:=mkA t 0 1 0
theorem zff {t : Int} (h0 : 0 ≤ t) (h1 : t ≤ 10000000) : acnE (goA t) = 0:=by
 unfold goA
 rw [zhL t 0 1 0 dk (by unfold inE;rw [if_neg om])]
 simp only [chkS,show useB 0 0 = true by decide +kernel,show useB 0 1 = false by decide +kernel,show useB 0 2 = false by decide +kernel,show useB 0 3 = false by decide +kernel,show useB 0 4 = false by decide +kernel,show useB 0 5 = false by decide +kernel,show useB 0 6 = false by decide +kernel,show useB 0 7 = false by decide +kernel,Nat.zero_add,Nat.reduceAdd]
 simp [inE,parsE,scan]
end Go.Proofs.YtnpdghjpcnjokaaGreat

namespace Go.Proofs.YtnpdghjpcnjokaaGreat

noncomputable def exR0 : Rec:=⟨1,goA 0⟩
noncomputable def exR1 : Rec:=⟨1,goA 100⟩
noncomputable def exR7 : Rec:=⟨2,goA 7⟩
end Go.Proofs.YtnpdghjpcnjokaaGreat
