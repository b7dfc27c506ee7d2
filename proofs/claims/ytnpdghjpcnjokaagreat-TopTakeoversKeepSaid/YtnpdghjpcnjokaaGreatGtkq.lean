import Derived.Test.YtnpdghjpcnjokaaGreatGtkp
namespace Go.Proofs.YtnpdghjpcnjokaaGreat

structure CW where
 n : Bool → Nod
 mail : Bool → List Msg
 time : Int
def setN (w : CW) (i : Bool) (x : Nod) : CW:=⟨fun j => if j = i then x else w.n j,w.mail,w.time⟩
def postM (w : CW) (i : Bool) (m : Msg) : CW:=⟨w.n,fun j => if j = i then w.mail j ++ [m] else w.mail j,w.time⟩
def setT (w : CW) (t : Int) : CW:=⟨w.n,w.mail,t⟩
def idOf (i : Bool) : Int:=if i then 2 else 1
theorem zcZ (w : CW) (i : Bool) (x : Nod) : (setN w i x).n i = x:=if_pos rfl
theorem zcl (w : CW) (i : Bool) (x : Nod) : (setN w i x).n (!i) = w.n (!i):=if_neg (by cases i <;> decide)
theorem both {p : Bool → Prop} (i : Bool) (h1 : p i) (h2 : p (!i)) : ∀ j,p j:=fun j => by cases i <;> cases j <;> assumption
theorem zgi {i : Bool} {t : Int} (h : ownB (idOf i) t = true) : ownB (idOf (!i)) t = false:=by
 cases i
 ·exact zpS (i:=1) (j:=2) dk dk dk dk dk h
 ·exact zpS (i:=2) (j:=1) dk dk dk dk dk h

def Mat (G : Int → Option (List Rec)) (X : List Rec) : Prop:=∀ k r,X[k]? = some r → ∃ Y,G r.term = some Y ∧ X.take (k + 1) = Y.take (k + 1)
theorem Mat.pre {G : Int → Option (List Rec)} {X Z : List Rec} (h : Mat G X) (hz : Z <+: X) : Mat G Z:=fun k r hk => by
 obtain ⟨t,rfl⟩:=hz
 have hlt:=(List.getElem?_eq_some_iff.1 hk).1
 obtain ⟨Y,h1,h2⟩:=h k r (by rw [List.getElem?_append_left hlt];exact hk)
 exact ⟨Y,h1,by rw [← h2,List.take_append_of_le_length om]⟩
theorem Mat.same {G : Int → Option (List Rec)} {X Z : List Rec} (hx : Mat G X) (hz : Mat G Z) {p : Nat} {a b : Rec} (ha : X[p]? = some a) (hb : Z[p]? = some b) (h : a.term = b.term) : X.take (p + 1) = Z.take (p + 1):=by
 obtain ⟨Y,h1,h2⟩:=hx p a ha
 obtain ⟨Y',h3,h4⟩:=hz p b hb
 rw [h,h3] at h1
 injection h1 with h1
 rw [h2,h4,h1]

structure App (G : Int → Option (List Rec)) (i : Bool) (m : Msg) : Prop where
 own : ownB (idOf (!i)) m.term = true
 log : ∃ Y,G m.term = some Y ∧ m.at_.toNat + m.recs.length ≤ Y.length ∧ m.recs = (Y.drop m.at_.toNat).take m.recs.length ∧ (0 < m.at_ → m.before = zaQ Y (m.at_ - 1))
structure Ackd (a b : Nod) (m : Msg) : Prop where
 old : m.term ≤ a.term
 log : a.speaks = true → a.term = m.term → m.at_ ≤ a.log.length ∧ m.at_ ≤ b.log.length ∧ a.log.take m.at_.toNat = b.log.take m.at_.toNat
structure Fine (G : Int → Option (List Rec)) (K : Nat) (t : Int) (X : List Rec) : Prop where
 len : X.length ≤ K
 mat : Mat G X
 time : ∀ r ∈ X,r.act.at_ ≤ t
structure Inv (G : Int → Option (List Rec)) (K : Nat) (w : CW) : Prop where
 node : ∀ i,NodOk (w.n i)
 id : ∀ i,(w.n i).id = idOf i
 now : ∀ i,(w.n i).speaks = true → G (w.n i).term = some (w.n i).log
 led : ∀ i T Y,G T = some Y → ownB (idOf i) T = true → T ≤ (w.n i).term
 gen : ∀ T Y,G T = some Y → 1 ≤ T ∧ zbY 1 T Y ∧ Fine G K w.time Y
 log : ∀ i,Fine G K w.time (w.n i).log
 pre : ∀ i T Y,G T = some Y → ownB (idOf i) T = true → (w.n (!i)).term ≤ T → Y <+: (w.n i).log
 com : ∀ i,(w.n i).acked ≤ (w.n (!i)).log.length ∧ (w.n i).log.take (w.n i).acked.toNat = (w.n (!i)).log.take (w.n i).acked.toNat
 terms : ∀ i,(w.n i).term ≤ 2 * K
 t0 : 0 ≤ w.time
 t1 : w.time ≤ 255 * K
 mail : ∀ i m,m ∈ w.mail i → MsgOk m ∧ m.term ≤ 2 * K ∧ (m.kind = 0 → App G i m) ∧ (m.kind = 1 → Ackd (w.n i) (w.n (!i)) m)

theorem Inv.own {G : Int → Option (List Rec)} {K : Nat} {w : CW} (h : Inv G K w) {i : Bool} (hs : (w.n i).speaks = true) : ownB (idOf i) (w.n i).term = true:=by
 have:=(h.node i).own hs
 rwa [h.id i] at this
theorem Fine.wide {G : Int → Option (List Rec)} {K K' : Nat} {t t' : Int} {X : List Rec} (h : Fine G K t X) (hk : K ≤ K') (ht : t ≤ t') : Fine G K' t' X:=⟨Nat.le_trans h.len hk,h.mat,fun r hr => Int.le_trans (h.time r hr) ht⟩
theorem Inv.more {G : Int → Option (List Rec)} {K K' : Nat} {w : CW} (h : Inv G K w) (hk : K ≤ K') : Inv G K' w :=
 ⟨h.node,h.id,h.now,h.led,fun T Y hY => ⟨(h.gen T Y hY).1,(h.gen T Y hY).2.1,(h.gen T Y hY).2.2.wide hk (Int.le_refl _)⟩,fun i => (h.log i).wide hk (Int.le_refl _),h.pre,h.com,fun i => by have:=h.terms i;omega,h.t0,by have:=h.t1;omega,fun i m hm => by
  obtain ⟨a,b,c,d⟩:=h.mail i m hm
  exact ⟨a,by omega,c,d⟩⟩
theorem Inv.posted {G : Int → Option (List Rec)} {K : Nat} {w : CW} (h : Inv G K w) {i : Bool} {m : Msg} (h1 : MsgOk m) (h2 : m.term ≤ 2 * K) (h3 : m.kind = 0 → App G i m) (h4 : m.kind = 1 → Ackd (w.n i) (w.n (!i)) m) : Inv G K (postM w i m) :=
 ⟨h.node,h.id,h.now,h.led,h.gen,h.log,h.pre,h.com,h.terms,h.t0,h.t1,fun j x hx => by
  by_cases hj : j = i
  ·subst hj
   have hx : x ∈ w.mail j ++ [m]:=by have : x ∈ (if j = j then w.mail j ++ [m] else w.mail j):=hx;rwa [if_pos rfl] at this
   rcases List.mem_append.1 hx with hx | hx
   ·exact h.mail j x hx
   ·simp at hx;subst hx;exact ⟨h1,h2,h3,h4⟩
  ·have : x ∈ (if j = i then w.mail j ++ [m] else w.mail j):=hx
   rw [if_neg hj] at this
   exact h.mail j x this⟩
structure Next (G : Int → Option (List Rec)) (K : Nat) (w : CW) (i : Bool) (x : Nod) : Prop where
 node : NodOk x
 id : x.id = idOf i
 term : (w.n i).term ≤ x.term
 top : x.term ≤ 2 * K
 speaks : x.speaks = true → (w.n i).speaks = true ∧ x.term = (w.n i).term ∧ x.log = (w.n i).log
 log : Fine G K w.time x.log
 pre : ∀ T Y,G T = some Y → ownB (idOf i) T = true → (w.n (!i)).term ≤ T → Y <+: x.log
 com : x.acked ≤ (w.n (!i)).log.length ∧ x.log.take x.acked.toNat = (w.n (!i)).log.take x.acked.toNat
 safe : ∀ c : Int,0 ≤ c → c ≤ (w.n i).log.length → (w.n i).log.take c.toNat = (w.n (!i)).log.take c.toNat → c ≤ (w.n (!i)).log.length → c ≤ x.log.length ∧ x.log.take c.toNat = (w.n i).log.take c.toNat
theorem Inv.next {G : Int → Option (List Rec)} {K : Nat} {w : CW} (h : Inv G K w) {i : Bool} {x : Nod} (hx : Next G K w i x) : Inv G K (setN w i x):=by
 have hs:=zcZ w i x
 have ho:=zcl w i x
 have hs' : ∀ {j},j = (!i) → (setN w i x).n (!j) = x:=fun {j} e => by subst e;rw [Bool.not_not];exact hs
 have ho' : (setN w i x).n (!i) = w.n (!i):=ho
 refine ⟨?_,?_,?_,?_,h.gen,?_,?_,?_,?_,h.t0,h.t1,?_⟩
 ·exact both i (by rw [hs];exact hx.node) (by rw [ho];exact h.node _)
 ·exact both i (by rw [hs];exact hx.id) (by rw [ho];exact h.id _)
 ·refine both i (fun hp => ?_) (fun hp => ?_)
  ·rw [hs] at hp ⊢
   obtain ⟨a,b,c⟩:=hx.speaks hp
   rw [b,c];exact h.now i a
  ·rw [ho] at hp ⊢;exact h.now _ hp
 ·refine both i (fun T Y hY hT => ?_) (fun T Y hY hT => ?_)
  ·rw [hs];exact Int.le_trans (h.led i T Y hY hT) hx.term
  ·rw [ho];exact h.led _ T Y hY hT
 ·exact both i (by rw [hs];exact hx.log) (by rw [ho];exact h.log _)
 ·refine both i (fun T Y hY hT hle => ?_) (fun T Y hY hT hle => ?_)
  ·rw [hs];rw [ho] at hle;exact hx.pre T Y hY hT hle
  ·rw [ho];rw [Bool.not_not,hs] at hle
   exact h.pre (!i) T Y hY hT (by rw [Bool.not_not];exact Int.le_trans hx.term hle)
 ·refine both i ?_ ?_
  ·rw [hs,ho];exact hx.com
  ·rw [ho,Bool.not_not,hs]
   obtain ⟨c1,c2⟩:=h.com (!i)
   rw [Bool.not_not] at c1 c2
   obtain ⟨s1,s2⟩:=hx.safe _ (h.node (!i)).a0 c1 c2.symm (h.node (!i)).a1
   exact ⟨s1,by rw [s2];exact c2⟩
 ·exact both i (by rw [hs];exact hx.top) (by rw [ho];exact h.terms _)
 ·refine both i (fun m hm => ?_) (fun m hm => ?_)
  ·obtain ⟨a,b,c,d⟩:=h.mail i m hm
   refine ⟨a,b,c,fun hk => ?_⟩
   rw [hs,ho]
   have hd:=d hk
   refine ⟨Int.le_trans hd.old hx.term,fun hp ht => ?_⟩
   obtain ⟨e1,e2,e3⟩:=hx.speaks hp
   rw [e3]
   exact hd.log e1 (by rw [← e2];exact ht)
  ·obtain ⟨a,b,c,d⟩:=h.mail (!i) m hm
   refine ⟨a,b,c,fun hk => ?_⟩
   rw [ho,Bool.not_not,hs]
   have hd:=d hk
   rw [Bool.not_not] at hd
   refine ⟨hd.old,fun hp ht => ?_⟩
   obtain ⟨e1,e2,e3⟩:=hd.log hp ht
   obtain ⟨s1,s2⟩:=hx.safe m.at_ a.at0 e2 e3.symm e1
   exact ⟨e1,s1,by rw [s2];exact e3⟩
theorem Inv.still {G : Int → Option (List Rec)} {K : Nat} {w : CW} (h : Inv G K w) {i : Bool} {x : Nod} (h1 : NodOk x) (h2 : x.id = (w.n i).id) (h3 : (w.n i).term ≤ x.term) (h4 : x.term ≤ 2 * K) (h5 : x.speaks = true → (w.n i).speaks = true ∧ x.term = (w.n i).term)
  (h6 : x.log = (w.n i).log) (h7 : x.acked = (w.n i).acked ∨ (x.acked ≤ (w.n (!i)).log.length ∧ x.log.take x.acked.toNat = (w.n (!i)).log.take x.acked.toNat)) : Next G K w i x :=
 ⟨h1,h2.trans (h.id i),h3,h4,fun hp => ⟨(h5 hp).1,(h5 hp).2,h6⟩,by rw [h6];exact h.log i,fun T Y hY hT hle => by rw [h6];exact h.pre i T Y hY hT hle,by
  rcases h7 with h7 | h7
  ·rw [h7,h6];exact h.com i
  ·exact h7,fun c _ hc _ _ => by rw [h6];exact ⟨hc,rfl⟩⟩

theorem zjU {X Y : List Rec} (h : X <+: Y) {k : Nat} (hk : k < X.length) : X[k]? = Y[k]?:=by
 obtain ⟨t,rfl⟩:=h
 rw [List.getElem?_append_left hk]
theorem zos {X Y : List Rec} {c k : Nat} (h : X.take c = Y.take c) (hk : k < c) : X[k]? = Y[k]?:=by
 have:=congrArg (fun l => l[k]?) h
 simp only [List.getElem?_take,if_pos hk] at this
 exact this
structure Fits (Y L : List Rec) (m : Msg) (X : List Rec) : Prop where
 pre : X <+: Y ∨ X = L
 end_ : X.take (m.at_.toNat + m.recs.length) = Y.take (m.at_.toNat + m.recs.length)
 long : m.at_.toNat + m.recs.length ≤ X.length
 safe : ∀ c : Nat,c ≤ L.length → (∀ k,k < c → k < Y.length → L[k]? = Y[k]?) → c ≤ X.length ∧ X.take c = L.take c
 keep : keepN (L.drop m.at_.toNat) m.recs < m.recs.length → ∀ c : Nat,c ≤ L.length → (∀ k,k < c → k < Y.length → L[k]? = Y[k]?) → c ≤ m.at_.toNat + keepN (L.drop m.at_.toNat) m.recs
theorem fits {G : Int → Option (List Rec)} {Y : List Rec} {n : Nod} {m : Msg} (hm : MsgOk m) (hL : Mat G n.log) (hY : Mat G Y) (h1 : m.at_.toNat + m.recs.length ≤ Y.length) (h2 : m.recs = (Y.drop m.at_.toNat).take m.recs.length) (h3 : 0 < m.at_ → m.before = zaQ Y (m.at_ - 1))
  (hat : m.at_ ≤ n.log.length) (hb : 0 < m.at_ → zaQ n.log (m.at_ - 1) = m.before) : Fits Y n.log m (tookL n m):=by
 have a0:=hm.at0
 obtain ⟨p,hp⟩ : ∃ p,m.at_.toNat = p:=⟨_,rfl⟩
 rw [hp] at h1 h2
 have hl : m.at_.toNat ≤ n.log.length:=by omega
 have hkl:=zcy (n.log.drop m.at_.toNat) m.recs
 have hkt:=ze8 (n.log.drop m.at_.toNat) m.recs
 have hks:=zm7 (n.log.drop m.at_.toNat) m.recs
 obtain ⟨q1,q2,q3⟩:=zcr (m:=m) hl
 have hdef : tookL n m = if keepN (n.log.drop m.at_.toNat) m.recs < m.recs.length then n.log.take (m.at_.toNat + keepN (n.log.drop m.at_.toNat) m.recs) ++ m.recs.drop (keepN (n.log.drop m.at_.toNat) m.recs) else n.log:=rfl
 rw [hp] at hkl hkt hks q1 q2 q3 hdef hl
 obtain ⟨k,hk⟩ : ∃ k,keepN (n.log.drop p) m.recs = k:=⟨_,rfl⟩
 rw [hk] at hkl hkt hks q1 q2 hdef
 rw [List.length_drop] at hkl
 have hrec : ∀ i,i < m.recs.length → m.recs[i]? = Y[p + i]?:=fun i hi => by
  conv => lhs;rw [h2]
  rw [List.getElem?_take,if_pos hi,List.getElem?_drop]
 have hE : n.log.take (p + k) = Y.take (p + k):=by
  rcases Nat.eq_zero_or_pos (p + k) with h0 | h0
  ·rw [h0];rfl
  ·have e : p + k = (p + k - 1) + 1:=by omega
   have ha : n.log[p + k - 1]? = some (n.log[p + k - 1]' om):=List.getElem?_eq_getElem om
   have hb' : Y[p + k - 1]? = some (Y[p + k - 1]' om):=List.getElem?_eq_getElem om
   rw [e]
   refine hL.same hY ha hb' ?_
   by_cases h00 : k = 0
   ·have hat0 : 0 < m.at_:=by omega
    have h4:=hb hat0
    rw [h3 hat0] at h4
    have e1 : m.at_ - 1 = ((p + k - 1 : Nat) : Int):=by omega
    rw [e1,zdD ha,zdD hb'] at h4
    exact h4
   ·have h4:=hkt (k - 1) om
    rw [List.getElem?_drop,hrec (k - 1) om,show p + (k - 1) = p + k - 1 by omega,ha,hb'] at h4
    simpa using h4
 have hkeep : k < m.recs.length → ∀ c : Nat,c ≤ n.log.length → (∀ i,i < c → i < Y.length → n.log[i]? = Y[i]?) → c ≤ p + k:=fun hlt c hc hcy => by
  refine Nat.not_lt.1 fun hgt => ?_
  have h5:=hks (by rw [List.length_drop];omega) hlt
  rw [List.getElem?_drop,hrec k hlt,hcy (p + k) hgt om] at h5
  exact h5 rfl
 by_cases hlt : k < m.recs.length
 ·have hX : tookL n m = Y.take (p + m.recs.length):=by
   have h9 : m.recs.drop k = (Y.drop (p + k)).take (m.recs.length - k):=by
    conv => lhs;rw [h2]
    rw [List.drop_take,List.drop_drop]
   have e : p + m.recs.length = (p + k) + (m.recs.length - k):=by omega
   rw [hdef,if_pos hlt,hE,h9,e]
   exact List.take_add.symm
  refine ⟨.inl (by rw [hX];exact List.take_prefix _ _),by rw [hp,hX,List.take_take,Nat.min_self],by rw [hp];exact q3,fun c hc hcy => ?_,?_⟩
  ·have h6:=hkeep hlt c hc hcy
   refine ⟨by omega,?_⟩
   have h7 : (tookL n m).take (p + k) = n.log.take (p + k):=by rw [hX,List.take_take,Nat.min_eq_left om,hE]
   exact zed h7 h6
  ·rw [hp,hk];exact hkeep
 ·have hX : tookL n m = n.log:=by rw [hdef,if_neg hlt]
  refine ⟨.inr hX,by rw [hp,hX,show m.recs.length = k by omega];exact hE,by rw [hp];exact q3,fun c hc hcy => by rw [hX];exact ⟨hc,rfl⟩,?_⟩
  rw [hp,hk];exact hkeep
theorem Inv.take {G : Int → Option (List Rec)} {K : Nat} {w : CW} (h : Inv G K w) (hK : K ≤ 200) {i : Bool} {m : Msg} (hmem : m ∈ w.mail i) (hk : m.kind = 0) (ht : ¬ m.term < (w.n i).term) :
  (takeV (inTerm (w.n i) m) m).2.2.2 = 0 ∧ Next G K w i (takeV (inTerm (w.n i) m) m).1 ∧ ((takeV (inTerm (w.n i) m) m).2.1.kind = 1 → Ackd (w.n (!i)) (takeV (inTerm (w.n i) m) m).1 (takeV (inTerm (w.n i) m) m).2.1):=by
 obtain ⟨hm,htop,happ,_⟩:=h.mail i m hmem
 obtain ⟨hown,Y,hG,h1,h2,h3⟩:=happ hk
 have hn:=h.node i
 have hin:=hn.inTerm hm
 have hit:=zbN ht
 have hil:=zch (w.n i) m
 have hia:=zbZ (w.n i) m
 have a0:=hm.at0
 obtain ⟨g1,g2,g3⟩:=h.gen _ _ hG
 have hledj:=h.led (!i) _ _ hG hown
 have hpre:=h.pre (!i) _ _ hG hown (by rw [Bool.not_not];omega)
 have hno : ownB (idOf i) m.term = false:=by have:=zgi hown;rwa [Bool.not_not] at this
 have hq:=zhW hn ht (by rw [h.id i];exact hno)
 have hfi:=h.log i
 have still : Next G K w i (inTerm (w.n i) m):=h.still hin (zdN _ _) (by rw [hit];omega) (by rw [hit];exact htop) (fun hp => by rw [hq] at hp;cases hp) hil (.inl hia)
 by_cases hat : m.at_ ≤ (w.n i).log.length
 ·by_cases hb : 0 < m.at_ → zaQ (w.n i).log (m.at_ - 1) = m.before
  ·have hf : Fits Y (w.n i).log m (tookL (inTerm (w.n i) m) m):=by
    have:=fits (n:=inTerm (w.n i) m) (m:=m) (G:=G) (Y:=Y) hm (by rw [hil];exact hfi.mat) g3.mat h1 h2 h3 (by rw [hil];exact hat) (by rw [hil];exact hb)
    rwa [hil] at this
   have hYj : ∀ k,k < Y.length → Y[k]? = (w.n (!i)).log[k]?:=fun k hk => zjU hpre hk
   have hcom : ∀ c : Nat,(w.n i).log.take c = (w.n (!i)).log.take c → ∀ k,k < c → k < Y.length → (w.n i).log[k]? = Y[k]?:=fun c hc k hk1 hk2 => by
    rw [hYj k hk2];exact zos hc hk1
   have hXK : (tookL (inTerm (w.n i) m) m).length ≤ K:=by
    rcases hf.pre with hp | hp
    ·exact Nat.le_trans hp.length_le g3.len
    ·rw [hp];exact hfi.len
   have hXr : zbY 1 m.term (tookL (inTerm (w.n i) m) m):=by
    rcases hf.pre with hp | hp
    ·exact g2.sub hp.sublist
    ·rw [hp];exact hn.recs.wide (.inl (Int.le_refl _)) om
   have hXf : Fine G K w.time (tookL (inTerm (w.n i) m) m):=by
    rcases hf.pre with hp | hp
    ·exact ⟨hXK,g3.mat.pre hp,fun r hr => g3.time r (hp.subset hr)⟩
    ·rw [hp];exact hfi
   have hac:=h.com i
   have ha0:=hn.a0
   have ha1:=hn.a1
   have htk : Taken (inTerm (w.n i) m) m:=by
    refine ⟨by rw [hil];exact hat,by rw [hil];exact hb,fun hlt => ?_,by omega,by rw [hit];exact hXr⟩
    rw [hil] at hlt
    have:=hf.keep hlt (w.n i).acked.toNat om (hcom _ hac.2)
    rw [hia,hil];omega
   rw [zcv htk]
   have hnode:=htk.node hin hm hk hq
   have hlen:=hf.long
   have hpl:=hpre.length_le
   have hend : (tookL (inTerm (w.n i) m) m).take (m.at_.toNat + m.recs.length) = (w.n (!i)).log.take (m.at_.toNat + m.recs.length):=by
    rw [hf.end_]
    obtain ⟨t,ht⟩:=hpre
    rw [← ht,List.take_append_of_le_length h1]
   have hma:=(hm.app hk).a0
   refine ⟨rfl,⟨hnode,(zdN _ _).trans (h.id i),by show (w.n i).term ≤ (inTerm (w.n i) m).term;rw [hit];omega,by show (inTerm (w.n i) m).term ≤ _;rw [hit];exact htop,(fun hp => by rw [show (tookN (inTerm (w.n i) m) m).speaks = (inTerm (w.n i) m).speaks from rfl,hq] at hp;cases hp),hXf,fun T Z hZ hT hle => ?_,?_,fun c hc0 hc hcc hcl => ?_⟩,fun _ => ⟨?_,fun hp hte => ?_⟩⟩
   ·have e1:=h.led i T Z hZ hT
    have e2 : T = m.term:=by omega
    rw [e2,hno] at hT;cases hT
   ·show max (inTerm (w.n i) m).acked (min m.acked (m.at_ + m.recs.length)) ≤ ((w.n (!i)).log.length : Int) ∧ (tookL (inTerm (w.n i) m) m).take (max (inTerm (w.n i) m).acked (min m.acked (m.at_ + m.recs.length))).toNat = (w.n (!i)).log.take (max (inTerm (w.n i) m).acked (min m.acked (m.at_ + m.recs.length))).toNat
    rw [hia]
    by_cases hmx : min m.acked (m.at_ + m.recs.length) ≤ (w.n i).acked
    ·rw [show max (w.n i).acked (min m.acked (m.at_ + m.recs.length)) = (w.n i).acked by omega]
     refine ⟨hac.1,?_⟩
     rw [(hf.safe _ om (hcom _ hac.2)).2]
     exact hac.2
    ·rw [show max (w.n i).acked (min m.acked (m.at_ + m.recs.length)) = min m.acked (m.at_ + m.recs.length) by omega]
     exact ⟨by omega,zed hend om⟩
   ·have:=hf.safe c.toNat om (hcom _ hcc)
    exact ⟨by show c ≤ ((tookL (inTerm (w.n i) m) m).length : Int);omega,this.2⟩
   ·show (inTerm (w.n i) m).term ≤ _;rw [hit];exact hledj
   ·have hte' : (w.n (!i)).term = (inTerm (w.n i) m).term:=hte
    rw [hit] at hte'
    have:=h.now (!i) hp
    rw [hte',hG] at this
    injection this with this
    refine ⟨by show m.at_ + m.recs.length ≤ _;omega,by show m.at_ + m.recs.length ≤ ((tookL (inTerm (w.n i) m) m).length : Int);omega,?_⟩
    have e : (m.at_ + (m.recs.length : Int)).toNat = m.at_.toNat + m.recs.length:=by omega
    show (w.n (!i)).log.take (m.at_ + (m.recs.length : Int)).toNat = (tookL (inTerm (w.n i) m) m).take (m.at_ + (m.recs.length : Int)).toNat
    rw [e,hend]
  ·have hb' : 0 < m.at_ ∧ zaQ (w.n i).log (m.at_ - 1) ≠ m.before:=by
    by_cases h0 : 0 < m.at_
    ·exact ⟨h0,fun he => hb fun _ => he⟩
    ·exact absurd (fun h00 => absurd h00 h0) hb
   rw [zc7 (by rw [hil];exact hat) hb'.1 (by rw [hil];exact hb'.2)]
   exact ⟨rfl,still,fun hc => by have : (2 : Int) = 1:=hc;omega⟩
 ·rw [zdp (by rw [hil];omega)]
  exact ⟨rfl,still,fun hc => by have : (2 : Int) = 1:=hc;omega⟩
theorem Inv.recv {G : Int → Option (List Rec)} {K : Nat} {w : CW} (h : Inv G K w) (hK : K ≤ 200) {i : Bool} {m : Msg} (hmem : m ∈ w.mail i) :
  (recvV (w.n i) m).2.2.2 = 0 ∧ Inv G K (setN w i (recvV (w.n i) m).1) ∧ ((recvV (w.n i) m).2.2.1 = true → Inv G K (postM (setN w i (recvV (w.n i) m).1) (!i) (recvV (w.n i) m).2.1)):=by
 obtain ⟨hm,htop,happ,hack⟩:=h.mail i m hmem
 have hn:=h.node i
 have hno : m.kind = 0 → ownB (w.n i).id m.term = false:=fun hk => by
  have:=zgi (happ hk).own
  rw [Bool.not_not] at this
  rw [h.id i];exact this
 have hin:=hn.inTerm hm
 have hil:=zch (w.n i) m
 have hia:=zbZ (w.n i) m
 have hterms:=h.terms i
 have key : (recdV (w.n i) m).2.2.2 = 0 ∧ Next G K w i (recdV (w.n i) m).1 ∧ ((recdV (w.n i) m).2.1.kind = 1 → (recdV (w.n i) m).2.2.1 = true → Ackd (w.n (!i)) (recdV (w.n i) m).1 (recdV (w.n i) m).2.1):=by
  by_cases ht : m.term < (w.n i).term
  ·have e : recdV (w.n i) m = if m.kind = 0 then (w.n i,ansM (w.n i) 2 0,true,0) else (w.n i,msg0,false,0):=by unfold recdV;rw [if_pos ht]
   have hst : Next G K w i (w.n i):=h.still hn rfl (Int.le_refl _) hterms (fun hp => ⟨hp,rfl⟩) rfl (.inl rfl)
   rw [e]
   split
   ·exact ⟨rfl,hst,fun hc => by have : (2 : Int) = 1:=hc;omega⟩
   ·exact ⟨rfl,hst,fun _ hc => by cases hc⟩
  ·have hit:=zbN ht
   by_cases hk : m.kind = 0
   ·have e : recdV (w.n i) m = takeV (inTerm (w.n i) m) m:=by unfold recdV;rw [if_neg ht,if_pos hk]
    rw [e]
    obtain ⟨q1,q2,q3⟩:=h.take hK hmem hk ht
    exact ⟨q1,q2,fun hc _ => q3 hc⟩
   ·by_cases hk1 : m.kind = 1
    ·have e : recdV (w.n i) m = (ackN (inTerm (w.n i) m) m,msg0,false,0):=by unfold recdV;rw [if_neg ht,if_neg hk,if_pos hk1]
     rw [e]
     refine ⟨rfl,?_,fun _ hc => by cases hc⟩
     have hd:=hack hk1
     have hte : (w.n i).term = m.term:=by have:=hd.old;omega
     rw [zb5 hte]
     have hok:=zxX hn hm
     unfold ackN at hok ⊢
     by_cases hc : (w.n i).speaks = true ∧ m.at_ ≤ (w.n i).log.length
     ·rw [if_pos hc] at hok ⊢
      obtain ⟨e1,e2,e3⟩:=hd.log hc.1 hte
      refine h.still hok rfl (Int.le_refl _) hterms (fun hp => ⟨hp,rfl⟩) rfl ?_
      have hcom:=h.com i
      show max (w.n i).acked m.at_ = _ ∨ (max (w.n i).acked m.at_ ≤ _ ∧ (w.n i).log.take (max (w.n i).acked m.at_).toNat = _)
      by_cases hmx : m.at_ ≤ (w.n i).acked
      ·exact .inl om
      ·right
       rw [show max (w.n i).acked m.at_ = m.at_ by omega]
       exact ⟨e2,e3⟩
     ·rw [if_neg hc]
      exact h.still hn rfl (Int.le_refl _) hterms (fun hp => ⟨hp,rfl⟩) rfl (.inl rfl)
    ·have e : recdV (w.n i) m = (zar (inTerm (w.n i) m) m,msg0,false,0):=by unfold recdV;rw [if_neg ht,if_neg hk,if_neg hk1]
     rw [e]
     refine ⟨rfl,?_,fun _ hc => by cases hc⟩
     have hok:=zmr (m:=m) hin
     have e1 : (zar (inTerm (w.n i) m) m).id = (w.n i).id:=by rw [← zdN (w.n i) m];unfold zar;split <;> rfl
     have e2 : (zar (inTerm (w.n i) m) m).term = m.term:=by rw [← hit];unfold zar;split <;> rfl
     have e3 : (zar (inTerm (w.n i) m) m).acked = (w.n i).acked:=by rw [← hia];unfold zar;split <;> rfl
     have e4 : (zar (inTerm (w.n i) m) m).log = (w.n i).log:=by rw [← hil];unfold zar;split <;> rfl
     have e5 : (zar (inTerm (w.n i) m) m).speaks = (inTerm (w.n i) m).speaks:=by unfold zar;split <;> rfl
     refine h.still hok e1 (by rw [e2];omega) (by rw [e2];exact htop) (fun hp => ?_) e4 (.inl e3)
     rw [e5] at hp
     rcases zfh hp with ⟨g1,g2⟩ | ⟨g1,g2⟩
     ·exact ⟨g1,by rw [e2,g2]⟩
     ·omega
 obtain ⟨q1,q2,q3⟩:=key
 have hl:=zgL hn hm hno q1
 rw [zl5 hn hm hno q1]
 have hinv:=h.next q2
 refine ⟨q1,hinv,fun hok => ?_⟩
 obtain ⟨a1,a2,a3⟩:=hl.ans hok
 refine hinv.posted a1 (by rw [a2];exact q2.top) (fun hk => absurd hk a3) (fun hk => ?_)
 rw [zcl,Bool.not_not,zcZ]
 exact q3 hk hok

def zbu (n : Nod) : Int:=if (n.term + 1) % 2 = n.id % 2 then n.term + 1 else n.term + 2
theorem zpH {n : Nod} {t : Int} (hn : NodOk n) (h1 : t ≤ 1048576) (h2 : ownB n.id t = true) (h3 : n.term < t) : leadV n t = (ledN n t,0) ∧ NodOk (ledN n t):=by
 have hp:=zeD h2
 have h4:=hn.a0;have h5:=hn.a1
 constructor
 ·unfold leadV
  rw [if_neg (by simpa using (zal n).2 hn),if_neg om,if_neg (by rw [h2];simp),if_neg om]
 ·exact ⟨hn.id1,hn.id2,by show 0 ≤ t;omega,h1,fun _ => h2,hn.len,hn.recs.wide (.inl (Int.le_refl _)) (by show n.term ≤ t;omega),hn.a0,hn.a1,by show (0 : Int) ≤ (n.log.length : Int);omega,by show (n.log.length : Int) ≤ (n.log.length : Int);omega,(fun h => by cases h)⟩
theorem zmX {n : Nod} (hn : NodOk n) : ownB n.id (zbu n) = true ∧ n.term < zbu n ∧ zbu n ≤ n.term + 2:=by
 have:=hn.t0;have:=hn.id1;have:=hn.id2
 unfold zbu ownB
 split
 ·exact ⟨decide_eq_true ⟨by omega,by omega⟩,by omega,by omega⟩
 ·exact ⟨decide_eq_true ⟨by omega,by omega⟩,by omega,by omega⟩
def addG (G : Int → Option (List Rec)) (T : Int) (X : List Rec) : Int → Option (List Rec):=fun t => if t = T then some X else G t
theorem Mat.add {G : Int → Option (List Rec)} {T : Int} {X Z : List Rec} (h : Mat G Z) (hx : ∀ Y,G T = some Y → Y <+: X) : Mat (addG G T X) Z:=fun k r hk => by
 obtain ⟨Y,h1,h2⟩:=h k r hk
 by_cases ht : r.term = T
 ·rw [ht] at h1 ⊢
  refine ⟨X,if_pos rfl,?_⟩
  obtain ⟨t,rfl⟩:=hx Y h1
  rw [h2]
  have hlt:=(List.getElem?_eq_some_iff.1 hk).1
  have : k + 1 ≤ Y.length:=by
   have h3:=congrArg List.length h2
   rw [List.length_take,List.length_take] at h3
   omega
  rw [List.take_append_of_le_length this]
 ·exact ⟨Y,by show (if r.term = T then some X else G r.term) = _;rw [if_neg ht];exact h1,h2⟩
theorem zbE (G : Int → Option (List Rec)) (T : Int) (X : List Rec) : addG G T X T = some X:=if_pos rfl
theorem zaz {G : Int → Option (List Rec)} {T t : Int} {X : List Rec} (h : t ≠ T) : addG G T X t = G t:=if_neg h
theorem Inv.lead {G : Int → Option (List Rec)} {K : Nat} {w : CW} (h : Inv G K w) (i : Bool) {T : Int} (hown : ownB (idOf i) T = true) (hlt : (w.n i).term < T) (htop : T ≤ 2 * (K + 1 : Nat)) (hK : K ≤ 200) : ∃ G',Inv G' (K + 1) (setN w i (ledN (w.n i) T)):=by
 have hn:=h.node i
 have hid:=h.id i
 obtain ⟨_,hok⟩:=zpH hn (t:=T) om (by rw [hid];exact hown) hlt
 have hnone : G T = none:=by
  cases hc : G T with
  | none => rfl
  | some Y => have:=h.led i T Y hc hown;omega
 have hadd : ∀ {Z},Mat G Z → Mat (addG G T (w.n i).log) Z:=fun {Z} hz => hz.add (fun Y hY => by rw [hnone] at hY;cases hY)
 have hfine : ∀ {Z},Fine G K w.time Z → Fine (addG G T (w.n i).log) (K + 1) w.time Z:=fun {Z} hz => ⟨by have:=hz.len;omega,hadd hz.mat,hz.time⟩
 have hs:=zcZ w i (ledN (w.n i) T)
 have ho:=zcl w i (ledN (w.n i) T)
 have hne : ∀ {t},ownB (idOf (!i)) t = true → t ≠ T:=fun {t} ht e => by
  subst e
  rw [zgi hown] at ht;cases ht
 refine ⟨addG G T (w.n i).log,?_,?_,?_,?_,fun t Y hY => ?_,?_,?_,?_,?_,h.t0,by have:=h.t1;show w.time ≤ _;omega,?_⟩
 ·exact both i (by rw [hs];exact hok) (by rw [ho];exact h.node _)
 ·exact both i (by rw [hs];exact hid) (by rw [ho];exact h.id _)
 ·refine both i (fun _ => ?_) (fun hp => ?_)
  ·rw [hs];exact zbE _ _ _
  ·rw [ho] at hp ⊢
   rw [zaz (hne (h.own hp))]
   exact h.now _ hp
 ·refine both i (fun t Y hY ht => ?_) (fun t Y hY ht => ?_)
  ·rw [hs]
   show t ≤ T
   by_cases e : t = T
   ·omega
   ·rw [zaz e] at hY
    have:=h.led i t Y hY ht
    omega
  ·rw [ho]
   rw [zaz (hne ht)] at hY
   exact h.led _ t Y hY ht
 ·by_cases e : t = T
  ·subst e
   rw [zbE] at hY
   injection hY with hY
   subst hY
   exact ⟨zeD hown,hn.recs.wide (.inl (Int.le_refl _)) om,hfine (h.log i)⟩
  ·rw [zaz e] at hY
   obtain ⟨g1,g2,g3⟩:=h.gen t Y hY
   exact ⟨g1,g2,hfine g3⟩
 ·exact both i (by rw [hs];exact hfine (h.log i)) (by rw [ho];exact hfine (h.log _))
 ·refine both i (fun t Y hY ht hle => ?_) (fun t Y hY ht hle => ?_)
  ·rw [hs];rw [ho] at hle
   show Y <+: (w.n i).log
   by_cases e : t = T
   ·subst e
    rw [zbE] at hY
    injection hY with hY
    subst hY
    exact List.prefix_refl _
   ·rw [zaz e] at hY
    exact h.pre i t Y hY ht hle
  ·rw [ho];rw [Bool.not_not,hs] at hle
   rw [zaz (hne ht)] at hY
   have hle' : T ≤ t:=hle
   exact h.pre (!i) t Y hY ht (by rw [Bool.not_not];omega)
 ·refine both i ?_ ?_
  ·rw [hs,ho];exact h.com i
  ·rw [ho,Bool.not_not,hs];have:=h.com (!i);rwa [Bool.not_not] at this
 ·exact both i (by rw [hs];exact htop) (by rw [ho];have:=h.terms (!i);omega)
 ·refine both i (fun m hm => ?_) (fun m hm => ?_)
  ·obtain ⟨a,b,c,d⟩:=h.mail i m hm
   refine ⟨a,by omega,fun hk => ?_,fun hk => ?_⟩
   ·obtain ⟨q1,Y,q2,q3⟩:=c hk
    exact ⟨q1,Y,by rw [zaz (hne q1)];exact q2,q3⟩
   ·rw [hs,ho]
    have:=(d hk).old
    exact ⟨by show m.term ≤ T;omega,fun _ he => by have : T = m.term:=he;omega⟩
  ·obtain ⟨a,b,c,d⟩:=h.mail (!i) m hm
   refine ⟨a,by omega,fun hk => ?_,fun hk => ?_⟩
   ·obtain ⟨q1,Y,q2,q3⟩:=c hk
    refine ⟨q1,Y,?_,q3⟩
    rw [zaz]
    ·exact q2
    ·intro e;rw [e,hnone] at q2;cases q2
   ·rw [ho,Bool.not_not,hs]
    have:=d hk
    rw [Bool.not_not] at this
    exact ⟨this.old,this.log⟩
theorem Inv.act {G : Int → Option (List Rec)} {K : Nat} {w : CW} (h : Inv G K w) (i : Bool) (hs : (w.n i).speaks = true) {a : Acn} {t : Int} (ha : acnE a = 0) (hat : a.at_ = t) (ht : w.time ≤ t) (ht2 : t ≤ 255 * (K + 1 : Nat)) (hK : K ≤ 200) :
  actV (w.n i) a = (actN (w.n i) a,0) ∧ ∃ G',Inv G' (K + 1) (setN (setT w t) i (actN (w.n i) a)):=by
 have hn:=h.node i
 have hid:=h.id i
 have hfi:=h.log i
 have hlk:=hfi.len
 have hown:=h.own hs
 have hnow:=h.now i hs
 have hearly : early (w.n i).log a = false:=by
  unfold early
  cases hg : (w.n i).log.getLast? with
  | none => rfl
  | some r =>
   have:=hfi.time r (List.mem_of_getLast? hg)
   simp only
   apply decide_eq_false
   omega
 have hro : zbY 1 (w.n i).term ((w.n i).log ++ [⟨(w.n i).term,a⟩]):=by
  have hp:=zeD hown
  refine hn.recs.append ⟨by simp;omega,by simp;omega,by simp,by simpa using ha,by simp⟩ ?_
  intro x hx y hy
  simp at hy
  subst hy
  have h1:=hn.recs.hi x (List.mem_of_getLast? hx)
  have h2:=hfi.time x (List.mem_of_getLast? hx)
  exact ⟨h1,by show x.act.at_ ≤ a.at_;omega⟩
 have hok : NodOk (actN (w.n i) a):=by
  have:=hn.a0;have:=hn.a1;have:=hn.n0;have:=hn.n1
  exact ⟨hn.id1,hn.id2,hn.t0,hn.t1,hn.own,by show ((w.n i).log ++ _).length ≤ 256;simp;omega,hro,hn.a0,by show (w.n i).acked ≤ (((w.n i).log ++ _).length : Int);simp;omega,hn.n0,by show (w.n i).next ≤ (((w.n i).log ++ _).length : Int);simp;omega,hn.n2⟩
 refine ⟨?_,?_⟩
 ·unfold actV
  rw [if_neg (by simpa using (zal _).2 hn),if_neg (by rw [hs];simp),if_neg (by simpa using ha),if_neg (by rw [hearly];simp),if_neg om]
 obtain ⟨X,hX⟩ : ∃ X,(w.n i).log ++ [(⟨(w.n i).term,a⟩ : Rec)] = X:=⟨_,rfl⟩
 have hXl : (actN (w.n i) a).log = X:=hX
 have hpre0 : (w.n i).log <+: X:=⟨_,hX⟩
 have hXlen : X.length = (w.n i).log.length + 1:=by rw [← hX];simp
 rw [hX] at hro
 obtain ⟨T,hT⟩ : ∃ T,(w.n i).term = T:=⟨_,rfl⟩
 rw [hT] at hnow hown hro
 have hTx : (actN (w.n i) a).term = T:=hT
 have hadd : ∀ {Z},Mat G Z → Mat (addG G T X) Z:=fun {Z} hz => hz.add (fun Y hY => by rw [hnow] at hY;injection hY with hY;rw [← hY];exact hpre0)
 have hfine : ∀ {Z},Fine G K w.time Z → Fine (addG G T X) (K + 1) t Z:=fun {Z} hz => ⟨by have:=hz.len;omega,hadd hz.mat,fun r hr => by have:=hz.time r hr;omega⟩
 have hXf : Fine (addG G T X) (K + 1) t X:=by
  refine ⟨by omega,fun k r hk => ?_,fun r hr => ?_⟩
  ·by_cases hlt : k < (w.n i).log.length
   ·have:=zjU hpre0 hlt
    rw [hk] at this
    obtain ⟨Y,q1,q2⟩:=hadd hfi.mat k r this
    refine ⟨Y,q1,?_⟩
    rw [← q2,← hX,List.take_append_of_le_length om]
   ·have hkl:=(List.getElem?_eq_some_iff.1 hk).1
    have hke : k = (w.n i).log.length:=by omega
    have : r.term = T:=by
     rw [← hX,hke,List.getElem?_append_right (Nat.le_refl _),Nat.sub_self] at hk
     simp at hk
     rw [← hk];exact hT
    rw [this]
    exact ⟨X,zbE _ _ _,rfl⟩
  ·rw [← hX] at hr
   rcases List.mem_append.1 hr with hr | hr
   ·have:=hfi.time r hr;omega
   ·simp at hr;subst hr;show a.at_ ≤ t;omega
 have hse:=zcZ (setT w t) i (actN (w.n i) a)
 have ho : (setN (setT w t) i (actN (w.n i) a)).n (!i) = w.n (!i):=zcl (setT w t) i _
 have hne : ∀ {u},ownB (idOf (!i)) u = true → u ≠ T:=fun {u} hu e => by
  subst e
  rw [zgi hown] at hu;cases hu
 have htk : ∀ c : Int,c ≤ (w.n i).log.length → X.take c.toNat = (w.n i).log.take c.toNat:=fun c hc => by rw [← hX,List.take_append_of_le_length om]
 refine ⟨addG G T X,?_,?_,?_,?_,fun u Y hY => ?_,?_,?_,?_,?_,?_,ht2,?_⟩
 ·exact both i (by rw [hse];exact hok) (by rw [ho];exact h.node _)
 ·exact both i (by rw [hse];exact hid) (by rw [ho];exact h.id _)
 ·refine both i (fun _ => ?_) (fun hp => ?_)
  ·rw [hse,hTx,hXl];exact zbE _ _ _
  ·rw [ho] at hp ⊢
   rw [zaz (hne (h.own hp))]
   exact h.now _ hp
 ·refine both i (fun u Y hY hu => ?_) (fun u Y hY hu => ?_)
  ·rw [hse,hTx]
   by_cases e : u = T
   ·omega
   ·rw [zaz e] at hY
    have:=h.led i u Y hY hu
    omega
  ·rw [ho]
   rw [zaz (hne hu)] at hY
   exact h.led _ u Y hY hu
 ·by_cases e : u = T
  ·subst e
   rw [zbE] at hY
   injection hY with hY
   subst hY
   exact ⟨zeD hown,hro,hXf⟩
  ·rw [zaz e] at hY
   obtain ⟨g1,g2,g3⟩:=h.gen u Y hY
   exact ⟨g1,g2,hfine g3⟩
 ·exact both i (by rw [hse,hXl];exact hXf) (by rw [ho];exact hfine (h.log _))
 ·refine both i (fun u Y hY hu hle => ?_) (fun u Y hY hu hle => ?_)
  ·rw [hse,hXl];rw [ho] at hle
   by_cases e : u = T
   ·subst e
    rw [zbE] at hY
    injection hY with hY
    subst hY
    exact List.prefix_refl _
   ·rw [zaz e] at hY
    exact (h.pre i u Y hY hu hle).trans hpre0
  ·rw [ho];rw [Bool.not_not,hse,hTx] at hle
   rw [zaz (hne hu)] at hY
   exact h.pre (!i) u Y hY hu (by rw [Bool.not_not];omega)
 ·refine both i ?_ ?_
  ·rw [hse,ho,hXl]
   obtain ⟨c1,c2⟩:=h.com i
   refine ⟨c1,?_⟩
   show X.take (w.n i).acked.toNat = _
   rw [htk _ hn.a1];exact c2
  ·rw [ho,Bool.not_not,hse,hXl]
   obtain ⟨c1,c2⟩:=h.com (!i)
   rw [Bool.not_not] at c1 c2
   exact ⟨by omega,by rw [htk _ c1];exact c2⟩
 ·exact both i (by rw [hse,hTx];have:=h.terms i;omega) (by rw [ho];have:=h.terms (!i);omega)
 ·have:=h.t0;show 0 ≤ t;omega
 ·refine both i (fun m hm => ?_) (fun m hm => ?_)
  ·obtain ⟨p,q,c,d⟩:=h.mail i m hm
   refine ⟨p,by omega,fun hk => ?_,fun hk => ?_⟩
   ·obtain ⟨q1,Y,q2,q3⟩:=c hk
    exact ⟨q1,Y,by rw [zaz (hne q1)];exact q2,q3⟩
   ·rw [hse,ho]
    have hd:=d hk
    refine ⟨hd.old,fun hp he => ?_⟩
    obtain ⟨e1,e2,e3⟩:=hd.log hs he
    rw [hXl]
    exact ⟨by omega,e2,by rw [htk _ e1];exact e3⟩
  ·obtain ⟨p,q,c,d⟩:=h.mail (!i) m hm
   refine ⟨p,by omega,fun hk => ?_,fun hk => ?_⟩
   ·obtain ⟨q1,Y,q2,q3,q4,q5⟩:=c hk
    by_cases e : m.term = T
    ·rw [e,hnow] at q2
     injection q2 with q2
     subst q2
     refine ⟨q1,X,by rw [e];exact zbE _ _ _,by omega,?_,fun h0 => ?_⟩
     ·rw [← hX,List.drop_append_of_le_length om,List.take_append_of_le_length (by rw [List.length_drop];omega)]
      exact q4
     ·have p0:=p.at0
      rw [q5 h0]
      unfold zaQ
      rw [if_neg om,if_neg om,← zjU hpre0 om]
    ·exact ⟨q1,Y,by rw [zaz e];exact q2,q3,q4,q5⟩
   ·rw [ho,Bool.not_not,hse]
    have hd:=d hk
    rw [Bool.not_not] at hd
    refine ⟨hd.old,fun hp he => ?_⟩
    obtain ⟨e1,e2,e3⟩:=hd.log hp he
    rw [hXl]
    exact ⟨e1,by omega,by rw [htk _ e2];exact e3⟩
theorem Inv.send {G : Int → Option (List Rec)} {K : Nat} {w : CW} (h : Inv G K w) (i : Bool) (hs : (w.n i).speaks = true) : sendV (w.n i) = (sentM (w.n i),0) ∧ Inv G K (postM w (!i) (sentM (w.n i))):=by
 have hn:=h.node i
 have h0:=hn.n0;have h1:=hn.n1
 refine ⟨?_,h.posted (zdW hn hs) (h.terms i) (fun _ => ⟨?_,?_⟩) (fun hc => by have : (0 : Int) = 1:=hc;omega)⟩
 ·unfold sendV
  rw [if_neg (by simpa using (zal _).2 hn),if_neg (by rw [hs];simp)]
 ·rw [Bool.not_not];exact h.own hs
 ·have hl : (sentM (w.n i)).recs.length = min 16 ((w.n i).log.length - (w.n i).next.toNat):=by
   show (((w.n i).log.drop _).take 16).length = _
   rw [List.length_take,List.length_drop]
  refine ⟨(w.n i).log,h.now i hs,?_,?_,fun hp => ?_⟩
  ·show (w.n i).next.toNat + _ ≤ _;rw [hl];omega
  ·show ((w.n i).log.drop (w.n i).next.toNat).take 16 = ((w.n i).log.drop (w.n i).next.toNat).take (sentM (w.n i)).recs.length
   rw [hl]
   by_cases hc : 16 ≤ (w.n i).log.length - (w.n i).next.toNat
   ·rw [Nat.min_eq_left hc]
   ·rw [Nat.min_eq_right om,List.take_of_length_le (by rw [List.length_drop];omega),List.take_of_length_le (by rw [List.length_drop];omega)]
  ·show (if 0 < (w.n i).next then _ else (0 : Int)) = _
   have hp' : 0 < (w.n i).next:=hp
   rw [if_pos hp']
   rfl
end Go.Proofs.YtnpdghjpcnjokaaGreat

namespace Go.Proofs.YtnpdghjpcnjokaaGreat
namespace Tk

structure Fine (G : Int → Option (List Rec)) (X : List Rec) : Prop where
 len : X.length ≤ 256
 mat : Mat G X
structure Inv (G : Int → Option (List Rec)) (K : Nat) (w : CW) : Prop where
 node : ∀ i,NodOk (w.n i)
 id : ∀ i,(w.n i).id = idOf i
 now : ∀ i,(w.n i).speaks = true → G (w.n i).term = some (w.n i).log
 led : ∀ i T Y,G T = some Y → ownB (idOf i) T = true → T ≤ (w.n i).term
 gen : ∀ T Y,G T = some Y → 1 ≤ T ∧ zbY 1 T Y ∧ Fine G Y
 log : ∀ i,Fine G (w.n i).log
 pre : ∀ i T Y,G T = some Y → ownB (idOf i) T = true → (w.n (!i)).term ≤ T → Y <+: (w.n i).log
 com : ∀ i,(w.n i).acked ≤ (w.n (!i)).log.length ∧ (w.n i).log.take (w.n i).acked.toNat = (w.n (!i)).log.take (w.n i).acked.toNat
 terms : ∀ i,(w.n i).term ≤ 2 * K
 mail : ∀ i m,m ∈ w.mail i → MsgOk m ∧ m.term ≤ 2 * K ∧ (m.kind = 0 → App G i m) ∧ (m.kind = 1 → Ackd (w.n i) (w.n (!i)) m)

theorem Inv.own {G : Int → Option (List Rec)} {K : Nat} {w : CW} (h : Inv G K w) {i : Bool} (hs : (w.n i).speaks = true) : ownB (idOf i) (w.n i).term = true:=by
 have:=(h.node i).own hs
 rwa [h.id i] at this
theorem Inv.more {G : Int → Option (List Rec)} {K K' : Nat} {w : CW} (h : Inv G K w) (hk : K ≤ K') : Inv G K' w :=
 ⟨h.node,h.id,h.now,h.led,h.gen,h.log,h.pre,h.com,fun i => by have:=h.terms i;omega,fun i m hm => by
  obtain ⟨a,b,c,d⟩:=h.mail i m hm
  exact ⟨a,by omega,c,d⟩⟩
theorem Inv.posted {G : Int → Option (List Rec)} {K : Nat} {w : CW} (h : Inv G K w) {i : Bool} {m : Msg} (h1 : MsgOk m) (h2 : m.term ≤ 2 * K) (h3 : m.kind = 0 → App G i m) (h4 : m.kind = 1 → Ackd (w.n i) (w.n (!i)) m) : Inv G K (postM w i m) :=
 ⟨h.node,h.id,h.now,h.led,h.gen,h.log,h.pre,h.com,h.terms,fun j x hx => by
  by_cases hj : j = i
  ·subst hj
   have hx : x ∈ w.mail j ++ [m]:=by have : x ∈ (if j = j then w.mail j ++ [m] else w.mail j):=hx;rwa [if_pos rfl] at this
   rcases List.mem_append.1 hx with hx | hx
   ·exact h.mail j x hx
   ·simp at hx;subst hx;exact ⟨h1,h2,h3,h4⟩
  ·have : x ∈ (if j = i then w.mail j ++ [m] else w.mail j):=hx
   rw [if_neg hj] at this
   exact h.mail j x this⟩
structure Next (G : Int → Option (List Rec)) (K : Nat) (w : CW) (i : Bool) (x : Nod) : Prop where
 node : NodOk x
 id : x.id = idOf i
 term : (w.n i).term ≤ x.term
 top : x.term ≤ 2 * K
 speaks : x.speaks = true → (w.n i).speaks = true ∧ x.term = (w.n i).term ∧ x.log = (w.n i).log
 log : Fine G x.log
 pre : ∀ T Y,G T = some Y → ownB (idOf i) T = true → (w.n (!i)).term ≤ T → Y <+: x.log
 com : x.acked ≤ (w.n (!i)).log.length ∧ x.log.take x.acked.toNat = (w.n (!i)).log.take x.acked.toNat
 safe : ∀ c : Int,0 ≤ c → c ≤ (w.n i).log.length → (w.n i).log.take c.toNat = (w.n (!i)).log.take c.toNat → c ≤ (w.n (!i)).log.length → c ≤ x.log.length ∧ x.log.take c.toNat = (w.n i).log.take c.toNat
theorem Inv.next {G : Int → Option (List Rec)} {K : Nat} {w : CW} (h : Inv G K w) {i : Bool} {x : Nod} (hx : Next G K w i x) : Inv G K (setN w i x):=by
 have hs:=zcZ w i x
 have ho:=zcl w i x
 have hs' : ∀ {j},j = (!i) → (setN w i x).n (!j) = x:=fun {j} e => by subst e;rw [Bool.not_not];exact hs
 have ho' : (setN w i x).n (!i) = w.n (!i):=ho
 refine ⟨?_,?_,?_,?_,h.gen,?_,?_,?_,?_,?_⟩
 ·exact both i (by rw [hs];exact hx.node) (by rw [ho];exact h.node _)
 ·exact both i (by rw [hs];exact hx.id) (by rw [ho];exact h.id _)
 ·refine both i (fun hp => ?_) (fun hp => ?_)
  ·rw [hs] at hp ⊢
   obtain ⟨a,b,c⟩:=hx.speaks hp
   rw [b,c];exact h.now i a
  ·rw [ho] at hp ⊢;exact h.now _ hp
 ·refine both i (fun T Y hY hT => ?_) (fun T Y hY hT => ?_)
  ·rw [hs];exact Int.le_trans (h.led i T Y hY hT) hx.term
  ·rw [ho];exact h.led _ T Y hY hT
 ·exact both i (by rw [hs];exact hx.log) (by rw [ho];exact h.log _)
 ·refine both i (fun T Y hY hT hle => ?_) (fun T Y hY hT hle => ?_)
  ·rw [hs];rw [ho] at hle;exact hx.pre T Y hY hT hle
  ·rw [ho];rw [Bool.not_not,hs] at hle
   exact h.pre (!i) T Y hY hT (by rw [Bool.not_not];exact Int.le_trans hx.term hle)
 ·refine both i ?_ ?_
  ·rw [hs,ho];exact hx.com
  ·rw [ho,Bool.not_not,hs]
   obtain ⟨c1,c2⟩:=h.com (!i)
   rw [Bool.not_not] at c1 c2
   obtain ⟨s1,s2⟩:=hx.safe _ (h.node (!i)).a0 c1 c2.symm (h.node (!i)).a1
   exact ⟨s1,by rw [s2];exact c2⟩
 ·exact both i (by rw [hs];exact hx.top) (by rw [ho];exact h.terms _)
 ·refine both i (fun m hm => ?_) (fun m hm => ?_)
  ·obtain ⟨a,b,c,d⟩:=h.mail i m hm
   refine ⟨a,b,c,fun hk => ?_⟩
   rw [hs,ho]
   have hd:=d hk
   refine ⟨Int.le_trans hd.old hx.term,fun hp ht => ?_⟩
   obtain ⟨e1,e2,e3⟩:=hx.speaks hp
   rw [e3]
   exact hd.log e1 (by rw [← e2];exact ht)
  ·obtain ⟨a,b,c,d⟩:=h.mail (!i) m hm
   refine ⟨a,b,c,fun hk => ?_⟩
   rw [ho,Bool.not_not,hs]
   have hd:=d hk
   rw [Bool.not_not] at hd
   refine ⟨hd.old,fun hp ht => ?_⟩
   obtain ⟨e1,e2,e3⟩:=hd.log hp ht
   obtain ⟨s1,s2⟩:=hx.safe m.at_ a.at0 e2 e3.symm e1
   exact ⟨e1,s1,by rw [s2];exact e3⟩
theorem Inv.still {G : Int → Option (List Rec)} {K : Nat} {w : CW} (h : Inv G K w) {i : Bool} {x : Nod} (h1 : NodOk x) (h2 : x.id = (w.n i).id) (h3 : (w.n i).term ≤ x.term) (h4 : x.term ≤ 2 * K) (h5 : x.speaks = true → (w.n i).speaks = true ∧ x.term = (w.n i).term)
  (h6 : x.log = (w.n i).log) (h7 : x.acked = (w.n i).acked ∨ (x.acked ≤ (w.n (!i)).log.length ∧ x.log.take x.acked.toNat = (w.n (!i)).log.take x.acked.toNat)) : Next G K w i x :=
 ⟨h1,h2.trans (h.id i),h3,h4,fun hp => ⟨(h5 hp).1,(h5 hp).2,h6⟩,by rw [h6];exact h.log i,fun T Y hY hT hle => by rw [h6];exact h.pre i T Y hY hT hle,by
  rcases h7 with h7 | h7
  ·rw [h7,h6];exact h.com i
  ·exact h7,fun c _ hc _ _ => by rw [h6];exact ⟨hc,rfl⟩⟩

theorem zjU {X Y : List Rec} (h : X <+: Y) {k : Nat} (hk : k < X.length) : X[k]? = Y[k]?:=by
 obtain ⟨t,rfl⟩:=h
 rw [List.getElem?_append_left hk]
theorem zos {X Y : List Rec} {c k : Nat} (h : X.take c = Y.take c) (hk : k < c) : X[k]? = Y[k]?:=by
 have:=congrArg (fun l => l[k]?) h
 simp only [List.getElem?_take,if_pos hk] at this
 exact this
structure Fits (Y L : List Rec) (m : Msg) (X : List Rec) : Prop where
 pre : X <+: Y ∨ X = L
 end_ : X.take (m.at_.toNat + m.recs.length) = Y.take (m.at_.toNat + m.recs.length)
 long : m.at_.toNat + m.recs.length ≤ X.length
 safe : ∀ c : Nat,c ≤ L.length → (∀ k,k < c → k < Y.length → L[k]? = Y[k]?) → c ≤ X.length ∧ X.take c = L.take c
 keep : keepN (L.drop m.at_.toNat) m.recs < m.recs.length → ∀ c : Nat,c ≤ L.length → (∀ k,k < c → k < Y.length → L[k]? = Y[k]?) → c ≤ m.at_.toNat + keepN (L.drop m.at_.toNat) m.recs
theorem fits {G : Int → Option (List Rec)} {Y : List Rec} {n : Nod} {m : Msg} (hm : MsgOk m) (hL : Mat G n.log) (hY : Mat G Y) (h1 : m.at_.toNat + m.recs.length ≤ Y.length) (h2 : m.recs = (Y.drop m.at_.toNat).take m.recs.length) (h3 : 0 < m.at_ → m.before = zaQ Y (m.at_ - 1))
  (hat : m.at_ ≤ n.log.length) (hb : 0 < m.at_ → zaQ n.log (m.at_ - 1) = m.before) : Fits Y n.log m (tookL n m):=by
 have a0:=hm.at0
 obtain ⟨p,hp⟩ : ∃ p,m.at_.toNat = p:=⟨_,rfl⟩
 rw [hp] at h1 h2
 have hl : m.at_.toNat ≤ n.log.length:=by omega
 have hkl:=zcy (n.log.drop m.at_.toNat) m.recs
 have hkt:=ze8 (n.log.drop m.at_.toNat) m.recs
 have hks:=zm7 (n.log.drop m.at_.toNat) m.recs
 obtain ⟨q1,q2,q3⟩:=zcr (m:=m) hl
 have hdef : tookL n m = if keepN (n.log.drop m.at_.toNat) m.recs < m.recs.length then n.log.take (m.at_.toNat + keepN (n.log.drop m.at_.toNat) m.recs) ++ m.recs.drop (keepN (n.log.drop m.at_.toNat) m.recs) else n.log:=rfl
 rw [hp] at hkl hkt hks q1 q2 q3 hdef hl
 obtain ⟨k,hk⟩ : ∃ k,keepN (n.log.drop p) m.recs = k:=⟨_,rfl⟩
 rw [hk] at hkl hkt hks q1 q2 hdef
 rw [List.length_drop] at hkl
 have hrec : ∀ i,i < m.recs.length → m.recs[i]? = Y[p + i]?:=fun i hi => by
  conv => lhs;rw [h2]
  rw [List.getElem?_take,if_pos hi,List.getElem?_drop]
 have hE : n.log.take (p + k) = Y.take (p + k):=by
  rcases Nat.eq_zero_or_pos (p + k) with h0 | h0
  ·rw [h0];rfl
  ·have e : p + k = (p + k - 1) + 1:=by omega
   have ha : n.log[p + k - 1]? = some (n.log[p + k - 1]' om):=List.getElem?_eq_getElem om
   have hb' : Y[p + k - 1]? = some (Y[p + k - 1]' om):=List.getElem?_eq_getElem om
   rw [e]
   refine hL.same hY ha hb' ?_
   by_cases h00 : k = 0
   ·have hat0 : 0 < m.at_:=by omega
    have h4:=hb hat0
    rw [h3 hat0] at h4
    have e1 : m.at_ - 1 = ((p + k - 1 : Nat) : Int):=by omega
    rw [e1,zdD ha,zdD hb'] at h4
    exact h4
   ·have h4:=hkt (k - 1) om
    rw [List.getElem?_drop,hrec (k - 1) om,show p + (k - 1) = p + k - 1 by omega,ha,hb'] at h4
    simpa using h4
 have hkeep : k < m.recs.length → ∀ c : Nat,c ≤ n.log.length → (∀ i,i < c → i < Y.length → n.log[i]? = Y[i]?) → c ≤ p + k:=fun hlt c hc hcy => by
  refine Nat.not_lt.1 fun hgt => ?_
  have h5:=hks (by rw [List.length_drop];omega) hlt
  rw [List.getElem?_drop,hrec k hlt,hcy (p + k) hgt om] at h5
  exact h5 rfl
 by_cases hlt : k < m.recs.length
 ·have hX : tookL n m = Y.take (p + m.recs.length):=by
   have h9 : m.recs.drop k = (Y.drop (p + k)).take (m.recs.length - k):=by
    conv => lhs;rw [h2]
    rw [List.drop_take,List.drop_drop]
   have e : p + m.recs.length = (p + k) + (m.recs.length - k):=by omega
   rw [hdef,if_pos hlt,hE,h9,e]
   exact List.take_add.symm
  refine ⟨.inl (by rw [hX];exact List.take_prefix _ _),by rw [hp,hX,List.take_take,Nat.min_self],by rw [hp];exact q3,fun c hc hcy => ?_,?_⟩
  ·have h6:=hkeep hlt c hc hcy
   refine ⟨by omega,?_⟩
   have h7 : (tookL n m).take (p + k) = n.log.take (p + k):=by rw [hX,List.take_take,Nat.min_eq_left om,hE]
   exact zed h7 h6
  ·rw [hp,hk];exact hkeep
 ·have hX : tookL n m = n.log:=by rw [hdef,if_neg hlt]
  refine ⟨.inr hX,by rw [hp,hX,show m.recs.length = k by omega];exact hE,by rw [hp];exact q3,fun c hc hcy => by rw [hX];exact ⟨hc,rfl⟩,?_⟩
  rw [hp,hk];exact hkeep
theorem Inv.take {G : Int → Option (List Rec)} {K : Nat} {w : CW} (h : Inv G K w) (_hK : K ≤ 200) {i : Bool} {m : Msg} (hmem : m ∈ w.mail i) (hk : m.kind = 0) (ht : ¬ m.term < (w.n i).term) :
  (takeV (inTerm (w.n i) m) m).2.2.2 = 0 ∧ Next G K w i (takeV (inTerm (w.n i) m) m).1 ∧ ((takeV (inTerm (w.n i) m) m).2.1.kind = 1 → Ackd (w.n (!i)) (takeV (inTerm (w.n i) m) m).1 (takeV (inTerm (w.n i) m) m).2.1):=by
 obtain ⟨hm,htop,happ,_⟩:=h.mail i m hmem
 obtain ⟨hown,Y,hG,h1,h2,h3⟩:=happ hk
 have hn:=h.node i
 have hin:=hn.inTerm hm
 have hit:=zbN ht
 have hil:=zch (w.n i) m
 have hia:=zbZ (w.n i) m
 have a0:=hm.at0
 obtain ⟨g1,g2,g3⟩:=h.gen _ _ hG
 have hledj:=h.led (!i) _ _ hG hown
 have hpre:=h.pre (!i) _ _ hG hown (by rw [Bool.not_not];omega)
 have hno : ownB (idOf i) m.term = false:=by have:=zgi hown;rwa [Bool.not_not] at this
 have hq:=zhW hn ht (by rw [h.id i];exact hno)
 have hfi:=h.log i
 have still : Next G K w i (inTerm (w.n i) m):=h.still hin (zdN _ _) (by rw [hit];omega) (by rw [hit];exact htop) (fun hp => by rw [hq] at hp;cases hp) hil (.inl hia)
 by_cases hat : m.at_ ≤ (w.n i).log.length
 ·by_cases hb : 0 < m.at_ → zaQ (w.n i).log (m.at_ - 1) = m.before
  ·have hf : Fits Y (w.n i).log m (tookL (inTerm (w.n i) m) m):=by
    have:=fits (n:=inTerm (w.n i) m) (m:=m) (G:=G) (Y:=Y) hm (by rw [hil];exact hfi.mat) g3.mat h1 h2 h3 (by rw [hil];exact hat) (by rw [hil];exact hb)
    rwa [hil] at this
   have hYj : ∀ k,k < Y.length → Y[k]? = (w.n (!i)).log[k]?:=fun k hk => zjU hpre hk
   have hcom : ∀ c : Nat,(w.n i).log.take c = (w.n (!i)).log.take c → ∀ k,k < c → k < Y.length → (w.n i).log[k]? = Y[k]?:=fun c hc k hk1 hk2 => by
    rw [hYj k hk2];exact zos hc hk1
   have hXK : (tookL (inTerm (w.n i) m) m).length ≤ 256:=by
    rcases hf.pre with hp | hp
    ·exact Nat.le_trans hp.length_le g3.len
    ·rw [hp];exact hfi.len
   have hXr : zbY 1 m.term (tookL (inTerm (w.n i) m) m):=by
    rcases hf.pre with hp | hp
    ·exact g2.sub hp.sublist
    ·rw [hp];exact hn.recs.wide (.inl (Int.le_refl _)) om
   have hXf : Fine G (tookL (inTerm (w.n i) m) m):=by
    rcases hf.pre with hp | hp
    ·exact ⟨hXK,g3.mat.pre hp⟩
    ·rw [hp];exact hfi
   have hac:=h.com i
   have ha0:=hn.a0
   have ha1:=hn.a1
   have htk : Taken (inTerm (w.n i) m) m:=by
    refine ⟨by rw [hil];exact hat,by rw [hil];exact hb,fun hlt => ?_,by omega,by rw [hit];exact hXr⟩
    rw [hil] at hlt
    have:=hf.keep hlt (w.n i).acked.toNat om (hcom _ hac.2)
    rw [hia,hil];omega
   rw [zcv htk]
   have hnode:=htk.node hin hm hk hq
   have hlen:=hf.long
   have hpl:=hpre.length_le
   have hend : (tookL (inTerm (w.n i) m) m).take (m.at_.toNat + m.recs.length) = (w.n (!i)).log.take (m.at_.toNat + m.recs.length):=by
    rw [hf.end_]
    obtain ⟨t,ht⟩:=hpre
    rw [← ht,List.take_append_of_le_length h1]
   have hma:=(hm.app hk).a0
   refine ⟨rfl,⟨hnode,(zdN _ _).trans (h.id i),by show (w.n i).term ≤ (inTerm (w.n i) m).term;rw [hit];omega,by show (inTerm (w.n i) m).term ≤ _;rw [hit];exact htop,(fun hp => by rw [show (tookN (inTerm (w.n i) m) m).speaks = (inTerm (w.n i) m).speaks from rfl,hq] at hp;cases hp),hXf,fun T Z hZ hT hle => ?_,?_,fun c hc0 hc hcc hcl => ?_⟩,fun _ => ⟨?_,fun hp hte => ?_⟩⟩
   ·have e1:=h.led i T Z hZ hT
    have e2 : T = m.term:=by omega
    rw [e2,hno] at hT;cases hT
   ·show max (inTerm (w.n i) m).acked (min m.acked (m.at_ + m.recs.length)) ≤ ((w.n (!i)).log.length : Int) ∧ (tookL (inTerm (w.n i) m) m).take (max (inTerm (w.n i) m).acked (min m.acked (m.at_ + m.recs.length))).toNat = (w.n (!i)).log.take (max (inTerm (w.n i) m).acked (min m.acked (m.at_ + m.recs.length))).toNat
    rw [hia]
    by_cases hmx : min m.acked (m.at_ + m.recs.length) ≤ (w.n i).acked
    ·rw [show max (w.n i).acked (min m.acked (m.at_ + m.recs.length)) = (w.n i).acked by omega]
     refine ⟨hac.1,?_⟩
     rw [(hf.safe _ om (hcom _ hac.2)).2]
     exact hac.2
    ·rw [show max (w.n i).acked (min m.acked (m.at_ + m.recs.length)) = min m.acked (m.at_ + m.recs.length) by omega]
     exact ⟨by omega,zed hend om⟩
   ·have:=hf.safe c.toNat om (hcom _ hcc)
    exact ⟨by show c ≤ ((tookL (inTerm (w.n i) m) m).length : Int);omega,this.2⟩
   ·show (inTerm (w.n i) m).term ≤ _;rw [hit];exact hledj
   ·have hte' : (w.n (!i)).term = (inTerm (w.n i) m).term:=hte
    rw [hit] at hte'
    have:=h.now (!i) hp
    rw [hte',hG] at this
    injection this with this
    refine ⟨by show m.at_ + m.recs.length ≤ _;omega,by show m.at_ + m.recs.length ≤ ((tookL (inTerm (w.n i) m) m).length : Int);omega,?_⟩
    have e : (m.at_ + (m.recs.length : Int)).toNat = m.at_.toNat + m.recs.length:=by omega
    show (w.n (!i)).log.take (m.at_ + (m.recs.length : Int)).toNat = (tookL (inTerm (w.n i) m) m).take (m.at_ + (m.recs.length : Int)).toNat
    rw [e,hend]
  ·have hb' : 0 < m.at_ ∧ zaQ (w.n i).log (m.at_ - 1) ≠ m.before:=by
    by_cases h0 : 0 < m.at_
    ·exact ⟨h0,fun he => hb fun _ => he⟩
    ·exact absurd (fun h00 => absurd h00 h0) hb
   rw [zc7 (by rw [hil];exact hat) hb'.1 (by rw [hil];exact hb'.2)]
   exact ⟨rfl,still,fun hc => by have : (2 : Int) = 1:=hc;omega⟩
 ·rw [zdp (by rw [hil];omega)]
  exact ⟨rfl,still,fun hc => by have : (2 : Int) = 1:=hc;omega⟩
theorem Inv.recv {G : Int → Option (List Rec)} {K : Nat} {w : CW} (h : Inv G K w) (hK : K ≤ 200) {i : Bool} {m : Msg} (hmem : m ∈ w.mail i) :
  (recvV (w.n i) m).2.2.2 = 0 ∧ Inv G K (setN w i (recvV (w.n i) m).1) ∧ ((recvV (w.n i) m).2.2.1 = true → Inv G K (postM (setN w i (recvV (w.n i) m).1) (!i) (recvV (w.n i) m).2.1)):=by
 obtain ⟨hm,htop,happ,hack⟩:=h.mail i m hmem
 have hn:=h.node i
 have hno : m.kind = 0 → ownB (w.n i).id m.term = false:=fun hk => by
  have:=zgi (happ hk).own
  rw [Bool.not_not] at this
  rw [h.id i];exact this
 have hin:=hn.inTerm hm
 have hil:=zch (w.n i) m
 have hia:=zbZ (w.n i) m
 have hterms:=h.terms i
 have key : (recdV (w.n i) m).2.2.2 = 0 ∧ Next G K w i (recdV (w.n i) m).1 ∧ ((recdV (w.n i) m).2.1.kind = 1 → (recdV (w.n i) m).2.2.1 = true → Ackd (w.n (!i)) (recdV (w.n i) m).1 (recdV (w.n i) m).2.1):=by
  by_cases ht : m.term < (w.n i).term
  ·have e : recdV (w.n i) m = if m.kind = 0 then (w.n i,ansM (w.n i) 2 0,true,0) else (w.n i,msg0,false,0):=by unfold recdV;rw [if_pos ht]
   have hst : Next G K w i (w.n i):=h.still hn rfl (Int.le_refl _) hterms (fun hp => ⟨hp,rfl⟩) rfl (.inl rfl)
   rw [e]
   split
   ·exact ⟨rfl,hst,fun hc => by have : (2 : Int) = 1:=hc;omega⟩
   ·exact ⟨rfl,hst,fun _ hc => by cases hc⟩
  ·have hit:=zbN ht
   by_cases hk : m.kind = 0
   ·have e : recdV (w.n i) m = takeV (inTerm (w.n i) m) m:=by unfold recdV;rw [if_neg ht,if_pos hk]
    rw [e]
    obtain ⟨q1,q2,q3⟩:=h.take hK hmem hk ht
    exact ⟨q1,q2,fun hc _ => q3 hc⟩
   ·by_cases hk1 : m.kind = 1
    ·have e : recdV (w.n i) m = (ackN (inTerm (w.n i) m) m,msg0,false,0):=by unfold recdV;rw [if_neg ht,if_neg hk,if_pos hk1]
     rw [e]
     refine ⟨rfl,?_,fun _ hc => by cases hc⟩
     have hd:=hack hk1
     have hte : (w.n i).term = m.term:=by have:=hd.old;omega
     rw [zb5 hte]
     have hok:=zxX hn hm
     unfold ackN at hok ⊢
     by_cases hc : (w.n i).speaks = true ∧ m.at_ ≤ (w.n i).log.length
     ·rw [if_pos hc] at hok ⊢
      obtain ⟨e1,e2,e3⟩:=hd.log hc.1 hte
      refine h.still hok rfl (Int.le_refl _) hterms (fun hp => ⟨hp,rfl⟩) rfl ?_
      have hcom:=h.com i
      show max (w.n i).acked m.at_ = _ ∨ (max (w.n i).acked m.at_ ≤ _ ∧ (w.n i).log.take (max (w.n i).acked m.at_).toNat = _)
      by_cases hmx : m.at_ ≤ (w.n i).acked
      ·exact .inl om
      ·right
       rw [show max (w.n i).acked m.at_ = m.at_ by omega]
       exact ⟨e2,e3⟩
     ·rw [if_neg hc]
      exact h.still hn rfl (Int.le_refl _) hterms (fun hp => ⟨hp,rfl⟩) rfl (.inl rfl)
    ·have e : recdV (w.n i) m = (zar (inTerm (w.n i) m) m,msg0,false,0):=by unfold recdV;rw [if_neg ht,if_neg hk,if_neg hk1]
     rw [e]
     refine ⟨rfl,?_,fun _ hc => by cases hc⟩
     have hok:=zmr (m:=m) hin
     have e1 : (zar (inTerm (w.n i) m) m).id = (w.n i).id:=by rw [← zdN (w.n i) m];unfold zar;split <;> rfl
     have e2 : (zar (inTerm (w.n i) m) m).term = m.term:=by rw [← hit];unfold zar;split <;> rfl
     have e3 : (zar (inTerm (w.n i) m) m).acked = (w.n i).acked:=by rw [← hia];unfold zar;split <;> rfl
     have e4 : (zar (inTerm (w.n i) m) m).log = (w.n i).log:=by rw [← hil];unfold zar;split <;> rfl
     have e5 : (zar (inTerm (w.n i) m) m).speaks = (inTerm (w.n i) m).speaks:=by unfold zar;split <;> rfl
     refine h.still hok e1 (by rw [e2];omega) (by rw [e2];exact htop) (fun hp => ?_) e4 (.inl e3)
     rw [e5] at hp
     rcases zfh hp with ⟨g1,g2⟩ | ⟨g1,g2⟩
     ·exact ⟨g1,by rw [e2,g2]⟩
     ·omega
 obtain ⟨q1,q2,q3⟩:=key
 have hl:=zgL hn hm hno q1
 rw [zl5 hn hm hno q1]
 have hinv:=h.next q2
 refine ⟨q1,hinv,fun hok => ?_⟩
 obtain ⟨a1,a2,a3⟩:=hl.ans hok
 refine hinv.posted a1 (by rw [a2];exact q2.top) (fun hk => absurd hk a3) (fun hk => ?_)
 rw [zcl,Bool.not_not,zcZ]
 exact q3 hk hok

def zbu (n : Nod) : Int:=if (n.term + 1) % 2 = n.id % 2 then n.term + 1 else n.term + 2
theorem zpH {n : Nod} {t : Int} (hn : NodOk n) (h1 : t ≤ 1048576) (h2 : ownB n.id t = true) (h3 : n.term < t) : leadV n t = (ledN n t,0) ∧ NodOk (ledN n t):=by
 have hp:=zeD h2
 have h4:=hn.a0;have h5:=hn.a1
 constructor
 ·unfold leadV
  rw [if_neg (by simpa using (zal n).2 hn),if_neg om,if_neg (by rw [h2];simp),if_neg om]
 ·exact ⟨hn.id1,hn.id2,by show 0 ≤ t;omega,h1,fun _ => h2,hn.len,hn.recs.wide (.inl (Int.le_refl _)) (by show n.term ≤ t;omega),hn.a0,hn.a1,by show (0 : Int) ≤ (n.log.length : Int);omega,by show (n.log.length : Int) ≤ (n.log.length : Int);omega,(fun h => by cases h)⟩
theorem zmX {n : Nod} (hn : NodOk n) : ownB n.id (zbu n) = true ∧ n.term < zbu n ∧ zbu n ≤ n.term + 2:=by
 have:=hn.t0;have:=hn.id1;have:=hn.id2
 unfold zbu ownB
 split
 ·exact ⟨decide_eq_true ⟨by omega,by omega⟩,by omega,by omega⟩
 ·exact ⟨decide_eq_true ⟨by omega,by omega⟩,by omega,by omega⟩
def addG (G : Int → Option (List Rec)) (T : Int) (X : List Rec) : Int → Option (List Rec):=fun t => if t = T then some X else G t
theorem Mat.add {G : Int → Option (List Rec)} {T : Int} {X Z : List Rec} (h : Mat G Z) (hx : ∀ Y,G T = some Y → Y <+: X) : Mat (addG G T X) Z:=fun k r hk => by
 obtain ⟨Y,h1,h2⟩:=h k r hk
 by_cases ht : r.term = T
 ·rw [ht] at h1 ⊢
  refine ⟨X,if_pos rfl,?_⟩
  obtain ⟨t,rfl⟩:=hx Y h1
  rw [h2]
  have hlt:=(List.getElem?_eq_some_iff.1 hk).1
  have : k + 1 ≤ Y.length:=by
   have h3:=congrArg List.length h2
   rw [List.length_take,List.length_take] at h3
   omega
  rw [List.take_append_of_le_length this]
 ·exact ⟨Y,by show (if r.term = T then some X else G r.term) = _;rw [if_neg ht];exact h1,h2⟩
theorem zbE (G : Int → Option (List Rec)) (T : Int) (X : List Rec) : addG G T X T = some X:=if_pos rfl
theorem zaz {G : Int → Option (List Rec)} {T t : Int} {X : List Rec} (h : t ≠ T) : addG G T X t = G t:=if_neg h
theorem Inv.lead {G : Int → Option (List Rec)} {K : Nat} {w : CW} (h : Inv G K w) (i : Bool) {T : Int} (hown : ownB (idOf i) T = true) (hlt : (w.n i).term < T) (htop : T ≤ 2 * (K + 1 : Nat)) (hK : K ≤ 200) : ∃ G',Inv G' (K + 1) (setN w i (ledN (w.n i) T)):=by
 have hn:=h.node i
 have hid:=h.id i
 obtain ⟨_,hok⟩:=zpH hn (t:=T) om (by rw [hid];exact hown) hlt
 have hnone : G T = none:=by
  cases hc : G T with
  | none => rfl
  | some Y => have:=h.led i T Y hc hown;omega
 have hadd : ∀ {Z},Mat G Z → Mat (addG G T (w.n i).log) Z:=fun {Z} hz => hz.add (fun Y hY => by rw [hnone] at hY;cases hY)
 have hfine : ∀ {Z},Fine G Z → Fine (addG G T (w.n i).log) Z:=fun {Z} hz => ⟨hz.len,hadd hz.mat⟩
 have hs:=zcZ w i (ledN (w.n i) T)
 have ho:=zcl w i (ledN (w.n i) T)
 have hne : ∀ {t},ownB (idOf (!i)) t = true → t ≠ T:=fun {t} ht e => by
  subst e
  rw [zgi hown] at ht;cases ht
 refine ⟨addG G T (w.n i).log,?_,?_,?_,?_,fun t Y hY => ?_,?_,?_,?_,?_,?_⟩
 ·exact both i (by rw [hs];exact hok) (by rw [ho];exact h.node _)
 ·exact both i (by rw [hs];exact hid) (by rw [ho];exact h.id _)
 ·refine both i (fun _ => ?_) (fun hp => ?_)
  ·rw [hs];exact zbE _ _ _
  ·rw [ho] at hp ⊢
   rw [zaz (hne (h.own hp))]
   exact h.now _ hp
 ·refine both i (fun t Y hY ht => ?_) (fun t Y hY ht => ?_)
  ·rw [hs]
   show t ≤ T
   by_cases e : t = T
   ·omega
   ·rw [zaz e] at hY
    have:=h.led i t Y hY ht
    omega
  ·rw [ho]
   rw [zaz (hne ht)] at hY
   exact h.led _ t Y hY ht
 ·by_cases e : t = T
  ·subst e
   rw [zbE] at hY
   injection hY with hY
   subst hY
   exact ⟨zeD hown,hn.recs.wide (.inl (Int.le_refl _)) om,hfine (h.log i)⟩
  ·rw [zaz e] at hY
   obtain ⟨g1,g2,g3⟩:=h.gen t Y hY
   exact ⟨g1,g2,hfine g3⟩
 ·exact both i (by rw [hs];exact hfine (h.log i)) (by rw [ho];exact hfine (h.log _))
 ·refine both i (fun t Y hY ht hle => ?_) (fun t Y hY ht hle => ?_)
  ·rw [hs];rw [ho] at hle
   show Y <+: (w.n i).log
   by_cases e : t = T
   ·subst e
    rw [zbE] at hY
    injection hY with hY
    subst hY
    exact List.prefix_refl _
   ·rw [zaz e] at hY
    exact h.pre i t Y hY ht hle
  ·rw [ho];rw [Bool.not_not,hs] at hle
   rw [zaz (hne ht)] at hY
   have hle' : T ≤ t:=hle
   exact h.pre (!i) t Y hY ht (by rw [Bool.not_not];omega)
 ·refine both i ?_ ?_
  ·rw [hs,ho];exact h.com i
  ·rw [ho,Bool.not_not,hs];have:=h.com (!i);rwa [Bool.not_not] at this
 ·exact both i (by rw [hs];exact htop) (by rw [ho];have:=h.terms (!i);omega)
 ·refine both i (fun m hm => ?_) (fun m hm => ?_)
  ·obtain ⟨a,b,c,d⟩:=h.mail i m hm
   refine ⟨a,by omega,fun hk => ?_,fun hk => ?_⟩
   ·obtain ⟨q1,Y,q2,q3⟩:=c hk
    exact ⟨q1,Y,by rw [zaz (hne q1)];exact q2,q3⟩
   ·rw [hs,ho]
    have:=(d hk).old
    exact ⟨by show m.term ≤ T;omega,fun _ he => by have : T = m.term:=he;omega⟩
  ·obtain ⟨a,b,c,d⟩:=h.mail (!i) m hm
   refine ⟨a,by omega,fun hk => ?_,fun hk => ?_⟩
   ·obtain ⟨q1,Y,q2,q3⟩:=c hk
    refine ⟨q1,Y,?_,q3⟩
    rw [zaz]
    ·exact q2
    ·intro e;rw [e,hnone] at q2;cases q2
   ·rw [ho,Bool.not_not,hs]
    have:=d hk
    rw [Bool.not_not] at this
    exact ⟨this.old,this.log⟩
theorem Inv.act {G : Int → Option (List Rec)} {K : Nat} {w : CW} (h : Inv G K w) (i : Bool) (hs : (w.n i).speaks = true) {a : Acn} (ha : acnE a = 0) (hearly : early (w.n i).log a = false) (hlen : (w.n i).log.length < 256) :
  actV (w.n i) a = (actN (w.n i) a,0) ∧ ∃ G',Inv G' K (setN w i (actN (w.n i) a)):=by
 have hn:=h.node i
 have hid:=h.id i
 have hfi:=h.log i
 have hlk:=hfi.len
 have hown:=h.own hs
 have hnow:=h.now i hs
 have hro : zbY 1 (w.n i).term ((w.n i).log ++ [⟨(w.n i).term,a⟩]):=by
  have hp:=zeD hown
  refine hn.recs.append ⟨by simp;omega,by simp;omega,by simp,by simpa using ha,by simp⟩ ?_
  intro x hx y hy
  simp at hy
  subst hy
  have h1:=hn.recs.hi x (List.mem_of_getLast? hx)
  have h2 : x.act.at_ ≤ a.at_:=by unfold early at hearly;rw [show (w.n i).log.getLast? = some x from hx] at hearly;simp only at hearly;have:=of_decide_eq_false hearly;omega
  exact ⟨h1,h2⟩
 have hok : NodOk (actN (w.n i) a):=by
  have:=hn.a0;have:=hn.a1;have:=hn.n0;have:=hn.n1
  exact ⟨hn.id1,hn.id2,hn.t0,hn.t1,hn.own,by show ((w.n i).log ++ _).length ≤ 256;simp;omega,hro,hn.a0,by show (w.n i).acked ≤ (((w.n i).log ++ _).length : Int);simp;omega,hn.n0,by show (w.n i).next ≤ (((w.n i).log ++ _).length : Int);simp;omega,hn.n2⟩
 refine ⟨?_,?_⟩
 ·unfold actV
  rw [if_neg (by simpa using (zal _).2 hn),if_neg (by rw [hs];simp),if_neg (by simpa using ha),if_neg (by rw [hearly];simp),if_neg om]
 obtain ⟨X,hX⟩ : ∃ X,(w.n i).log ++ [(⟨(w.n i).term,a⟩ : Rec)] = X:=⟨_,rfl⟩
 have hXl : (actN (w.n i) a).log = X:=hX
 have hpre0 : (w.n i).log <+: X:=⟨_,hX⟩
 have hXlen : X.length = (w.n i).log.length + 1:=by rw [← hX];simp
 rw [hX] at hro
 obtain ⟨T,hT⟩ : ∃ T,(w.n i).term = T:=⟨_,rfl⟩
 rw [hT] at hnow hown hro
 have hTx : (actN (w.n i) a).term = T:=hT
 have hadd : ∀ {Z},Mat G Z → Mat (addG G T X) Z:=fun {Z} hz => hz.add (fun Y hY => by rw [hnow] at hY;injection hY with hY;rw [← hY];exact hpre0)
 have hfine : ∀ {Z},Fine G Z → Fine (addG G T X) Z:=fun {Z} hz => ⟨hz.len,hadd hz.mat⟩
 have hXf : Fine (addG G T X) X:=by
  refine ⟨by omega,fun k r hk => ?_⟩
  ·by_cases hlt : k < (w.n i).log.length
   ·have:=zjU hpre0 hlt
    rw [hk] at this
    obtain ⟨Y,q1,q2⟩:=hadd hfi.mat k r this
    refine ⟨Y,q1,?_⟩
    rw [← q2,← hX,List.take_append_of_le_length om]
   ·have hkl:=(List.getElem?_eq_some_iff.1 hk).1
    have hke : k = (w.n i).log.length:=by omega
    have : r.term = T:=by
     rw [← hX,hke,List.getElem?_append_right (Nat.le_refl _),Nat.sub_self] at hk
     simp at hk
     rw [← hk];exact hT
    rw [this]
    exact ⟨X,zbE _ _ _,rfl⟩
 have hse:=zcZ w i (actN (w.n i) a)
 have ho : (setN w i (actN (w.n i) a)).n (!i) = w.n (!i):=zcl w i _
 have hne : ∀ {u},ownB (idOf (!i)) u = true → u ≠ T:=fun {u} hu e => by
  subst e
  rw [zgi hown] at hu;cases hu
 have htk : ∀ c : Int,c ≤ (w.n i).log.length → X.take c.toNat = (w.n i).log.take c.toNat:=fun c hc => by rw [← hX,List.take_append_of_le_length om]
 refine ⟨addG G T X,?_,?_,?_,?_,fun u Y hY => ?_,?_,?_,?_,?_,?_⟩
 ·exact both i (by rw [hse];exact hok) (by rw [ho];exact h.node _)
 ·exact both i (by rw [hse];exact hid) (by rw [ho];exact h.id _)
 ·refine both i (fun _ => ?_) (fun hp => ?_)
  ·rw [hse,hTx,hXl];exact zbE _ _ _
  ·rw [ho] at hp ⊢
   rw [zaz (hne (h.own hp))]
   exact h.now _ hp
 ·refine both i (fun u Y hY hu => ?_) (fun u Y hY hu => ?_)
  ·rw [hse,hTx]
   by_cases e : u = T
   ·omega
   ·rw [zaz e] at hY
    have:=h.led i u Y hY hu
    omega
  ·rw [ho]
   rw [zaz (hne hu)] at hY
   exact h.led _ u Y hY hu
 ·by_cases e : u = T
  ·subst e
   rw [zbE] at hY
   injection hY with hY
   subst hY
   exact ⟨zeD hown,hro,hXf⟩
  ·rw [zaz e] at hY
   obtain ⟨g1,g2,g3⟩:=h.gen u Y hY
   exact ⟨g1,g2,hfine g3⟩
 ·exact both i (by rw [hse,hXl];exact hXf) (by rw [ho];exact hfine (h.log _))
 ·refine both i (fun u Y hY hu hle => ?_) (fun u Y hY hu hle => ?_)
  ·rw [hse,hXl];rw [ho] at hle
   by_cases e : u = T
   ·subst e
    rw [zbE] at hY
    injection hY with hY
    subst hY
    exact List.prefix_refl _
   ·rw [zaz e] at hY
    exact (h.pre i u Y hY hu hle).trans hpre0
  ·rw [ho];rw [Bool.not_not,hse,hTx] at hle
   rw [zaz (hne hu)] at hY
   exact h.pre (!i) u Y hY hu (by rw [Bool.not_not];omega)
 ·refine both i ?_ ?_
  ·rw [hse,ho,hXl]
   obtain ⟨c1,c2⟩:=h.com i
   refine ⟨c1,?_⟩
   show X.take (w.n i).acked.toNat = _
   rw [htk _ hn.a1];exact c2
  ·rw [ho,Bool.not_not,hse,hXl]
   obtain ⟨c1,c2⟩:=h.com (!i)
   rw [Bool.not_not] at c1 c2
   exact ⟨by omega,by rw [htk _ c1];exact c2⟩
 ·exact both i (by rw [hse,hTx];have:=h.terms i;omega) (by rw [ho];have:=h.terms (!i);omega)
 ·refine both i (fun m hm => ?_) (fun m hm => ?_)
  ·obtain ⟨p,q,c,d⟩:=h.mail i m hm
   refine ⟨p,by omega,fun hk => ?_,fun hk => ?_⟩
   ·obtain ⟨q1,Y,q2,q3⟩:=c hk
    exact ⟨q1,Y,by rw [zaz (hne q1)];exact q2,q3⟩
   ·rw [hse,ho]
    have hd:=d hk
    refine ⟨hd.old,fun hp he => ?_⟩
    obtain ⟨e1,e2,e3⟩:=hd.log hs he
    rw [hXl]
    exact ⟨by omega,e2,by rw [htk _ e1];exact e3⟩
  ·obtain ⟨p,q,c,d⟩:=h.mail (!i) m hm
   refine ⟨p,by omega,fun hk => ?_,fun hk => ?_⟩
   ·obtain ⟨q1,Y,q2,q3,q4,q5⟩:=c hk
    by_cases e : m.term = T
    ·rw [e,hnow] at q2
     injection q2 with q2
     subst q2
     refine ⟨q1,X,by rw [e];exact zbE _ _ _,by omega,?_,fun h0 => ?_⟩
     ·rw [← hX,List.drop_append_of_le_length om,List.take_append_of_le_length (by rw [List.length_drop];omega)]
      exact q4
     ·have p0:=p.at0
      rw [q5 h0]
      unfold zaQ
      rw [if_neg om,if_neg om,← zjU hpre0 om]
    ·exact ⟨q1,Y,by rw [zaz e];exact q2,q3,q4,q5⟩
   ·rw [ho,Bool.not_not,hse]
    have hd:=d hk
    rw [Bool.not_not] at hd
    refine ⟨hd.old,fun hp he => ?_⟩
    obtain ⟨e1,e2,e3⟩:=hd.log hp he
    rw [hXl]
    exact ⟨e1,by omega,by rw [htk _ e2];exact e3⟩
theorem Inv.send {G : Int → Option (List Rec)} {K : Nat} {w : CW} (h : Inv G K w) (i : Bool) (hs : (w.n i).speaks = true) : sendV (w.n i) = (sentM (w.n i),0) ∧ Inv G K (postM w (!i) (sentM (w.n i))):=by
 have hn:=h.node i
 have h0:=hn.n0;have h1:=hn.n1
 refine ⟨?_,h.posted (zdW hn hs) (h.terms i) (fun _ => ⟨?_,?_⟩) (fun hc => by have : (0 : Int) = 1:=hc;omega)⟩
 ·unfold sendV
  rw [if_neg (by simpa using (zal _).2 hn),if_neg (by rw [hs];simp)]
 ·rw [Bool.not_not];exact h.own hs
 ·have hl : (sentM (w.n i)).recs.length = min 16 ((w.n i).log.length - (w.n i).next.toNat):=by
   show (((w.n i).log.drop _).take 16).length = _
   rw [List.length_take,List.length_drop]
  refine ⟨(w.n i).log,h.now i hs,?_,?_,fun hp => ?_⟩
  ·show (w.n i).next.toNat + _ ≤ _;rw [hl];omega
  ·show ((w.n i).log.drop (w.n i).next.toNat).take 16 = ((w.n i).log.drop (w.n i).next.toNat).take (sentM (w.n i)).recs.length
   rw [hl]
   by_cases hc : 16 ≤ (w.n i).log.length - (w.n i).next.toNat
   ·rw [Nat.min_eq_left hc]
   ·rw [Nat.min_eq_right om,List.take_of_length_le (by rw [List.length_drop];omega),List.take_of_length_le (by rw [List.length_drop];omega)]
  ·show (if 0 < (w.n i).next then _ else (0 : Int)) = _
   have hp' : 0 < (w.n i).next:=hp
   rw [if_pos hp']
   rfl
end Tk
end Go.Proofs.YtnpdghjpcnjokaaGreat

namespace Go.Proofs.YtnpdghjpcnjokaaGreat

def stn (w : Wld) (i : Bool) : Sta:=if i then w.b else w.a
def putS (w : Wld) (i : Bool) (s : Sta) : Wld:=if i then ⟨w.now,w.limit,w.delay,w.cut,w.a,s,w.mail⟩ else ⟨w.now,w.limit,w.delay,w.cut,s,w.b,w.mail⟩
theorem ziB (w : Wld) (i : Bool) : getS w (idOf i) = stn w i:=by
 cases i
 ·exact zeu w
 ·exact zgt w
theorem zld (w : Wld) (i : Bool) (s : Sta) : setS w (idOf i) s = putS w i s:=by
 cases i
 ·exact zgO w s
 ·exact zlc w s
theorem id_not (i : Bool) : 3 - idOf i = idOf (!i):=by cases i <;> rfl
theorem id_inj {i j : Bool} (h : idOf i = idOf j) : i = j:=by
 cases i <;> cases j
 ·rfl
 ·exact absurd h dk
 ·exact absurd h dk
 ·rfl
theorem id_of {d : Int} (h1 : 1 ≤ d) (h2 : d ≤ 2) : ∃ i,d = idOf i:=by
 by_cases h : d = 1
 ·exact ⟨false,h⟩
 ·exact ⟨true,by show d = 2;omega⟩
theorem zA0 (i : Bool) : idOf i = 1 ∨ idOf i = 2:=by
 cases i
 ·exact .inl rfl
 ·exact .inr rfl
theorem zda (w : Wld) (i : Bool) (s : Sta) : stn (putS w i s) i = s:=by cases i <;> rfl
theorem zdC (w : Wld) (i : Bool) (s : Sta) : stn (putS w i s) (!i) = stn w (!i):=by cases i <;> rfl
theorem zha (w : Wld) (i : Bool) (s : Sta) : (putS w i s).now = w.now:=by cases i <;> rfl
theorem ziP (w : Wld) (i : Bool) (s : Sta) : (putS w i s).limit = w.limit:=by cases i <;> rfl
theorem zeF (w : Wld) (i : Bool) (s : Sta) : (putS w i s).delay = w.delay:=by cases i <;> rfl
theorem ziO (w : Wld) (i : Bool) (s : Sta) : (putS w i s).cut = w.cut:=by cases i <;> rfl
theorem zbU (w : Wld) (i : Bool) (s : Sta) : (putS w i s).mail = w.mail:=by cases i <;> rfl
theorem putS_ok {w : Wld} (h : WldOk w) {i : Bool} {s : Sta} (hs : StaOk (idOf i) s) : WldOk (putS w i s):=by rw [← zld];exact zhg h (zA0 i) hs
theorem zqr {w : Wld} (h : WldOk w) (i : Bool) : StaOk (idOf i) (stn w i):=by rw [← ziB];exact ztn h (zA0 i)
theorem zhh (w : Wld) (d : Int) (m : Msg) (i : Bool) : stn (postW w d m) i = stn w i:=by
 cases i
 ·exact (zfz w d m).a
 ·exact (zfz w d m).b
theorem zgp {w : Wld} {x : Ltr} {i : Bool} (hx : x.dst = idOf i) : (zau w x = w ∧ ((stn w i).up = false ∨ (recvV (stn w i).node x.msg).2.2.2 ≠ 0)) ∨ ((stn w i).up = true ∧ (recvV (stn w i).node x.msg).2.2.2 = 0 ∧ ∃ q : Int,(q = 0 ∧ x.msg.kind = 0 ∧ x.msg.term = (recvV (stn w i).node x.msg).1.term ∨ q = (stn w i).quiet ∧ ¬ (x.msg.kind = 0 ∧ x.msg.term = (recvV (stn w i).node x.msg).1.term)) ∧
  zau w x = if (recvV (stn w i).node x.msg).2.2.1 = true then postW (putS w i ⟨(recvV (stn w i).node x.msg).1,true,q⟩) (idOf (!i)) (recvV (stn w i).node x.msg).2.1 else putS w i ⟨(recvV (stn w i).node x.msg).1,true,q⟩):=by
 unfold zau
 simp only
 rw [hx,ziB,zld,id_not]
 split
 ·rename_i hc;exact .inl ⟨rfl,hc⟩
 ·rename_i hc
  have h1 : (stn w i).up = true:=by
   cases hu : (stn w i).up
   ·exact absurd (.inl hu) hc
   ·rfl
  have h2 : (recvV (stn w i).node x.msg).2.2.2 = 0:=by
   by_cases h0 : (recvV (stn w i).node x.msg).2.2.2 = 0
   ·exact h0
   ·exact absurd (.inr h0) hc
  refine .inr ⟨h1,h2,_,?_,by rw [h1]⟩
  split
  ·rename_i hk;exact .inl ⟨rfl,hk⟩
  ·rename_i hk;exact .inr ⟨rfl,hk⟩
theorem StaOk.got {i : Int} {s : Sta} (h : StaOk i s) {n : Nod} {q : Int} (h1 : NodOk n) (h2 : n.id = s.node.id) (hq : q = 0 ∨ q = s.quiet) : StaOk i ⟨n,true,q⟩:=by
 have:=h.q0
 have:=h.q1
 refine ⟨h1,h2.trans h.id,?_,?_⟩
 ·show 0 ≤ q;rcases hq with rfl | rfl <;> omega
 ·show q ≤ 1048576;rcases hq with rfl | rfl <;> omega
theorem zBu {s : Sta} {i l : Int} (h : StaOk i s) : (leadS l s).up = s.up ∧ ((leadS l s).node = s.node ∨ ∃ T,(leadS l s).node = ledN s.node T ∧ s.node.term < T ∧ T ≤ s.node.term + 2 ∧ NodOk (ledN s.node T)):=by
 unfold leadS
 simp only
 split
 ·exact ⟨rfl,.inl rfl⟩
 split
 ·rename_i he
  obtain ⟨e,hn,ht⟩:=ziJ h.node he
  exact ⟨rfl,.inr ⟨_,by rw [e],by omega,by omega,hn⟩⟩
 split
 ·rename_i he
  obtain ⟨e,hn,ht⟩:=ziJ h.node he
  exact ⟨rfl,.inr ⟨_,by rw [e],by omega,by omega,hn⟩⟩
 ·exact ⟨rfl,.inl rfl⟩
theorem zuu {w : Wld} {i : Bool} (h : (stn w i).up = true) {x : Sta} (hx : (if (stn w i).node.speaks = true then stn w i else leadS w.limit (stn w i)) = x) : workW w (idOf i) = if x.node.speaks = true then postW (putS w i x) (idOf (!i)) (sentM x.node) else putS w i x:=by
 rw [← ziB] at h hx
 rw [zhl h hx,zld,id_not]
theorem zlr {w : Wld} {i : Bool} (h : (stn w i).up = false) : workW w (idOf i) = w:=zj1 (by rw [ziB];exact h)

structure NodTo (n x : Nod) : Prop where
 term : n.term ≤ x.term
 acked : n.acked ≤ x.acked
 log : x.log.take n.acked.toNat = n.log.take n.acked.toNat
 len : n.acked ≤ x.log.length
theorem NodTo.same {n x : Nod} (h : NodOk n) (h1 : x.term = n.term) (h2 : x.acked = n.acked) (h3 : x.log = n.log) : NodTo n x:=⟨by omega,by omega,by rw [h3],by rw [h3];exact h.a1⟩
theorem NodTo.refl {n : Nod} (h : NodOk n) : NodTo n n:=NodTo.same h rfl rfl rfl
theorem NodTo.trans {n x y : Nod} (h : NodTo n x) (k : NodTo x y) : NodTo n y :=
 ⟨Int.le_trans h.term k.term,Int.le_trans h.acked k.acked,by rw [zed k.log (i:=n.acked.toNat) (by have:=h.acked;omega)];exact h.log,Int.le_trans h.acked k.len⟩
theorem Left.to {n : Nod} {m : Msg} {x : Nod} {a : Msg} {ok : Bool} (h : Left n m x a ok) : NodTo n x:=⟨h.term,h.acked,h.log,Int.le_trans h.acked h.node.a1⟩
theorem actN_to {n : Nod} (h : NodOk n) (a : Acn) : NodTo n (actN n a):=by
 have:=h.a1
 have:=h.a0
 exact ⟨Int.le_refl _,Int.le_refl _,List.take_append_of_le_length om,by show n.acked ≤ ((n.log ++ _).length : Int);rw [List.length_append];omega⟩
theorem ledN_to {n : Nod} (h : NodOk n) {T : Int} (ht : n.term ≤ T) : NodTo n (ledN n T):=⟨ht,Int.le_refl _,rfl,h.a1⟩

namespace Tk
theorem Inv.sub {G : Int → Option (List Rec)} {K : Nat} {w v : CW} (h : Inv G K w) (hn : ∀ i,v.n i = w.n i) (hm : ∀ i m,m ∈ v.mail i → m ∈ w.mail i) : Inv G K v:=by
 have e : v.n = w.n:=funext hn
 exact ⟨by rw [e];exact h.node,by rw [e];exact h.id,by rw [e];exact h.now,by rw [e];exact h.led,h.gen,by rw [e];exact h.log,by rw [e];exact h.pre,by rw [e];exact h.com,by rw [e];exact h.terms,fun i m hx => by rw [e];exact h.mail i m (hm i m hx)⟩
def zmV (i : Bool) (l : List Ltr) : List Msg:=(l.filter fun x => decide (x.dst = idOf i)).map (·.msg)
theorem zeC {i : Bool} {l : List Ltr} {m : Msg} : m ∈ zmV i l ↔ ∃ x,x ∈ l ∧ x.dst = idOf i ∧ x.msg = m:=by
 unfold zmV
 rw [List.mem_map]
 constructor
 ·rintro ⟨x,hx,rfl⟩
  obtain ⟨h1,h2⟩:=List.mem_filter.1 hx
  exact ⟨x,h1,of_decide_eq_true h2,rfl⟩
 ·rintro ⟨x,h1,h2,rfl⟩
  exact ⟨x,List.mem_filter.2 ⟨h1,decide_eq_true h2⟩,rfl⟩
def cwx (r : List Ltr) (w : Wld) : CW:=⟨fun i => (stn w i).node,fun i => zmV i (r ++ w.mail),0⟩
theorem Inv.look {G : Int → Option (List Rec)} {K : Nat} {r r' : List Ltr} {w v : Wld} (h : Inv G K (cwx r w)) (hn : ∀ i,(stn v i).node = (stn w i).node) (hm : ∀ x,x ∈ r' ++ v.mail → x ∈ r ++ w.mail) : Inv G K (cwx r' v) :=
 h.sub hn fun i m hx => by
  obtain ⟨x,h1,h2,h3⟩:=zeC.1 hx
  exact zeC.2 ⟨x,hm x h1,h2,h3⟩
theorem zt9 {G : Int → Option (List Rec)} {K : Nat} {r : List Ltr} {w : Wld} {i : Bool} {m : Msg} (h : Inv G K (postM (cwx r w) i m)) : Inv G K (cwx r (postW w (idOf i) m)) :=
 h.sub (fun j => by show (stn (postW w (idOf i) m) j).node = (stn w j).node;rw [zhh]) fun j g hx => by
  obtain ⟨x,h1,h2,h3⟩:=zeC.1 hx
  show g ∈ if j = i then zmV j (r ++ w.mail) ++ [m] else zmV j (r ++ w.mail)
  have old : x ∈ r ++ w.mail → g ∈ if j = i then zmV j (r ++ w.mail) ++ [m] else zmV j (r ++ w.mail):=fun ho => by
   have : g ∈ zmV j (r ++ w.mail):=zeC.2 ⟨x,ho,h2,h3⟩
   split
   ·exact List.mem_append_left _ this
   ·exact this
  rcases List.mem_append.1 h1 with h1 | h1
  ·exact old (List.mem_append_left _ h1)
  ·rcases (zfz w (idOf i) m).mail x h1 with h1 | rfl
   ·exact old (List.mem_append_right _ h1)
   ·have : i = j:=id_inj h2
    rw [if_pos this.symm,← h3]
    exact List.mem_append_right _ (List.mem_singleton.2 rfl)
theorem zta {G : Int → Option (List Rec)} {K : Nat} {r : List Ltr} {w : Wld} {i : Bool} {s : Sta} (h : Inv G K (setN (cwx r w) i s.node)) : Inv G K (cwx r (putS w i s)) :=
 h.sub (fun j => by cases i <;> cases j <;> rfl) fun j g hx => by cases i <;> exact hx
theorem setN_post (c : CW) (i j : Bool) (x : Nod) (m : Msg) : postM (setN c i x) j m = setN (postM c j m) i x:=rfl
theorem zvf {G : Int → Option (List Rec)} {K : Nat} {r : List Ltr} {w : Wld} {i j : Bool} {s : Sta} {m : Msg} (h : Inv G K (postM (setN (cwx r w) i s.node) j m)) : Inv G K (cwx r (postW (putS w i s) (idOf j) m)) :=
 zt9 (h.sub (fun k => by cases i <;> cases k <;> rfl) fun k g hx => by cases i <;> exact hx)
def WG (K : Nat) (r : List Ltr) (w : Wld) : Prop:=∃ G,Inv G K (cwx r w)
theorem WG.deliver {K : Nat} {r : List Ltr} {w : Wld} (h : WG K r w) (hK : K ≤ 200) {x : Ltr} (hx : x ∈ r) (hx2 : LtrOk x) : WG K r (zau w x) ∧ (∀ i,NodTo (stn w i).node (stn (zau w x) i).node) ∧ ∀ i,x.dst = idOf i → (recvV (stn w i).node x.msg).2.2.2 = 0:=by
 obtain ⟨G,h⟩:=h
 obtain ⟨i,hd⟩:=id_of hx2.d0 hx2.d1
 have hmem : x.msg ∈ (cwx r w).mail i:=zeC.2 ⟨x,List.mem_append_left _ hx,hd,rfl⟩
 obtain ⟨e1,e2,e3⟩:=h.recv hK hmem
 have e1' : (recvV (stn w i).node x.msg).2.2.2 = 0:=e1
 refine ⟨?_,?_,fun j hj => by rw [← id_inj (hd.symm.trans hj)];exact e1'⟩
 ·rcases zgp (w:=w) hd with ⟨e,-⟩ | ⟨hu,he,q,hq,e⟩
  ·rw [e];exact ⟨G,h⟩
  ·rw [e]
   split
   ·rename_i ha
    exact ⟨G,zvf (e3 ha)⟩
   ·exact ⟨G,zta e2⟩
 ·have hl:=zb8 e1'
  rcases zgp (w:=w) hd with ⟨e,-⟩ | ⟨hu,he,q,hq,e⟩
  ·rw [e];exact fun j => NodTo.refl (h.node j)
  ·rw [e]
   refine both i ?_ ?_
   ·split
    ·rw [zhh,zda];exact hl.to
    ·rw [zda];exact hl.to
   ·split
    ·rw [zhh,zdC];exact NodTo.refl (h.node _)
    ·rw [zdC];exact NodTo.refl (h.node _)
theorem WG.happen {K : Nat} {r : List Ltr} {w : Wld} (h : WG K r w) {x : Evt} (hx : EvtOk x) : WG K r (zap w x) ∧ ∀ i,NodTo (stn w i).node (stn (zap w x) i).node:=by
 obtain ⟨G,h⟩:=h
 unfold zap
 have hself : ∀ v : Wld,(∀ i,(stn v i).node = (stn w i).node) → v.mail = w.mail → WG K r v ∧ ∀ i,NodTo (stn w i).node (stn v i).node:=fun v h1 h2 => ⟨⟨G,h.look h1 (by rw [h2];exact fun _ h => h)⟩,fun i => by rw [h1 i];exact NodTo.refl (h.node i)⟩
 split
 ·rename_i hk
  obtain ⟨s1,s2⟩:=hx.st hk
  obtain ⟨i,hi⟩:=id_of s1 s2
  rw [hi,ziB,zld]
  have hn:=h.node i
  unfold zcf
  split
  ·split
   ·rename_i hc
    obtain ⟨e,-,g1,g2,g3,g4⟩:=zy0 hn hc.2
    have e' : actV (stn w i).node x.act = (actN (stn w i).node x.act,0):=e
    obtain ⟨-,G',hG⟩:=h.act i g1 g2 g3 g4
    rw [e']
    refine ⟨⟨G',zta hG⟩,both i ?_ ?_⟩
    ·rw [zda];exact actN_to hn _
    ·rw [zdC];exact NodTo.refl (h.node _)
   ·exact hself _ (both i (by rw [zda]) (by rw [zdC])) (zbU _ _ _)
  split
  ·exact hself _ (both i (by rw [zda]) (by rw [zdC])) (zbU _ _ _)
  split
  ·exact hself _ (both i (by rw [zda]) (by rw [zdC])) (zbU _ _ _)
  ·have hs:=h.next (i:=i) (x:=⟨(stn w i).node.id,(stn w i).node.term,false,(stn w i).node.log,(stn w i).node.acked,0⟩) (h.still (zDa hn) rfl (Int.le_refl _) (h.terms i) (fun hc => by cases hc) rfl (.inl rfl))
   refine ⟨⟨G,zta hs⟩,both i ?_ ?_⟩
   ·rw [zda];exact NodTo.same hn rfl rfl rfl
   ·rw [zdC];exact NodTo.refl (h.node _)
 split
 ·exact hself _ (fun i => by cases i <;> rfl) rfl
 split
 ·exact hself _ (fun i => by cases i <;> rfl) rfl
 ·exact hself _ (fun i => by cases i <;> rfl) rfl
theorem WG.more {K K' : Nat} {r : List Ltr} {w : Wld} (h : WG K r w) (hk : K ≤ K') : WG K' r w:=by
 obtain ⟨G,h⟩:=h
 exact ⟨G,h.more hk⟩
theorem WG.work {K : Nat} {r : List Ltr} {w : Wld} (h : WG K r w) (hK : K ≤ 200) (hw : WldOk w) (i : Bool) : WG (K + 1) r (workW w (idOf i)) ∧ ∀ j,NodTo (stn w j).node (stn (workW w (idOf i)) j).node:=by
 have hnode : ∀ j,NodOk (stn w j).node:=fun j => (zqr hw j).node
 cases hu : (stn w i).up with
 | false => rw [zlr hu];exact ⟨h.more om,fun j => NodTo.refl (hnode j)⟩
 | true =>
  obtain ⟨x,hx⟩ : ∃ x,(if (stn w i).node.speaks = true then stn w i else leadS w.limit (stn w i)) = x:=⟨_,rfl⟩
  have hg : WG (K + 1) r (putS w i x) ∧ NodTo (stn w i).node x.node:=by
   obtain ⟨G,h⟩:=h
   rw [← hx]
   have hsame : ∀ s : Sta,s.node = (stn w i).node → WG (K + 1) r (putS w i s) ∧ NodTo (stn w i).node s.node:=fun s hs => by
    refine ⟨⟨G,(h.more (show K ≤ K + 1 by omega)).look (both i (by rw [zda];exact hs) (by rw [zdC])) (by rw [zbU];exact fun _ h => h)⟩,by rw [hs];exact NodTo.refl (hnode i)⟩
   split
   ·exact hsame _ rfl
   ·rcases (zBu (l:=w.limit) (zqr hw i)).2 with e | ⟨T,e,h1,h2,h3⟩
    ·exact hsame _ e
    ·have ho : ownB (idOf i) T = true:=by
      have : ownB (stn w i).node.id T = true:=h3.own rfl
      rwa [(zqr hw i).id] at this
     have ht : (stn w i).node.term ≤ 2 * K:=h.terms i
     obtain ⟨G',hG⟩:=h.lead i (T:=T) ho h1 om hK
     have hG' : Inv G' (K + 1) (setN (cwx r w) i (leadS w.limit (stn w i)).node):=by rw [e];exact hG
     exact ⟨⟨G',zta hG'⟩,by rw [e];exact ledN_to (hnode i) om⟩
  obtain ⟨⟨G,g1⟩,g2⟩:=hg
  rw [zuu hu hx]
  have g1n : (cwx r (putS w i x)).n i = x.node:=by show (stn (putS w i x) i).node = _;rw [zda]
  split
  ·rename_i hsp
   have h3:=(g1.send i (by rw [g1n];exact hsp)).2
   rw [g1n] at h3
   refine ⟨⟨G,zt9 h3⟩,both i ?_ ?_⟩
   ·rw [zhh,zda];exact g2
   ·rw [zhh,zdC];exact NodTo.refl (hnode _)
  ·refine ⟨⟨G,g1⟩,both i ?_ ?_⟩
   ·rw [zda];exact g2
   ·rw [zdC];exact NodTo.refl (hnode _)
theorem WG.tick {K : Nat} {w : Wld} (h : WG K [] w) (hK : K + 2 ≤ 200) (hw : WldOk w) {l : List Evt} (hl : ∀ x ∈ l,EvtOk x) : WG (K + 2) [] (tickW w l) ∧ ∀ i,NodTo (stn w i).node (stn (tickW w l) i).node:=by
 have p1 : WldOk (tick1 w l) ∧ WG K [] (tick1 w l) ∧ ∀ i,NodTo (stn w i).node (stn (tick1 w l) i).node:=by
  refine zfJ (P:=fun v => WldOk v ∧ WG K [] v ∧ ∀ i,NodTo (stn w i).node (stn v i).node) l w ⟨hw,h,fun i => NodTo.refl (zqr hw i).node⟩ fun v x hx ⟨a1,a2,a3⟩ => ?_
  obtain ⟨b1,b2⟩:=a2.happen (hl x hx)
  exact ⟨(ze7 a1 (hl x hx)).1,b1,fun i => (a3 i).trans (b2 i)⟩
 obtain ⟨w1,g1,t1⟩:=p1
 obtain ⟨v,hv⟩ : ∃ v,tick1 w l = v:=⟨_,rfl⟩
 rw [zk6]
 rw [hv] at w1 g1 t1 ⊢
 have w2 : WldOk (tick2 v):=⟨w1.n0,w1.n1,w1.l0,w1.l1,w1.d0,w1.d1,w1.a,w1.b,Nat.le_trans (List.length_filter_le _ _) w1.len,fun x hx => w1.mail x (List.mem_filter.1 hx).1⟩
 have g2 : WG K (dueL v.now v.mail) (tick2 v):=by
  obtain ⟨G,hG⟩:=g1
  refine ⟨G,hG.look (fun i => by cases i <;> rfl) fun x hx => ?_⟩
  rcases List.mem_append.1 hx with hx | hx
  ·exact (List.mem_filter.1 hx).1
  ·exact (List.mem_filter.1 hx).1
 have p3 : WldOk (tick3 v) ∧ WG K (dueL v.now v.mail) (tick3 v) ∧ ∀ i,NodTo (stn w i).node (stn (tick3 v) i).node:=by
  refine zfJ (P:=fun u => WldOk u ∧ WG K (dueL v.now v.mail) u ∧ ∀ i,NodTo (stn w i).node (stn u i).node) (dueL v.now v.mail) (tick2 v) ⟨w2,g2,fun i => by cases i <;> exact t1 _⟩ fun u x hx ⟨a1,a2,a3⟩ => ?_
  have hxo:=w1.mail x (List.mem_filter.1 hx).1
  obtain ⟨b1,b2,-⟩:=a2.deliver om hx hxo
  exact ⟨(zfH a1 hxo).1,b1,fun i => (a3 i).trans (b2 i)⟩
 obtain ⟨w3,⟨G,g3⟩,t3⟩:=p3
 have g3' : WG K [] (tick3 v):=⟨G,g3.look (fun _ => rfl) fun x hx => List.mem_append_right _ hx⟩
 obtain ⟨g4,t4⟩:=g3'.work om w3 false
 have w4:=(zgf w3 (i:=1) (.inl rfl)).1
 obtain ⟨⟨G5,g5⟩,t5⟩:=g4.work om w4 true
 have e : tick5 v = workW (workW (tick3 v) (idOf false)) (idOf true):=rfl
 rw [e]
 refine ⟨⟨G5,g5.look (fun i => by cases i <;> rfl) fun x hx => hx⟩,fun i => ?_⟩
 have:=((t3 i).trans (t4 i)).trans (t5 i)
 cases i <;> exact this
theorem WG.new {l d : Int} (h1 : 1 ≤ l) (h2 : l ≤ 16) (h3 : 1 ≤ d) (h4 : d ≤ 8) : WG 1 [] (newW l d).1:=by
 have e : (newW l d).1 = ⟨0,l,d,false,⟨⟨1,1,true,[],0,0⟩,true,0⟩,⟨⟨2,0,false,[],0,0⟩,true,0⟩,[]⟩:=by unfold newW;rw [if_neg om]
 have hok:=(zem h1 h2 h3 h4).2
 rw [e] at hok ⊢
 refine ⟨fun T => if T = 1 then some [] else none,?_⟩
 have hm : ∀ G,Mat G ([] : List Rec):=fun G k r hk => by simp at hk
 refine ⟨fun i => by cases i;exact hok.a.node;exact hok.b.node,fun i => by cases i <;> rfl,fun i hs => ?_,fun i T Y hY hT => ?_,fun T Y hY => ?_,fun i => ?_,fun i T Y hY hT hle => ?_,fun i => ?_,fun i => ?_,fun i m hm => ?_⟩
 ·cases i
  ·rfl
  ·cases hs
 ·by_cases h : T = 1
  ·subst h
   cases i
   ·exact Int.le_refl _
   ·cases hT
  ·simp [h] at hY
 ·by_cases h : T = 1
  ·subst h
   simp at hY
   subst hY
   exact ⟨Int.le_refl _,zbY.nil _ _,Nat.zero_le _,hm _⟩
  ·simp [h] at hY
 ·cases i
  ·exact ⟨Nat.zero_le _,hm _⟩
  ·exact ⟨Nat.zero_le _,hm _⟩
 ·by_cases h : T = 1
  ·subst h
   simp at hY
   subst hY
   exact List.nil_prefix
  ·simp [h] at hY
 ·cases i
  ·exact ⟨Int.le_refl _,rfl⟩
  ·exact ⟨Int.le_refl _,rfl⟩
 ·cases i
  ·show (1 : Int) ≤ 2 * (1 : Nat);omega
  ·show (0 : Int) ≤ 2 * (1 : Nat);omega
 ·obtain ⟨x,hx,-⟩:=zeC.1 hm
  cases hx
theorem WG.seq {w : Wld} {K : Nat} {l : List Evt} (hl : ∀ x ∈ l,EvtOk x) (h : WldOk w) (hg : WG K [] w) : ∀ n : Nat,w.now + n ≤ 1048576 → K + 2 * n ≤ 200 → WldOk (seqW l w n) ∧ WG (K + 2 * n) [] (seqW l w n)
 | 0,_,_ => ⟨h,hg⟩
 | n + 1,hn,hk => by
  obtain ⟨h1,h2⟩:=WG.seq hl h hg n om om
  refine ⟨(zhe hl h (n + 1) hn).1,?_⟩
  have:=(h2.tick om h1 (zjj hl (seqW l w n).now)).1
  rwa [show K + 2 * n + 2 = K + 2 * (n + 1) by omega] at this
end Tk
end Go.Proofs.YtnpdghjpcnjokaaGreat

namespace Go.Proofs.YtnpdghjpcnjokaaGreat
namespace Tk

def wt : List Ltr → Nat
 | [] => 0
 | x :: l => (if x.msg.kind = 0 then 2 else 1) + wt l
theorem zqR : ∀ l m : List Ltr,wt (l ++ m) = wt l + wt m
 | [],m => (Nat.zero_add _).symm
 | x :: l,m => by rw [List.cons_append,wt,wt,zqR l m,Nat.add_assoc]
theorem zFM : ∀ l : List Ltr,l.length ≤ wt l
 | [] => Nat.le_refl _
 | x :: l => by
  have:=zFM l
  rw [List.length_cons,wt]
  split <;> omega
theorem zux (p : Ltr → Bool) : ∀ l : List Ltr,wt (l.filter p) + wt (l.filter fun x => !p x) = wt l
 | [] => rfl
 | x :: l => by
  have:=zux p l
  rw [List.filter_cons,List.filter_cons,wt]
  cases p x
  ·simp only [Bool.false_eq_true,if_false,Bool.not_false,if_true,wt];omega
  ·simp only [Bool.false_eq_true,if_false,Bool.not_true,if_true,wt];omega
theorem zBF (w : Wld) (d : Int) (m : Msg) : (postW w d m).mail = w.mail ∨ (postW w d m).mail = w.mail ++ [⟨d,min (w.now + w.delay) 1048576,m⟩]:=by
 unfold postW
 split
 ·exact .inl rfl
 ·exact .inr rfl
theorem zoo {w : Wld} (h : w.cut = false) (h2 : w.mail.length < 256) (d : Int) (m : Msg) : postW w d m = ⟨w.now,w.limit,w.delay,w.cut,w.a,w.b,w.mail ++ [⟨d,min (w.now + w.delay) 1048576,m⟩]⟩:=by
 unfold postW
 rw [if_neg]
 rintro (hc | hc)
 ·rw [h] at hc;cases hc
 ·omega
theorem zEi (w : Wld) (i : Bool) : putS w i (stn w i) = w:=by cases i <;> rfl
theorem zhi (w : Wld) (i : Bool) (s : Sta) : stn (putS w (!i) s) i = stn w i:=by cases i <;> rfl
structure DelTo (j : Bool) (w w' : Wld) (x : Ltr) (q : Int) : Prop where
 now : w'.now = w.now
 limit : w'.limit = w.limit
 delay : w'.delay = w.delay
 cut : w'.cut = w.cut
 self : stn w' j = ⟨(recvV (stn w j).node x.msg).1,true,q⟩
 other : stn w' (!j) = stn w (!j)
 mail : w'.mail = w.mail ∨ ((recvV (stn w j).node x.msg).2.2.1 = true ∧ w'.mail = w.mail ++ [⟨idOf (!j),min (w.now + w.delay) 1048576,(recvV (stn w j).node x.msg).2.1⟩])
 post : (recvV (stn w j).node x.msg).2.2.1 = true → w.cut = false → w.mail.length < 256 → w'.mail = w.mail ++ [⟨idOf (!j),min (w.now + w.delay) 1048576,(recvV (stn w j).node x.msg).2.1⟩]
theorem ziy {w : Wld} {x : Ltr} {j : Bool} (hx : x.dst = idOf j) (hu : (stn w j).up = true) (he : (recvV (stn w j).node x.msg).2.2.2 = 0) :
  ∃ q : Int,(q = 0 ∧ x.msg.kind = 0 ∧ x.msg.term = (recvV (stn w j).node x.msg).1.term ∨ q = (stn w j).quiet ∧ ¬ (x.msg.kind = 0 ∧ x.msg.term = (recvV (stn w j).node x.msg).1.term)) ∧ DelTo j w (zau w x) x q:=by
 rcases zgp (w:=w) hx with ⟨-,hc | hc⟩ | ⟨-,-,q,hq,e⟩
 ·rw [hu] at hc;cases hc
 ·exact absurd he hc
 ·refine ⟨q,hq,?_⟩
  rw [e]
  split
  ·rename_i hok
   have p:=zfz (putS w j ⟨(recvV (stn w j).node x.msg).1,true,q⟩) (idOf (!j)) (recvV (stn w j).node x.msg).2.1
   have pm:=zBF (putS w j ⟨(recvV (stn w j).node x.msg).1,true,q⟩) (idOf (!j)) (recvV (stn w j).node x.msg).2.1
   rw [zbU,zha,zeF] at pm
   refine ⟨by rw [p.now,zha],by rw [p.limit,ziP],by rw [p.delay,zeF],by rw [p.cut,ziO],by rw [zhh,zda],by rw [zhh,zdC],?_,fun _ h1 h2 => ?_⟩
   ·rcases pm with pm | pm
    ·exact .inl pm
    ·exact .inr ⟨hok,pm⟩
   ·rw [zoo (by rw [ziO];exact h1) (by rw [zbU];exact h2),zbU,zha,zeF]
  ·rename_i hok
   exact ⟨zha _ _ _,ziP _ _ _,zeF _ _ _,ziO _ _ _,zda _ _ _,zdC _ _ _,.inl (zbU _ _ _),fun hc => absurd hc hok⟩
theorem zAr {n : Nod} {m : Msg} (h : (recvV n m).2.2.2 = 0) (hk : m.kind ≠ 0) (ht : m.term = n.term) : recvV n m = (if m.kind = 1 then ackN n m else zar n m,msg0,false,0):=by
 obtain ⟨-,-,-,-,e⟩:=zdy h
 rw [e]
 unfold recdV
 rw [if_neg om,if_neg hk,zb5 ht.symm]
 split <;> rfl
theorem zxY (n : Nod) (m : Msg) : (ackN n m).speaks = n.speaks:=by unfold ackN;split <;> rfl
theorem zrz (n : Nod) (m : Msg) : (zar n m).speaks = n.speaks:=by unfold zar;split <;> rfl
theorem foldl_rest {α β : Type} {f : β → α → β} {P : List α → β → Prop} : ∀ (l : List α) (b : β),P l b → (∀ c x r,P (x :: r) c → P r (f c x)) → P [] (l.foldl f b)
 | [],_,h,_ => h
 | x :: l,b,h,hs => foldl_rest l (f b x) (hs b x l h) hs

structure Calm (i : Bool) (T n s lo : Int) (K KG : Nat) (P : Ltr → Prop) (r : List Ltr) (w : Wld) : Prop where
 ok : WldOk w
 now : w.now = s
 limit : w.limit = n
 cut : w.cut = false
 sp : (stn w i).node.speaks = true
 term : (stn w i).node.term = T
 oth : (stn w (!i)).up = true → (stn w (!i)).node.speaks = false
 ot : (stn w (!i)).node.term ≤ T
 mail : ∀ x,x ∈ r ++ w.mail → LtrOk x ∧ P x ∧ x.msg.term = T ∧ (x.msg.kind = 0 ∧ x.dst = idOf (!i) ∨ x.msg.kind ≠ 0 ∧ x.dst = idOf i)
 late : ∀ x,x ∈ w.mail → lo ≤ x.at_
 wt : wt r + wt w.mail ≤ K
 inv : WG KG r w
section
variable {i : Bool} {T n s lo : Int} {K KG : Nat} {P : Ltr → Prop} {r : List Ltr} {w : Wld}
theorem WG.less {K : Nat} {r r' : List Ltr} {w : Wld} (h : WG K r w) (hr : ∀ x,x ∈ r' → x ∈ r) : WG K r' w:=by
 obtain ⟨G,h⟩:=h
 refine ⟨G,h.look (fun _ => rfl) fun x hx => ?_⟩
 rcases List.mem_append.1 hx with hx | hx
 ·exact List.mem_append_left _ (hr x hx)
 ·exact List.mem_append_right _ hx
theorem Calm.deliver {x : Ltr} (h : Calm i T n s lo K KG P (x :: r) w) (hKG : KG ≤ 200) (hlo : lo ≤ s + 1) (hs : s < 1048576) (hP : x.msg.kind = 0 → (stn w (!i)).up = true → (recvV (stn w (!i)).node x.msg).2.2.1 = true → (recvV (stn w (!i)).node x.msg).2.1.kind ≠ 0 → P ⟨idOf i,min (s + w.delay) 1048576,(recvV (stn w (!i)).node x.msg).2.1⟩) :
  Calm i T n s lo K KG P r (zau w x) ∧ (zau w x).delay = w.delay ∧ (∀ j,(stn (zau w x) j).up = (stn w j).up) ∧ (x.msg.kind = 0 → (stn w (!i)).up = true → (stn (zau w x) (!i)).quiet = 0) ∧ (x.msg.kind ≠ 0 → stn (zau w x) (!i) = stn w (!i)) ∧ (∀ y,y ∈ w.mail → y ∈ (zau w x).mail):=by
 obtain ⟨hxo,hxP,hxt,hxk⟩:=h.mail x (by simp)
 obtain ⟨g1,g2,g3⟩:=h.inv.deliver hKG (x:=x) (by simp) hxo
 have g1 : WG KG r (zau w x):=g1.less fun y hy => by simp [hy]
 have hok:=(zfH h.ok hxo).1
 have hwt:=h.wt
 rw [Tk.wt] at hwt
 have hnow:=h.now
 have hd0:=h.ok.d0
 have hmail : ∀ y,y ∈ r ++ w.mail → LtrOk y ∧ P y ∧ y.msg.term = T ∧ (y.msg.kind = 0 ∧ y.dst = idOf (!i) ∨ y.msg.kind ≠ 0 ∧ y.dst = idOf i):=fun y hy => h.mail y (List.mem_cons_of_mem x hy)
 rcases hxk with ⟨hk,hd⟩ | ⟨hk,hd⟩
 ·rw [if_pos hk] at hwt
  have he:=g3 _ hd
  cases hu : (stn w (!i)).up with
  | false =>
   have e : zau w x = w:=by
    rcases zgp (w:=w) hd with ⟨e,-⟩ | ⟨hu',-⟩
    ·exact e
    ·rw [hu] at hu';cases hu'
   rw [e] at g1 ⊢
   exact ⟨⟨h.ok,h.now,h.limit,h.cut,h.sp,h.term,h.oth,h.ot,hmail,h.late,by omega,g1⟩,rfl,fun _ => rfl,fun _ hc => (by cases hc),fun _ => rfl,fun _ hy => hy⟩
  | true =>
   obtain ⟨q,hq,D⟩:=ziy (w:=w) hd hu he
   have hl:=zb8 he
   have ht : (recvV (stn w (!i)).node x.msg).1.term = T:=by
    have h1:=hl.mine
    have h2:=h.ot
    rcases ziR he with e | e <;> omega
   have hq0 : q = 0:=by
    rcases hq with ⟨e,-⟩ | ⟨-,hc⟩
    ·exact e
    ·exact absurd ⟨hk,by rw [ht,hxt]⟩ hc
   have hns : (recvV (stn w (!i)).node x.msg).1.speaks = false:=by
    cases hc : (recvV (stn w (!i)).node x.msg).1.speaks with
    | false => rfl
    | true => have:=hl.speaks hc;rw [h.oth hu] at this;cases this
   have hself : stn (zau w x) i = stn w i:=by have:=D.other;rwa [Bool.not_not] at this
   refine ⟨⟨hok,D.now.trans hnow,D.limit.trans h.limit,D.cut.trans h.cut,by rw [hself];exact h.sp,by rw [hself];exact h.term,fun _ => by rw [D.self];exact hns,by rw [D.self];exact Int.le_of_eq ht,fun y hy => ?_,fun y hy => ?_,?_,g1⟩,D.delay,both i (by rw [hself]) (by rw [D.self,hu]),fun _ _ => by rw [D.self];exact hq0,fun hc => absurd hk hc,fun y hy => ?_⟩
   ·rcases List.mem_append.1 hy with hy | hy
    ·exact hmail y (List.mem_append_left _ hy)
    ·rcases D.mail with e | ⟨ha,e⟩
     ·rw [e] at hy;exact hmail y (List.mem_append_right _ hy)
     ·rw [e] at hy
      rcases List.mem_append.1 hy with hy | hy
      ·exact hmail y (List.mem_append_right _ hy)
      ·rw [List.mem_singleton] at hy
       obtain ⟨a1,a2,a3⟩:=hl.ans ha
       have hyo:=hok.mail y (by rw [e,hy];simp)
       subst hy
       rw [Bool.not_not] at hyo ⊢
       exact ⟨hyo,by rw [hnow];exact hP hk hu ha a3,a2.trans ht,.inr ⟨a3,rfl⟩⟩
   ·rcases D.mail with e | ⟨ha,e⟩
    ·rw [e] at hy;exact h.late y hy
    ·rw [e] at hy
     rcases List.mem_append.1 hy with hy | hy
     ·exact h.late y hy
     ·rw [List.mem_singleton] at hy
      subst hy
      show lo ≤ min (w.now + w.delay) 1048576
      omega
   ·rcases D.mail with e | ⟨ha,e⟩
    ·rw [e];omega
    ·obtain ⟨-,-,a3⟩:=hl.ans ha
     rw [e,zqR,Tk.wt,Tk.wt,if_neg a3]
     omega
   ·rcases D.mail with e | ⟨ha,e⟩
    ·rw [e];exact hy
    ·rw [e];exact List.mem_append_left _ hy
 ·rw [if_neg hk] at hwt
  have he:=g3 _ hd
  cases hu : (stn w i).up with
  | false =>
   have e : zau w x = w:=by
    rcases zgp (w:=w) hd with ⟨e,-⟩ | ⟨hu',-⟩
    ·exact e
    ·rw [hu] at hu';cases hu'
   rw [e] at g1 ⊢
   exact ⟨⟨h.ok,h.now,h.limit,h.cut,h.sp,h.term,h.oth,h.ot,hmail,h.late,by omega,g1⟩,rfl,fun _ => rfl,fun hc => absurd hc hk,fun _ => rfl,fun _ hy => hy⟩
  | true =>
   obtain ⟨q,hq,D⟩:=ziy (w:=w) hd hu he
   have ha:=zAr he hk (by rw [hxt,h.term])
   have hm : (zau w x).mail = w.mail:=by
    rcases D.mail with e | ⟨hc,-⟩
    ·exact e
    ·rw [ha] at hc;cases hc
   have h1 : (recvV (stn w i).node x.msg).1.speaks = true:=by
    rw [ha]
    show (if x.msg.kind = 1 then ackN (stn w i).node x.msg else zar (stn w i).node x.msg).speaks = true
    split
    ·rw [zxY];exact h.sp
    ·rw [zrz];exact h.sp
   have h2 : (recvV (stn w i).node x.msg).1.term = T:=by
    have:=h.term
    rcases ziR he with e | e <;> omega
   refine ⟨⟨hok,D.now.trans hnow,D.limit.trans h.limit,D.cut.trans h.cut,by rw [D.self];exact h1,by rw [D.self];exact h2,by rw [D.other];exact h.oth,by rw [D.other];exact h.ot,by rw [hm];exact hmail,by rw [hm];exact h.late,by rw [hm];omega,g1⟩,D.delay,both i (by rw [D.self,hu]) (by rw [D.other]),fun hc => absurd hc hk,fun _ => D.other,by rw [hm];exact fun _ hy => hy⟩
theorem speak_eq {w : Wld} {i : Bool} (hu : (stn w i).up = true) (hsp : (stn w i).node.speaks = true) (hcut : w.cut = false) (hlen : w.mail.length < 256) : workW w (idOf i) = ⟨w.now,w.limit,w.delay,w.cut,w.a,w.b,w.mail ++ [⟨idOf (!i),min (w.now + w.delay) 1048576,sentM (stn w i).node⟩]⟩:=by
 rw [zuu hu (if_pos hsp),if_pos hsp,zEi,zoo hcut hlen]
theorem wait_eq {w : Wld} {i : Bool} (hw : WldOk w) (hu : (stn w i).up = true) (hns : (stn w i).node.speaks = false) (hq : (stn w i).quiet + 1 ≤ w.limit) : workW w (idOf i) = putS w i ⟨(stn w i).node,true,(stn w i).quiet + 1⟩:=by
 have hl:=hw.l1
 have h0 : min ((stn w i).quiet + 1) 1048576 = (stn w i).quiet + 1:=by omega
 have e : leadS w.limit (stn w i) = ⟨(stn w i).node,true,(stn w i).quiet + 1⟩:=by
  unfold leadS
  simp only
  rw [h0,if_pos hq,hu]
 rw [zuu hu (x:=⟨(stn w i).node,true,(stn w i).quiet + 1⟩) (by rw [if_neg (by rw [hns];simp)];exact e),if_neg (by simp [hns])]
theorem zlf (w : Wld) (l : List Ltr) (j : Bool) : stn ⟨w.now,w.limit,w.delay,w.cut,w.a,w.b,l⟩ j = stn w j:=by cases j <;> rfl
theorem Calm.speak (h : Calm i T n s lo K KG P [] w) (hK : K + 2 ≤ 256) (hlo : lo ≤ s + 1) (hs : s < 1048576) (hu : (stn w i).up = true) (hP : P ⟨idOf (!i),min (s + w.delay) 1048576,sentM (stn w i).node⟩) :
  Calm i T n s lo (K + 2) KG P [] (workW w (idOf i)) ∧ workW w (idOf i) = ⟨w.now,w.limit,w.delay,w.cut,w.a,w.b,w.mail ++ [⟨idOf (!i),min (s + w.delay) 1048576,sentM (stn w i).node⟩]⟩:=by
 have hwt:=h.wt
 rw [Tk.wt] at hwt
 have hlen:=zFM w.mail
 have hnow:=h.now
 have hd0:=h.ok.d0
 have e:=speak_eq hu h.sp h.cut om
 have hok:=(zgf h.ok (zA0 i)).1
 have hinv : WG KG [] (workW w (idOf i)):=by
  obtain ⟨G,hG⟩:=h.inv
  have h2:=zt9 (hG.send i h.sp).2
  rw [zoo h.cut om] at h2
  rw [e]
  exact ⟨G,h2⟩
 rw [e] at hok hinv ⊢
 rw [hnow] at hok hinv ⊢
 refine ⟨⟨hok,rfl,h.limit,h.cut,by rw [← hnow,zlf];exact h.sp,by rw [← hnow,zlf];exact h.term,by rw [← hnow,zlf];exact h.oth,by rw [← hnow,zlf];exact h.ot,fun y hy => ?_,fun y hy => ?_,?_,hinv⟩,rfl⟩
 ·rcases List.mem_append.1 hy with hy | hy
  ·cases hy
  ·have hyo:=hok.mail y hy
   rcases List.mem_append.1 hy with hy | hy
   ·exact h.mail y (List.mem_append_right _ hy)
   ·rw [List.mem_singleton] at hy
    subst hy
    exact ⟨hyo,hP,h.term,.inl ⟨rfl,rfl⟩⟩
 ·rcases List.mem_append.1 hy with hy | hy
  ·exact h.late y hy
  ·rw [List.mem_singleton] at hy
   subst hy
   show lo ≤ min (s + w.delay) 1048576
   omega
 ·rw [zqR,Tk.wt,Tk.wt,Tk.wt,if_pos (show (sentM (stn w i).node).kind = 0 from rfl)]
  omega
theorem Calm.wait (h : Calm i T n s lo K KG P [] w) (hu : (stn w (!i)).up = true) (hq : (stn w (!i)).quiet + 1 ≤ n) :
  Calm i T n s lo K KG P [] (workW w (idOf (!i))) ∧ workW w (idOf (!i)) = putS w (!i) ⟨(stn w (!i)).node,true,(stn w (!i)).quiet + 1⟩:=by
 have e:=wait_eq h.ok hu (h.oth hu) (by rw [h.limit];exact hq)
 have hok:=(zgf h.ok (zA0 (!i))).1
 have hinv : WG KG [] (workW w (idOf (!i))):=by
  obtain ⟨G,hG⟩:=h.inv
  rw [e]
  exact ⟨G,hG.look (both i (by rw [zhi]) (by rw [zda])) (by rw [zbU];exact fun _ hx => hx)⟩
 rw [e] at hok hinv ⊢
 exact ⟨⟨hok,(zha _ _ _).trans h.now,(ziP _ _ _).trans h.limit,(ziO _ _ _).trans h.cut,by rw [zhi];exact h.sp,by rw [zhi];exact h.term,fun _ => by rw [zda];exact h.oth hu,by rw [zda];exact h.ot,by rw [zbU];exact h.mail,by rw [zbU];exact h.late,by rw [zbU];exact h.wt,hinv⟩,rfl⟩
noncomputable def tick6 (v : Wld) : Wld:=⟨(tick5 v).now + 1,(tick5 v).limit,(tick5 v).delay,(tick5 v).cut,(tick5 v).a,(tick5 v).b,(tick5 v).mail⟩
theorem zqF (w : Wld) (l : List Evt) : tickW w l = tick6 (tick1 w l):=rfl
structure Gone (i : Bool) (n s : Int) (v v' : Wld) : Prop where
 delay : v'.delay = v.delay
 up : ∀ j,(stn v' j).up = (stn v j).up
 heard : (stn v (!i)).up = true → (∃ x,x ∈ v.mail ∧ x.msg.kind = 0 ∧ x.at_ ≤ s) → (stn v' (!i)).quiet = 1
 quiet : (stn v (!i)).up = true → (¬ ∃ x,x ∈ v.mail ∧ x.msg.kind = 0 ∧ x.at_ ≤ s) → (stn v' (!i)).quiet = (stn v (!i)).quiet + 1
 keep : ∀ x,x ∈ v.mail → s < x.at_ → x ∈ v'.mail
 new : (stn v i).up = true → ∃ x,x ∈ v'.mail ∧ x.msg.kind = 0 ∧ x.at_ = min (s + v.delay) 1048576
theorem Calm.heard {v : Wld} (h : Calm i T n s lo K KG P [] v) (hKG : KG ≤ 200) (hs : s < 1048576)
  (hP1 : ∀ x,x ∈ v.mail → x.msg.kind = 0 → x.at_ ≤ s → (stn v (!i)).up = true → ∀ m : Msg,m.kind ≠ 0 → P ⟨idOf i,min (s + v.delay) 1048576,m⟩) :
  Calm i T n s (s + 1) K KG P [] (tick3 v) ∧ (tick3 v).delay = v.delay ∧ (∀ j,(stn (tick3 v) j).up = (stn v j).up) ∧ (∀ y,y ∈ v.mail → s < y.at_ → y ∈ (tick3 v).mail) ∧
   ((stn v (!i)).up = true → (∃ x,x ∈ v.mail ∧ x.msg.kind = 0 ∧ x.at_ ≤ s) → (stn (tick3 v) (!i)).quiet = 0) ∧ ((¬ ∃ x,x ∈ v.mail ∧ x.msg.kind = 0 ∧ x.at_ ≤ s) → stn (tick3 v) (!i) = stn v (!i)):=by
 have hnow:=h.now
 have hwt:=h.wt
 rw [Tk.wt] at hwt
 have hmem : ∀ x,x ∈ dueL v.now v.mail → x ∈ v.mail ∧ x.at_ ≤ s:=fun x hx => by
  obtain ⟨a,b⟩:=List.mem_filter.1 hx
  exact ⟨a,by rw [← hnow];exact of_decide_eq_true b⟩
 have key:=foldl_rest (f:=zau) (P:=fun rem c => (∀ x,x ∈ rem → x ∈ dueL v.now v.mail) ∧ Calm i T n s (s + 1) K KG P rem c ∧ c.delay = v.delay ∧ (∀ j,(stn c j).up = (stn v j).up) ∧ (∀ y,y ∈ v.mail → s < y.at_ → y ∈ c.mail) ∧
   ((stn v (!i)).up = true → (∃ x,x ∈ dueL v.now v.mail ∧ x.msg.kind = 0) → (∃ x,x ∈ rem ∧ x.msg.kind = 0) ∨ (stn c (!i)).quiet = 0) ∧ ((¬ ∃ x,x ∈ dueL v.now v.mail ∧ x.msg.kind = 0) → stn c (!i) = stn v (!i))) (dueL v.now v.mail) (tick2 v) ?_ ?_
 ·obtain ⟨-,k1,k2,k3,k4,k5,k6⟩:=key
  refine ⟨k1,k2,k3,k4,fun hu ⟨x,a,b,c⟩ => ?_,fun hc => k6 fun ⟨x,a,b⟩ => hc ⟨x,(hmem x a).1,b,(hmem x a).2⟩⟩
  rcases k5 hu ⟨x,List.mem_filter.2 ⟨a,decide_eq_true (by rw [hnow];exact c)⟩,b⟩ with ⟨y,hy,-⟩ | e
  ·cases hy
  ·exact e
 ·have hsp:=zux (fun x => decide (x.at_ ≤ v.now)) v.mail
  refine ⟨fun _ hx => hx,⟨⟨h.ok.n0,h.ok.n1,h.ok.l0,h.ok.l1,h.ok.d0,h.ok.d1,h.ok.a,h.ok.b,Nat.le_trans (List.length_filter_le _ _) h.ok.len,fun x hx => h.ok.mail x (List.mem_filter.1 hx).1⟩,h.now,h.limit,h.cut,?_,?_,?_,?_,fun x hx => ?_,fun x hx => ?_,?_,?_⟩,rfl,fun j => by cases j <;> rfl,fun y hy hlt => ?_,fun _ hx => .inl hx,fun _ => by cases i <;> rfl⟩
  ·cases i <;> exact h.sp
  ·cases i <;> exact h.term
  ·cases i <;> exact h.oth
  ·cases i <;> exact h.ot
  ·refine h.mail x (List.mem_append_right _ ?_)
   rcases List.mem_append.1 hx with hx | hx
   ·exact (List.mem_filter.1 hx).1
   ·exact (List.mem_filter.1 hx).1
  ·obtain ⟨-,b⟩:=List.mem_filter.1 hx
   have : ¬ x.at_ ≤ v.now:=by simpa using b
   omega
  ·show Tk.wt (v.mail.filter _) + Tk.wt (v.mail.filter _) ≤ K
   rw [hsp];omega
  ·obtain ⟨G,hG⟩:=h.inv
   refine ⟨G,hG.look (fun j => by cases j <;> rfl) fun x hx => List.mem_append_right _ ?_⟩
   rcases List.mem_append.1 hx with hx | hx
   ·exact (List.mem_filter.1 hx).1
   ·exact (List.mem_filter.1 hx).1
  ·refine List.mem_filter.2 ⟨hy,?_⟩
   have : ¬ y.at_ ≤ v.now:=by omega
   simpa using this
 ·rintro c x r ⟨c1,c2,c3,c4,c5,c6,c7⟩
  obtain ⟨hx1,hx2⟩:=hmem x (c1 x (by simp))
  obtain ⟨d1,d2,d3,d4,d5,d6⟩:=c2.deliver hKG (Int.le_refl _) hs (fun hk hu _ hm => by rw [c3];exact hP1 x hx1 hk hx2 (by rw [← c4];exact hu) _ hm)
  refine ⟨fun y hy => c1 y (by simp [hy]),d1,d2.trans c3,fun j => (d3 j).trans (c4 j),fun y hy hlt => d6 y (c5 y hy hlt),fun hu hex => ?_,fun hc => ?_⟩
  ·by_cases hk : x.msg.kind = 0
   ·exact .inr (d4 hk (by rw [c4];exact hu))
   ·rcases c6 hu hex with ⟨y,hy,hyk⟩ | e
    ·rcases List.mem_cons.1 hy with rfl | hy
     ·exact absurd hyk hk
     ·exact .inl ⟨y,hy,hyk⟩
    ·exact .inr (by rw [d5 hk];exact e)
  ·by_cases hk : x.msg.kind = 0
   ·exact absurd ⟨x,c1 x (by simp),hk⟩ hc
   ·rw [d5 hk];exact c7 hc
theorem Calm.wide {K' : Nat} (h : Calm i T n s lo K KG P [] w) (hk : K ≤ K') : Calm i T n s lo K' KG P [] w:=⟨h.ok,h.now,h.limit,h.cut,h.sp,h.term,h.oth,h.ot,h.mail,h.late,Nat.le_trans h.wt hk,h.inv⟩
theorem Calm.works (h : Calm i T n s (s + 1) K KG P [] w) (hK : K + 2 ≤ 256) (hs : s < 1048576) (hP : (stn w i).up = true → P ⟨idOf (!i),min (s + w.delay) 1048576,sentM (stn w i).node⟩) (hq : (stn w (!i)).up = true → (stn w (!i)).quiet + 1 ≤ n) :
  Calm i T n s (s + 1) (K + 2) KG P [] (workW (workW w 1) 2) ∧ (workW (workW w 1) 2).delay = w.delay ∧ (∀ j,(stn (workW (workW w 1) 2) j).up = (stn w j).up) ∧ (stn (workW (workW w 1) 2) i) = stn w i ∧ ((stn w (!i)).up = true → stn (workW (workW w 1) 2) (!i) = ⟨(stn w (!i)).node,true,(stn w (!i)).quiet + 1⟩) ∧ ((stn w (!i)).up = false → stn (workW (workW w 1) 2) (!i) = stn w (!i)) ∧
   (workW (workW w 1) 2).mail = if (stn w i).up = true then w.mail ++ [⟨idOf (!i),min (s + w.delay) 1048576,sentM (stn w i).node⟩] else w.mail:=by
 -- the speaker's part,in a world in which the other one may have worked
 have key1 : ∀ v : Wld,Calm i T n s (s + 1) K KG P [] v → stn v i = stn w i → v.delay = w.delay → v.mail = w.mail → Calm i T n s (s + 1) (K + 2) KG P [] (workW v (idOf i)) ∧ (workW v (idOf i)).delay = w.delay ∧ (∀ j,stn (workW v (idOf i)) j = stn v j) ∧ (workW v (idOf i)).mail = if (stn w i).up = true then w.mail ++ [⟨idOf (!i),min (s + w.delay) 1048576,sentM (stn w i).node⟩] else w.mail:=by
  intro v hv e1 e2 e3
  cases hu : (stn w i).up with
  | false =>
   rw [zlr (by rw [e1];exact hu),if_neg (by simp)]
   exact ⟨hv.wide om,e2,fun _ => rfl,e3⟩
  | true =>
   obtain ⟨g1,g2⟩:=hv.speak hK (Int.le_refl _) hs (by rw [e1];exact hu) (by rw [e1,e2];exact hP hu)
   refine ⟨g1,by rw [g2];exact e2,fun j => by rw [g2,zlf],?_⟩
   rw [g2,if_pos rfl,← e3,← e2,← e1]
 have key2 : ∀ (k : Nat) (v : Wld),Calm i T n s (s + 1) k KG P [] v → stn v (!i) = stn w (!i) → Calm i T n s (s + 1) k KG P [] (workW v (idOf (!i))) ∧ (workW v (idOf (!i))).delay = v.delay ∧ stn (workW v (idOf (!i))) i = stn v i ∧ (workW v (idOf (!i))).mail = v.mail ∧ ((stn w (!i)).up = true → stn (workW v (idOf (!i))) (!i) = ⟨(stn w (!i)).node,true,(stn w (!i)).quiet + 1⟩) ∧ ((stn w (!i)).up = false → stn (workW v (idOf (!i))) (!i) = stn w (!i)):=by
  intro k v hv e1
  cases hu : (stn w (!i)).up with
  | false =>
   rw [zlr (by rw [e1];exact hu)]
   exact ⟨hv,rfl,rfl,rfl,fun hc => (by cases hc),fun _ => e1⟩
  | true =>
   obtain ⟨g1,g2⟩:=hv.wait (by rw [e1];exact hu) (by rw [e1];exact hq hu)
   refine ⟨g1,by rw [g2,zeF],by rw [g2,zhi],by rw [g2,zbU],fun _ => by rw [g2,zda,e1],fun hc => by cases hc⟩
 have fin : ∀ v u : Wld,stn v i = stn w i → ((stn w (!i)).up = true → stn u (!i) = ⟨(stn w (!i)).node,true,(stn w (!i)).quiet + 1⟩) → ((stn w (!i)).up = false → stn u (!i) = stn w (!i)) → stn u i = stn v i → ∀ j,(stn u j).up = (stn w j).up:=by
  intro v u e1 e2 e3 e4
  refine both i (by rw [e4,e1]) ?_
  cases hu : (stn w (!i)).up with
  | false => rw [e3 hu,hu]
  | true => rw [e2 hu]
 cases i with
 | false =>
  obtain ⟨a1,a2,a3,a4⟩:=key1 w h rfl rfl rfl
  obtain ⟨b1,b2,b3,b4,b5,b6⟩:=key2 _ _ a1 (a3 _)
  exact ⟨b1,b2.trans a2,fin _ _ (a3 _) b5 b6 b3,b3.trans (a3 _),b5,b6,b4.trans a4⟩
 | true =>
  obtain ⟨b1,b2,b3,b4,b5,b6⟩:=key2 K w h rfl
  obtain ⟨a1,a2,a3,a4⟩:=key1 _ b1 b3 b2 b4
  exact ⟨a1,a2,fin _ _ b3 (fun hu => (a3 _).trans (b5 hu)) (fun hu => (a3 _).trans (b6 hu)) (a3 _),(a3 _).trans b3,fun hu => (a3 _).trans (b5 hu),fun hu => (a3 _).trans (b6 hu),a4⟩
theorem stn_6 (v : Wld) (j : Bool) : stn (tick6 v) j = stn (tick5 v) j:=by cases j <;> rfl
theorem Calm.rest {v : Wld} (h : Calm i T n s lo K KG P [] v) (hKG : KG ≤ 200) (hs : s < 1048576) (hK : K + 2 ≤ 256)
  (hP1 : ∀ x,x ∈ v.mail → x.msg.kind = 0 → x.at_ ≤ s → (stn v (!i)).up = true → ∀ m : Msg,m.kind ≠ 0 → P ⟨idOf i,min (s + v.delay) 1048576,m⟩)
  (hP2 : (stn v i).up = true → ∀ m : Msg,m.kind = 0 → P ⟨idOf (!i),min (s + v.delay) 1048576,m⟩)
  (hq : (stn v (!i)).up = true → (∃ x,x ∈ v.mail ∧ x.msg.kind = 0 ∧ x.at_ ≤ s) ∨ (stn v (!i)).quiet + 1 ≤ n) :
  Calm i T n (s + 1) (s + 1) (K + 2) KG P [] (tick6 v) ∧ Gone i n s v (tick6 v):=by
 obtain ⟨k1,k2,k3,k4,k5,k6⟩:=h.heard hKG hs hP1
 have hl0:=h.ok.l0
 have hlim:=h.limit
 obtain ⟨m1,m2,m3,m4,m5,m6,m7⟩:=k1.works hK hs (fun hu => by rw [k2];exact hP2 (by rw [← k3];exact hu) _ rfl) (fun hu => by
  rw [k3] at hu
  by_cases hex : ∃ x,x ∈ v.mail ∧ x.msg.kind = 0 ∧ x.at_ ≤ s
  ·rw [k5 hu hex];omega
  ·rcases hq hu with hc | hc
   ·exact absurd hc hex
   ·rw [k6 hex];exact hc)
 have e5 : workW (workW (tick3 v) 1) 2 = tick5 v:=rfl
 rw [e5] at m1 m2 m3 m4 m5 m6 m7
 have hnow:=m1.now
 have h0:=h.ok.n0
 have hsn:=h.now
 refine ⟨⟨⟨by show 0 ≤ (tick5 v).now + 1;omega,by show (tick5 v).now + 1 ≤ 1048576;omega,m1.ok.l0,m1.ok.l1,m1.ok.d0,m1.ok.d1,m1.ok.a,m1.ok.b,m1.ok.len,m1.ok.mail⟩,by show (tick5 v).now + 1 = s + 1;omega,m1.limit,m1.cut,by rw [stn_6];exact m1.sp,by rw [stn_6];exact m1.term,by rw [stn_6];exact m1.oth,by rw [stn_6];exact m1.ot,m1.mail,m1.late,m1.wt,?_⟩,?_⟩
 ·obtain ⟨G,hG⟩:=m1.inv
  exact ⟨G,hG.look (fun j => by rw [stn_6]) fun _ hx => hx⟩
 ·refine ⟨m2.trans k2,fun j => by rw [stn_6,m3,k3],fun hu hex => ?_,fun hu hex => ?_,fun x hx hlt => ?_,fun hu => ?_⟩
  ·rw [stn_6,m5 (by rw [k3];exact hu)]
   show (stn (tick3 v) (!i)).quiet + 1 = 1
   rw [k5 hu hex];rfl
  ·rw [stn_6,m5 (by rw [k3];exact hu)]
   show (stn (tick3 v) (!i)).quiet + 1 = _
   rw [k6 hex]
  ·show x ∈ (tick5 v).mail
   rw [m7]
   have:=k4 x hx hlt
   split
   ·exact List.mem_append_left _ this
   ·exact this
  ·have hu3 : (stn (tick3 v) i).up = true:=by rw [k3];exact hu
   rw [if_pos hu3,k2] at m7
   refine ⟨_,by show _ ∈ (tick5 v).mail;rw [m7];exact List.mem_append_right _ (List.mem_singleton.2 rfl),rfl,rfl⟩
theorem Calm.spoken (h : Calm i T n s lo K KG P [] w) (hu : (stn w i).up = true) : zc6 w = idOf i:=by
 have ho:=h.oth
 have hs:=h.sp
 unfold zc6
 cases i with
 | false =>
  rw [if_neg,if_pos ⟨hu,hs⟩]
  ·rfl
  ·rintro ⟨h1,h2,-⟩
   have : w.b.node.speaks = false:=ho h1
   rw [h2] at this
   cases this
 | true =>
  refine if_pos ⟨hu,hs,fun ⟨h1,h2⟩ => ?_⟩
  have : w.a.node.speaks = false:=ho h1
  rw [h2] at this
  cases this
theorem stn_keep {w v : Wld} (ha : v.a = w.a) (hb : v.b = w.b) (j : Bool) : stn v j = stn w j:=by
 cases j
 ·exact ha
 ·exact hb
theorem Calm.new {m d : Int} (P : Ltr → Prop) (h1 : 1 ≤ m) (h2 : m ≤ 16) (h3 : 1 ≤ d) (h4 : d ≤ 8) : Calm false 1 m 0 0 0 1 P [] (newW m d).1 ∧ (newW m d).1.delay = d ∧ (∀ j,(stn (newW m d).1 j).up = true) ∧ (newW m d).1.b.quiet = 0 ∧ (newW m d).1.mail = [] ∧ (newW m d).1.a.node = ⟨1,1,true,[],0,0⟩ ∧ (newW m d).1.b.node = ⟨2,0,false,[],0,0⟩:=by
 have hok:=(zem h1 h2 h3 h4).2
 have hg:=WG.new h1 h2 h3 h4
 have e : (newW m d).1 = ⟨0,m,d,false,⟨⟨1,1,true,[],0,0⟩,true,0⟩,⟨⟨2,0,false,[],0,0⟩,true,0⟩,[]⟩:=by unfold newW;rw [if_neg om]
 rw [e] at hok hg ⊢
 refine ⟨⟨hok,rfl,rfl,rfl,rfl,rfl,fun _ => rfl,by show (0 : Int) ≤ 1;omega,(fun x hx => by cases hx),(fun x hx => by cases hx),Nat.le_refl _,hg⟩,rfl,fun j => by cases j <;> rfl,rfl,rfl,rfl,rfl⟩

def Mild (n : Int) (x : Evt) : Prop:=EvtOk x ∧ (x.kind = 0 ∨ x.kind = 5 ∧ x.delay ≤ n)
theorem Calm.happen (h : Calm i T n s lo K KG P [] w) (hd : w.delay ≤ n) {x : Evt} (hx : Mild n x) : Calm i T n s lo K KG P [] (zap w x) ∧ (zap w x).delay ≤ n ∧ (∀ j,(stn (zap w x) j).up = (stn w j).up) ∧ (∀ j,(stn (zap w x) j).quiet = (stn w j).quiet) ∧ (zap w x).mail = w.mail:=by
 obtain ⟨hx1,hx2⟩:=hx
 obtain ⟨g1,g2⟩:=h.inv.happen hx1
 have hok:=(ze7 h.ok hx1).1
 rcases hx2 with hk | ⟨hk,hdl⟩
 ·obtain ⟨s1,s2⟩:=hx1.st om
  obtain ⟨j,hj⟩:=id_of s1 s2
  have e : zap w x = putS w j (zcf (stn w j) x):=by
   unfold zap
   rw [if_pos om,hj,ziB,zld]
  have hs : (zcf (stn w j) x).up = (stn w j).up ∧ (zcf (stn w j) x).quiet = (stn w j).quiet ∧ (zcf (stn w j) x).node.speaks = (stn w j).node.speaks ∧ (zcf (stn w j) x).node.term = (stn w j).node.term:=by
   unfold zcf
   rw [if_pos hk]
   split
   ·rename_i hc
    rw [(zy0 (zqr h.ok j).node hc.2).1]
    exact ⟨rfl,rfl,rfl,rfl⟩
   ·exact ⟨rfl,rfl,rfl,rfl⟩
  have hall : ∀ k,(stn (zap w x) k).up = (stn w k).up ∧ (stn (zap w x) k).quiet = (stn w k).quiet ∧ (stn (zap w x) k).node.speaks = (stn w k).node.speaks ∧ (stn (zap w x) k).node.term = (stn w k).node.term:=by
   rw [e]
   exact both j (by rw [zda];exact hs) (by rw [zdC];exact ⟨rfl,rfl,rfl,rfl⟩)
  have hm : (zap w x).mail = w.mail:=by rw [e,zbU]
  have hde : (zap w x).delay = w.delay:=by rw [e,zeF]
  refine ⟨⟨hok,by rw [e,zha];exact h.now,by rw [e,ziP];exact h.limit,by rw [e,ziO];exact h.cut,by rw [(hall i).2.2.1];exact h.sp,by rw [(hall i).2.2.2];exact h.term,by rw [(hall (!i)).1,(hall (!i)).2.2.1];exact h.oth,by rw [(hall (!i)).2.2.2];exact h.ot,by rw [hm];exact h.mail,by rw [hm];exact h.late,by rw [hm];exact h.wt,g1⟩,by rw [hde];exact hd,fun j => (hall j).1,fun j => (hall j).2.1,hm⟩
 ·have e : zap w x = ⟨w.now,w.limit,x.delay,w.cut,w.a,w.b,w.mail⟩:=by
   unfold zap
   rw [if_neg om,if_neg om,if_neg om]
  rw [e] at hok g1 ⊢
  have hst : ∀ j,stn (⟨w.now,w.limit,x.delay,w.cut,w.a,w.b,w.mail⟩ : Wld) j = stn w j:=stn_keep rfl rfl
  exact ⟨⟨hok,h.now,h.limit,h.cut,by rw [hst];exact h.sp,by rw [hst];exact h.term,by rw [hst];exact h.oth,by rw [hst];exact h.ot,h.mail,h.late,h.wt,g1⟩,hdl,fun j => by rw [hst],fun j => by rw [hst],rfl⟩
def Hush (i : Bool) (n s : Int) (w : Wld) : Prop:=(stn w (!i)).quiet = 0 ∨ ∃ x,x ∈ w.mail ∧ x.msg.kind = 0 ∧ s ≤ x.at_ ∧ (stn w (!i)).quiet + (x.at_ - s) ≤ n
theorem Calm.tick (h : Calm i T n s s K KG (fun _ => True) [] w) (hKG : KG ≤ 200) (hs : s + n < 1048576) (hK : K + 2 ≤ 256) (hd : w.delay ≤ n) (hup : ∀ j,(stn w j).up = true) (hq : Hush i n s w) {l : List Evt} (hl : ∀ x,x ∈ l → Mild n x) :
  Calm i T n (s + 1) (s + 1) (K + 2) KG (fun _ => True) [] (tickW w l) ∧ (tickW w l).delay ≤ n ∧ (∀ j,(stn (tickW w l) j).up = true) ∧ Hush i n (s + 1) (tickW w l):=by
 have p1 : Calm i T n s s K KG (fun _ => True) [] (tick1 w l) ∧ (tick1 w l).delay ≤ n ∧ (∀ j,(stn (tick1 w l) j).up = (stn w j).up) ∧ (∀ j,(stn (tick1 w l) j).quiet = (stn w j).quiet) ∧ (tick1 w l).mail = w.mail:=by
  refine zfJ (P:=fun v => Calm i T n s s K KG (fun _ => True) [] v ∧ v.delay ≤ n ∧ (∀ j,(stn v j).up = (stn w j).up) ∧ (∀ j,(stn v j).quiet = (stn w j).quiet) ∧ v.mail = w.mail) l w ⟨h,hd,fun _ => rfl,fun _ => rfl,rfl⟩ fun v x hx ⟨a1,a2,a3,a4,a5⟩ => ?_
  obtain ⟨b1,b2,b3,b4,b5⟩:=a1.happen a2 (hl x hx)
  exact ⟨b1,b2,fun j => (b3 j).trans (a3 j),fun j => (b4 j).trans (a4 j),b5.trans a5⟩
 obtain ⟨p1,pd,pu,pq,pm⟩:=p1
 rw [zqF]
 obtain ⟨v,hv⟩ : ∃ v,tick1 w l = v:=⟨_,rfl⟩
 rw [hv] at p1 pd pu pq pm ⊢
 have hl0:=h.ok.l0
 have hlim:=h.limit
 have hd0:=p1.ok.d0
 have hn0:=h.ok.n0
 have hnow:=h.now
 have pu' : ∀ j,(stn v j).up = true:=fun j => (pu j).trans (hup j)
 obtain ⟨r1,r2⟩:=p1.rest hKG om hK (fun _ _ _ _ _ _ _ => trivial) (fun _ _ _ => trivial) (fun _ => by
  rw [pm,pq]
  rcases hq with e | ⟨x,a,b,c,d⟩
  ·right;omega
  ·by_cases hx : x.at_ ≤ s
   ·exact .inl ⟨x,a,b,hx⟩
   ·right;omega)
 refine ⟨r1,by rw [r2.delay];exact pd,fun j => by rw [r2.up];exact pu' j,?_⟩
 obtain ⟨L,l1,l2,l3⟩:=r2.new (pu' i)
 have hL : min (s + v.delay) 1048576 = s + v.delay:=by omega
 rw [hL] at l3
 by_cases hex : ∃ x,x ∈ v.mail ∧ x.msg.kind = 0 ∧ x.at_ ≤ s
 ·have e:=r2.heard (pu' _) hex
  exact .inr ⟨L,l1,l2,by omega,by rw [e];omega⟩
 ·have e:=r2.quiet (pu' _) hex
  rw [pq] at e
  rcases hq with e0 | ⟨x,a,b,c,d⟩
  ·exact .inr ⟨L,l1,l2,by omega,by rw [e];omega⟩
  ·by_cases hx : x.at_ ≤ s
   ·exact absurd ⟨x,by rw [pm];exact a,b,hx⟩ hex
   ·exact .inr ⟨x,r2.keep x (by rw [pm];exact a) om,b,by omega,by rw [e];omega⟩
end
theorem zwR {n d : Int} (h1 : 1 ≤ n) (h2 : n ≤ 16) (h3 : 1 ≤ d) (h4 : d ≤ 8) (h5 : d ≤ n) {l : List Evt} (hl : ∀ x,x ∈ l → Mild n x) : ∀ j : Nat,j ≤ 100 →
  Calm false 1 n j j (2 * j) 1 (fun _ => True) [] (seqW l (newW n d).1 j) ∧ (seqW l (newW n d).1 j).delay ≤ n ∧ (∀ k,(stn (seqW l (newW n d).1 j) k).up = true) ∧ Hush false n j (seqW l (newW n d).1 j)
 | 0,_ => by
  obtain ⟨c1,c2,c3,c4,-⟩:=Calm.new (m:=n) (fun _ => True) h1 h2 h3 h4
  exact ⟨c1,by rw [seqW,c2];exact h5,c3,.inl c4⟩
 | j + 1,hj => by
  obtain ⟨g1,g2,g3,g4⟩:=zwR h1 h2 h3 h4 h5 hl j om
  exact g1.tick om om om g2 g3 g4 (fun x hx => hl x (List.mem_filter.1 hx).1)
theorem stays_all {n d : Int} (h1 : 1 ≤ n) (h2 : n ≤ 16) (h3 : 1 ≤ d) (h4 : d ≤ 8) (h5 : d ≤ n) {l : List Evt} (hl : ∀ x,x ∈ l → Mild n x) {N i : Nat} (hN : N ≤ 100) (hi : i < N) : (zce l N (newW n d).1)[i]? = some 1:=by
 obtain ⟨g1,g2,g3,g4⟩:=zwR h1 h2 h3 h4 h5 hl (i + 1) om
 rw [zgS _ _ _ _ hi]
 exact congrArg some (g1.spoken (g3 _))
end Tk
end Go.Proofs.YtnpdghjpcnjokaaGreat
