import Derived.Test.YtnpdghjpcnjokaaGreatGtkq
import Derived.Test.YtnpdghjpcnjokaaGreatGrpr
import Derived.Test.YtnpdghjpcnjokaaGreatGstay
import Derived.Test.YtnpdghjpcnjokaaGreatGrpm
namespace Go.Proofs.YtnpdghjpcnjokaaGreat

structure Stp where
  kind : Nat
  node : Nat
  pick : Nat
def Stp.i (s : Stp) : Bool:=decide (s.node % 2 = 1)
noncomputable def stepV (w : CW) (s : Stp) : Option CW :=
  if s.kind % 4 = 0 then (if (leadV (w.n s.i) (zbu (w.n s.i))).2 = 0 then some (setN w s.i (leadV (w.n s.i) (zbu (w.n s.i))).1) else none)
  else if s.kind % 4 = 1 then
    (if (actV (w.n s.i) (goA (w.time + s.pick))).2 = 0 then some (setN (setT w (w.time + s.pick)) s.i (actV (w.n s.i) (goA (w.time + s.pick))).1)
     else if (w.n s.i).speaks = true then none else some (setT w (w.time + s.pick)))
  else if s.kind % 4 = 2 then
    (if (sendV (w.n s.i)).2 = 0 then some (postM w (!s.i) (sendV (w.n s.i)).1) else if (w.n s.i).speaks = true then none else some w)
  else match (w.mail s.i)[s.pick % (w.mail s.i).length]? with
    | none => some w
    | some m =>
      if (recvV (w.n s.i) m).2.2.2 = 0 then
        (if (recvV (w.n s.i) m).2.2.1 = true then some (postM (setN w s.i (recvV (w.n s.i) m).1) (!s.i) (recvV (w.n s.i) m).2.1) else some (setN w s.i (recvV (w.n s.i) m).1))
      else none
def Grown (w w' : CW) : Prop:=∀ i,(w.n i).acked ≤ (w'.n i).acked ∧ (w.n i).term ≤ (w'.n i).term ∧ (w.n i).acked ≤ (w'.n i).log.length ∧ (w'.n i).log.take (w.n i).acked.toNat = (w.n i).log.take (w.n i).acked.toNat
theorem Grown.refl {G : Int → Option (List Rec)} {K : Nat} {w : CW} (h : Inv G K w) {w' : CW} (e : w'.n = w.n) : Grown w w':=fun i => by
  rw [e];exact ⟨Int.le_refl _,Int.le_refl _,(h.node i).a1,rfl⟩
theorem Grown.set {G : Int → Option (List Rec)} {K : Nat} {w w' : CW} (h : Inv G K w) {i : Bool} {x : Nod} (e : w'.n = (setN w i x).n) (h1 : (w.n i).acked ≤ x.acked) (h2 : (w.n i).term ≤ x.term) (h3 : (w.n i).acked ≤ x.log.length) (h4 : x.log.take (w.n i).acked.toNat = (w.n i).log.take (w.n i).acked.toNat) : Grown w w' :=
  both i (by rw [e,zcZ];exact ⟨h1,h2,h3,h4⟩) (by rw [e,zcl];exact ⟨Int.le_refl _,Int.le_refl _,(h.node _).a1,rfl⟩)
theorem idOf_own {G : Int → Option (List Rec)} {K : Nat} {w : CW} (h : Inv G K w) (i : Bool) : ownB (idOf i) (zbu (w.n i)) = true ∧ (w.n i).term < zbu (w.n i) ∧ zbu (w.n i) ≤ (w.n i).term + 2:=by
  have:=zmX (h.node i)
  rwa [h.id i] at this
theorem zor {G : Int → Option (List Rec)} {K : Nat} {w : CW} (h : Inv G K w) (hK : K ≤ 100) (s : Stp) (hp : s.pick ≤ 255) : ∃ w' G',stepV w s = some w' ∧ Inv G' (K + 1) w' ∧ Grown w w':=by
  have hn:=h.node s.i
  have hterm:=h.terms s.i
  have ht0:=h.t0
  have ht1:=h.t1
  unfold stepV
  by_cases k0 : s.kind % 4 = 0
  · rw [if_pos k0]
    obtain ⟨q1,q2,q3⟩:=idOf_own h s.i
    have hl:=(zpH hn (t:=zbu (w.n s.i)) om (by rw [h.id];exact q1) q2).1
    obtain ⟨G',hG⟩:=h.lead s.i q1 q2 om om
    rw [hl]
    refine ⟨_,G',if_pos rfl,hG,Grown.set h rfl (Int.le_refl _) ?_ hn.a1 rfl⟩
    show _ ≤ zbu (w.n s.i);omega
  rw [if_neg k0]
  by_cases k1 : s.kind % 4 = 1
  · rw [if_pos k1]
    by_cases hs : (w.n s.i).speaks = true
    · obtain ⟨e1,G',hG⟩:=h.act s.i hs (a:=goA (w.time + s.pick)) (t:=w.time + s.pick) (zff om om) rfl om om om
      rw [e1]
      refine ⟨_,G',if_pos rfl,hG,Grown.set h rfl (Int.le_refl _) (Int.le_refl _) ?_ ?_⟩
      · have:=hn.a1;show _ ≤ (((w.n s.i).log ++ _).length : Int);simp;omega
      · show ((w.n s.i).log ++ _).take _ = _
        rw [List.take_append_of_le_length (by have:=hn.a1;have:=hn.a0;omega)]
    · have hs : (w.n s.i).speaks = false:=by simpa using hs
      have e : (actV (w.n s.i) (goA (w.time + s.pick))).2 ≠ 0:=by
        unfold actV
        rw [if_neg (by simpa using (zal _).2 hn),if_pos hs]
        show (16 : Int) ≠ 0;omega
      rw [if_neg e,hs]
      refine ⟨setT w (w.time + s.pick),G,by simp,?_,Grown.refl h rfl⟩
      exact ⟨h.node,h.id,h.now,h.led,fun T Y hY => ⟨(h.gen T Y hY).1,(h.gen T Y hY).2.1,(h.gen T Y hY).2.2.wide om (by show w.time ≤ w.time + s.pick;omega)⟩,fun i => (h.log i).wide om (by show w.time ≤ w.time + s.pick;omega),h.pre,h.com,fun i => by have:=h.terms i;show (w.n i).term ≤ _;omega,by show 0 ≤ w.time + s.pick;omega,by show w.time + s.pick ≤ _;omega,fun i m hm => by
        obtain ⟨a,b,c,d⟩:=h.mail i m hm
        exact ⟨a,by omega,c,d⟩⟩
  rw [if_neg k1]
  by_cases k2 : s.kind % 4 = 2
  · rw [if_pos k2]
    by_cases hs : (w.n s.i).speaks = true
    · obtain ⟨e1,hI⟩:=h.send s.i hs
      rw [e1]
      exact ⟨_,G,if_pos rfl,hI.more om,Grown.refl h rfl⟩
    · have hs : (w.n s.i).speaks = false:=by simpa using hs
      have e : (sendV (w.n s.i)).2 ≠ 0:=by
        unfold sendV
        rw [if_neg (by simpa using (zal _).2 hn),if_pos hs]
        show (16 : Int) ≠ 0;omega
      rw [if_neg e,hs]
      exact ⟨w,G,by simp,h.more om,Grown.refl h rfl⟩
  rw [if_neg k2]
  cases hm : (w.mail s.i)[s.pick % (w.mail s.i).length]? with
  | none => exact ⟨w,G,rfl,h.more om,Grown.refl h rfl⟩
  | some m =>
    obtain ⟨e1,e2,e3⟩:=h.recv om (List.mem_of_getElem? hm)
    have hl:=zb8 e1
    have ha:=hl.node.a1
    have hak:=hl.acked
    simp only
    rw [if_pos e1]
    have hg : ∀ w' : CW,w'.n = (setN w s.i (recvV (w.n s.i) m).1).n → Grown w w':=fun w' he => Grown.set h he hl.acked hl.term om hl.log
    by_cases hok : (recvV (w.n s.i) m).2.2.1 = true
    · exact ⟨_,G,if_pos hok,(e3 hok).more om,hg _ rfl⟩
    · exact ⟨_,G,if_neg hok,e2.more om,hg _ rfl⟩
def start : CW:=⟨fun i => ⟨idOf i,0,false,[],0,0⟩,fun _ => [],0⟩
theorem zle : Inv (fun _ => none) 0 start:=by
  have hf : Fine (fun _ => none) 0 0 []:=⟨Nat.le_refl _,fun k r hk => by simp at hk,by simp⟩
  refine ⟨fun i => ?_,fun _ => rfl,(fun i h => by cases h),(fun i T Y h => by cases h),(fun T Y h => by cases h),fun i => hf,(fun i T Y h => by cases h),fun i => ⟨Int.le_refl _,rfl⟩,fun i => Int.le_refl _,Int.le_refl _,Int.le_refl _,(fun i m hm => by cases hm)⟩
  refine ⟨by cases i <;> decide,by cases i <;> decide,Int.le_refl _,by show (0 : Int) ≤ 1048576;omega,(fun h => by cases h),Nat.zero_le _,zbY.nil _ _,Int.le_refl _,Int.le_refl _,Int.le_refl _,Int.le_refl _,fun _ => rfl⟩
theorem Inv.both {G : Int → Option (List Rec)} {K : Nat} {w : CW} (h : Inv G K w) : 0 ≤ (w.n false).acked ∧ 0 ≤ (w.n true).acked ∧ max (w.n false).acked (w.n true).acked ≤ min (w.n false).log.length (w.n true).log.length ∧
    (w.n false).log.take (max (w.n false).acked (w.n true).acked).toNat = (w.n true).log.take (max (w.n false).acked (w.n true).acked).toNat ∧ ((w.n false).speaks = true → (w.n true).speaks = true → (w.n false).term ≠ (w.n true).term):=by
  have h0:=(h.node false).a0;have h1:=(h.node true).a0
  have g0:=(h.node false).a1;have g1:=(h.node true).a1
  obtain ⟨c1,c2⟩:=h.com false
  obtain ⟨c3,c4⟩:=h.com true
  have e1 : (!false) = true:=rfl
  have e2 : (!true) = false:=rfl
  rw [e1] at c1 c2
  rw [e2] at c3 c4
  refine ⟨h0,h1,by omega,?_,fun s1 s2 he => ?_⟩
  · by_cases hc : (w.n true).acked ≤ (w.n false).acked
    · rw [show max (w.n false).acked (w.n true).acked = (w.n false).acked by omega];exact c2
    · rw [show max (w.n false).acked (w.n true).acked = (w.n true).acked by omega];exact c4.symm
  · have o1:=h.own s1
    have o2:=h.own s2
    rw [he] at o1
    have:=zgi o1
    rw [e1,o2] at this
    cases this

theorem zu9 {a b : Nod} (f : Nat) (k : Int) (hns : zaJ a b = false) (e1 : (recvV b (sentM a)).2.2.2 = 0) (hok : (recvV b (sentM a)).2.2.1 = true) (e2 : (recvV a (recvV b (sentM a)).2.1).2.2.2 = 0) :
    zaK (f + 1) k a b = zaK f (k + 1) (recvV a (recvV b (sentM a)).2.1).1 (recvV b (sentM a)).1:=by
  conv => lhs;unfold zaK
  rw [hns,if_neg (by simp),if_neg (by rw [e1];simp),if_neg (by rw [hok];simp),if_neg (by rw [e2];simp)]
theorem zEZ {G : Int → Option (List Rec)} {K : Nat} {w : CW} (h : Inv G K w) (hK : K ≤ 200) (i : Bool) (hs : (w.n i).speaks = true) (ht : (w.n (!i)).term ≤ (w.n i).term) :
    (recvV (w.n (!i)) (sentM (w.n i))).2.2.2 = 0 ∧ (recvV (w.n (!i)) (sentM (w.n i))).2.2.1 = true ∧ (recvV (w.n i) (recvV (w.n (!i)) (sentM (w.n i))).2.1).2.2.2 = 0 ∧
    ∃ w',Inv G K w' ∧ w'.n i = (recvV (w.n i) (recvV (w.n (!i)) (sentM (w.n i))).2.1).1 ∧ w'.n (!i) = (recvV (w.n (!i)) (sentM (w.n i))).1:=by
  obtain ⟨_,hI⟩:=h.send i hs
  have hm1 : sentM (w.n i) ∈ (postM w (!i) (sentM (w.n i))).mail (!i):=by
    show _ ∈ (if (!i) = (!i) then w.mail (!i) ++ [sentM (w.n i)] else _)
    rw [if_pos rfl];simp
  obtain ⟨e1,e2,e3⟩:=hI.recv hK hm1
  have e1' : (recvV (w.n (!i)) (sentM (w.n i))).2.2.2 = 0:=e1
  have hok : (recvV (w.n (!i)) (sentM (w.n i))).2.2.1 = true:=by
    obtain ⟨_,_,_,h4,h5⟩:=zdy e1'
    rw [h5] at e1' ⊢
    have hr : recdV (w.n (!i)) (sentM (w.n i)) = takeV (inTerm (w.n (!i)) (sentM (w.n i))) (sentM (w.n i)):=by
      unfold recdV
      rw [if_neg (by show ¬ (w.n i).term < _;omega),if_pos (show (sentM (w.n i)).kind = 0 from rfl)]
    rw [hr] at e1' ⊢
    rcases ze4 e1' with h | ⟨h,h0,h1⟩ | h
    · rw [zdp h]
    · rw [zc7 h h0 h1]
    · rw [zcv h]
  have hI2:=e3 hok
  rw [Bool.not_not] at hI2
  have hm2 : (recvV (w.n (!i)) (sentM (w.n i))).2.1 ∈ (postM (setN (postM w (!i) (sentM (w.n i))) (!i) (recvV (w.n (!i)) (sentM (w.n i))).1) i (recvV (w.n (!i)) (sentM (w.n i))).2.1).mail i:=by
    show _ ∈ (if i = i then _ ++ [(recvV (w.n (!i)) (sentM (w.n i))).2.1] else _)
    rw [if_pos rfl];simp
  have hni : (postM (setN (postM w (!i) (sentM (w.n i))) (!i) (recvV (w.n (!i)) (sentM (w.n i))).1) i (recvV (w.n (!i)) (sentM (w.n i))).2.1).n i = w.n i:=by
    have:=zcl (postM w (!i) (sentM (w.n i))) (!i) (recvV (w.n (!i)) (sentM (w.n i))).1
    rw [Bool.not_not] at this
    exact this
  obtain ⟨g1,g2,_⟩:=hI2.recv hK hm2
  rw [show (postM (setN (postM w (!i) (sentM (w.n i))) (!i) (recvV ((postM w (!i) (sentM (w.n i))).n (!i)) (sentM (w.n i))).1) i (recvV ((postM w (!i) (sentM (w.n i))).n (!i)) (sentM (w.n i))).2.1).n i = w.n i from hni] at g1 g2
  refine ⟨e1',hok,g1,_,g2,zcZ _ _ _,?_⟩
  rw [zcl]
  exact zcZ (postM w (!i) (sentM (w.n i))) (!i) _
structure Sett (L : List Rec) (i : Bool) (w : CW) : Prop where
  log : (w.n i).log = L
  speaks : (w.n i).speaks = true
  term : (w.n (!i)).term ≤ (w.n i).term
  next : (w.n i).acked ≤ (w.n i).next
noncomputable def needs (L : List Rec) (i : Bool) (w : CW) : Int:=if (w.n i).acked = (w.n i).next then L.length - (w.n i).next + 2 else (w.n i).next + L.length + 3
structure Ends (L : List Rec) (x y : Nod) : Prop where
  nx : NodOk x
  ny : NodOk y
  log : x.log = L
  xa : x.acked = L.length
  ya : y.acked = L.length
  same : y.log.take L.length = L
theorem zqn {G : Int → Option (List Rec)} {K : Nat} {L : List Rec} {i : Bool} {w : CW} (h : Inv G K w) (hs : Sett L i w) (hx : (w.n i).acked = L.length) (hy : (w.n (!i)).acked = L.length) : zaJ (w.n i) (w.n (!i)) = true ∧ Ends L (w.n i) (w.n (!i)):=by
  obtain ⟨c1,c2⟩:=h.com i
  rw [hx,Int.toNat_natCast,hs.log,List.take_of_length_le (Nat.le_refl _)] at c2
  refine ⟨?_,h.node i,h.node _,hs.log,hx,hy,c2.symm⟩
  unfold zaJ
  rw [hs.log,← c2,zbr,hx,hy]
  simp
theorem zk2 {G : Int → Option (List Rec)} {K : Nat} (hK : K ≤ 200) {L : List Rec} {i : Bool} : ∀ (f : Nat) (k : Int) (w : CW),Inv G K w → Sett L i w → needs L i w ≤ f → ∃ x y c,zaK f k (w.n i) (w.n (!i)) = (x,y,c,0) ∧ Ends L x y
  | 0,k,w,h,hs,hf => by
    have h0:=(h.node i).n0;have h1:=(h.node i).n1
    rw [hs.log] at h1
    unfold needs at hf
    split at hf <;> omega
  | f + 1,k,w,h,hs,hf => by
    have hna:=h.node i
    have hnb:=h.node (!i)
    have h0:=hna.n0;have h1:=hna.n1;have a0:=hna.a0;have hnx:=hs.next
    rw [hs.log] at h1
    obtain ⟨c1,c2⟩:=h.com i
    have hcb:=(h.com (!i)).1
    rw [Bool.not_not,hs.log] at hcb
    by_cases hset : zaJ (w.n i) (w.n (!i)) = true
    · obtain ⟨_,q2,q3⟩:=zg0 hset
      rw [hs.log] at q2 q3
      refine ⟨w.n i,w.n (!i),k,?_,(zqn h hs q2 q3).2⟩
      unfold zaK
      rw [if_pos hset]
    have hset : zaJ (w.n i) (w.n (!i)) = false:=by simpa using hset
    obtain ⟨e1,e2,e3,w',hI,hwi,hwj⟩:=zEZ h hK i hs.speaks hs.term
    rw [zu9 f k hset e1 e2 e3]
    have hpair : Pair (w.n i) (w.n (!i)):=⟨hna,hnb,by rw [h.id,h.id];cases i <;> decide,hs.speaks,hs.term⟩
    have hit : (inTerm (w.n (!i)) (sentM (w.n i))).term = (w.n i).term:=by
      have q1 : (sentM (w.n i)).term = (w.n i).term:=rfl
      have q2:=zbN (n:=w.n (!i)) (m:=sentM (w.n i)) (by have:=hs.term;omega)
      omega
    have hil:=zch (w.n (!i)) (sentM (w.n i))
    have hia:=zbZ (w.n (!i)) (sentM (w.n i))
    have hrd : recdV (w.n (!i)) (sentM (w.n i)) = takeV (inTerm (w.n (!i)) (sentM (w.n i))) (sentM (w.n i)):=by
      unfold recdV
      rw [if_neg (by have:=hs.term;show ¬ (w.n i).term < _;omega),if_pos (show (sentM (w.n i)).kind = 0 from rfl)]
    have hrv : recvV (w.n (!i)) (sentM (w.n i)) = takeV (inTerm (w.n (!i)) (sentM (w.n i))) (sentM (w.n i)):=by rw [(zdy e1).2.2.2.2,hrd]
    have het : (takeV (inTerm (w.n (!i)) (sentM (w.n i))) (sentM (w.n i))).2.2.2 = 0:=by rw [← hrv];exact e1
    have hat : (sentM (w.n i)).at_ = (w.n i).next:=rfl
    -- a refusal
    have refuse : ∀ q : Int,0 ≤ q → q < (w.n i).next → (w.n i).acked ≤ q → takeV (inTerm (w.n (!i)) (sentM (w.n i))) (sentM (w.n i)) = (inTerm (w.n (!i)) (sentM (w.n i)),ansM (inTerm (w.n (!i)) (sentM (w.n i))) 2 q,true,0) →
        ∃ x y c,zaK f (k + 1) (recvV (w.n i) (recvV (w.n (!i)) (sentM (w.n i))).2.1).1 (recvV (w.n (!i)) (sentM (w.n i))).1 = (x,y,c,0) ∧ Ends L x y:=fun q q0 q1 q2 he => by
      rw [hrv,he] at hwi hwj ⊢
      have hb : (recvV (w.n i) (ansM (inTerm (w.n (!i)) (sentM (w.n i))) 2 q)).1 = zar (w.n i) (ansM (inTerm (w.n (!i)) (sentM (w.n i))) 2 q):=by
        have e3':=e3
        rw [hrv,he] at e3'
        rw [(zdy e3').2.2.2.2]
        unfold recdV
        have e : (ansM (inTerm (w.n (!i)) (sentM (w.n i))) 2 q).term = (w.n i).term:=hit
        rw [if_neg (by rw [e];omega),if_neg (by show ¬ (2 : Int) = 0;omega),if_neg (by show ¬ (2 : Int) = 1;omega),zb5 e.symm]
      have hb2 : zar (w.n i) (ansM (inTerm (w.n (!i)) (sentM (w.n i))) 2 q) = ⟨(w.n i).id,(w.n i).term,(w.n i).speaks,(w.n i).log,(w.n i).acked,q⟩:=by
        unfold zar
        rw [if_pos hs.speaks]
        have : max (min (w.n i).next q) (w.n i).acked = q:=by omega
        show Nod.mk _ _ _ _ _ (max (min (w.n i).next q) (w.n i).acked) = _
        rw [this]
      simp only at hwi hwj ⊢
      rw [hb,hb2] at hwi ⊢
      rw [← hwi,← hwj]
      refine zk2 hK f (k + 1) w' hI ⟨by rw [hwi];exact hs.log,by rw [hwi];exact hs.speaks,by rw [hwi,hwj];show (inTerm _ _).term ≤ (w.n i).term;omega,by rw [hwi];exact q2⟩ ?_
      unfold needs at hf ⊢
      rw [hwi]
      rw [if_neg om] at hf
      show (if (w.n i).acked = q then _ else _) ≤ _
      split
      · show (L.length : Int) - q + 2 ≤ _;omega
      · show q + (L.length : Int) + 3 ≤ _;omega
    rcases ze4 het with hc | ⟨hc,hc0,hc1⟩ | hc
    · rw [hil,hat] at hc
      refine refuse _ ?_ ?_ ?_ (zdp (by rw [hil,hat];exact hc))
      · omega
      · rw [hil];exact hc
      · rw [hil];exact c1
    · have hc0' : 0 < (w.n i).next:=hc0
      refine refuse ((w.n i).next - 1) om om ?_ (zc7 hc hc0 hc1)
      refine Int.not_lt.1 fun hlt => ?_
      have hae : (w.n i).acked = (w.n i).next:=by omega
      apply hc1
      rw [hil]
      show zaQ (w.n (!i)).log ((w.n i).next - 1) = (if 0 < (w.n i).next then zaQ (w.n i).log ((w.n i).next - 1) else 0)
      rw [if_pos hc0']
      rw [hae] at c2
      have:=zos c2 (k:=((w.n i).next - 1).toNat) om
      unfold zaQ
      rw [if_neg om,if_neg om,this]
    · -- it is taken
      have hrl : (sentM (w.n i)).recs.length = min 16 (L.length - (w.n i).next.toNat):=by
        show (((w.n i).log.drop _).take 16).length = _
        rw [List.length_take,List.length_drop,hs.log]
      have hle : (w.n i).next + ((sentM (w.n i)).recs.length : Int) ≤ (w.n i).log.length:=by rw [hs.log];omega
      have ex:=exchange hpair hc
      have eb:=zfg hpair ((w.n i).next + (sentM (w.n i)).recs.length) om hle
      rw [ex] at hwi hwj ⊢
      simp only at hwi hwj ⊢
      rw [eb] at hwi ⊢
      simp only at hwi ⊢
      have hmx1 : max (w.n i).acked ((w.n i).next + ((sentM (w.n i)).recs.length : Int)) = (w.n i).next + (sentM (w.n i)).recs.length:=by omega
      have hmx2 : max (w.n i).next ((w.n i).next + ((sentM (w.n i)).recs.length : Int)) = (w.n i).next + (sentM (w.n i)).recs.length:=by omega
      rw [hmx1,hmx2] at hwi ⊢
      rw [← hwi,← hwj]
      have hS : Sett L i w':=⟨by rw [hwi];exact hs.log,by rw [hwi];exact hs.speaks,by rw [hwi,hwj];show (inTerm _ _).term ≤ (w.n i).term;omega,by rw [hwi];exact Int.le_refl _⟩
      by_cases hlast : (w.n i).acked = L.length
      · have hnxl : (w.n i).next = L.length:=by omega
        have hrz : (sentM (w.n i)).recs.length = 0:=by rw [hrl];omega
        have hx : (w'.n i).acked = L.length:=by rw [hwi];show (w.n i).next + ((sentM (w.n i)).recs.length : Int) = _;omega
        have hy : (w'.n (!i)).acked = L.length:=by
          rw [hwj]
          show max (inTerm (w.n (!i)) (sentM (w.n i))).acked (min (w.n i).acked ((w.n i).next + ((sentM (w.n i)).recs.length : Int))) = _
          rw [hia];omega
        obtain ⟨d1,d2⟩:=zqn hI hS hx hy
        have hf0 : 1 ≤ f:=by
          unfold needs at hf
          rw [if_pos om] at hf
          omega
        obtain ⟨g,rfl⟩ : ∃ g,f = g + 1:=⟨f - 1,by omega⟩
        refine ⟨w'.n i,w'.n (!i),k + 1,?_,d2⟩
        unfold zaK
        rw [if_pos d1]
      · refine zk2 hK f (k + 1) w' hI hS ?_
        unfold needs at hf ⊢
        rw [hwi]
        rw [if_pos rfl]
        show (L.length : Int) - ((w.n i).next + ((sentM (w.n i)).recs.length : Int)) + 2 ≤ _
        by_cases he : (w.n i).acked = (w.n i).next
        · rw [if_pos he] at hf;omega
        · rw [if_neg he] at hf;omega
theorem zz7 {G : Int → Option (List Rec)} {K : Nat} {w : CW} (h : Inv G K w) (hK : K ≤ 100) (i : Bool) {T : Int} (hown : ownB (idOf i) T = true) (h1 : (w.n i).term < T) (h2 : (w.n (!i)).term < T) (htop : T ≤ 2 * (K + 1 : Nat)) :
    leadV (w.n i) T = (ledN (w.n i) T,0) ∧ ∃ x y c,zaS (ledN (w.n i) T) (w.n (!i)) = (x,y,c,0) ∧ Ends (w.n i).log x y:=by
  have hl:=zpH (h.node i) (t:=T) om (by rw [h.id];exact hown) h1
  obtain ⟨G',hI⟩:=h.lead i hown h1 htop om
  refine ⟨hl.1,?_⟩
  have hs:=zcZ w i (ledN (w.n i) T)
  have ho:=zcl w i (ledN (w.n i) T)
  have ha1:=(h.node i).a1
  have hlen:=(h.log i).len
  have hS : Sett (w.n i).log i (setN w i (ledN (w.n i) T)):=⟨by rw [hs];rfl,by rw [hs];rfl,by rw [hs,ho];show _ ≤ T;omega,by rw [hs];exact ha1⟩
  obtain ⟨x,y,c,e1,e2⟩:=zk2 om 521 0 _ hI hS (by
    unfold needs
    rw [hs]
    show (if (w.n i).acked = ((w.n i).log.length : Int) then ((w.n i).log.length : Int) - ((w.n i).log.length : Int) + 2 else ((w.n i).log.length : Int) + (w.n i).log.length + 3) ≤ _
    split <;> omega)
  rw [hs,ho] at e1
  refine ⟨x,y,c,?_,e2⟩
  unfold zaS
  rw [if_neg (by simpa using (zal _).2 hl.2),if_neg (by simpa using (zal _).2 (h.node _)),if_neg (by show ¬ (w.n i).id = _;rw [h.id,h.id];cases i <;> decide),if_neg]
  · exact e1
  · rintro (hc | hc)
    · cases hc
    · have : T < (w.n (!i)).term:=hc;omega
end Go.Proofs.YtnpdghjpcnjokaaGreat

namespace Go.Proofs.YtnpdghjpcnjokaaGreat
open Go.ChangeShapes Go.WideShapes Go.ChangeAt Go.RowKit Go.Joins Go.Deep

def stpR (s : Stp) : List Value:=[.int .u8 s.kind,.int .u8 s.node,.int .u8 s.pick]
def StpOk (s : Stp) : Prop:=s.kind ≤ 255 ∧ s.node ≤ 255 ∧ s.pick ≤ 255
section
variable {H : Type} {enc : TypeId × Value → H} {w : World} {base : Nat} {spare : Nat → Bool} {held : Bool} {r : Reach} {b0 : Nat} {v : Value} {d : DataW H} {p : List MemPlace}
theorem zpO {P : Program} {t : TypeId} {m : Nat} {c : Value} {y : DataW H × List MemPlace} (ht : P.underlying t = some (.int .u8)) (h : DataW.trod enc P w base spare held m t [c] = some y) : ∃ z : Nat,c = .int .u8 z ∧ z ≤ 255:=by
  obtain ⟨z,hz,_,hw⟩:=DataW.trod_int ht h
  injection hz with hz
  have:=u8_in hw
  exact ⟨z.toNat,by rw [hz];congr 1;omega,by omega⟩
end
end Go.Proofs.YtnpdghjpcnjokaaGreat

namespace Go.Proofs.YtnpdghjpcnjokaaGreat
open Go.RowKit

def msgRw (x : Msg × Option Addr × Nat) : List Value:=[.int .i64 x.1.kind,.int .i64 x.1.term,.int .i64 x.1.at_,.int .i64 x.1.before,.slice x.2.1 x.1.recs.length x.2.2,.int .i64 x.1.acked]
theorem zkS (xs : List (Msg × Option Addr × Nat)) : ∀ r ∈ xs.map msgRw,∀ u ∈ r,u.oneCell' = true:=fun r hr u hu => by
  obtain ⟨x,-,rfl⟩:=List.mem_map.1 hr
  simp only [msgRw,List.mem_cons,List.not_mem_nil,or_false] at hu
  rcases hu with rfl | rfl | rfl | rfl | rfl | rfl <;> rfl
theorem ze9 (xs : List (Msg × Option Addr × Nat)) : ∀ r ∈ xs.map msgRw,∀ u ∈ r,noStr u = true:=fun r hr u hu => by
  obtain ⟨x,-,rfl⟩:=List.mem_map.1 hr
  simp only [msgRw,List.mem_cons,List.not_mem_nil,or_false] at hu
  rcases hu with rfl | rfl | rfl | rfl | rfl | rfl <;> rfl
structure BoxM (w W : World) (M : Option Addr) (k : Nat) (l : List Msg) (xs : List (Msg × Option Addr × Nat)) : Prop where
  own : OwnM w W 113 6 M l.length k (xs.map msgRw)
  room : M = none ∨ k ≠ 0
  is : xs.map (·.1) = l
  el : ∀ x ∈ xs,LogW w W x.2.1 x.1.recs.length x.2.2 x.1.recs
section
variable {w W V : World} {M : Option Addr} {k : Nat} {l : List Msg} {xs : List (Msg × Option Addr × Nat)}
theorem BoxM.mono (h : BoxM w W M k l xs) (hx : Ext W V) : BoxM w V M k l xs:=⟨h.own.mono hx,h.room,h.is,fun x hm => (h.el x hm).mono hx⟩
theorem BoxM.typed (h : BoxM w W M k l xs) {p : Addr} (hp : M = some p) : ∃ cur,W.heap[p.block]? = some (.cells cur 113 (0,0)):=by
  rcases h.own.own.at_ with h0 | ⟨g,cur,h1,-,h3,-⟩
  · rcases h.room with h2 | h2
    · rw [h2] at hp;cases hp
    · exact absurd h0 h2
  · rw [h1] at hp
    injection hp with hp
    subst hp
    exact ⟨cur,h3⟩
theorem BoxM.nil (w W : World) : BoxM w W none 0 [] []:=⟨OwnM.nil _ _ _ _,.inl rfl,rfl,by simp⟩
theorem BoxM.get (h : BoxM w W M k l xs) {j : Nat} {m : Msg} (hm : l[j]? = some m) : ∃ g D K,M = some ⟨g,0,none⟩ ∧ LogW w W D m.recs.length K m.recs ∧ W.cell? ⟨g,j * 6,none⟩ = some (.int .i64 m.kind) ∧ W.cell? ⟨g,j * 6 + 1,none⟩ = some (.int .i64 m.term) ∧ W.cell? ⟨g,j * 6 + 2,none⟩ = some (.int .i64 m.at_) ∧ W.cell? ⟨g,j * 6 + 3,none⟩ = some (.int .i64 m.before) ∧ W.cell? ⟨g,j * 6 + 4,none⟩ = some (.slice D m.recs.length K) ∧ W.cell? ⟨g,j * 6 + 5,none⟩ = some (.int .i64 m.acked):=by
  rw [← h.is,List.getElem?_map] at hm
  cases hx : xs[j]? with
  | none => rw [hx] at hm;cases hm
  | some x =>
    rw [hx] at hm
    injection hm with hm
    subst hm
    obtain ⟨g,hA,hc⟩:=h.own.own.get j (msgRw x) (by rw [List.getElem?_map,hx];rfl)
    exact ⟨g,x.2.1,x.2.2,hA,h.el x (List.mem_of_getElem? hx),by simpa using hc 0 _ rfl,hc 1 _ rfl,hc 2 _ rfl,hc 3 _ rfl,hc 4 _ rfl,hc 5 _ rfl⟩
end
section
variable {w W V V' : World} {g : Nat} {n0 n1 : Nod} {l0 l1 : List Msg} {t : Int} {A B M N : Option Addr} {a b m n : Nat} {xs ys : List (Msg × Option Addr × Nat)}
theorem zkC (k0 k1 k2 k3 k4 k5 k6 k7 k8 : Int) (s0 s1 : Bool) (p q r s : Option Addr) (i1 i2 i3 i4 j1 j2 j3 j4 : Nat) : ∀ u ∈ [Value.int .i64 k0,.int .i64 k1,.bool s0,.slice p i1 j1,.int .i64 k2,.int .i64 k3,.int .i64 k4,.int .i64 k5,.bool s1,.slice q i2 j2,.int .i64 k6,.int .i64 k7,.slice r i3 j3,.slice s i4 j4,.int .i64 k8],noStr u = true:=fun u hu => by
  simp only [List.mem_cons,List.not_mem_nil,or_false] at hu
  rcases hu with rfl | rfl | rfl | rfl | rfl | rfl | rfl | rfl | rfl | rfl | rfl | rfl | rfl | rfl | rfl <;> rfl
end
theorem zoj : zbz Tryz.prog 113 6 64 = true:=by kernel_rfl
theorem zox : zgg Tryz.prog 113 = true:=by kernel_rfl
theorem ziW (n : Nod) : ∀ r ∈ (sendV n).1.recs,r ∈ n.log:=fun r hr => by
  unfold sendV at hr
  split at hr
  · simp [msg0] at hr
  split at hr
  · simp [msg0] at hr
  · exact zec n r hr
theorem za3.logw {w W : World} {A : Option Addr} {c : Nat} {l : List Rec} (h : za3 W A c l) (he : ∀ r ∈ l,AcnAt w r.act) : LogW w W A l.length c l:=⟨h.sl,rfl,h.le,h.cap,he⟩
theorem Sl.drawn {W : World} {A : Option Addr} {size : Nat} {rows : List (List Value)} (h : Sl W A size rows) : Sl W.drew A size rows:=h.mono (Ext.refl _).drew
end Go.Proofs.YtnpdghjpcnjokaaGreat

namespace Go.Proofs.YtnpdghjpcnjokaaGreat
open Go.RowKit

section
variable {w W : World} {g : Nat} {n0 n1 : Nod} {l0 l1 : List Msg} {t : Int} {A B M N : Option Addr} {a b m n : Nat} {xs ys : List (Msg × Option Addr × Nat)} {kd nd pk : Int}
end
end Go.Proofs.YtnpdghjpcnjokaaGreat

namespace Go.Proofs.YtnpdghjpcnjokaaGreat
open Go.RowKit

section
variable {w W : World} {g : Nat} {n0 n1 : Nod} {l0 l1 : List Msg} {t : Int} {A B M N : Option Addr} {a b m n : Nat} {xs ys : List (Msg × Option Addr × Nat)} {kd nd pk : Int}
end
end Go.Proofs.YtnpdghjpcnjokaaGreat

namespace Go.Proofs.YtnpdghjpcnjokaaGreat
open Go.RowKit

section
variable {w W : World} {g : Nat} {n0 n1 : Nod} {l0 l1 : List Msg} {t : Int} {A B M N : Option Addr} {a b m n : Nat} {xs ys : List (Msg × Option Addr × Nat)} {kd nd pk : Int}
end
end Go.Proofs.YtnpdghjpcnjokaaGreat
