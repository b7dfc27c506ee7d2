/-
  Two nodes and their mail, in plain: the steps, and that two nodes settle behind any of them.
-/
import Derived.Test.YtmhinhgflehkaaaGreatGtops
import Derived.Test.YtmhinhgflehkaaaGreatGrag
import Derived.Test.YtmhinhgflehkaaaGreatGrpr
import Derived.Test.YtmhinhgflehkaaaGreatGstay
import Derived.Test.YtmhinhgflehkaaaGreatGrpm
import Derived.Test.YtmhinhgflehkaaaGreatGrpj
namespace Go.Proofs.YtmhinhgflehkaaaGreat

structure Stp where
  kind : Nat
  node : Nat
  pick : Nat
def Stp.i (s : Stp) : Bool := decide (s.node % 2 = 1)
noncomputable def stepV (w : CW) (s : Stp) : Option CW :=
  if s.kind % 4 = 0 then (if (leadV (w.n s.i) (nextTerm (w.n s.i))).2 = 0 then some (setN w s.i (leadV (w.n s.i) (nextTerm (w.n s.i))).1) else none)
  else if s.kind % 4 = 1 then
    (if (actV (w.n s.i) (goA (w.time + s.pick))).2 = 0 then some (setN (setT w (w.time + s.pick)) s.i (actV (w.n s.i) (goA (w.time + s.pick))).1)
     else if (w.n s.i).speaks = true then none else some (setT w (w.time + s.pick)))
  else if s.kind % 4 = 2 then
    (if (sendV (w.n s.i)).2 = 0 then some (postM w (!s.i) (sendV (w.n s.i)).1) else if (w.n s.i).speaks = true then none else some w)
  else match (w.mail s.i)[s.pick % (w.mail s.i).length]? with
    | none => some w
    | some m =>
      if (recvV (w.n s.i) m).2.2.2 = 0 then
        (if (recvV (w.n s.i) m).2.2.1 = true then some (postM (setN w s.i (recvV (w.n s.i) m).1) (!s.i) (recvV (w.n s.i) m).2.1) else some (setN w s.i (recvV (w.n s.i) m).1))
      else none
def Grown (w w' : CW) : Prop := ∀ i, (w.n i).acked ≤ (w'.n i).acked ∧ (w.n i).term ≤ (w'.n i).term ∧ (w.n i).acked ≤ (w'.n i).log.length ∧ (w'.n i).log.take (w.n i).acked.toNat = (w.n i).log.take (w.n i).acked.toNat
theorem Grown.refl {G : Int → Option (List Rec)} {K : Nat} {w : CW} (h : Inv G K w) {w' : CW} (e : w'.n = w.n) : Grown w w' := fun i => by
  rw [e]; exact ⟨Int.le_refl _, Int.le_refl _, (h.node i).a1, rfl⟩
theorem Grown.set {G : Int → Option (List Rec)} {K : Nat} {w w' : CW} (h : Inv G K w) {i : Bool} {x : Nod} (e : w'.n = (setN w i x).n) (h1 : (w.n i).acked ≤ x.acked) (h2 : (w.n i).term ≤ x.term) (h3 : (w.n i).acked ≤ x.log.length) (h4 : x.log.take (w.n i).acked.toNat = (w.n i).log.take (w.n i).acked.toNat) : Grown w w' :=
  both i (by rw [e, setN_same]; exact ⟨h1, h2, h3, h4⟩) (by rw [e, setN_other]; exact ⟨Int.le_refl _, Int.le_refl _, (h.node _).a1, rfl⟩)
theorem idOf_own {G : Int → Option (List Rec)} {K : Nat} {w : CW} (h : Inv G K w) (i : Bool) : ownB (idOf i) (nextTerm (w.n i)) = true ∧ (w.n i).term < nextTerm (w.n i) ∧ nextTerm (w.n i) ≤ (w.n i).term + 2 := by
  have := nextTerm_own (h.node i)
  rwa [h.id i] at this
theorem step_inv {G : Int → Option (List Rec)} {K : Nat} {w : CW} (h : Inv G K w) (hK : K ≤ 100) (s : Stp) (hp : s.pick ≤ 255) : ∃ w' G', stepV w s = some w' ∧ Inv G' (K + 1) w' ∧ Grown w w' := by
  have hn := h.node s.i
  have hterm := h.terms s.i
  have ht0 := h.t0
  have ht1 := h.t1
  unfold stepV
  by_cases k0 : s.kind % 4 = 0
  · rw [if_pos k0]
    obtain ⟨q1, q2, q3⟩ := idOf_own h s.i
    have hl := (lead_ok hn (t := nextTerm (w.n s.i)) (by omega) (by rw [h.id]; exact q1) q2).1
    obtain ⟨G', hG⟩ := h.lead s.i q1 q2 (by omega) (by omega)
    rw [hl]
    refine ⟨_, G', if_pos rfl, hG, Grown.set h rfl (Int.le_refl _) ?_ hn.a1 rfl⟩
    show _ ≤ nextTerm (w.n s.i); omega
  rw [if_neg k0]
  by_cases k1 : s.kind % 4 = 1
  · rw [if_pos k1]
    by_cases hs : (w.n s.i).speaks = true
    · obtain ⟨e1, G', hG⟩ := h.act s.i hs (a := goA (w.time + s.pick)) (t := w.time + s.pick) (acnE_goA (by omega) (by omega)) rfl (by omega) (by omega) (by omega)
      rw [e1]
      refine ⟨_, G', if_pos rfl, hG, Grown.set h rfl (Int.le_refl _) (Int.le_refl _) ?_ ?_⟩
      · have := hn.a1; show _ ≤ (((w.n s.i).log ++ _).length : Int); simp; omega
      · show ((w.n s.i).log ++ _).take _ = _
        rw [List.take_append_of_le_length (by have := hn.a1; have := hn.a0; omega)]
    · have hs : (w.n s.i).speaks = false := by simpa using hs
      have e : (actV (w.n s.i) (goA (w.time + s.pick))).2 ≠ 0 := by
        unfold actV
        rw [if_neg (by simpa using (nodE_iff _).2 hn), if_pos hs]
        show (16 : Int) ≠ 0; omega
      rw [if_neg e, hs]
      refine ⟨setT w (w.time + s.pick), G, by simp, ?_, Grown.refl h rfl⟩
      exact ⟨h.node, h.id, h.now, h.led, fun T Y hY => ⟨(h.gen T Y hY).1, (h.gen T Y hY).2.1, (h.gen T Y hY).2.2.wide (by omega) (by show w.time ≤ w.time + s.pick; omega)⟩, fun i => (h.log i).wide (by omega) (by show w.time ≤ w.time + s.pick; omega), h.pre, h.com, fun i => by have := h.terms i; show (w.n i).term ≤ _; omega, by show 0 ≤ w.time + s.pick; omega, by show w.time + s.pick ≤ _; omega, fun i m hm => by
        obtain ⟨a, b, c, d⟩ := h.mail i m hm
        exact ⟨a, by omega, c, d⟩⟩
  rw [if_neg k1]
  by_cases k2 : s.kind % 4 = 2
  · rw [if_pos k2]
    by_cases hs : (w.n s.i).speaks = true
    · obtain ⟨e1, hI⟩ := h.send s.i hs
      rw [e1]
      exact ⟨_, G, if_pos rfl, hI.more (by omega), Grown.refl h rfl⟩
    · have hs : (w.n s.i).speaks = false := by simpa using hs
      have e : (sendV (w.n s.i)).2 ≠ 0 := by
        unfold sendV
        rw [if_neg (by simpa using (nodE_iff _).2 hn), if_pos hs]
        show (16 : Int) ≠ 0; omega
      rw [if_neg e, hs]
      exact ⟨w, G, by simp, h.more (by omega), Grown.refl h rfl⟩
  rw [if_neg k2]
  cases hm : (w.mail s.i)[s.pick % (w.mail s.i).length]? with
  | none => exact ⟨w, G, rfl, h.more (by omega), Grown.refl h rfl⟩
  | some m =>
    obtain ⟨e1, e2, e3⟩ := h.recv (by omega) (List.mem_of_getElem? hm)
    have hl := recvV_left e1
    have ha := hl.node.a1
    have hak := hl.acked
    simp only
    rw [if_pos e1]
    have hg : ∀ w' : CW, w'.n = (setN w s.i (recvV (w.n s.i) m).1).n → Grown w w' := fun w' he => Grown.set h he hl.acked hl.term (by omega) hl.log
    by_cases hok : (recvV (w.n s.i) m).2.2.1 = true
    · exact ⟨_, G, if_pos hok, (e3 hok).more (by omega), hg _ rfl⟩
    · exact ⟨_, G, if_neg hok, e2.more (by omega), hg _ rfl⟩
def start : CW := ⟨fun i => ⟨idOf i, 0, false, [], 0, 0⟩, fun _ => [], 0⟩
theorem start_inv : Inv (fun _ => none) 0 start := by
  have hf : Fine (fun _ => none) 0 0 [] := ⟨Nat.le_refl _, fun k r hk => by simp at hk, by simp⟩
  refine ⟨fun i => ?_, fun _ => rfl, (fun i h => by cases h), (fun i T Y h => by cases h), (fun T Y h => by cases h), fun i => hf, (fun i T Y h => by cases h), fun i => ⟨Int.le_refl _, rfl⟩, fun i => Int.le_refl _, Int.le_refl _, Int.le_refl _, (fun i m hm => by cases hm)⟩
  refine ⟨by cases i <;> decide, by cases i <;> decide, Int.le_refl _, by show (0 : Int) ≤ 1048576; omega, (fun h => by cases h), Nat.zero_le _, RecsOk.nil _ _, Int.le_refl _, Int.le_refl _, Int.le_refl _, Int.le_refl _, fun _ => rfl⟩
theorem Inv.both {G : Int → Option (List Rec)} {K : Nat} {w : CW} (h : Inv G K w) : 0 ≤ (w.n false).acked ∧ 0 ≤ (w.n true).acked ∧ max (w.n false).acked (w.n true).acked ≤ min (w.n false).log.length (w.n true).log.length ∧
    (w.n false).log.take (max (w.n false).acked (w.n true).acked).toNat = (w.n true).log.take (max (w.n false).acked (w.n true).acked).toNat ∧ ((w.n false).speaks = true → (w.n true).speaks = true → (w.n false).term ≠ (w.n true).term) := by
  have h0 := (h.node false).a0; have h1 := (h.node true).a0
  have g0 := (h.node false).a1; have g1 := (h.node true).a1
  obtain ⟨c1, c2⟩ := h.com false
  obtain ⟨c3, c4⟩ := h.com true
  have e1 : (!false) = true := rfl
  have e2 : (!true) = false := rfl
  rw [e1] at c1 c2
  rw [e2] at c3 c4
  refine ⟨h0, h1, by omega, ?_, fun s1 s2 he => ?_⟩
  · by_cases hc : (w.n true).acked ≤ (w.n false).acked
    · rw [show max (w.n false).acked (w.n true).acked = (w.n false).acked by omega]; exact c2
    · rw [show max (w.n false).acked (w.n true).acked = (w.n true).acked by omega]; exact c4.symm
  · have o1 := h.own s1
    have o2 := h.own s2
    rw [he] at o1
    have := own_not o1
    rw [e1, o2] at this
    cases this

/-! ### They settle -/
theorem settleR_round {a b : Nod} (f : Nat) (k : Int) (hns : settledB a b = false) (e1 : (recvV b (sentM a)).2.2.2 = 0) (hok : (recvV b (sentM a)).2.2.1 = true) (e2 : (recvV a (recvV b (sentM a)).2.1).2.2.2 = 0) :
    settleR (f + 1) k a b = settleR f (k + 1) (recvV a (recvV b (sentM a)).2.1).1 (recvV b (sentM a)).1 := by
  conv => lhs; unfold settleR
  rw [hns, if_neg (by simp), if_neg (by rw [e1]; simp), if_neg (by rw [hok]; simp), if_neg (by rw [e2]; simp)]
theorem round_inv {G : Int → Option (List Rec)} {K : Nat} {w : CW} (h : Inv G K w) (hK : K ≤ 200) (i : Bool) (hs : (w.n i).speaks = true) (ht : (w.n (!i)).term ≤ (w.n i).term) :
    (recvV (w.n (!i)) (sentM (w.n i))).2.2.2 = 0 ∧ (recvV (w.n (!i)) (sentM (w.n i))).2.2.1 = true ∧ (recvV (w.n i) (recvV (w.n (!i)) (sentM (w.n i))).2.1).2.2.2 = 0 ∧
    ∃ w', Inv G K w' ∧ w'.n i = (recvV (w.n i) (recvV (w.n (!i)) (sentM (w.n i))).2.1).1 ∧ w'.n (!i) = (recvV (w.n (!i)) (sentM (w.n i))).1 := by
  obtain ⟨_, hI⟩ := h.send i hs
  have hm1 : sentM (w.n i) ∈ (postM w (!i) (sentM (w.n i))).mail (!i) := by
    show _ ∈ (if (!i) = (!i) then w.mail (!i) ++ [sentM (w.n i)] else _)
    rw [if_pos rfl]; simp
  obtain ⟨e1, e2, e3⟩ := hI.recv hK hm1
  have e1' : (recvV (w.n (!i)) (sentM (w.n i))).2.2.2 = 0 := e1
  have hok : (recvV (w.n (!i)) (sentM (w.n i))).2.2.1 = true := by
    obtain ⟨_, _, _, h4, h5⟩ := recvV_ok e1'
    rw [h5] at e1' ⊢
    have hr : recdV (w.n (!i)) (sentM (w.n i)) = takeV (inTerm (w.n (!i)) (sentM (w.n i))) (sentM (w.n i)) := by
      unfold recdV
      rw [if_neg (by show ¬ (w.n i).term < _; omega), if_pos (show (sentM (w.n i)).kind = 0 from rfl)]
    rw [hr] at e1' ⊢
    rcases takeV_cases e1' with h | ⟨h, h0, h1⟩ | h
    · rw [takeV_far h]
    · rw [takeV_other h h0 h1]
    · rw [takeV_taken h]
  have hI2 := e3 hok
  rw [Bool.not_not] at hI2
  have hm2 : (recvV (w.n (!i)) (sentM (w.n i))).2.1 ∈ (postM (setN (postM w (!i) (sentM (w.n i))) (!i) (recvV (w.n (!i)) (sentM (w.n i))).1) i (recvV (w.n (!i)) (sentM (w.n i))).2.1).mail i := by
    show _ ∈ (if i = i then _ ++ [(recvV (w.n (!i)) (sentM (w.n i))).2.1] else _)
    rw [if_pos rfl]; simp
  have hni : (postM (setN (postM w (!i) (sentM (w.n i))) (!i) (recvV (w.n (!i)) (sentM (w.n i))).1) i (recvV (w.n (!i)) (sentM (w.n i))).2.1).n i = w.n i := by
    have := setN_other (postM w (!i) (sentM (w.n i))) (!i) (recvV (w.n (!i)) (sentM (w.n i))).1
    rw [Bool.not_not] at this
    exact this
  obtain ⟨g1, g2, _⟩ := hI2.recv hK hm2
  rw [show (postM (setN (postM w (!i) (sentM (w.n i))) (!i) (recvV ((postM w (!i) (sentM (w.n i))).n (!i)) (sentM (w.n i))).1) i (recvV ((postM w (!i) (sentM (w.n i))).n (!i)) (sentM (w.n i))).2.1).n i = w.n i from hni] at g1 g2
  refine ⟨e1', hok, g1, _, g2, setN_same _ _ _, ?_⟩
  rw [setN_other]
  exact setN_same (postM w (!i) (sentM (w.n i))) (!i) _
structure Sett (L : List Rec) (i : Bool) (w : CW) : Prop where
  log : (w.n i).log = L
  speaks : (w.n i).speaks = true
  term : (w.n (!i)).term ≤ (w.n i).term
  next : (w.n i).acked ≤ (w.n i).next
noncomputable def needs (L : List Rec) (i : Bool) (w : CW) : Int := if (w.n i).acked = (w.n i).next then L.length - (w.n i).next + 2 else (w.n i).next + L.length + 3
structure Ends (L : List Rec) (x y : Nod) : Prop where
  nx : NodOk x
  ny : NodOk y
  log : x.log = L
  xa : x.acked = L.length
  ya : y.acked = L.length
  same : y.log.take L.length = L
theorem settles_now {G : Int → Option (List Rec)} {K : Nat} {L : List Rec} {i : Bool} {w : CW} (h : Inv G K w) (hs : Sett L i w) (hx : (w.n i).acked = L.length) (hy : (w.n (!i)).acked = L.length) : settledB (w.n i) (w.n (!i)) = true ∧ Ends L (w.n i) (w.n (!i)) := by
  obtain ⟨c1, c2⟩ := h.com i
  rw [hx, Int.toNat_natCast, hs.log, List.take_of_length_le (Nat.le_refl _)] at c2
  refine ⟨?_, h.node i, h.node _, hs.log, hx, hy, c2.symm⟩
  unfold settledB
  rw [hs.log, ← c2, sameRs_refl, hx, hy]
  simp
theorem settles_aux {G : Int → Option (List Rec)} {K : Nat} (hK : K ≤ 200) {L : List Rec} {i : Bool} : ∀ (f : Nat) (k : Int) (w : CW), Inv G K w → Sett L i w → needs L i w ≤ f → ∃ x y c, settleR f k (w.n i) (w.n (!i)) = (x, y, c, 0) ∧ Ends L x y
  | 0, k, w, h, hs, hf => by
    have h0 := (h.node i).n0; have h1 := (h.node i).n1
    rw [hs.log] at h1
    unfold needs at hf
    split at hf <;> omega
  | f + 1, k, w, h, hs, hf => by
    have hna := h.node i
    have hnb := h.node (!i)
    have h0 := hna.n0; have h1 := hna.n1; have a0 := hna.a0; have hnx := hs.next
    rw [hs.log] at h1
    obtain ⟨c1, c2⟩ := h.com i
    have hcb := (h.com (!i)).1
    rw [Bool.not_not, hs.log] at hcb
    by_cases hset : settledB (w.n i) (w.n (!i)) = true
    · obtain ⟨_, q2, q3⟩ := settled_all hset
      rw [hs.log] at q2 q3
      refine ⟨w.n i, w.n (!i), k, ?_, (settles_now h hs q2 q3).2⟩
      unfold settleR
      rw [if_pos hset]
    have hset : settledB (w.n i) (w.n (!i)) = false := by simpa using hset
    obtain ⟨e1, e2, e3, w', hI, hwi, hwj⟩ := round_inv h hK i hs.speaks hs.term
    rw [settleR_round f k hset e1 e2 e3]
    have hpair : Pair (w.n i) (w.n (!i)) := ⟨hna, hnb, by rw [h.id, h.id]; cases i <;> decide, hs.speaks, hs.term⟩
    have hit : (inTerm (w.n (!i)) (sentM (w.n i))).term = (w.n i).term := by
      have q1 : (sentM (w.n i)).term = (w.n i).term := rfl
      have q2 := inTerm_term (n := w.n (!i)) (m := sentM (w.n i)) (by have := hs.term; omega)
      omega
    have hil := inTerm_log (w.n (!i)) (sentM (w.n i))
    have hia := inTerm_acked (w.n (!i)) (sentM (w.n i))
    have hrd : recdV (w.n (!i)) (sentM (w.n i)) = takeV (inTerm (w.n (!i)) (sentM (w.n i))) (sentM (w.n i)) := by
      unfold recdV
      rw [if_neg (by have := hs.term; show ¬ (w.n i).term < _; omega), if_pos (show (sentM (w.n i)).kind = 0 from rfl)]
    have hrv : recvV (w.n (!i)) (sentM (w.n i)) = takeV (inTerm (w.n (!i)) (sentM (w.n i))) (sentM (w.n i)) := by rw [(recvV_ok e1).2.2.2.2, hrd]
    have het : (takeV (inTerm (w.n (!i)) (sentM (w.n i))) (sentM (w.n i))).2.2.2 = 0 := by rw [← hrv]; exact e1
    have hat : (sentM (w.n i)).at_ = (w.n i).next := rfl
    -- a refusal
    have refuse : ∀ q : Int, 0 ≤ q → q < (w.n i).next → (w.n i).acked ≤ q → takeV (inTerm (w.n (!i)) (sentM (w.n i))) (sentM (w.n i)) = (inTerm (w.n (!i)) (sentM (w.n i)), ansM (inTerm (w.n (!i)) (sentM (w.n i))) 2 q, true, 0) →
        ∃ x y c, settleR f (k + 1) (recvV (w.n i) (recvV (w.n (!i)) (sentM (w.n i))).2.1).1 (recvV (w.n (!i)) (sentM (w.n i))).1 = (x, y, c, 0) ∧ Ends L x y := fun q q0 q1 q2 he => by
      rw [hrv, he] at hwi hwj ⊢
      have hb : (recvV (w.n i) (ansM (inTerm (w.n (!i)) (sentM (w.n i))) 2 q)).1 = refuseN (w.n i) (ansM (inTerm (w.n (!i)) (sentM (w.n i))) 2 q) := by
        have e3' := e3
        rw [hrv, he] at e3'
        rw [(recvV_ok e3').2.2.2.2]
        unfold recdV
        have e : (ansM (inTerm (w.n (!i)) (sentM (w.n i))) 2 q).term = (w.n i).term := hit
        rw [if_neg (by rw [e]; omega), if_neg (by show ¬ (2 : Int) = 0; omega), if_neg (by show ¬ (2 : Int) = 1; omega), inTerm_same e.symm]
      have hb2 : refuseN (w.n i) (ansM (inTerm (w.n (!i)) (sentM (w.n i))) 2 q) = ⟨(w.n i).id, (w.n i).term, (w.n i).speaks, (w.n i).log, (w.n i).acked, q⟩ := by
        unfold refuseN
        rw [if_pos hs.speaks]
        have : max (min (w.n i).next q) (w.n i).acked = q := by omega
        show Nod.mk _ _ _ _ _ (max (min (w.n i).next q) (w.n i).acked) = _
        rw [this]
      simp only at hwi hwj ⊢
      rw [hb, hb2] at hwi ⊢
      rw [← hwi, ← hwj]
      refine settles_aux hK f (k + 1) w' hI ⟨by rw [hwi]; exact hs.log, by rw [hwi]; exact hs.speaks, by rw [hwi, hwj]; show (inTerm _ _).term ≤ (w.n i).term; omega, by rw [hwi]; exact q2⟩ ?_
      unfold needs at hf ⊢
      rw [hwi]
      rw [if_neg (by omega)] at hf
      show (if (w.n i).acked = q then _ else _) ≤ _
      split
      · show (L.length : Int) - q + 2 ≤ _; omega
      · show q + (L.length : Int) + 3 ≤ _; omega
    rcases takeV_cases het with hc | ⟨hc, hc0, hc1⟩ | hc
    · rw [hil, hat] at hc
      refine refuse _ ?_ ?_ ?_ (takeV_far (by rw [hil, hat]; exact hc))
      · omega
      · rw [hil]; exact hc
      · rw [hil]; exact c1
    · have hc0' : 0 < (w.n i).next := hc0
      refine refuse ((w.n i).next - 1) (by omega) (by omega) ?_ (takeV_other hc hc0 hc1)
      refine Int.not_lt.1 fun hlt => ?_
      have hae : (w.n i).acked = (w.n i).next := by omega
      apply hc1
      rw [hil]
      show termAt (w.n (!i)).log ((w.n i).next - 1) = (if 0 < (w.n i).next then termAt (w.n i).log ((w.n i).next - 1) else 0)
      rw [if_pos hc0']
      rw [hae] at c2
      have := take_get c2 (k := ((w.n i).next - 1).toNat) (by omega)
      unfold termAt
      rw [if_neg (by omega), if_neg (by omega), this]
    · -- it is taken
      have hrl : (sentM (w.n i)).recs.length = min 16 (L.length - (w.n i).next.toNat) := by
        show (((w.n i).log.drop _).take 16).length = _
        rw [List.length_take, List.length_drop, hs.log]
      have hle : (w.n i).next + ((sentM (w.n i)).recs.length : Int) ≤ (w.n i).log.length := by rw [hs.log]; omega
      have ex := exchange hpair hc
      have eb := exchange_back hpair ((w.n i).next + (sentM (w.n i)).recs.length) (by omega) hle
      rw [ex] at hwi hwj ⊢
      simp only at hwi hwj ⊢
      rw [eb] at hwi ⊢
      simp only at hwi ⊢
      have hmx1 : max (w.n i).acked ((w.n i).next + ((sentM (w.n i)).recs.length : Int)) = (w.n i).next + (sentM (w.n i)).recs.length := by omega
      have hmx2 : max (w.n i).next ((w.n i).next + ((sentM (w.n i)).recs.length : Int)) = (w.n i).next + (sentM (w.n i)).recs.length := by omega
      rw [hmx1, hmx2] at hwi ⊢
      rw [← hwi, ← hwj]
      have hS : Sett L i w' := ⟨by rw [hwi]; exact hs.log, by rw [hwi]; exact hs.speaks, by rw [hwi, hwj]; show (inTerm _ _).term ≤ (w.n i).term; omega, by rw [hwi]; exact Int.le_refl _⟩
      by_cases hlast : (w.n i).acked = L.length
      · have hnxl : (w.n i).next = L.length := by omega
        have hrz : (sentM (w.n i)).recs.length = 0 := by rw [hrl]; omega
        have hx : (w'.n i).acked = L.length := by rw [hwi]; show (w.n i).next + ((sentM (w.n i)).recs.length : Int) = _; omega
        have hy : (w'.n (!i)).acked = L.length := by
          rw [hwj]
          show max (inTerm (w.n (!i)) (sentM (w.n i))).acked (min (w.n i).acked ((w.n i).next + ((sentM (w.n i)).recs.length : Int))) = _
          rw [hia]; omega
        obtain ⟨d1, d2⟩ := settles_now hI hS hx hy
        have hf0 : 1 ≤ f := by
          unfold needs at hf
          rw [if_pos (by omega)] at hf
          omega
        obtain ⟨g, rfl⟩ : ∃ g, f = g + 1 := ⟨f - 1, by omega⟩
        refine ⟨w'.n i, w'.n (!i), k + 1, ?_, d2⟩
        unfold settleR
        rw [if_pos d1]
      · refine settles_aux hK f (k + 1) w' hI hS ?_
        unfold needs at hf ⊢
        rw [hwi]
        rw [if_pos rfl]
        show (L.length : Int) - ((w.n i).next + ((sentM (w.n i)).recs.length : Int)) + 2 ≤ _
        by_cases he : (w.n i).acked = (w.n i).next
        · rw [if_pos he] at hf; omega
        · rw [if_neg he] at hf; omega
theorem settles_led {G : Int → Option (List Rec)} {K : Nat} {w : CW} (h : Inv G K w) (hK : K ≤ 100) (i : Bool) {T : Int} (hown : ownB (idOf i) T = true) (h1 : (w.n i).term < T) (h2 : (w.n (!i)).term < T) (htop : T ≤ 2 * (K + 1 : Nat)) :
    leadV (w.n i) T = (ledN (w.n i) T, 0) ∧ ∃ x y c, settleV (ledN (w.n i) T) (w.n (!i)) = (x, y, c, 0) ∧ Ends (w.n i).log x y := by
  have hl := lead_ok (h.node i) (t := T) (by omega) (by rw [h.id]; exact hown) h1
  obtain ⟨G', hI⟩ := h.lead i hown h1 htop (by omega)
  refine ⟨hl.1, ?_⟩
  have hs := setN_same w i (ledN (w.n i) T)
  have ho := setN_other w i (ledN (w.n i) T)
  have ha1 := (h.node i).a1
  have hlen := (h.log i).len
  have hS : Sett (w.n i).log i (setN w i (ledN (w.n i) T)) := ⟨by rw [hs]; rfl, by rw [hs]; rfl, by rw [hs, ho]; show _ ≤ T; omega, by rw [hs]; exact ha1⟩
  obtain ⟨x, y, c, e1, e2⟩ := settles_aux (by omega) 521 0 _ hI hS (by
    unfold needs
    rw [hs]
    show (if (w.n i).acked = ((w.n i).log.length : Int) then ((w.n i).log.length : Int) - ((w.n i).log.length : Int) + 2 else ((w.n i).log.length : Int) + (w.n i).log.length + 3) ≤ _
    split <;> omega)
  rw [hs, ho] at e1
  refine ⟨x, y, c, ?_, e2⟩
  unfold settleV
  rw [if_neg (by simpa using (nodE_iff _).2 hl.2), if_neg (by simpa using (nodE_iff _).2 (h.node _)), if_neg (by show ¬ (w.n i).id = _; rw [h.id, h.id]; cases i <;> decide), if_neg]
  · exact e1
  · rintro (hc | hc)
    · cases hc
    · have : T < (w.n (!i)).term := hc; omega
end Go.Proofs.YtmhinhgflehkaaaGreat

/-
  Arguments opened: steps of two nodes.
-/
namespace Go.Proofs.YtmhinhgflehkaaaGreat
open Go.ChangeShapes Go.WideShapes Go.ChangeAt Go.RowKit Go.Joins Go.Deep

def stpR (s : Stp) : List Value := [.int .u8 s.kind, .int .u8 s.node, .int .u8 s.pick]
def StpOk (s : Stp) : Prop := s.kind ≤ 255 ∧ s.node ≤ 255 ∧ s.pick ≤ 255
section
variable {H : Type} {enc : TypeId × Value → H} {w : World} {base : Nat} {spare : Nat → Bool} {held : Bool} {r : Reach} {b0 : Nat} {v : Value} {d : DataW H} {p : List MemPlace}
theorem open_byte {P : Program} {t : TypeId} {m : Nat} {c : Value} {y : DataW H × List MemPlace} (ht : P.underlying t = some (.int .u8)) (h : DataW.trod enc P w base spare held m t [c] = some y) : ∃ z : Nat, c = .int .u8 z ∧ z ≤ 255 := by
  obtain ⟨z, hz, _, hw⟩ := DataW.trod_int ht h
  injection hz with hz
  have := u8_in hw
  exact ⟨z.toNat, by rw [hz]; congr 1; omega, by omega⟩
set_option maxRecDepth 100000 in
theorem open_steps_arg (hv : Value.okWide Tryz.prog w r b0 111 v) (h : DataW.Trod enc Tryz.prog w base spare held 111 v d p) :
    ∃ (A : Option Addr) (k : Nat) (l : List Stp), v = .slice A l.length k ∧ l.length ≤ k ∧ k ≤ maxLen ∧ Sl w A 3 (l.map stpR) ∧ ∀ s ∈ l, StpOk s := by
  obtain ⟨a, len, cap, rfl⟩ := okWide_slice Tryz.underlying111 hv
  obtain ⟨fuel, hf⟩ := h
  obtain ⟨A, len, cap, hc, h1, h2, h3⟩ := open_rows (n := 5) (ts := [5, 5, 5]) Tryz.underlying111 (by kernel_rfl) (by kernel_rfl) (by decide) hf
  injection hc with hc
  injection hc with q1 q2 q3
  subst q1 q2 q3
  obtain ⟨l, rfl, hs, ha⟩ := rows_listP (w := w) (size := 3) StpOk stpR (fun i hi => by
    obtain ⟨b, o, row, hA, hl, hcell, hg⟩ := h3 i hi
    obtain ⟨c0, m0, y0, e0, g0⟩ := hg 0 _ rfl
    obtain ⟨c1, m1, y1, e1, g1⟩ := hg 1 _ rfl
    obtain ⟨c2, m2, y2, e2, g2⟩ := hg 2 _ rfl
    obtain ⟨z0, rfl, k0⟩ := open_byte Tryz.underlying5 g0
    obtain ⟨z1, rfl, k1⟩ := open_byte Tryz.underlying5 g1
    obtain ⟨z2, rfl, k2⟩ := open_byte Tryz.underlying5 g2
    have hrow := list_of_get (stpR ⟨z0, z1, z2⟩) hl rfl (fun j hj => by
      match j, hj with
      | 0, _ => exact e0
      | 1, _ => exact e1
      | 2, _ => exact e2)
    subst hrow
    exact ⟨⟨z0, z1, z2⟩, b, o, ⟨k0, k1, k2⟩, hA, rfl, hcell⟩)
  exact ⟨_, _, l, rfl, h1, h2, hs, ha⟩
end
end Go.Proofs.YtmhinhgflehkaaaGreat

/-
  Two nodes and their mail as they lie in memory.
-/
namespace Go.Proofs.YtmhinhgflehkaaaGreat
open Go.RowKit

def msgRw (x : Msg × Option Addr × Nat) : List Value := [.int .i64 x.1.kind, .int .i64 x.1.term, .int .i64 x.1.at_, .int .i64 x.1.before, .slice x.2.1 x.1.recs.length x.2.2, .int .i64 x.1.acked]
theorem msgRw_one (xs : List (Msg × Option Addr × Nat)) : ∀ r ∈ xs.map msgRw, ∀ u ∈ r, u.oneCell' = true := fun r hr u hu => by
  obtain ⟨x, -, rfl⟩ := List.mem_map.1 hr
  simp only [msgRw, List.mem_cons, List.not_mem_nil, or_false] at hu
  rcases hu with rfl | rfl | rfl | rfl | rfl | rfl <;> rfl
theorem msgRw_mute (xs : List (Msg × Option Addr × Nat)) : ∀ r ∈ xs.map msgRw, ∀ u ∈ r, noStr u = true := fun r hr u hu => by
  obtain ⟨x, -, rfl⟩ := List.mem_map.1 hr
  simp only [msgRw, List.mem_cons, List.not_mem_nil, or_false] at hu
  rcases hu with rfl | rfl | rfl | rfl | rfl | rfl <;> rfl
structure BoxM (w W : World) (M : Option Addr) (k : Nat) (l : List Msg) (xs : List (Msg × Option Addr × Nat)) : Prop where
  own : OwnM w W 143 6 M l.length k (xs.map msgRw)
  room : M = none ∨ k ≠ 0
  is : xs.map (·.1) = l
  el : ∀ x ∈ xs, LogW w W x.2.1 x.1.recs.length x.2.2 x.1.recs
section
variable {w W V : World} {M : Option Addr} {k : Nat} {l : List Msg} {xs : List (Msg × Option Addr × Nat)}
theorem BoxM.mono (h : BoxM w W M k l xs) (hx : Ext W V) : BoxM w V M k l xs := ⟨h.own.mono hx, h.room, h.is, fun x hm => (h.el x hm).mono hx⟩
theorem BoxM.typed (h : BoxM w W M k l xs) {p : Addr} (hp : M = some p) : ∃ cur, W.heap[p.block]? = some (.cells cur 143 (0, 0)) := by
  rcases h.own.own.at_ with h0 | ⟨g, cur, h1, -, h3, -⟩
  · rcases h.room with h2 | h2
    · rw [h2] at hp; cases hp
    · exact absurd h0 h2
  · rw [h1] at hp
    injection hp with hp
    subst hp
    exact ⟨cur, h3⟩
theorem BoxM.ne {g : Nat} {cs : List Value} (h : BoxM w W M k l xs) (hb : BoxAt W g cs 117) : ∀ p, M = some p → p.block ≠ g := fun p hp e => by
  obtain ⟨cur, hc⟩ := h.typed hp
  unfold BoxAt at hb
  rw [e, hb] at hc
  injection hc with hc
  injection hc with h1 h2
  exact absurd h2 (by decide)
theorem BoxM.turn {g : Nat} {cs : List Value} (h : BoxM w W M k l xs) (hb : BoxAt W g cs 117) (ht : Turn g W V) : BoxM w V M k l xs :=
  ⟨h.own.turn ht (h.ne hb), h.room, h.is, fun x hm => (h.el x hm).turn ht⟩
theorem BoxM.nil (w W : World) : BoxM w W none 0 [] [] := ⟨OwnM.nil _ _ _ _, .inl rfl, rfl, by simp⟩
theorem BoxM.get (h : BoxM w W M k l xs) {j : Nat} {m : Msg} (hm : l[j]? = some m) : ∃ g D K, M = some ⟨g, 0, none⟩ ∧ LogW w W D m.recs.length K m.recs ∧ W.cell? ⟨g, j * 6, none⟩ = some (.int .i64 m.kind) ∧ W.cell? ⟨g, j * 6 + 1, none⟩ = some (.int .i64 m.term) ∧ W.cell? ⟨g, j * 6 + 2, none⟩ = some (.int .i64 m.at_) ∧ W.cell? ⟨g, j * 6 + 3, none⟩ = some (.int .i64 m.before) ∧ W.cell? ⟨g, j * 6 + 4, none⟩ = some (.slice D m.recs.length K) ∧ W.cell? ⟨g, j * 6 + 5, none⟩ = some (.int .i64 m.acked) := by
  rw [← h.is, List.getElem?_map] at hm
  cases hx : xs[j]? with
  | none => rw [hx] at hm; cases hm
  | some x =>
    rw [hx] at hm
    injection hm with hm
    subst hm
    obtain ⟨g, hA, hc⟩ := h.own.own.get j (msgRw x) (by rw [List.getElem?_map, hx]; rfl)
    exact ⟨g, x.2.1, x.2.2, hA, h.el x (List.mem_of_getElem? hx), by simpa using hc 0 _ rfl, hc 1 _ rfl, hc 2 _ rfl, hc 3 _ rfl, hc 4 _ rfl, hc 5 _ rfl⟩
end
structure CaseAt (w W : World) (g : Nat) (n0 n1 : Nod) (l0 l1 : List Msg) (t : Int) (A : Option Addr) (a : Nat) (B : Option Addr) (b : Nat) (M : Option Addr) (m : Nat) (xs : List (Msg × Option Addr × Nat)) (N : Option Addr) (n : Nat) (ys : List (Msg × Option Addr × Nat)) : Prop where
  ext : Ext w W
  ge : w.heap.size ≤ g
  box : BoxAt W g [.int .i64 n0.id, .int .i64 n0.term, .bool n0.speaks, .slice A n0.log.length a, .int .i64 n0.acked, .int .i64 n0.next, .int .i64 n1.id, .int .i64 n1.term, .bool n1.speaks, .slice B n1.log.length b, .int .i64 n1.acked, .int .i64 n1.next, .slice M l0.length m, .slice N l1.length n, .int .i64 t] 117
  q0 : LogW w W A n0.log.length a n0.log
  q1 : LogW w W B n1.log.length b n1.log
  m0 : BoxM w W M m l0 xs
  m1 : BoxM w W N n l1 ys
  apart : ∀ p q, M = some p → N = some q → p.block ≠ q.block
def CaseIn (w W : World) (g : Nat) (n0 n1 : Nod) (l0 l1 : List Msg) (t : Int) : Prop := ∃ A a B b M m xs N n ys, CaseAt w W g n0 n1 l0 l1 t A a B b M m xs N n ys
abbrev StayC (W W' : World) : Prop := Stay 143 117 W W'
section
variable {w W V V' : World} {g : Nat} {n0 n1 : Nod} {l0 l1 : List Msg} {t : Int} {A B M N : Option Addr} {a b m n : Nat} {xs ys : List (Msg × Option Addr × Nat)}
theorem CaseAt.mono (h : CaseAt w W g n0 n1 l0 l1 t A a B b M m xs N n ys) (hx : Ext W V) : CaseAt w V g n0 n1 l0 l1 t A a B b M m xs N n ys :=
  ⟨h.ext.trans hx, h.ge, h.box.mono hx, h.q0.mono hx, h.q1.mono hx, h.m0.mono hx, h.m1.mono hx, h.apart⟩
theorem cas_mute (k0 k1 k2 k3 k4 k5 k6 k7 k8 : Int) (s0 s1 : Bool) (p q r s : Option Addr) (i1 i2 i3 i4 j1 j2 j3 j4 : Nat) : ∀ u ∈ [Value.int .i64 k0, .int .i64 k1, .bool s0, .slice p i1 j1, .int .i64 k2, .int .i64 k3, .int .i64 k4, .int .i64 k5, .bool s1, .slice q i2 j2, .int .i64 k6, .int .i64 k7, .slice r i3 j3, .slice s i4 j4, .int .i64 k8], noStr u = true := fun u hu => by
  simp only [List.mem_cons, List.not_mem_nil, or_false] at hu
  rcases hu with rfl | rfl | rfl | rfl | rfl | rfl | rfl | rfl | rfl | rfl | rfl | rfl | rfl | rfl | rfl <;> rfl
theorem CaseAt.stay (h : CaseAt w W g n0 n1 l0 l1 t A a B b M m xs N n ys) (ht : Turn g W V) : StayC W V :=
  ht.stay h.box (.inr rfl) (noStr_at (cas_mute _ _ _ _ _ _ _ _ _ _ _ _ _ _ _ _ _ _ _ _ _ _ _))
theorem CaseAt.put0 (h : CaseAt w W g n0 n1 l0 l1 t A a B b M m xs N n ys) (ht : Turn g W V) {x : Nod} {D : Option Addr} {K : Nat} (hl : LogW w W D x.log.length K x.log) (hb : BoxAt V g [.int .i64 x.id, .int .i64 x.term, .bool x.speaks, .slice D x.log.length K, .int .i64 x.acked, .int .i64 x.next, .int .i64 n1.id, .int .i64 n1.term, .bool n1.speaks, .slice B n1.log.length b, .int .i64 n1.acked, .int .i64 n1.next, .slice M l0.length m, .slice N l1.length n, .int .i64 t] 117) : CaseAt w V g x n1 l0 l1 t D K B b M m xs N n ys :=
  ⟨ht.ext h.ext h.ge, h.ge, hb, hl.turn ht, h.q1.turn ht, h.m0.turn h.box ht, h.m1.turn h.box ht, h.apart⟩
theorem CaseAt.put1 (h : CaseAt w W g n0 n1 l0 l1 t A a B b M m xs N n ys) (ht : Turn g W V) {x : Nod} {D : Option Addr} {K : Nat} (hl : LogW w W D x.log.length K x.log) (hb : BoxAt V g [.int .i64 n0.id, .int .i64 n0.term, .bool n0.speaks, .slice A n0.log.length a, .int .i64 n0.acked, .int .i64 n0.next, .int .i64 x.id, .int .i64 x.term, .bool x.speaks, .slice D x.log.length K, .int .i64 x.acked, .int .i64 x.next, .slice M l0.length m, .slice N l1.length n, .int .i64 t] 117) : CaseAt w V g n0 x l0 l1 t A a D K M m xs N n ys :=
  ⟨ht.ext h.ext h.ge, h.ge, hb, h.q0.turn ht, hl.turn ht, h.m0.turn h.box ht, h.m1.turn h.box ht, h.apart⟩
theorem CaseAt.putT (h : CaseAt w W g n0 n1 l0 l1 t A a B b M m xs N n ys) (ht : Turn g W V) {u : Int} (hb : BoxAt V g [.int .i64 n0.id, .int .i64 n0.term, .bool n0.speaks, .slice A n0.log.length a, .int .i64 n0.acked, .int .i64 n0.next, .int .i64 n1.id, .int .i64 n1.term, .bool n1.speaks, .slice B n1.log.length b, .int .i64 n1.acked, .int .i64 n1.next, .slice M l0.length m, .slice N l1.length n, .int .i64 u] 117) : CaseAt w V g n0 n1 l0 l1 u A a B b M m xs N n ys :=
  ⟨ht.ext h.ext h.ge, h.ge, hb, h.q0.turn ht, h.q1.turn ht, h.m0.turn h.box ht, h.m1.turn h.box ht, h.apart⟩
theorem LogW.stay {w W V : World} {A : Option Addr} {N c : Nat} {l : List Rec} (h : LogW w W A N c l) (hs : StayC W V) : LogW w V A N c l := hs.logw h
theorem CaseAt.box0 (h : CaseAt w W g n0 n1 l0 l1 t A a B b M m xs N n ys) (hg : W.grownBy V (M.map (·.block))) : BoxAt V g [.int .i64 n0.id, .int .i64 n0.term, .bool n0.speaks, .slice A n0.log.length a, .int .i64 n0.acked, .int .i64 n0.next, .int .i64 n1.id, .int .i64 n1.term, .bool n1.speaks, .slice B n1.log.length b, .int .i64 n1.acked, .int .i64 n1.next, .slice M l0.length m, .slice N l1.length n, .int .i64 t] 117 := by
  unfold BoxAt
  rw [hg.block g h.box.lt ?_]
  · exact h.box
  · intro e
    cases M with
    | none => cases e
    | some p =>
      simp only [Option.map_some, Option.some.injEq] at e
      exact h.m0.ne h.box p rfl e.symm
theorem CaseAt.box1 (h : CaseAt w W g n0 n1 l0 l1 t A a B b M m xs N n ys) (hg : W.grownBy V (N.map (·.block))) : BoxAt V g [.int .i64 n0.id, .int .i64 n0.term, .bool n0.speaks, .slice A n0.log.length a, .int .i64 n0.acked, .int .i64 n0.next, .int .i64 n1.id, .int .i64 n1.term, .bool n1.speaks, .slice B n1.log.length b, .int .i64 n1.acked, .int .i64 n1.next, .slice M l0.length m, .slice N l1.length n, .int .i64 t] 117 := by
  unfold BoxAt
  rw [hg.block g h.box.lt ?_]
  · exact h.box
  · intro e
    cases N with
    | none => cases e
    | some p =>
      simp only [Option.map_some, Option.some.injEq] at e
      exact h.m1.ne h.box p rfl e.symm
theorem CaseAt.mail0 (h : CaseAt w W g n0 n1 l0 l1 t A a B b M m xs N n ys) (hs : StayC W V) (hg : W.grownBy V (M.map (·.block))) (hx : Ext w V) {M' : Option Addr} {m' : Nat} {x : Msg} {D : Option Addr} {K : Nat} (hm : OwnM w V 143 6 M' (l0.length + 1) m' (xs.map msgRw ++ [[.int .i64 x.kind, .int .i64 x.term, .int .i64 x.at_, .int .i64 x.before, .slice D x.recs.length K, .int .i64 x.acked]])) (hk : m' ≠ 0) (hA : M' = M ∨ M' = some ⟨W.heap.size, 0, none⟩) (hl : LogW w W D x.recs.length K x.recs)
    (ht : Turn g V V') (hb : BoxAt V' g [.int .i64 n0.id, .int .i64 n0.term, .bool n0.speaks, .slice A n0.log.length a, .int .i64 n0.acked, .int .i64 n0.next, .int .i64 n1.id, .int .i64 n1.term, .bool n1.speaks, .slice B n1.log.length b, .int .i64 n1.acked, .int .i64 n1.next, .slice M' (l0 ++ [x]).length m', .slice N l1.length n, .int .i64 t] 117) : CaseIn w V' g n0 n1 (l0 ++ [x]) l1 t := by
  have hbV := h.box0 hg
  have e1 : xs.map msgRw ++ [[.int .i64 x.kind, .int .i64 x.term, .int .i64 x.at_, .int .i64 x.before, .slice D x.recs.length K, .int .i64 x.acked]] = (xs ++ [(x, D, K)]).map msgRw := by rw [List.map_append]; rfl
  rw [e1] at hm
  have hb0 : BoxM w V M' m' (l0 ++ [x]) (xs ++ [(x, D, K)]) := ⟨by rw [List.length_append]; exact hm, .inr hk, by rw [List.map_append]; exact congrArg (· ++ [x]) h.m0.is, fun y hy => by
    rcases List.mem_append.1 hy with hy | hy
    · exact (h.m0.el y hy).stay hs
    · simp only [List.mem_singleton] at hy; subst hy; exact hl.stay hs⟩
  have hb1 : BoxM w V N n l1 ys := ⟨h.m1.own.kept hg (fun p hp e => by
    cases M with
    | none => cases e
    | some q =>
      simp only [Option.map_some, Option.some.injEq] at e
      exact h.apart q p rfl hp e.symm), h.m1.room, h.m1.is, fun y hy => (h.m1.el y hy).stay hs⟩
  refine ⟨A, a, B, b, M', m', _, N, n, ys, ht.ext hx h.ge, h.ge, hb, (h.q0.stay hs).turn ht, (h.q1.stay hs).turn ht, hb0.turn hbV ht, hb1.turn hbV ht, fun p q hp hq e => ?_⟩
  rcases hA with rfl | rfl
  · exact h.apart p q hp hq e
  · injection hp with hp
    subst hp
    have := h.m1.own.low q hq
    simp only at e
    omega
theorem CaseAt.mail1 (h : CaseAt w W g n0 n1 l0 l1 t A a B b M m xs N n ys) (hs : StayC W V) (hg : W.grownBy V (N.map (·.block))) (hx : Ext w V) {N' : Option Addr} {n' : Nat} {x : Msg} {D : Option Addr} {K : Nat} (hm : OwnM w V 143 6 N' (l1.length + 1) n' (ys.map msgRw ++ [[.int .i64 x.kind, .int .i64 x.term, .int .i64 x.at_, .int .i64 x.before, .slice D x.recs.length K, .int .i64 x.acked]])) (hk : n' ≠ 0) (hA : N' = N ∨ N' = some ⟨W.heap.size, 0, none⟩) (hl : LogW w W D x.recs.length K x.recs)
    (ht : Turn g V V') (hb : BoxAt V' g [.int .i64 n0.id, .int .i64 n0.term, .bool n0.speaks, .slice A n0.log.length a, .int .i64 n0.acked, .int .i64 n0.next, .int .i64 n1.id, .int .i64 n1.term, .bool n1.speaks, .slice B n1.log.length b, .int .i64 n1.acked, .int .i64 n1.next, .slice M l0.length m, .slice N' (l1 ++ [x]).length n', .int .i64 t] 117) : CaseIn w V' g n0 n1 l0 (l1 ++ [x]) t := by
  have hbV := h.box1 hg
  have e1 : ys.map msgRw ++ [[.int .i64 x.kind, .int .i64 x.term, .int .i64 x.at_, .int .i64 x.before, .slice D x.recs.length K, .int .i64 x.acked]] = (ys ++ [(x, D, K)]).map msgRw := by rw [List.map_append]; rfl
  rw [e1] at hm
  have hb1 : BoxM w V N' n' (l1 ++ [x]) (ys ++ [(x, D, K)]) := ⟨by rw [List.length_append]; exact hm, .inr hk, by rw [List.map_append]; exact congrArg (· ++ [x]) h.m1.is, fun y hy => by
    rcases List.mem_append.1 hy with hy | hy
    · exact (h.m1.el y hy).stay hs
    · simp only [List.mem_singleton] at hy; subst hy; exact hl.stay hs⟩
  have hb0 : BoxM w V M m l0 xs := ⟨h.m0.own.kept hg (fun p hp e => by
    cases N with
    | none => cases e
    | some q =>
      simp only [Option.map_some, Option.some.injEq] at e
      exact h.apart p q hp rfl e), h.m0.room, h.m0.is, fun y hy => (h.m0.el y hy).stay hs⟩
  refine ⟨A, a, B, b, M, m, xs, N', n', _, ht.ext hx h.ge, h.ge, hb, (h.q0.stay hs).turn ht, (h.q1.stay hs).turn ht, hb0.turn hbV ht, hb1.turn hbV ht, fun p q hp hq e => ?_⟩
  rcases hA with rfl | rfl
  · exact h.apart p q hp hq e
  · injection hq with hq
    subst hq
    have := h.m0.own.low p hp
    simp only at e
    omega
end
theorem info_Msg : infoOk Tryz.prog 143 6 64 = true := by kernel_rfl
theorem zero_Msg : zeroMute Tryz.prog 143 = true := by kernel_rfl
theorem sendV_recs (n : Nod) : ∀ r ∈ (sendV n).1.recs, r ∈ n.log := fun r hr => by
  unfold sendV at hr
  split at hr
  · simp [msg0] at hr
  split at hr
  · simp [msg0] at hr
  · exact sentM_recs n r hr
theorem RecsAt.logw {w W : World} {A : Option Addr} {c : Nat} {l : List Rec} (h : RecsAt W A c l) (he : ∀ r ∈ l, AcnAt w r.act) : LogW w W A l.length c l := ⟨h.sl, rfl, h.le, h.cap, he⟩
theorem Sl.drawn {W : World} {A : Option Addr} {size : Nat} {rows : List (List Value)} (h : Sl W A size rows) : Sl W.drew A size rows := h.mono (Ext.refl _).drew
def StepD (w W : World) (g : Nat) (n0 n1 : Nod) (l0 l1 : List Msg) (t : Int) (e : Ending) (W' : World) : Prop := e = .returned (.bool true) ∧ StayC W W' ∧ CaseIn w W' g n0 n1 l0 l1 t
end Go.Proofs.YtmhinhgflehkaaaGreat

/-
  Two nodes and their mail: one leads.
-/
namespace Go.Proofs.YtmhinhgflehkaaaGreat
open Go.RowKit

section
variable {w W : World} {g : Nat} {n0 n1 : Nod} {l0 l1 : List Msg} {t : Int} {A B M N : Option Addr} {a b m n : Nat} {xs ys : List (Msg × Option Addr × Nat)} {kd nd pk : Int}
set_option maxHeartbeats 6400000 in
set_option maxRecDepth 100000 in
theorem top_lead0 (h : CaseAt w W g n0 n1 l0 l1 t A a B b M m xs N n ys) (hn : NodOk n0) (hk0 : 0 ≤ kd) (hk1 : kd ≤ 255) (hi0 : 0 ≤ nd) (hi1 : nd ≤ 255) (hp0 : 0 ≤ pk) (hp1 : pk ≤ 255) (hk : kd % 4 = 0) (hi : nd % 2 = 0) {x : Nod} {T : Int} (hT : nextTerm n0 = T) (hv : leadV n0 T = (x, 0)) :
    Calls Tryz.prog 49 #[.pointer (some ⟨g, 0, none⟩), .agg #[.int .u8 kd, .int .u8 nd, .int .u8 pk]] W (StepD w W g x n1 l0 l1 t) := by
  have HC := Lib.hid h
  have HN := Lib.hid hn
  have hl0 := (h.q0.recs h.ext (Ext.refl W)).len
  have hl1 := (h.q1.recs h.ext (Ext.refl W)).len
  have ht0 := hn.t0
  have ht1 := hn.t1
  have hd1 := hn.id1
  have hd2 := hn.id2
  have hw1 : IntKind.i64.wrap nd = nd := IntWalk.i64_in _ (by omega)
  have hw2 : IntKind.i64.wrap pk = pk := IntWalk.i64_in _ (by omega)
  have hw3 : IntKind.i64.wrap 1 = 1 := rfl
  have hw4 : IntKind.i64.wrap 0 = 0 := rfl
  have HL := Lib.hid (fun (V : World) (hx : Ext W V) => (rep_Lead n0 A a T V (h.q0.recs h.ext hx)).mono fun _ _ q => RetNod.parts q hv (w0 := w) (by have := leadV_log (R := fun r => AcnAt w r.act) n0 T h.q0.el; rwa [hv] at this))
  clear hv
  have c0:=h.box.c 0 rfl;have c1:=h.box.c 1 rfl;have c2:=h.box.c 2 rfl;have c3:=h.box.c 3 rfl;have c4:=h.box.c 4 rfl;have c5:=h.box.c 5 rfl;have c6:=h.box.c 6 rfl;have c7:=h.box.c 7 rfl;have c8:=h.box.c 8 rfl;have c9:=h.box.c 9 rfl;have c10:=h.box.c 10 rfl;have c11:=h.box.c 11 rfl;have c12:=h.box.c 12 rfl;have c13:=h.box.c 13 rfl;have c14:=h.box.c 14 rfl
  clear h hn
  have HT := Lib.hid hT
  clear hT
  by_cases hp : (n0.term + 1) % 2 = n0.id % 2
  · have HE := Lib.hid (show T = n0.term + 1 by rw [← HT.out]; unfold nextTerm; rw [if_pos hp])
    have hq : ((n0.term + 1) % 2 != n0.id % 2) = false := by simpa using hp
    clear hp
    rw [HE.out] at HL
    go_enter Tryz.func49, Tryz.ntmps49
    go_wp2_with (go_at_call 52; refine (HL.out _ (ex)).mono ?_; rintro e w' ⟨D, K, rfl, hx, hl⟩; have HLa := Lib.hid hl; obtain ⟨ye, rfl⟩ := hx.get; clear hx hl)
    (refine wp_region_tail 6 (by kernel_rfl) (by kernel_rfl) ?_; simp only [List.take_succ_cons, List.take_zero, List.drop_succ_cons, List.drop_zero]; (repeat (go_big_quiet_step (fail))); refine wpQuiet_nil ?_; rintro _ ⟨y, rfl⟩)
    refine wpList_store_part rfl 24 (.tmp 57) (.tmp 54) rfl (HC.out.box.mono (ex)) 0 rfl [.int .i64 x.id, .int .i64 x.term, .bool x.speaks, .slice D x.log.length K, .int .i64 x.acked, .int .i64 x.next] rfl (show 6 ≤ 15 by decide) (show 15 < 44 by decide) (by kernel_rfl) (nodl_one x D K) [.int .i64 x.id, .int .i64 x.term, .bool x.speaks, .slice D x.log.length K, .int .i64 x.acked, .int .i64 x.next, .int .i64 n1.id, .int .i64 n1.term, .bool n1.speaks, .slice B n1.log.length b, .int .i64 n1.acked, .int .i64 n1.next, .slice M l0.length m, .slice N l1.length n, .int .i64 t] rfl ?_; intro W5 ht5 hb5
    go_wp2
    go_ret
    exact ⟨rfl, (Ext.stay (by exact ex)).trans ((HC.out.mono (by exact ex)).stay ht5), _, _, _, _, _, _, _, _, _, _, CaseAt.put0 (HC.out.mono (by exact ex)) ht5 (HLa.out.mono (by exact ex)) hb5⟩
  · have HE := Lib.hid (show T = n0.term + 1 + 1 by rw [← HT.out]; unfold nextTerm; rw [if_neg hp]; omega)
    have hq : ((n0.term + 1) % 2 != n0.id % 2) = true := by simpa using hp
    clear hp
    rw [HE.out] at HL
    go_enter Tryz.func49, Tryz.ntmps49
    go_wp2_with (go_at_call 52; refine (HL.out _ (ex)).mono ?_; rintro e w' ⟨D, K, rfl, hx, hl⟩; have HLa := Lib.hid hl; obtain ⟨ye, rfl⟩ := hx.get; clear hx hl)
    (refine wp_region_tail 6 (by kernel_rfl) (by kernel_rfl) ?_; simp only [List.take_succ_cons, List.take_zero, List.drop_succ_cons, List.drop_zero]; (repeat (go_big_quiet_step (fail))); refine wpQuiet_nil ?_; rintro _ ⟨y, rfl⟩)
    refine wpList_store_part rfl 24 (.tmp 57) (.tmp 54) rfl (HC.out.box.mono (ex)) 0 rfl [.int .i64 x.id, .int .i64 x.term, .bool x.speaks, .slice D x.log.length K, .int .i64 x.acked, .int .i64 x.next] rfl (show 6 ≤ 15 by decide) (show 15 < 44 by decide) (by kernel_rfl) (nodl_one x D K) [.int .i64 x.id, .int .i64 x.term, .bool x.speaks, .slice D x.log.length K, .int .i64 x.acked, .int .i64 x.next, .int .i64 n1.id, .int .i64 n1.term, .bool n1.speaks, .slice B n1.log.length b, .int .i64 n1.acked, .int .i64 n1.next, .slice M l0.length m, .slice N l1.length n, .int .i64 t] rfl ?_; intro W5 ht5 hb5
    go_wp2
    go_ret
    exact ⟨rfl, (Ext.stay (by exact ex)).trans ((HC.out.mono (by exact ex)).stay ht5), _, _, _, _, _, _, _, _, _, _, CaseAt.put0 (HC.out.mono (by exact ex)) ht5 (HLa.out.mono (by exact ex)) hb5⟩
set_option maxHeartbeats 6400000 in
set_option maxRecDepth 100000 in
theorem top_lead1 (h : CaseAt w W g n0 n1 l0 l1 t A a B b M m xs N n ys) (hn : NodOk n1) (hk0 : 0 ≤ kd) (hk1 : kd ≤ 255) (hi0 : 0 ≤ nd) (hi1 : nd ≤ 255) (hp0 : 0 ≤ pk) (hp1 : pk ≤ 255) (hk : kd % 4 = 0) (hi : nd % 2 = 1) {x : Nod} {T : Int} (hT : nextTerm n1 = T) (hv : leadV n1 T = (x, 0)) :
    Calls Tryz.prog 49 #[.pointer (some ⟨g, 0, none⟩), .agg #[.int .u8 kd, .int .u8 nd, .int .u8 pk]] W (StepD w W g n0 x l0 l1 t) := by
  have HC := Lib.hid h
  have HN := Lib.hid hn
  have hl0 := (h.q0.recs h.ext (Ext.refl W)).len
  have hl1 := (h.q1.recs h.ext (Ext.refl W)).len
  have ht0 := hn.t0
  have ht1 := hn.t1
  have hd1 := hn.id1
  have hd2 := hn.id2
  have hw1 : IntKind.i64.wrap nd = nd := IntWalk.i64_in _ (by omega)
  have hw2 : IntKind.i64.wrap pk = pk := IntWalk.i64_in _ (by omega)
  have hw3 : IntKind.i64.wrap 1 = 1 := rfl
  have hw4 : IntKind.i64.wrap 0 = 0 := rfl
  have HL := Lib.hid (fun (V : World) (hx : Ext W V) => (rep_Lead n1 B b T V (h.q1.recs h.ext hx)).mono fun _ _ q => RetNod.parts q hv (w0 := w) (by have := leadV_log (R := fun r => AcnAt w r.act) n1 T h.q1.el; rwa [hv] at this))
  clear hv
  have c0:=h.box.c 0 rfl;have c1:=h.box.c 1 rfl;have c2:=h.box.c 2 rfl;have c3:=h.box.c 3 rfl;have c4:=h.box.c 4 rfl;have c5:=h.box.c 5 rfl;have c6:=h.box.c 6 rfl;have c7:=h.box.c 7 rfl;have c8:=h.box.c 8 rfl;have c9:=h.box.c 9 rfl;have c10:=h.box.c 10 rfl;have c11:=h.box.c 11 rfl;have c12:=h.box.c 12 rfl;have c13:=h.box.c 13 rfl;have c14:=h.box.c 14 rfl
  clear h hn
  have HT := Lib.hid hT
  clear hT
  by_cases hp : (n1.term + 1) % 2 = n1.id % 2
  · have HE := Lib.hid (show T = n1.term + 1 by rw [← HT.out]; unfold nextTerm; rw [if_pos hp])
    have hq : ((n1.term + 1) % 2 != n1.id % 2) = false := by simpa using hp
    clear hp
    rw [HE.out] at HL
    go_enter Tryz.func49, Tryz.ntmps49
    go_wp2_with (go_at_call 52; refine (HL.out _ (ex)).mono ?_; rintro e w' ⟨D, K, rfl, hx, hl⟩; have HLa := Lib.hid hl; obtain ⟨ye, rfl⟩ := hx.get; clear hx hl)
    (refine wp_region_tail 6 (by kernel_rfl) (by kernel_rfl) ?_; simp only [List.take_succ_cons, List.take_zero, List.drop_succ_cons, List.drop_zero]; (repeat (go_big_quiet_step (fail))); refine wpQuiet_nil ?_; rintro _ ⟨y, rfl⟩)
    refine wpList_store_part rfl 24 (.tmp 57) (.tmp 54) rfl (HC.out.box.mono (ex)) 6 rfl [.int .i64 x.id, .int .i64 x.term, .bool x.speaks, .slice D x.log.length K, .int .i64 x.acked, .int .i64 x.next] rfl (show 12 ≤ 15 by decide) (show 15 < 44 by decide) (by kernel_rfl) (nodl_one x D K) [.int .i64 n0.id, .int .i64 n0.term, .bool n0.speaks, .slice A n0.log.length a, .int .i64 n0.acked, .int .i64 n0.next, .int .i64 x.id, .int .i64 x.term, .bool x.speaks, .slice D x.log.length K, .int .i64 x.acked, .int .i64 x.next, .slice M l0.length m, .slice N l1.length n, .int .i64 t] rfl ?_; intro W5 ht5 hb5
    go_wp2
    go_ret
    exact ⟨rfl, (Ext.stay (by exact ex)).trans ((HC.out.mono (by exact ex)).stay ht5), _, _, _, _, _, _, _, _, _, _, CaseAt.put1 (HC.out.mono (by exact ex)) ht5 (HLa.out.mono (by exact ex)) hb5⟩
  · have HE := Lib.hid (show T = n1.term + 1 + 1 by rw [← HT.out]; unfold nextTerm; rw [if_neg hp]; omega)
    have hq : ((n1.term + 1) % 2 != n1.id % 2) = true := by simpa using hp
    clear hp
    rw [HE.out] at HL
    go_enter Tryz.func49, Tryz.ntmps49
    go_wp2_with (go_at_call 52; refine (HL.out _ (ex)).mono ?_; rintro e w' ⟨D, K, rfl, hx, hl⟩; have HLa := Lib.hid hl; obtain ⟨ye, rfl⟩ := hx.get; clear hx hl)
    (refine wp_region_tail 6 (by kernel_rfl) (by kernel_rfl) ?_; simp only [List.take_succ_cons, List.take_zero, List.drop_succ_cons, List.drop_zero]; (repeat (go_big_quiet_step (fail))); refine wpQuiet_nil ?_; rintro _ ⟨y, rfl⟩)
    refine wpList_store_part rfl 24 (.tmp 57) (.tmp 54) rfl (HC.out.box.mono (ex)) 6 rfl [.int .i64 x.id, .int .i64 x.term, .bool x.speaks, .slice D x.log.length K, .int .i64 x.acked, .int .i64 x.next] rfl (show 12 ≤ 15 by decide) (show 15 < 44 by decide) (by kernel_rfl) (nodl_one x D K) [.int .i64 n0.id, .int .i64 n0.term, .bool n0.speaks, .slice A n0.log.length a, .int .i64 n0.acked, .int .i64 n0.next, .int .i64 x.id, .int .i64 x.term, .bool x.speaks, .slice D x.log.length K, .int .i64 x.acked, .int .i64 x.next, .slice M l0.length m, .slice N l1.length n, .int .i64 t] rfl ?_; intro W5 ht5 hb5
    go_wp2
    go_ret
    exact ⟨rfl, (Ext.stay (by exact ex)).trans ((HC.out.mono (by exact ex)).stay ht5), _, _, _, _, _, _, _, _, _, _, CaseAt.put1 (HC.out.mono (by exact ex)) ht5 (HLa.out.mono (by exact ex)) hb5⟩
end
end Go.Proofs.YtmhinhgflehkaaaGreat

/-
  Two nodes and their mail: one acts.
-/
namespace Go.Proofs.YtmhinhgflehkaaaGreat
open Go.RowKit

section
variable {w W : World} {g : Nat} {n0 n1 : Nod} {l0 l1 : List Msg} {t : Int} {A B M N : Option Addr} {a b m n : Nat} {xs ys : List (Msg × Option Addr × Nat)} {kd nd pk : Int}
set_option maxHeartbeats 6400000 in
set_option maxRecDepth 100000 in
theorem top_act0_yes (h : CaseAt w W g n0 n1 l0 l1 t A a B b M m xs N n ys) (hn : NodOk n0) (hk0 : 0 ≤ kd) (hk1 : kd ≤ 255) (hi0 : 0 ≤ nd) (hi1 : nd ≤ 255) (hp0 : 0 ≤ pk) (hp1 : pk ≤ 255) (hk : kd % 4 = 1) (hi : nd % 2 = 0) {tu : Int} (hu : t + pk = tu) (ht0 : 0 ≤ t) (ht1 : t ≤ 10000000) {x : Nod} {er : Int} (hv : actV n0 (goA tu) = (x, er)) (her : er = 0) :
    Calls Tryz.prog 49 #[.pointer (some ⟨g, 0, none⟩), .agg #[.int .u8 kd, .int .u8 nd, .int .u8 pk]] W (StepD w W g x n1 l0 l1 tu) := by
  have HC := Lib.hid h
  have HN := Lib.hid hn
  have hl0 := (h.q0.recs h.ext (Ext.refl W)).len
  have hl1 := (h.q1.recs h.ext (Ext.refl W)).len
  have htn0 := hn.t0
  have htn1 := hn.t1
  have hd1 := hn.id1
  have hd2 := hn.id2
  have hw1 : IntKind.i64.wrap nd = nd := IntWalk.i64_in _ (by omega)
  have hw2 : IntKind.i64.wrap pk = pk := IntWalk.i64_in _ (by omega)
  have hw3 : IntKind.i64.wrap 1 = 1 := rfl
  have hw4 : IntKind.i64.wrap 0 = 0 := rfl
  have HA := Lib.hid (fun (V : World) (hr : RecsAt V A a n0.log) => (rep_Act n0 A a (goA tu) V hr (mkA_at _ _ _ _ _)).mono fun _ _ q => RetNod.parts q hv (w0 := w) (by have := actV_log (R := fun r => AcnAt w r.act) n0 (goA tu) h.q0.el (mkA_at _ _ _ _ _); rwa [hv] at this))
  clear hv
  have c0:=h.box.c 0 rfl;have c1:=h.box.c 1 rfl;have c2:=h.box.c 2 rfl;have c3:=h.box.c 3 rfl;have c4:=h.box.c 4 rfl;have c5:=h.box.c 5 rfl;have c6:=h.box.c 6 rfl;have c7:=h.box.c 7 rfl;have c8:=h.box.c 8 rfl;have c9:=h.box.c 9 rfl;have c10:=h.box.c 10 rfl;have c11:=h.box.c 11 rfl;have c12:=h.box.c 12 rfl;have c13:=h.box.c 13 rfl;have c14:=h.box.c 14 rfl
  clear h hn
  have hwu : IntKind.i64.wrap (t + pk) = t + pk := IntWalk.i64_in _ (by omega)
  have HU := Lib.hid hu
  clear hu
  subst her
  go_enter Tryz.func49, Tryz.ntmps49
  go_wp2_with fail
  (try simp only [hk, hi])
  clear hk hi
  refine wp_name (fun W9 hW9 => ?_)
  have k3 : BoxAt W9 W.heap.size [.int .u8 kd, .int .u8 nd, .int .u8 pk] 121 := by rw [hW9]; exact (by repeat (first | exact BoxAt.new (by first | rfl | (simp [go_sem]; done) | (simp [go_sem]; omega)) _ _ | apply BoxAt.xt | apply BoxAt.drew | apply BoxAt.drewN | apply BoxAt.alloc))
  have k6 : BoxAt W9 (W.heap.size + 1) [.int .i64 n0.id, .int .i64 n0.term, .bool n0.speaks, .slice A n0.log.length a, .int .i64 n0.acked, .int .i64 n0.next] 24 := by rw [hW9]; exact (by repeat (first | exact BoxAt.new (by first | rfl | (simp [go_sem]; done) | (simp [go_sem]; omega)) _ _ | apply BoxAt.xt | apply BoxAt.drew | apply BoxAt.drewN | apply BoxAt.alloc))
  have h9 : CaseAt w W9 g n0 n1 l0 l1 t A a B b M m xs N n ys := by rw [hW9]; exact HC.out.mono (ex)
  have s9 : StayC W W9 := by rw [hW9]; exact Ext.stay (ex)
  have hgl : g < W.heap.size := HC.out.box.lt
  have hs9 : W.heap.size + 2 ≤ W9.heap.size := by rw [hW9]; simp [go_sem]
  clear hW9 c0 c1 c2 c3 c4 c5 c6 c7 c8 c9 c10 c11 c12 c13 c14
  have c0:=h9.box.c 0 rfl;have c1:=h9.box.c 1 rfl;have c2:=h9.box.c 2 rfl;have c3:=h9.box.c 3 rfl;have c4:=h9.box.c 4 rfl;have c5:=h9.box.c 5 rfl;have c6:=h9.box.c 6 rfl;have c7:=h9.box.c 7 rfl;have c8:=h9.box.c 8 rfl;have c9:=h9.box.c 9 rfl;have c10:=h9.box.c 10 rfl;have c11:=h9.box.c 11 rfl;have c12:=h9.box.c 12 rfl;have c13:=h9.box.c 13 rfl;have c14:=h9.box.c 14 rfl
  obtain ⟨d0, d1, d2, d3, d4, d5⟩ := k6.six
  have e0:=k3.c 0 rfl;have e1:=k3.c 1 rfl;have e2:=k3.c 2 rfl
  (refine wp_region_tail 10 (by kernel_rfl) (by kernel_rfl) ?_; simp only [List.take_succ_cons, List.take_zero, List.drop_succ_cons, List.drop_zero]; (repeat (go_big_quiet_step (fail))); refine wpQuiet_nil ?_; rintro _ ⟨y, rfl⟩)
  refine wpList_store_cell rfl 3 (.tmp 69) (.tmp 67) rfl (h9.box.mono (ex)) 14 rfl (.int .i64 tu) (by rw [← HU.out]; rfl) (show 14 < 15 by decide) (show 15 < 44 by decide) (by kernel_rfl) rfl [.int .i64 n0.id, .int .i64 n0.term, .bool n0.speaks, .slice A n0.log.length a, .int .i64 n0.acked, .int .i64 n0.next, .int .i64 n1.id, .int .i64 n1.term, .bool n1.speaks, .slice B n1.log.length b, .int .i64 n1.acked, .int .i64 n1.next, .slice M l0.length m, .slice N l1.length n, .int .i64 tu] rfl ?_; intro W1 ht1 hb1
  have j3 := (k3.mono (ex)).turn ht1 (by omega)
  have j6 := (k6.mono (ex)).turn ht1 (by omega)
  have h1 := CaseAt.putT (h9.mono (ex)) ht1 hb1
  have s1 : StayC W W1 := (s9.ext (ex)).trans ((h9.mono (ex)).stay ht1)
  clear ht1 hb1 k3 k6 d0 d1 d2 d3 d4 d5 e0 e1 e2 c0 c1 c2 c3 c4 c5 c6 c7 c8 c9 c10 c11 c12 c13 c14
  go_wp2_with fail
  have c0:=h1.box.c 0 rfl;have c1:=h1.box.c 1 rfl;have c2:=h1.box.c 2 rfl;have c3:=h1.box.c 3 rfl;have c4:=h1.box.c 4 rfl;have c5:=h1.box.c 5 rfl;have c6:=h1.box.c 6 rfl;have c7:=h1.box.c 7 rfl;have c8:=h1.box.c 8 rfl;have c9:=h1.box.c 9 rfl;have c10:=h1.box.c 10 rfl;have c11:=h1.box.c 11 rfl;have c12:=h1.box.c 12 rfl;have c13:=h1.box.c 13 rfl;have c14:=h1.box.c 14 rfl
  obtain ⟨d0, d1, d2, d3, d4, d5⟩ := j6.six
  have e0:=j3.c 0 rfl;have e1:=j3.c 1 rfl;have e2:=j3.c 2 rfl
  refine wp_region_stab 11 [9] [Stab.is (.agg #[.int .i64 n0.id, .int .i64 n0.term, .bool n0.speaks, .slice A n0.log.length a, .int .i64 n0.acked, .int .i64 n0.next]), Stab.is (.pointer (some ⟨g, 0, none⟩)), Stab.is (.pointer (some ⟨g, 0, none⟩)), Stab.is (.pointer (some ⟨g, 14, none⟩)), Stab.is (.int .i64 tu), Stab.is (.agg (acnR (goA tu)).toArray), Stab.gotn w x 0, Stab.gotn w x 0, Stab.nod w x, Stab.is (.int .i64 0), Stab.box W1.heap.size [.int .i64 0, .int .i64 0, .bool false, .slice none 0 0, .int .i64 0, .int .i64 0] 24] (fun u => by (simp only [putAll, List.take_succ_cons, List.take_zero, Act.put, Nat.zero_add, Nat.reduceAdd]); (try simp only [List.setIfInBounds_toArray]); (repeat (first | simp only [List.set_cons_succ] | simp only [List.set_cons_zero])); exact rfl) (by kernel_rfl) (by kernel_rfl) (fun _ _ _ _ _ h => h) ?_ ?_
  · refine ⟨?_, ?_, ?_, ?_, ?_, ?_, ?_, ?_, ?_, ?_, ?_, trivial⟩
    · (show SlotA _ _ _ _ _ _ _); intro u w1 hx1 hd; obtain ⟨y9, rfl⟩ := hx1.get; clear hx1
      refine slot_run rfl rfl rfl ?_; intro K9 hK
      go_simp; exact hK _ _ rfl (ex) rfl
    · (show SlotA _ _ _ _ _ _ _); intro u w1 hx1 hd; obtain ⟨y9, rfl⟩ := hx1.get; clear hx1
      refine slot_run rfl rfl rfl ?_; intro K9 hK
      go_simp; exact hK _ _ rfl (ex) rfl
    · (show SlotA _ _ _ _ _ _ _); intro u w1 hx1 hd; obtain ⟨y9, rfl⟩ := hx1.get; clear hx1
      have e1 : u 1 = .pointer (some ⟨g, 0, none⟩) := hd 1 (by kernel_rfl)
      simp only [e1]
      refine slot_run rfl rfl rfl ?_; intro K9 hK
      go_simp; exact hK _ _ rfl (ex) rfl
    · (show SlotA _ _ _ _ _ _ _); intro u w1 hx1 hd; obtain ⟨y9, rfl⟩ := hx1.get; clear hx1
      have e2 : u 2 = .pointer (some ⟨g, 0, none⟩) := hd 2 (by kernel_rfl)
      simp only [e2]
      refine slot_run rfl rfl rfl ?_; intro K9 hK
      go_simp; exact hK _ _ rfl (ex) rfl
    · (show SlotA _ _ _ _ _ _ _); intro u w1 hx1 hd; obtain ⟨y9, rfl⟩ := hx1.get; clear hx1
      have e3 : u 3 = .pointer (some ⟨g, 14, none⟩) := hd 3 (by kernel_rfl)
      simp only [e3]
      refine slot_run rfl rfl rfl ?_; intro K9 hK
      go_simp; exact hK _ _ rfl (ex) rfl
    · (show SlotA _ _ _ _ _ _ _); intro u w1 hx1 hd; obtain ⟨y9, rfl⟩ := hx1.get; clear hx1
      have e4 : u 4 = .int .i64 tu := hd 4 (by kernel_rfl)
      simp only [e4]
      refine slot_run rfl rfl rfl ?_; intro K9 hK
      go_simp; go_at_call 57; refine (l54_Go _ _).mono ?_; rintro e w' ⟨rfl, hx⟩; exact hK _ _ rfl hx rfl
    · (show SlotA _ _ _ _ _ _ _); intro u w1 hx1 hd; obtain ⟨y9, rfl⟩ := hx1.get; clear hx1
      have e0 : u 0 = .agg #[.int .i64 n0.id, .int .i64 n0.term, .bool n0.speaks, .slice A n0.log.length a, .int .i64 n0.acked, .int .i64 n0.next] := hd 0 (by kernel_rfl)
      have e5 : u 5 = .agg (acnR (goA tu)).toArray := hd 5 (by kernel_rfl)
      simp only [e0, e5]
      refine slot_run rfl rfl rfl ?_; intro K9 hK
      go_simp; go_at_call 99; refine (HA.out _ (h1.q0.recs h1.ext (ex))).mono ?_; rintro e w' ⟨D, K, rfl, hx, hl⟩; exact hK _ _ rfl hx ⟨D, K, rfl, hl⟩
    · (show SlotA _ _ _ _ _ _ _); intro u w1 hx1 hd; obtain ⟨y9, rfl⟩ := hx1.get; clear hx1
      obtain ⟨D6, K6, e6, h6⟩ := hd 6 (by kernel_rfl)
      simp only [e6]
      refine slot_run rfl rfl rfl ?_; intro K9 hK
      go_simp; exact hK _ _ rfl (ex) ⟨D6, K6, rfl, h6⟩
    · (show SlotA _ _ _ _ _ _ _); intro u w1 hx1 hd; obtain ⟨y9, rfl⟩ := hx1.get; clear hx1
      obtain ⟨D6, K6, e7, h6⟩ := hd 7 (by kernel_rfl)
      simp only [e7]
      refine slot_run rfl rfl rfl ?_; intro K9 hK
      go_simp; exact hK _ _ rfl (ex) ⟨D6, K6, rfl, h6⟩
    · (show PureA _ _ _ _ _ _); intro u w1 hx1 hd; obtain ⟨y9, rfl⟩ := hx1.get; clear hx1
      obtain ⟨D6, K6, e7, h6⟩ := hd 7 (by kernel_rfl)
      simp only [e7]
      refine pure_run (v := .int .i64 0) rfl rfl (fun w9 => ?_) rfl
      go_simp
    · (show SlotA _ _ _ _ _ _ _); intro u w1 hx1 hd; obtain ⟨y9, rfl⟩ := hx1.get; clear hx1
      refine slot_run rfl rfl rfl ?_; intro K9 hK
      go_simp; exact hK _ _ rfl (ex) ⟨_, rfl, (by first | exact Nat.le_refl _ | omega | (simp [go_sem]; done) | (simp [go_sem]; omega)), BoxAt.new (by first | rfl | simp [go_sem]) _ _⟩
  · intro u w2 hx2 hT; obtain ⟨t0, t1, t2, t3, t4, t5, t6, t7, t8, t9, t10, -⟩ := hT; obtain ⟨y9, rfl⟩ := hx2.get; clear hx2
    obtain ⟨D8, K8, e8, h8⟩ := t8
    have e9 : u 9 = .int .i64 0 := t9
    obtain ⟨g10, e10, hg10, b10⟩ := t10
    simp only [e8, e9, e10]
    clear e8 e9 e10 t0 t1 t2 t3 t4 t5 t6 t7 t9
    simp only [List.drop_succ_cons, List.drop_zero]
    have hxx : Ext W1 (xt W1.drew y9) := ex
    have j10 : (W1.heap.size) ≤ g10 := hg10
    go_wp2_with (refine wpList_store_at rfl 24 (.tmp 10) (.tmp 78) rfl b10 rfl [.int .i64 x.id, .int .i64 x.term, .bool x.speaks, .slice D8 x.log.length K8, .int .i64 x.acked, .int .i64 x.next] rfl rfl (show 6 < 44 by decide) (by kernel_rfl) (nodl_one x D8 K8) ?_; intro W2 ht2 hb2)
    have hg1 : g < W1.heap.size := h1.box.lt
    have hq3 := j3.lt
    have hq6 := j6.lt
    have i3 := (j3.mono hxx).turn ht2 (by omega)
    have i6 := (j6.mono hxx).turn ht2 (by omega)
    have m8 := h8.turn ht2
    have x2 : Ext W1 W2 := ht2.ext hxx (by omega)
    have h2 := h1.mono x2
    have s2 : StayC W W2 := s1.ext x2
    clear ht2 c0 c1 c2 c3 c4 c5 c6 c7 c8 c9 c10 c11 c12 c13 c14 d0 d1 d2 d3 d4 d5 e0 e1 e2 hxx
    have c0:=h2.box.c 0 rfl;have c1:=h2.box.c 1 rfl;have c2:=h2.box.c 2 rfl;have c3:=h2.box.c 3 rfl;have c4:=h2.box.c 4 rfl;have c5:=h2.box.c 5 rfl;have c6:=h2.box.c 6 rfl;have c7:=h2.box.c 7 rfl;have c8:=h2.box.c 8 rfl;have c9:=h2.box.c 9 rfl;have c10:=h2.box.c 10 rfl;have c11:=h2.box.c 11 rfl;have c12:=h2.box.c 12 rfl;have c13:=h2.box.c 13 rfl;have c14:=h2.box.c 14 rfl
    obtain ⟨d0, d1, d2, d3, d4, d5⟩ := hb2.six
    go_wp2_with fail
    (refine wp_region_tail 6 (by kernel_rfl) (by kernel_rfl) ?_; simp only [List.take_succ_cons, List.take_zero, List.drop_succ_cons, List.drop_zero]; (repeat (go_big_quiet_step (fail))); refine wpQuiet_nil ?_; rintro _ ⟨y, rfl⟩)
    refine wpList_store_part rfl 24 (.tmp 87) (.tmp 84) rfl (h2.box.mono (ex)) 0 rfl [.int .i64 x.id, .int .i64 x.term, .bool x.speaks, .slice D8 x.log.length K8, .int .i64 x.acked, .int .i64 x.next] rfl (show 6 ≤ 15 by decide) (show 15 < 44 by decide) (by kernel_rfl) (nodl_one x D8 K8) [.int .i64 x.id, .int .i64 x.term, .bool x.speaks, .slice D8 x.log.length K8, .int .i64 x.acked, .int .i64 x.next, .int .i64 n1.id, .int .i64 n1.term, .bool n1.speaks, .slice B n1.log.length b, .int .i64 n1.acked, .int .i64 n1.next, .slice M l0.length m, .slice N l1.length n, .int .i64 tu] rfl ?_; intro W5 ht5 hb5
    go_wp2
    go_ret
    exact ⟨rfl, (s2.ext (by exact ex)).trans ((h2.mono (by exact ex)).stay ht5), _, _, _, _, _, _, _, _, _, _, CaseAt.put0 (h2.mono (by exact ex)) ht5 (m8.mono (by exact ex)) hb5⟩
set_option maxHeartbeats 6400000 in
set_option maxRecDepth 100000 in
theorem top_act0_no (h : CaseAt w W g n0 n1 l0 l1 t A a B b M m xs N n ys) (hn : NodOk n0) (hk0 : 0 ≤ kd) (hk1 : kd ≤ 255) (hi0 : 0 ≤ nd) (hi1 : nd ≤ 255) (hp0 : 0 ≤ pk) (hp1 : pk ≤ 255) (hk : kd % 4 = 1) (hi : nd % 2 = 0) {tu : Int} (hu : t + pk = tu) (ht0 : 0 ≤ t) (ht1 : t ≤ 10000000) {x : Nod} {er : Int} (hv : actV n0 (goA tu) = (x, er)) (her : er ≠ 0) (hsp : n0.speaks = false) :
    Calls Tryz.prog 49 #[.pointer (some ⟨g, 0, none⟩), .agg #[.int .u8 kd, .int .u8 nd, .int .u8 pk]] W (StepD w W g n0 n1 l0 l1 tu) := by
  have HC := Lib.hid h
  have HN := Lib.hid hn
  have hl0 := (h.q0.recs h.ext (Ext.refl W)).len
  have hl1 := (h.q1.recs h.ext (Ext.refl W)).len
  have htn0 := hn.t0
  have htn1 := hn.t1
  have hd1 := hn.id1
  have hd2 := hn.id2
  have hw1 : IntKind.i64.wrap nd = nd := IntWalk.i64_in _ (by omega)
  have hw2 : IntKind.i64.wrap pk = pk := IntWalk.i64_in _ (by omega)
  have hw3 : IntKind.i64.wrap 1 = 1 := rfl
  have hw4 : IntKind.i64.wrap 0 = 0 := rfl
  have HA := Lib.hid (fun (V : World) (hr : RecsAt V A a n0.log) => (rep_Act n0 A a (goA tu) V hr (mkA_at _ _ _ _ _)).mono fun _ _ q => RetNod.parts q hv (w0 := w) (by have := actV_log (R := fun r => AcnAt w r.act) n0 (goA tu) h.q0.el (mkA_at _ _ _ _ _); rwa [hv] at this))
  clear hv
  have HSP := Lib.hid hsp
  clear hsp
  have c0:=h.box.c 0 rfl;have c1:=h.box.c 1 rfl;have c2:=h.box.c 2 rfl;have c3:=h.box.c 3 rfl;have c4:=h.box.c 4 rfl;have c5:=h.box.c 5 rfl;have c6:=h.box.c 6 rfl;have c7:=h.box.c 7 rfl;have c8:=h.box.c 8 rfl;have c9:=h.box.c 9 rfl;have c10:=h.box.c 10 rfl;have c11:=h.box.c 11 rfl;have c12:=h.box.c 12 rfl;have c13:=h.box.c 13 rfl;have c14:=h.box.c 14 rfl
  clear h hn
  have hwu : IntKind.i64.wrap (t + pk) = t + pk := IntWalk.i64_in _ (by omega)
  have HU := Lib.hid hu
  clear hu
  have hz : (er == 0) = false := by simpa using her
  clear her
  go_enter Tryz.func49, Tryz.ntmps49
  go_wp2_with fail
  (try simp only [hk, hi])
  clear hk hi
  refine wp_name (fun W9 hW9 => ?_)
  have k3 : BoxAt W9 W.heap.size [.int .u8 kd, .int .u8 nd, .int .u8 pk] 121 := by rw [hW9]; exact (by repeat (first | exact BoxAt.new (by first | rfl | (simp [go_sem]; done) | (simp [go_sem]; omega)) _ _ | apply BoxAt.xt | apply BoxAt.drew | apply BoxAt.drewN | apply BoxAt.alloc))
  have k6 : BoxAt W9 (W.heap.size + 1) [.int .i64 n0.id, .int .i64 n0.term, .bool n0.speaks, .slice A n0.log.length a, .int .i64 n0.acked, .int .i64 n0.next] 24 := by rw [hW9]; exact (by repeat (first | exact BoxAt.new (by first | rfl | (simp [go_sem]; done) | (simp [go_sem]; omega)) _ _ | apply BoxAt.xt | apply BoxAt.drew | apply BoxAt.drewN | apply BoxAt.alloc))
  have h9 : CaseAt w W9 g n0 n1 l0 l1 t A a B b M m xs N n ys := by rw [hW9]; exact HC.out.mono (ex)
  have s9 : StayC W W9 := by rw [hW9]; exact Ext.stay (ex)
  have hgl : g < W.heap.size := HC.out.box.lt
  have hs9 : W.heap.size + 2 ≤ W9.heap.size := by rw [hW9]; simp [go_sem]
  clear hW9 c0 c1 c2 c3 c4 c5 c6 c7 c8 c9 c10 c11 c12 c13 c14
  have c0:=h9.box.c 0 rfl;have c1:=h9.box.c 1 rfl;have c2:=h9.box.c 2 rfl;have c3:=h9.box.c 3 rfl;have c4:=h9.box.c 4 rfl;have c5:=h9.box.c 5 rfl;have c6:=h9.box.c 6 rfl;have c7:=h9.box.c 7 rfl;have c8:=h9.box.c 8 rfl;have c9:=h9.box.c 9 rfl;have c10:=h9.box.c 10 rfl;have c11:=h9.box.c 11 rfl;have c12:=h9.box.c 12 rfl;have c13:=h9.box.c 13 rfl;have c14:=h9.box.c 14 rfl
  obtain ⟨d0, d1, d2, d3, d4, d5⟩ := k6.six
  have e0:=k3.c 0 rfl;have e1:=k3.c 1 rfl;have e2:=k3.c 2 rfl
  (refine wp_region_tail 10 (by kernel_rfl) (by kernel_rfl) ?_; simp only [List.take_succ_cons, List.take_zero, List.drop_succ_cons, List.drop_zero]; (repeat (go_big_quiet_step (fail))); refine wpQuiet_nil ?_; rintro _ ⟨y, rfl⟩)
  refine wpList_store_cell rfl 3 (.tmp 69) (.tmp 67) rfl (h9.box.mono (ex)) 14 rfl (.int .i64 tu) (by rw [← HU.out]; rfl) (show 14 < 15 by decide) (show 15 < 44 by decide) (by kernel_rfl) rfl [.int .i64 n0.id, .int .i64 n0.term, .bool n0.speaks, .slice A n0.log.length a, .int .i64 n0.acked, .int .i64 n0.next, .int .i64 n1.id, .int .i64 n1.term, .bool n1.speaks, .slice B n1.log.length b, .int .i64 n1.acked, .int .i64 n1.next, .slice M l0.length m, .slice N l1.length n, .int .i64 tu] rfl ?_; intro W1 ht1 hb1
  have j3 := (k3.mono (ex)).turn ht1 (by omega)
  have j6 := (k6.mono (ex)).turn ht1 (by omega)
  have h1 := CaseAt.putT (h9.mono (ex)) ht1 hb1
  have s1 : StayC W W1 := (s9.ext (ex)).trans ((h9.mono (ex)).stay ht1)
  clear ht1 hb1 k3 k6 d0 d1 d2 d3 d4 d5 e0 e1 e2 c0 c1 c2 c3 c4 c5 c6 c7 c8 c9 c10 c11 c12 c13 c14
  go_wp2_with fail
  have c0:=h1.box.c 0 rfl;have c1:=h1.box.c 1 rfl;have c2:=h1.box.c 2 rfl;have c3:=h1.box.c 3 rfl;have c4:=h1.box.c 4 rfl;have c5:=h1.box.c 5 rfl;have c6:=h1.box.c 6 rfl;have c7:=h1.box.c 7 rfl;have c8:=h1.box.c 8 rfl;have c9:=h1.box.c 9 rfl;have c10:=h1.box.c 10 rfl;have c11:=h1.box.c 11 rfl;have c12:=h1.box.c 12 rfl;have c13:=h1.box.c 13 rfl;have c14:=h1.box.c 14 rfl
  obtain ⟨d0, d1, d2, d3, d4, d5⟩ := j6.six
  have e0:=j3.c 0 rfl;have e1:=j3.c 1 rfl;have e2:=j3.c 2 rfl
  refine wp_region_stab 11 [9] [Stab.is (.agg #[.int .i64 n0.id, .int .i64 n0.term, .bool n0.speaks, .slice A n0.log.length a, .int .i64 n0.acked, .int .i64 n0.next]), Stab.is (.pointer (some ⟨g, 0, none⟩)), Stab.is (.pointer (some ⟨g, 0, none⟩)), Stab.is (.pointer (some ⟨g, 14, none⟩)), Stab.is (.int .i64 tu), Stab.is (.agg (acnR (goA tu)).toArray), Stab.gotn w x er, Stab.gotn w x er, Stab.nod w x, Stab.is (.int .i64 er), Stab.box W1.heap.size [.int .i64 0, .int .i64 0, .bool false, .slice none 0 0, .int .i64 0, .int .i64 0] 24] (fun u => by (simp only [putAll, List.take_succ_cons, List.take_zero, Act.put, Nat.zero_add, Nat.reduceAdd]); (try simp only [List.setIfInBounds_toArray]); (repeat (first | simp only [List.set_cons_succ] | simp only [List.set_cons_zero])); exact rfl) (by kernel_rfl) (by kernel_rfl) (fun _ _ _ _ _ h => h) ?_ ?_
  · refine ⟨?_, ?_, ?_, ?_, ?_, ?_, ?_, ?_, ?_, ?_, ?_, trivial⟩
    · (show SlotA _ _ _ _ _ _ _); intro u w1 hx1 hd; obtain ⟨y9, rfl⟩ := hx1.get; clear hx1
      refine slot_run rfl rfl rfl ?_; intro K9 hK
      go_simp; exact hK _ _ rfl (ex) rfl
    · (show SlotA _ _ _ _ _ _ _); intro u w1 hx1 hd; obtain ⟨y9, rfl⟩ := hx1.get; clear hx1
      refine slot_run rfl rfl rfl ?_; intro K9 hK
      go_simp; exact hK _ _ rfl (ex) rfl
    · (show SlotA _ _ _ _ _ _ _); intro u w1 hx1 hd; obtain ⟨y9, rfl⟩ := hx1.get; clear hx1
      have e1 : u 1 = .pointer (some ⟨g, 0, none⟩) := hd 1 (by kernel_rfl)
      simp only [e1]
      refine slot_run rfl rfl rfl ?_; intro K9 hK
      go_simp; exact hK _ _ rfl (ex) rfl
    · (show SlotA _ _ _ _ _ _ _); intro u w1 hx1 hd; obtain ⟨y9, rfl⟩ := hx1.get; clear hx1
      have e2 : u 2 = .pointer (some ⟨g, 0, none⟩) := hd 2 (by kernel_rfl)
      simp only [e2]
      refine slot_run rfl rfl rfl ?_; intro K9 hK
      go_simp; exact hK _ _ rfl (ex) rfl
    · (show SlotA _ _ _ _ _ _ _); intro u w1 hx1 hd; obtain ⟨y9, rfl⟩ := hx1.get; clear hx1
      have e3 : u 3 = .pointer (some ⟨g, 14, none⟩) := hd 3 (by kernel_rfl)
      simp only [e3]
      refine slot_run rfl rfl rfl ?_; intro K9 hK
      go_simp; exact hK _ _ rfl (ex) rfl
    · (show SlotA _ _ _ _ _ _ _); intro u w1 hx1 hd; obtain ⟨y9, rfl⟩ := hx1.get; clear hx1
      have e4 : u 4 = .int .i64 tu := hd 4 (by kernel_rfl)
      simp only [e4]
      refine slot_run rfl rfl rfl ?_; intro K9 hK
      go_simp; go_at_call 57; refine (l54_Go _ _).mono ?_; rintro e w' ⟨rfl, hx⟩; exact hK _ _ rfl hx rfl
    · (show SlotA _ _ _ _ _ _ _); intro u w1 hx1 hd; obtain ⟨y9, rfl⟩ := hx1.get; clear hx1
      have e0 : u 0 = .agg #[.int .i64 n0.id, .int .i64 n0.term, .bool n0.speaks, .slice A n0.log.length a, .int .i64 n0.acked, .int .i64 n0.next] := hd 0 (by kernel_rfl)
      have e5 : u 5 = .agg (acnR (goA tu)).toArray := hd 5 (by kernel_rfl)
      simp only [e0, e5]
      refine slot_run rfl rfl rfl ?_; intro K9 hK
      go_simp; go_at_call 99; refine (HA.out _ (h1.q0.recs h1.ext (ex))).mono ?_; rintro e w' ⟨D, K, rfl, hx, hl⟩; exact hK _ _ rfl hx ⟨D, K, rfl, hl⟩
    · (show SlotA _ _ _ _ _ _ _); intro u w1 hx1 hd; obtain ⟨y9, rfl⟩ := hx1.get; clear hx1
      obtain ⟨D6, K6, e6, h6⟩ := hd 6 (by kernel_rfl)
      simp only [e6]
      refine slot_run rfl rfl rfl ?_; intro K9 hK
      go_simp; exact hK _ _ rfl (ex) ⟨D6, K6, rfl, h6⟩
    · (show SlotA _ _ _ _ _ _ _); intro u w1 hx1 hd; obtain ⟨y9, rfl⟩ := hx1.get; clear hx1
      obtain ⟨D6, K6, e7, h6⟩ := hd 7 (by kernel_rfl)
      simp only [e7]
      refine slot_run rfl rfl rfl ?_; intro K9 hK
      go_simp; exact hK _ _ rfl (ex) ⟨D6, K6, rfl, h6⟩
    · (show PureA _ _ _ _ _ _); intro u w1 hx1 hd; obtain ⟨y9, rfl⟩ := hx1.get; clear hx1
      obtain ⟨D6, K6, e7, h6⟩ := hd 7 (by kernel_rfl)
      simp only [e7]
      refine pure_run (v := .int .i64 er) rfl rfl (fun w9 => ?_) rfl
      go_simp
    · (show SlotA _ _ _ _ _ _ _); intro u w1 hx1 hd; obtain ⟨y9, rfl⟩ := hx1.get; clear hx1
      refine slot_run rfl rfl rfl ?_; intro K9 hK
      go_simp; exact hK _ _ rfl (ex) ⟨_, rfl, (by first | exact Nat.le_refl _ | omega | (simp [go_sem]; done) | (simp [go_sem]; omega)), BoxAt.new (by first | rfl | simp [go_sem]) _ _⟩
  · intro u w2 hx2 hT; obtain ⟨t0, t1, t2, t3, t4, t5, t6, t7, t8, t9, t10, -⟩ := hT; obtain ⟨y9, rfl⟩ := hx2.get; clear hx2
    obtain ⟨D8, K8, e8, h8⟩ := t8
    have e9 : u 9 = .int .i64 er := t9
    obtain ⟨g10, e10, hg10, b10⟩ := t10
    simp only [e8, e9, e10]
    clear e8 e9 e10 t0 t1 t2 t3 t4 t5 t6 t7 t9
    simp only [List.drop_succ_cons, List.drop_zero]
    have hxx : Ext W1 (xt W1.drew y9) := ex
    have j10 : (W1.heap.size) ≤ g10 := hg10
    have hq6 := j6.lt
    go_wp2_with (refine wpList_store_at rfl 24 (.tmp 10) (.tmp 78) rfl b10 rfl [.int .i64 x.id, .int .i64 x.term, .bool x.speaks, .slice D8 x.log.length K8, .int .i64 x.acked, .int .i64 x.next] rfl rfl (show 6 < 44 by decide) (by kernel_rfl) (nodl_one x D8 K8) ?_; intro W2 ht2 hb2; have i6 := (j6.mono hxx).turn ht2 (by omega); obtain ⟨f0, f1, f2, f3, f4, f5⟩ := i6.six; rw [HSP.out] at f2)
    go_ret
    have x2 : Ext W1 W2 := ht2.ext hxx (by omega)
    exact ⟨rfl, (s1.ext x2).ext (by exact ex), _, _, _, _, _, _, _, _, _, _, (h1.mono x2).mono (by exact ex)⟩
set_option maxHeartbeats 6400000 in
set_option maxRecDepth 100000 in
theorem top_act1_yes (h : CaseAt w W g n0 n1 l0 l1 t A a B b M m xs N n ys) (hn : NodOk n1) (hk0 : 0 ≤ kd) (hk1 : kd ≤ 255) (hi0 : 0 ≤ nd) (hi1 : nd ≤ 255) (hp0 : 0 ≤ pk) (hp1 : pk ≤ 255) (hk : kd % 4 = 1) (hi : nd % 2 = 1) {tu : Int} (hu : t + pk = tu) (ht0 : 0 ≤ t) (ht1 : t ≤ 10000000) {x : Nod} {er : Int} (hv : actV n1 (goA tu) = (x, er)) (her : er = 0) :
    Calls Tryz.prog 49 #[.pointer (some ⟨g, 0, none⟩), .agg #[.int .u8 kd, .int .u8 nd, .int .u8 pk]] W (StepD w W g n0 x l0 l1 tu) := by
  have HC := Lib.hid h
  have HN := Lib.hid hn
  have hl0 := (h.q0.recs h.ext (Ext.refl W)).len
  have hl1 := (h.q1.recs h.ext (Ext.refl W)).len
  have htn0 := hn.t0
  have htn1 := hn.t1
  have hd1 := hn.id1
  have hd2 := hn.id2
  have hw1 : IntKind.i64.wrap nd = nd := IntWalk.i64_in _ (by omega)
  have hw2 : IntKind.i64.wrap pk = pk := IntWalk.i64_in _ (by omega)
  have hw3 : IntKind.i64.wrap 1 = 1 := rfl
  have hw4 : IntKind.i64.wrap 0 = 0 := rfl
  have HA := Lib.hid (fun (V : World) (hr : RecsAt V B b n1.log) => (rep_Act n1 B b (goA tu) V hr (mkA_at _ _ _ _ _)).mono fun _ _ q => RetNod.parts q hv (w0 := w) (by have := actV_log (R := fun r => AcnAt w r.act) n1 (goA tu) h.q1.el (mkA_at _ _ _ _ _); rwa [hv] at this))
  clear hv
  have c0:=h.box.c 0 rfl;have c1:=h.box.c 1 rfl;have c2:=h.box.c 2 rfl;have c3:=h.box.c 3 rfl;have c4:=h.box.c 4 rfl;have c5:=h.box.c 5 rfl;have c6:=h.box.c 6 rfl;have c7:=h.box.c 7 rfl;have c8:=h.box.c 8 rfl;have c9:=h.box.c 9 rfl;have c10:=h.box.c 10 rfl;have c11:=h.box.c 11 rfl;have c12:=h.box.c 12 rfl;have c13:=h.box.c 13 rfl;have c14:=h.box.c 14 rfl
  clear h hn
  have hwu : IntKind.i64.wrap (t + pk) = t + pk := IntWalk.i64_in _ (by omega)
  have HU := Lib.hid hu
  clear hu
  subst her
  go_enter Tryz.func49, Tryz.ntmps49
  go_wp2_with fail
  (try simp only [hk, hi])
  clear hk hi
  refine wp_name (fun W9 hW9 => ?_)
  have k3 : BoxAt W9 W.heap.size [.int .u8 kd, .int .u8 nd, .int .u8 pk] 121 := by rw [hW9]; exact (by repeat (first | exact BoxAt.new (by first | rfl | (simp [go_sem]; done) | (simp [go_sem]; omega)) _ _ | apply BoxAt.xt | apply BoxAt.drew | apply BoxAt.drewN | apply BoxAt.alloc))
  have k6 : BoxAt W9 (W.heap.size + 1) [.int .i64 n1.id, .int .i64 n1.term, .bool n1.speaks, .slice B n1.log.length b, .int .i64 n1.acked, .int .i64 n1.next] 24 := by rw [hW9]; exact (by repeat (first | exact BoxAt.new (by first | rfl | (simp [go_sem]; done) | (simp [go_sem]; omega)) _ _ | apply BoxAt.xt | apply BoxAt.drew | apply BoxAt.drewN | apply BoxAt.alloc))
  have h9 : CaseAt w W9 g n0 n1 l0 l1 t A a B b M m xs N n ys := by rw [hW9]; exact HC.out.mono (ex)
  have s9 : StayC W W9 := by rw [hW9]; exact Ext.stay (ex)
  have hgl : g < W.heap.size := HC.out.box.lt
  have hs9 : W.heap.size + 2 ≤ W9.heap.size := by rw [hW9]; simp [go_sem]
  clear hW9 c0 c1 c2 c3 c4 c5 c6 c7 c8 c9 c10 c11 c12 c13 c14
  have c0:=h9.box.c 0 rfl;have c1:=h9.box.c 1 rfl;have c2:=h9.box.c 2 rfl;have c3:=h9.box.c 3 rfl;have c4:=h9.box.c 4 rfl;have c5:=h9.box.c 5 rfl;have c6:=h9.box.c 6 rfl;have c7:=h9.box.c 7 rfl;have c8:=h9.box.c 8 rfl;have c9:=h9.box.c 9 rfl;have c10:=h9.box.c 10 rfl;have c11:=h9.box.c 11 rfl;have c12:=h9.box.c 12 rfl;have c13:=h9.box.c 13 rfl;have c14:=h9.box.c 14 rfl
  obtain ⟨d0, d1, d2, d3, d4, d5⟩ := k6.six
  have e0:=k3.c 0 rfl;have e1:=k3.c 1 rfl;have e2:=k3.c 2 rfl
  (refine wp_region_tail 10 (by kernel_rfl) (by kernel_rfl) ?_; simp only [List.take_succ_cons, List.take_zero, List.drop_succ_cons, List.drop_zero]; (repeat (go_big_quiet_step (fail))); refine wpQuiet_nil ?_; rintro _ ⟨y, rfl⟩)
  refine wpList_store_cell rfl 3 (.tmp 69) (.tmp 67) rfl (h9.box.mono (ex)) 14 rfl (.int .i64 tu) (by rw [← HU.out]; rfl) (show 14 < 15 by decide) (show 15 < 44 by decide) (by kernel_rfl) rfl [.int .i64 n0.id, .int .i64 n0.term, .bool n0.speaks, .slice A n0.log.length a, .int .i64 n0.acked, .int .i64 n0.next, .int .i64 n1.id, .int .i64 n1.term, .bool n1.speaks, .slice B n1.log.length b, .int .i64 n1.acked, .int .i64 n1.next, .slice M l0.length m, .slice N l1.length n, .int .i64 tu] rfl ?_; intro W1 ht1 hb1
  have j3 := (k3.mono (ex)).turn ht1 (by omega)
  have j6 := (k6.mono (ex)).turn ht1 (by omega)
  have h1 := CaseAt.putT (h9.mono (ex)) ht1 hb1
  have s1 : StayC W W1 := (s9.ext (ex)).trans ((h9.mono (ex)).stay ht1)
  clear ht1 hb1 k3 k6 d0 d1 d2 d3 d4 d5 e0 e1 e2 c0 c1 c2 c3 c4 c5 c6 c7 c8 c9 c10 c11 c12 c13 c14
  go_wp2_with fail
  have c0:=h1.box.c 0 rfl;have c1:=h1.box.c 1 rfl;have c2:=h1.box.c 2 rfl;have c3:=h1.box.c 3 rfl;have c4:=h1.box.c 4 rfl;have c5:=h1.box.c 5 rfl;have c6:=h1.box.c 6 rfl;have c7:=h1.box.c 7 rfl;have c8:=h1.box.c 8 rfl;have c9:=h1.box.c 9 rfl;have c10:=h1.box.c 10 rfl;have c11:=h1.box.c 11 rfl;have c12:=h1.box.c 12 rfl;have c13:=h1.box.c 13 rfl;have c14:=h1.box.c 14 rfl
  obtain ⟨d0, d1, d2, d3, d4, d5⟩ := j6.six
  have e0:=j3.c 0 rfl;have e1:=j3.c 1 rfl;have e2:=j3.c 2 rfl
  refine wp_region_stab 11 [9] [Stab.is (.agg #[.int .i64 n1.id, .int .i64 n1.term, .bool n1.speaks, .slice B n1.log.length b, .int .i64 n1.acked, .int .i64 n1.next]), Stab.is (.pointer (some ⟨g, 0, none⟩)), Stab.is (.pointer (some ⟨g, 0, none⟩)), Stab.is (.pointer (some ⟨g, 14, none⟩)), Stab.is (.int .i64 tu), Stab.is (.agg (acnR (goA tu)).toArray), Stab.gotn w x 0, Stab.gotn w x 0, Stab.nod w x, Stab.is (.int .i64 0), Stab.box W1.heap.size [.int .i64 0, .int .i64 0, .bool false, .slice none 0 0, .int .i64 0, .int .i64 0] 24] (fun u => by (simp only [putAll, List.take_succ_cons, List.take_zero, Act.put, Nat.zero_add, Nat.reduceAdd]); (try simp only [List.setIfInBounds_toArray]); (repeat (first | simp only [List.set_cons_succ] | simp only [List.set_cons_zero])); exact rfl) (by kernel_rfl) (by kernel_rfl) (fun _ _ _ _ _ h => h) ?_ ?_
  · refine ⟨?_, ?_, ?_, ?_, ?_, ?_, ?_, ?_, ?_, ?_, ?_, trivial⟩
    · (show SlotA _ _ _ _ _ _ _); intro u w1 hx1 hd; obtain ⟨y9, rfl⟩ := hx1.get; clear hx1
      refine slot_run rfl rfl rfl ?_; intro K9 hK
      go_simp; exact hK _ _ rfl (ex) rfl
    · (show SlotA _ _ _ _ _ _ _); intro u w1 hx1 hd; obtain ⟨y9, rfl⟩ := hx1.get; clear hx1
      refine slot_run rfl rfl rfl ?_; intro K9 hK
      go_simp; exact hK _ _ rfl (ex) rfl
    · (show SlotA _ _ _ _ _ _ _); intro u w1 hx1 hd; obtain ⟨y9, rfl⟩ := hx1.get; clear hx1
      have e1 : u 1 = .pointer (some ⟨g, 0, none⟩) := hd 1 (by kernel_rfl)
      simp only [e1]
      refine slot_run rfl rfl rfl ?_; intro K9 hK
      go_simp; exact hK _ _ rfl (ex) rfl
    · (show SlotA _ _ _ _ _ _ _); intro u w1 hx1 hd; obtain ⟨y9, rfl⟩ := hx1.get; clear hx1
      have e2 : u 2 = .pointer (some ⟨g, 0, none⟩) := hd 2 (by kernel_rfl)
      simp only [e2]
      refine slot_run rfl rfl rfl ?_; intro K9 hK
      go_simp; exact hK _ _ rfl (ex) rfl
    · (show SlotA _ _ _ _ _ _ _); intro u w1 hx1 hd; obtain ⟨y9, rfl⟩ := hx1.get; clear hx1
      have e3 : u 3 = .pointer (some ⟨g, 14, none⟩) := hd 3 (by kernel_rfl)
      simp only [e3]
      refine slot_run rfl rfl rfl ?_; intro K9 hK
      go_simp; exact hK _ _ rfl (ex) rfl
    · (show SlotA _ _ _ _ _ _ _); intro u w1 hx1 hd; obtain ⟨y9, rfl⟩ := hx1.get; clear hx1
      have e4 : u 4 = .int .i64 tu := hd 4 (by kernel_rfl)
      simp only [e4]
      refine slot_run rfl rfl rfl ?_; intro K9 hK
      go_simp; go_at_call 57; refine (l54_Go _ _).mono ?_; rintro e w' ⟨rfl, hx⟩; exact hK _ _ rfl hx rfl
    · (show SlotA _ _ _ _ _ _ _); intro u w1 hx1 hd; obtain ⟨y9, rfl⟩ := hx1.get; clear hx1
      have e0 : u 0 = .agg #[.int .i64 n1.id, .int .i64 n1.term, .bool n1.speaks, .slice B n1.log.length b, .int .i64 n1.acked, .int .i64 n1.next] := hd 0 (by kernel_rfl)
      have e5 : u 5 = .agg (acnR (goA tu)).toArray := hd 5 (by kernel_rfl)
      simp only [e0, e5]
      refine slot_run rfl rfl rfl ?_; intro K9 hK
      go_simp; go_at_call 99; refine (HA.out _ (h1.q1.recs h1.ext (ex))).mono ?_; rintro e w' ⟨D, K, rfl, hx, hl⟩; exact hK _ _ rfl hx ⟨D, K, rfl, hl⟩
    · (show SlotA _ _ _ _ _ _ _); intro u w1 hx1 hd; obtain ⟨y9, rfl⟩ := hx1.get; clear hx1
      obtain ⟨D6, K6, e6, h6⟩ := hd 6 (by kernel_rfl)
      simp only [e6]
      refine slot_run rfl rfl rfl ?_; intro K9 hK
      go_simp; exact hK _ _ rfl (ex) ⟨D6, K6, rfl, h6⟩
    · (show SlotA _ _ _ _ _ _ _); intro u w1 hx1 hd; obtain ⟨y9, rfl⟩ := hx1.get; clear hx1
      obtain ⟨D6, K6, e7, h6⟩ := hd 7 (by kernel_rfl)
      simp only [e7]
      refine slot_run rfl rfl rfl ?_; intro K9 hK
      go_simp; exact hK _ _ rfl (ex) ⟨D6, K6, rfl, h6⟩
    · (show PureA _ _ _ _ _ _); intro u w1 hx1 hd; obtain ⟨y9, rfl⟩ := hx1.get; clear hx1
      obtain ⟨D6, K6, e7, h6⟩ := hd 7 (by kernel_rfl)
      simp only [e7]
      refine pure_run (v := .int .i64 0) rfl rfl (fun w9 => ?_) rfl
      go_simp
    · (show SlotA _ _ _ _ _ _ _); intro u w1 hx1 hd; obtain ⟨y9, rfl⟩ := hx1.get; clear hx1
      refine slot_run rfl rfl rfl ?_; intro K9 hK
      go_simp; exact hK _ _ rfl (ex) ⟨_, rfl, (by first | exact Nat.le_refl _ | omega | (simp [go_sem]; done) | (simp [go_sem]; omega)), BoxAt.new (by first | rfl | simp [go_sem]) _ _⟩
  · intro u w2 hx2 hT; obtain ⟨t0, t1, t2, t3, t4, t5, t6, t7, t8, t9, t10, -⟩ := hT; obtain ⟨y9, rfl⟩ := hx2.get; clear hx2
    obtain ⟨D8, K8, e8, h8⟩ := t8
    have e9 : u 9 = .int .i64 0 := t9
    obtain ⟨g10, e10, hg10, b10⟩ := t10
    simp only [e8, e9, e10]
    clear e8 e9 e10 t0 t1 t2 t3 t4 t5 t6 t7 t9
    simp only [List.drop_succ_cons, List.drop_zero]
    have hxx : Ext W1 (xt W1.drew y9) := ex
    have j10 : (W1.heap.size) ≤ g10 := hg10
    go_wp2_with (refine wpList_store_at rfl 24 (.tmp 10) (.tmp 78) rfl b10 rfl [.int .i64 x.id, .int .i64 x.term, .bool x.speaks, .slice D8 x.log.length K8, .int .i64 x.acked, .int .i64 x.next] rfl rfl (show 6 < 44 by decide) (by kernel_rfl) (nodl_one x D8 K8) ?_; intro W2 ht2 hb2)
    have hg1 : g < W1.heap.size := h1.box.lt
    have hq3 := j3.lt
    have hq6 := j6.lt
    have i3 := (j3.mono hxx).turn ht2 (by omega)
    have i6 := (j6.mono hxx).turn ht2 (by omega)
    have m8 := h8.turn ht2
    have x2 : Ext W1 W2 := ht2.ext hxx (by omega)
    have h2 := h1.mono x2
    have s2 : StayC W W2 := s1.ext x2
    clear ht2 c0 c1 c2 c3 c4 c5 c6 c7 c8 c9 c10 c11 c12 c13 c14 d0 d1 d2 d3 d4 d5 e0 e1 e2 hxx
    have c0:=h2.box.c 0 rfl;have c1:=h2.box.c 1 rfl;have c2:=h2.box.c 2 rfl;have c3:=h2.box.c 3 rfl;have c4:=h2.box.c 4 rfl;have c5:=h2.box.c 5 rfl;have c6:=h2.box.c 6 rfl;have c7:=h2.box.c 7 rfl;have c8:=h2.box.c 8 rfl;have c9:=h2.box.c 9 rfl;have c10:=h2.box.c 10 rfl;have c11:=h2.box.c 11 rfl;have c12:=h2.box.c 12 rfl;have c13:=h2.box.c 13 rfl;have c14:=h2.box.c 14 rfl
    obtain ⟨d0, d1, d2, d3, d4, d5⟩ := hb2.six
    go_wp2_with fail
    (refine wp_region_tail 6 (by kernel_rfl) (by kernel_rfl) ?_; simp only [List.take_succ_cons, List.take_zero, List.drop_succ_cons, List.drop_zero]; (repeat (go_big_quiet_step (fail))); refine wpQuiet_nil ?_; rintro _ ⟨y, rfl⟩)
    refine wpList_store_part rfl 24 (.tmp 87) (.tmp 84) rfl (h2.box.mono (ex)) 6 rfl [.int .i64 x.id, .int .i64 x.term, .bool x.speaks, .slice D8 x.log.length K8, .int .i64 x.acked, .int .i64 x.next] rfl (show 12 ≤ 15 by decide) (show 15 < 44 by decide) (by kernel_rfl) (nodl_one x D8 K8) [.int .i64 n0.id, .int .i64 n0.term, .bool n0.speaks, .slice A n0.log.length a, .int .i64 n0.acked, .int .i64 n0.next, .int .i64 x.id, .int .i64 x.term, .bool x.speaks, .slice D8 x.log.length K8, .int .i64 x.acked, .int .i64 x.next, .slice M l0.length m, .slice N l1.length n, .int .i64 tu] rfl ?_; intro W5 ht5 hb5
    go_wp2
    go_ret
    exact ⟨rfl, (s2.ext (by exact ex)).trans ((h2.mono (by exact ex)).stay ht5), _, _, _, _, _, _, _, _, _, _, CaseAt.put1 (h2.mono (by exact ex)) ht5 (m8.mono (by exact ex)) hb5⟩
set_option maxHeartbeats 6400000 in
set_option maxRecDepth 100000 in
theorem top_act1_no (h : CaseAt w W g n0 n1 l0 l1 t A a B b M m xs N n ys) (hn : NodOk n1) (hk0 : 0 ≤ kd) (hk1 : kd ≤ 255) (hi0 : 0 ≤ nd) (hi1 : nd ≤ 255) (hp0 : 0 ≤ pk) (hp1 : pk ≤ 255) (hk : kd % 4 = 1) (hi : nd % 2 = 1) {tu : Int} (hu : t + pk = tu) (ht0 : 0 ≤ t) (ht1 : t ≤ 10000000) {x : Nod} {er : Int} (hv : actV n1 (goA tu) = (x, er)) (her : er ≠ 0) (hsp : n1.speaks = false) :
    Calls Tryz.prog 49 #[.pointer (some ⟨g, 0, none⟩), .agg #[.int .u8 kd, .int .u8 nd, .int .u8 pk]] W (StepD w W g n0 n1 l0 l1 tu) := by
  have HC := Lib.hid h
  have HN := Lib.hid hn
  have hl0 := (h.q0.recs h.ext (Ext.refl W)).len
  have hl1 := (h.q1.recs h.ext (Ext.refl W)).len
  have htn0 := hn.t0
  have htn1 := hn.t1
  have hd1 := hn.id1
  have hd2 := hn.id2
  have hw1 : IntKind.i64.wrap nd = nd := IntWalk.i64_in _ (by omega)
  have hw2 : IntKind.i64.wrap pk = pk := IntWalk.i64_in _ (by omega)
  have hw3 : IntKind.i64.wrap 1 = 1 := rfl
  have hw4 : IntKind.i64.wrap 0 = 0 := rfl
  have HA := Lib.hid (fun (V : World) (hr : RecsAt V B b n1.log) => (rep_Act n1 B b (goA tu) V hr (mkA_at _ _ _ _ _)).mono fun _ _ q => RetNod.parts q hv (w0 := w) (by have := actV_log (R := fun r => AcnAt w r.act) n1 (goA tu) h.q1.el (mkA_at _ _ _ _ _); rwa [hv] at this))
  clear hv
  have HSP := Lib.hid hsp
  clear hsp
  have c0:=h.box.c 0 rfl;have c1:=h.box.c 1 rfl;have c2:=h.box.c 2 rfl;have c3:=h.box.c 3 rfl;have c4:=h.box.c 4 rfl;have c5:=h.box.c 5 rfl;have c6:=h.box.c 6 rfl;have c7:=h.box.c 7 rfl;have c8:=h.box.c 8 rfl;have c9:=h.box.c 9 rfl;have c10:=h.box.c 10 rfl;have c11:=h.box.c 11 rfl;have c12:=h.box.c 12 rfl;have c13:=h.box.c 13 rfl;have c14:=h.box.c 14 rfl
  clear h hn
  have hwu : IntKind.i64.wrap (t + pk) = t + pk := IntWalk.i64_in _ (by omega)
  have HU := Lib.hid hu
  clear hu
  have hz : (er == 0) = false := by simpa using her
  clear her
  go_enter Tryz.func49, Tryz.ntmps49
  go_wp2_with fail
  (try simp only [hk, hi])
  clear hk hi
  refine wp_name (fun W9 hW9 => ?_)
  have k3 : BoxAt W9 W.heap.size [.int .u8 kd, .int .u8 nd, .int .u8 pk] 121 := by rw [hW9]; exact (by repeat (first | exact BoxAt.new (by first | rfl | (simp [go_sem]; done) | (simp [go_sem]; omega)) _ _ | apply BoxAt.xt | apply BoxAt.drew | apply BoxAt.drewN | apply BoxAt.alloc))
  have k6 : BoxAt W9 (W.heap.size + 1) [.int .i64 n1.id, .int .i64 n1.term, .bool n1.speaks, .slice B n1.log.length b, .int .i64 n1.acked, .int .i64 n1.next] 24 := by rw [hW9]; exact (by repeat (first | exact BoxAt.new (by first | rfl | (simp [go_sem]; done) | (simp [go_sem]; omega)) _ _ | apply BoxAt.xt | apply BoxAt.drew | apply BoxAt.drewN | apply BoxAt.alloc))
  have h9 : CaseAt w W9 g n0 n1 l0 l1 t A a B b M m xs N n ys := by rw [hW9]; exact HC.out.mono (ex)
  have s9 : StayC W W9 := by rw [hW9]; exact Ext.stay (ex)
  have hgl : g < W.heap.size := HC.out.box.lt
  have hs9 : W.heap.size + 2 ≤ W9.heap.size := by rw [hW9]; simp [go_sem]
  clear hW9 c0 c1 c2 c3 c4 c5 c6 c7 c8 c9 c10 c11 c12 c13 c14
  have c0:=h9.box.c 0 rfl;have c1:=h9.box.c 1 rfl;have c2:=h9.box.c 2 rfl;have c3:=h9.box.c 3 rfl;have c4:=h9.box.c 4 rfl;have c5:=h9.box.c 5 rfl;have c6:=h9.box.c 6 rfl;have c7:=h9.box.c 7 rfl;have c8:=h9.box.c 8 rfl;have c9:=h9.box.c 9 rfl;have c10:=h9.box.c 10 rfl;have c11:=h9.box.c 11 rfl;have c12:=h9.box.c 12 rfl;have c13:=h9.box.c 13 rfl;have c14:=h9.box.c 14 rfl
  obtain ⟨d0, d1, d2, d3, d4, d5⟩ := k6.six
  have e0:=k3.c 0 rfl;have e1:=k3.c 1 rfl;have e2:=k3.c 2 rfl
  (refine wp_region_tail 10 (by kernel_rfl) (by kernel_rfl) ?_; simp only [List.take_succ_cons, List.take_zero, List.drop_succ_cons, List.drop_zero]; (repeat (go_big_quiet_step (fail))); refine wpQuiet_nil ?_; rintro _ ⟨y, rfl⟩)
  refine wpList_store_cell rfl 3 (.tmp 69) (.tmp 67) rfl (h9.box.mono (ex)) 14 rfl (.int .i64 tu) (by rw [← HU.out]; rfl) (show 14 < 15 by decide) (show 15 < 44 by decide) (by kernel_rfl) rfl [.int .i64 n0.id, .int .i64 n0.term, .bool n0.speaks, .slice A n0.log.length a, .int .i64 n0.acked, .int .i64 n0.next, .int .i64 n1.id, .int .i64 n1.term, .bool n1.speaks, .slice B n1.log.length b, .int .i64 n1.acked, .int .i64 n1.next, .slice M l0.length m, .slice N l1.length n, .int .i64 tu] rfl ?_; intro W1 ht1 hb1
  have j3 := (k3.mono (ex)).turn ht1 (by omega)
  have j6 := (k6.mono (ex)).turn ht1 (by omega)
  have h1 := CaseAt.putT (h9.mono (ex)) ht1 hb1
  have s1 : StayC W W1 := (s9.ext (ex)).trans ((h9.mono (ex)).stay ht1)
  clear ht1 hb1 k3 k6 d0 d1 d2 d3 d4 d5 e0 e1 e2 c0 c1 c2 c3 c4 c5 c6 c7 c8 c9 c10 c11 c12 c13 c14
  go_wp2_with fail
  have c0:=h1.box.c 0 rfl;have c1:=h1.box.c 1 rfl;have c2:=h1.box.c 2 rfl;have c3:=h1.box.c 3 rfl;have c4:=h1.box.c 4 rfl;have c5:=h1.box.c 5 rfl;have c6:=h1.box.c 6 rfl;have c7:=h1.box.c 7 rfl;have c8:=h1.box.c 8 rfl;have c9:=h1.box.c 9 rfl;have c10:=h1.box.c 10 rfl;have c11:=h1.box.c 11 rfl;have c12:=h1.box.c 12 rfl;have c13:=h1.box.c 13 rfl;have c14:=h1.box.c 14 rfl
  obtain ⟨d0, d1, d2, d3, d4, d5⟩ := j6.six
  have e0:=j3.c 0 rfl;have e1:=j3.c 1 rfl;have e2:=j3.c 2 rfl
  refine wp_region_stab 11 [9] [Stab.is (.agg #[.int .i64 n1.id, .int .i64 n1.term, .bool n1.speaks, .slice B n1.log.length b, .int .i64 n1.acked, .int .i64 n1.next]), Stab.is (.pointer (some ⟨g, 0, none⟩)), Stab.is (.pointer (some ⟨g, 0, none⟩)), Stab.is (.pointer (some ⟨g, 14, none⟩)), Stab.is (.int .i64 tu), Stab.is (.agg (acnR (goA tu)).toArray), Stab.gotn w x er, Stab.gotn w x er, Stab.nod w x, Stab.is (.int .i64 er), Stab.box W1.heap.size [.int .i64 0, .int .i64 0, .bool false, .slice none 0 0, .int .i64 0, .int .i64 0] 24] (fun u => by (simp only [putAll, List.take_succ_cons, List.take_zero, Act.put, Nat.zero_add, Nat.reduceAdd]); (try simp only [List.setIfInBounds_toArray]); (repeat (first | simp only [List.set_cons_succ] | simp only [List.set_cons_zero])); exact rfl) (by kernel_rfl) (by kernel_rfl) (fun _ _ _ _ _ h => h) ?_ ?_
  · refine ⟨?_, ?_, ?_, ?_, ?_, ?_, ?_, ?_, ?_, ?_, ?_, trivial⟩
    · (show SlotA _ _ _ _ _ _ _); intro u w1 hx1 hd; obtain ⟨y9, rfl⟩ := hx1.get; clear hx1
      refine slot_run rfl rfl rfl ?_; intro K9 hK
      go_simp; exact hK _ _ rfl (ex) rfl
    · (show SlotA _ _ _ _ _ _ _); intro u w1 hx1 hd; obtain ⟨y9, rfl⟩ := hx1.get; clear hx1
      refine slot_run rfl rfl rfl ?_; intro K9 hK
      go_simp; exact hK _ _ rfl (ex) rfl
    · (show SlotA _ _ _ _ _ _ _); intro u w1 hx1 hd; obtain ⟨y9, rfl⟩ := hx1.get; clear hx1
      have e1 : u 1 = .pointer (some ⟨g, 0, none⟩) := hd 1 (by kernel_rfl)
      simp only [e1]
      refine slot_run rfl rfl rfl ?_; intro K9 hK
      go_simp; exact hK _ _ rfl (ex) rfl
    · (show SlotA _ _ _ _ _ _ _); intro u w1 hx1 hd; obtain ⟨y9, rfl⟩ := hx1.get; clear hx1
      have e2 : u 2 = .pointer (some ⟨g, 0, none⟩) := hd 2 (by kernel_rfl)
      simp only [e2]
      refine slot_run rfl rfl rfl ?_; intro K9 hK
      go_simp; exact hK _ _ rfl (ex) rfl
    · (show SlotA _ _ _ _ _ _ _); intro u w1 hx1 hd; obtain ⟨y9, rfl⟩ := hx1.get; clear hx1
      have e3 : u 3 = .pointer (some ⟨g, 14, none⟩) := hd 3 (by kernel_rfl)
      simp only [e3]
      refine slot_run rfl rfl rfl ?_; intro K9 hK
      go_simp; exact hK _ _ rfl (ex) rfl
    · (show SlotA _ _ _ _ _ _ _); intro u w1 hx1 hd; obtain ⟨y9, rfl⟩ := hx1.get; clear hx1
      have e4 : u 4 = .int .i64 tu := hd 4 (by kernel_rfl)
      simp only [e4]
      refine slot_run rfl rfl rfl ?_; intro K9 hK
      go_simp; go_at_call 57; refine (l54_Go _ _).mono ?_; rintro e w' ⟨rfl, hx⟩; exact hK _ _ rfl hx rfl
    · (show SlotA _ _ _ _ _ _ _); intro u w1 hx1 hd; obtain ⟨y9, rfl⟩ := hx1.get; clear hx1
      have e0 : u 0 = .agg #[.int .i64 n1.id, .int .i64 n1.term, .bool n1.speaks, .slice B n1.log.length b, .int .i64 n1.acked, .int .i64 n1.next] := hd 0 (by kernel_rfl)
      have e5 : u 5 = .agg (acnR (goA tu)).toArray := hd 5 (by kernel_rfl)
      simp only [e0, e5]
      refine slot_run rfl rfl rfl ?_; intro K9 hK
      go_simp; go_at_call 99; refine (HA.out _ (h1.q1.recs h1.ext (ex))).mono ?_; rintro e w' ⟨D, K, rfl, hx, hl⟩; exact hK _ _ rfl hx ⟨D, K, rfl, hl⟩
    · (show SlotA _ _ _ _ _ _ _); intro u w1 hx1 hd; obtain ⟨y9, rfl⟩ := hx1.get; clear hx1
      obtain ⟨D6, K6, e6, h6⟩ := hd 6 (by kernel_rfl)
      simp only [e6]
      refine slot_run rfl rfl rfl ?_; intro K9 hK
      go_simp; exact hK _ _ rfl (ex) ⟨D6, K6, rfl, h6⟩
    · (show SlotA _ _ _ _ _ _ _); intro u w1 hx1 hd; obtain ⟨y9, rfl⟩ := hx1.get; clear hx1
      obtain ⟨D6, K6, e7, h6⟩ := hd 7 (by kernel_rfl)
      simp only [e7]
      refine slot_run rfl rfl rfl ?_; intro K9 hK
      go_simp; exact hK _ _ rfl (ex) ⟨D6, K6, rfl, h6⟩
    · (show PureA _ _ _ _ _ _); intro u w1 hx1 hd; obtain ⟨y9, rfl⟩ := hx1.get; clear hx1
      obtain ⟨D6, K6, e7, h6⟩ := hd 7 (by kernel_rfl)
      simp only [e7]
      refine pure_run (v := .int .i64 er) rfl rfl (fun w9 => ?_) rfl
      go_simp
    · (show SlotA _ _ _ _ _ _ _); intro u w1 hx1 hd; obtain ⟨y9, rfl⟩ := hx1.get; clear hx1
      refine slot_run rfl rfl rfl ?_; intro K9 hK
      go_simp; exact hK _ _ rfl (ex) ⟨_, rfl, (by first | exact Nat.le_refl _ | omega | (simp [go_sem]; done) | (simp [go_sem]; omega)), BoxAt.new (by first | rfl | simp [go_sem]) _ _⟩
  · intro u w2 hx2 hT; obtain ⟨t0, t1, t2, t3, t4, t5, t6, t7, t8, t9, t10, -⟩ := hT; obtain ⟨y9, rfl⟩ := hx2.get; clear hx2
    obtain ⟨D8, K8, e8, h8⟩ := t8
    have e9 : u 9 = .int .i64 er := t9
    obtain ⟨g10, e10, hg10, b10⟩ := t10
    simp only [e8, e9, e10]
    clear e8 e9 e10 t0 t1 t2 t3 t4 t5 t6 t7 t9
    simp only [List.drop_succ_cons, List.drop_zero]
    have hxx : Ext W1 (xt W1.drew y9) := ex
    have j10 : (W1.heap.size) ≤ g10 := hg10
    have hq6 := j6.lt
    go_wp2_with (refine wpList_store_at rfl 24 (.tmp 10) (.tmp 78) rfl b10 rfl [.int .i64 x.id, .int .i64 x.term, .bool x.speaks, .slice D8 x.log.length K8, .int .i64 x.acked, .int .i64 x.next] rfl rfl (show 6 < 44 by decide) (by kernel_rfl) (nodl_one x D8 K8) ?_; intro W2 ht2 hb2; have i6 := (j6.mono hxx).turn ht2 (by omega); obtain ⟨f0, f1, f2, f3, f4, f5⟩ := i6.six; rw [HSP.out] at f2)
    go_ret
    have x2 : Ext W1 W2 := ht2.ext hxx (by omega)
    exact ⟨rfl, (s1.ext x2).ext (by exact ex), _, _, _, _, _, _, _, _, _, _, (h1.mono x2).mono (by exact ex)⟩
end
end Go.Proofs.YtmhinhgflehkaaaGreat

/-
  Two nodes and their mail: one sends.
-/
namespace Go.Proofs.YtmhinhgflehkaaaGreat
open Go.RowKit

section
variable {w W : World} {g : Nat} {n0 n1 : Nod} {l0 l1 : List Msg} {t : Int} {A B M N : Option Addr} {a b m n : Nat} {xs ys : List (Msg × Option Addr × Nat)} {kd nd pk : Int}
set_option maxHeartbeats 6400000 in
set_option maxRecDepth 100000 in
theorem top_send0_yes (h : CaseAt w W g n0 n1 l0 l1 t A a B b M m xs N n ys) (hn : NodOk n0) (hk0 : 0 ≤ kd) (hk1 : kd ≤ 255) (hi0 : 0 ≤ nd) (hi1 : nd ≤ 255) (hp0 : 0 ≤ pk) (hp1 : pk ≤ 255) (hk : kd % 4 = 2) (hi : nd % 2 = 0) {x : Msg} (hv : sendV n0 = (x, 0)) (hL : l1.length ≤ 1000) :
    Calls Tryz.prog 49 #[.pointer (some ⟨g, 0, none⟩), .agg #[.int .u8 kd, .int .u8 nd, .int .u8 pk]] W (StepD w W g n0 n1 l0 (l1 ++ [x]) t) := by
  have HC := Lib.hid h
  have HN := Lib.hid hn
  have hl0 := (h.q0.recs h.ext (Ext.refl W)).len
  have hl1 := (h.q1.recs h.ext (Ext.refl W)).len
  have ht0 := hn.t0
  have ht1 := hn.t1
  have hd1 := hn.id1
  have hd2 := hn.id2
  have hw1 : IntKind.i64.wrap nd = nd := IntWalk.i64_in _ (by omega)
  have hw2 : IntKind.i64.wrap pk = pk := IntWalk.i64_in _ (by omega)
  have hw3 : IntKind.i64.wrap 1 = 1 := rfl
  have hw4 : IntKind.i64.wrap 0 = 0 := rfl
  have HS := Lib.hid (fun (V : World) (hx : Ext W V) => (rep_Send n0 A a V (h.q0.recs h.ext hx)).mono fun _ _ q => RetMsgE.parts q hv)
  have HE := Lib.hid (show ∀ r ∈ x.recs, AcnAt w r.act from fun r hr => h.q0.el r (sendV_recs n0 r (by rw [hv]; exact hr)))
  clear hv
  have c0:=h.box.c 0 rfl;have c1:=h.box.c 1 rfl;have c2:=h.box.c 2 rfl;have c3:=h.box.c 3 rfl;have c4:=h.box.c 4 rfl;have c5:=h.box.c 5 rfl;have c6:=h.box.c 6 rfl;have c7:=h.box.c 7 rfl;have c8:=h.box.c 8 rfl;have c9:=h.box.c 9 rfl;have c10:=h.box.c 10 rfl;have c11:=h.box.c 11 rfl;have c12:=h.box.c 12 rfl;have c13:=h.box.c 13 rfl;have c14:=h.box.c 14 rfl
  clear h hn
  go_enter Tryz.func49, Tryz.ntmps49
  go_wp2_with (go_at_call 101; refine (HS.out _ (ex)).mono ?_; rintro e w' ⟨D, K, rfl, hx, hl⟩; have HLa := Lib.hid hl; obtain ⟨ye, rfl⟩ := hx.get; clear hx hl)
  refine wp_name (fun W9 hW9 => ?_)
  have k12 : BoxAt W9 (W.heap.size + 1 + 1 + ye.n) [.int .i64 x.kind, .int .i64 x.term, .int .i64 x.at_, .int .i64 x.before, .slice D x.recs.length K, .int .i64 x.acked] 143 := by rw [hW9]; exact (by repeat (first | exact BoxAt.new (by first | rfl | (simp [go_sem]; done) | (simp [go_sem]; omega)) _ _ | apply BoxAt.xt | apply BoxAt.drew | apply BoxAt.drewN | apply BoxAt.alloc))
  have h9 : CaseAt w W9 g n0 n1 l0 l1 t A a B b M m xs N n ys := by rw [hW9]; exact HC.out.mono (ex)
  have s9 : StayC W W9 := by rw [hW9]; exact Ext.stay (ex)
  have l9 : LogW w W9 D x.recs.length K x.recs := by rw [hW9]; exact (HLa.out.mono (ex)).logw HE.out
  clear hW9 c0 c1 c2 c3 c4 c5 c6 c7 c8 c9 c10 c11 c12 c13 c14 HLa
  refine wp_region_L (S := SS 16 11 (fun w9 => BoxAt w9 g [.int .i64 n0.id, .int .i64 n0.term, .bool n0.speaks, .slice A n0.log.length a, .int .i64 n0.acked, .int .i64 n0.next, .int .i64 n1.id, .int .i64 n1.term, .bool n1.speaks, .slice B n1.log.length b, .int .i64 n1.acked, .int .i64 n1.next, .slice M l0.length m, .slice N l1.length n, .int .i64 t] 117) (fun w9 => BoxAt w9 (W.heap.size + 1 + 1 + ye.n) [.int .i64 x.kind, .int .i64 x.term, .int .i64 x.at_, .int .i64 x.before, .slice D x.recs.length K, .int .i64 x.acked] 143) (fun _ => True)) (by kernel_rfl) ⟨fun _ => h9.box.mono (ex), fun _ => k12.mono (ex), trivial⟩ (fun hcl hS => ?_)
  refine wpAnyL_take (i := 0) (T := (fun _ => True)) (v := ?_) rfl (by kernel_rfl) (by kernel_rfl) (by kernel_rfl) (fun _ _ _ h => h) (fun _ _ _ _ _ => trivial) (SS.up (by decide) (by decide)) (SS.down (by decide) (by decide)) (Or.inl ⟨by rfl, ?_⟩) hcl hS ?_
  rotate_left
  · (intro w9 hw9; (try dsimp only at hw9); go_simp; try with_reducible rfl)
  clear hcl hS
  intro hcl hS
  (try simp only [Act.put]); (try simp only [List.setIfInBounds_toArray]); (repeat (first | simp only [List.set_cons_succ] | simp only [List.set_cons_zero]))
  refine wpAnyL_take (i := 1) (T := (fun _ => True)) (v := ?_) rfl (by kernel_rfl) (by kernel_rfl) (by kernel_rfl) (fun _ _ _ h => h) (fun _ _ _ _ _ => trivial) (SS.up (by decide) (by decide)) (SS.down (by decide) (by decide)) (Or.inl ⟨by rfl, ?_⟩) hcl hS ?_
  rotate_left
  · (intro w9 hw9; (try dsimp only at hw9); go_simp; try with_reducible rfl)
  clear hcl hS
  intro hcl hS
  (try simp only [Act.put]); (try simp only [List.setIfInBounds_toArray]); (repeat (first | simp only [List.set_cons_succ] | simp only [List.set_cons_zero]))
  refine wpAnyL_take (i := 2) (T := (fun _ => True)) (v := ?_) rfl (by kernel_rfl) (by kernel_rfl) (by kernel_rfl) (fun _ _ _ h => h) (fun _ _ _ _ _ => trivial) (SS.up (by decide) (by decide)) (SS.down (by decide) (by decide)) (Or.inl ⟨by rfl, ?_⟩) hcl hS ?_
  rotate_left
  · (intro w9 hw9; (try dsimp only at hw9); go_simp; try with_reducible rfl)
  clear hcl hS
  intro hcl hS
  (try simp only [Act.put]); (try simp only [List.setIfInBounds_toArray]); (repeat (first | simp only [List.set_cons_succ] | simp only [List.set_cons_zero]))
  refine wpAnyL_take (i := 3) (T := (fun _ => True)) (v := ?_) rfl (by kernel_rfl) (by kernel_rfl) (by kernel_rfl) (fun _ _ _ h => h) (fun _ _ _ _ _ => trivial) (SS.up (by decide) (by decide)) (SS.down (by decide) (by decide)) (Or.inl ⟨by rfl, ?_⟩) hcl hS ?_
  rotate_left
  · (intro w9 hw9; (try dsimp only at hw9); go_simp; try with_reducible rfl)
  clear hcl hS
  intro hcl hS
  (try simp only [Act.put]); (try simp only [List.setIfInBounds_toArray]); (repeat (first | simp only [List.set_cons_succ] | simp only [List.set_cons_zero]))
  refine wpAnyL_take (i := 4) (T := (fun _ => True)) (v := ?_) rfl (by kernel_rfl) (by kernel_rfl) (by kernel_rfl) (fun _ _ _ h => h) (fun _ _ _ _ _ => trivial) (SS.up (by decide) (by decide)) (SS.down (by decide) (by decide)) (Or.inl ⟨by rfl, ?_⟩) hcl hS ?_
  rotate_left
  · (intro w9 hw9; (try dsimp only at hw9); go_simp; try with_reducible rfl)
  clear hcl hS
  intro hcl hS
  (try simp only [Act.put]); (try simp only [List.setIfInBounds_toArray]); (repeat (first | simp only [List.set_cons_succ] | simp only [List.set_cons_zero]))
  refine wpAnyL_take (i := 5) (T := (fun _ => True)) (v := ?_) rfl (by kernel_rfl) (by kernel_rfl) (by kernel_rfl) (fun _ _ _ h => h) (fun _ _ _ _ _ => trivial) (SS.up (by decide) (by decide)) (SS.down (by decide) (by decide)) (Or.inl ⟨by rfl, ?_⟩) hcl hS ?_
  rotate_left
  · (intro w9 hw9; (try dsimp only at hw9); go_simp; try with_reducible rfl)
  clear hcl hS
  intro hcl hS
  (try simp only [Act.put]); (try simp only [List.setIfInBounds_toArray]); (repeat (first | simp only [List.set_cons_succ] | simp only [List.set_cons_zero]))
  refine wpAnyL_take (i := 6) (T := (fun _ => True)) (v := ?_) rfl (by kernel_rfl) (by kernel_rfl) (by kernel_rfl) (fun _ _ _ h => h) (fun _ _ _ _ _ => trivial) (SS.up (by decide) (by decide)) (SS.down (by decide) (by decide)) (Or.inl ⟨by rfl, ?_⟩) hcl hS ?_
  rotate_left
  · (intro w9 hw9; (try dsimp only at hw9); go_simp; try with_reducible rfl)
  clear hcl hS
  intro hcl hS
  (try simp only [Act.put]); (try simp only [List.setIfInBounds_toArray]); (repeat (first | simp only [List.set_cons_succ] | simp only [List.set_cons_zero]))
  refine wpAnyL_take (i := 7) (T := (fun _ => True)) (v := ?_) rfl (by kernel_rfl) (by kernel_rfl) (by kernel_rfl) (fun _ _ _ h => h) (fun _ _ _ _ _ => trivial) (SS.up (by decide) (by decide)) (SS.down (by decide) (by decide)) (Or.inl ⟨by rfl, ?_⟩) hcl hS ?_
  rotate_left
  · (intro w9 hw9; (try dsimp only at hw9); go_simp; try with_reducible rfl)
  clear hcl hS
  intro hcl hS
  (try simp only [Act.put]); (try simp only [List.setIfInBounds_toArray]); (repeat (first | simp only [List.set_cons_succ] | simp only [List.set_cons_zero]))
  refine wpAnyL_take (i := 8) (T := (fun _ => True)) (v := ?_) rfl (by kernel_rfl) (by kernel_rfl) (by kernel_rfl) (fun _ _ _ h => h) (fun _ _ _ _ _ => trivial) (SS.up (by decide) (by decide)) (SS.down (by decide) (by decide)) (Or.inl ⟨by rfl, ?_⟩) hcl hS ?_
  rotate_left
  · (intro w9 hw9; (try dsimp only at hw9); go_simp; try with_reducible rfl)
  clear hcl hS
  intro hcl hS
  (try simp only [Act.put]); (try simp only [List.setIfInBounds_toArray]); (repeat (first | simp only [List.set_cons_succ] | simp only [List.set_cons_zero]))
  refine wpAnyL_take (i := 9) (T := (fun w9 => BoxAt w9 g [.int .i64 n0.id, .int .i64 n0.term, .bool n0.speaks, .slice A n0.log.length a, .int .i64 n0.acked, .int .i64 n0.next, .int .i64 n1.id, .int .i64 n1.term, .bool n1.speaks, .slice B n1.log.length b, .int .i64 n1.acked, .int .i64 n1.next, .slice M l0.length m, .slice N l1.length n, .int .i64 t] 117)) (v := ?_) rfl (by kernel_rfl) (by kernel_rfl) (by kernel_rfl) (fun _ _ _ h => h) (fun _ _ hc hi hS => hS.1 (hc.not (k := 16) (by kernel_rfl) hi)) (SS.up (by decide) (by decide)) (SS.down (by decide) (by decide)) (Or.inl ⟨by rfl, ?_⟩) hcl hS ?_
  rotate_left
  · (intro w9 hw9; (try dsimp only at hw9); have z9:=hw9.c 13 rfl; go_simp; try with_reducible rfl)
  clear hcl hS
  intro hcl hS
  (try simp only [Act.put]); (try simp only [List.setIfInBounds_toArray]); (repeat (first | simp only [List.set_cons_succ] | simp only [List.set_cons_zero]))
  refine wpAnyL_take (i := 10) (T := (fun w9 => BoxAt w9 (W.heap.size + 1 + 1 + ye.n) [.int .i64 x.kind, .int .i64 x.term, .int .i64 x.at_, .int .i64 x.before, .slice D x.recs.length K, .int .i64 x.acked] 143)) (v := ?_) rfl (by kernel_rfl) (by kernel_rfl) (by kernel_rfl) (fun _ _ _ h => h) (fun _ _ hc hi hS => hS.2.1 (hc.not (k := 11) (by kernel_rfl) hi)) (SS.up (by decide) (by decide)) (SS.down (by decide) (by decide)) (Or.inl ⟨by rfl, ?_⟩) hcl hS ?_
  rotate_left
  · (intro w9 hw9; (try dsimp only at hw9); obtain ⟨z0, z1, z2, z3, z4, z5⟩ := hw9.six; go_simp; try with_reducible rfl)
  clear hcl hS
  intro hcl hS
  (try simp only [Act.put]); (try simp only [List.setIfInBounds_toArray]); (repeat (first | simp only [List.set_cons_succ] | simp only [List.set_cons_zero]))
  refine wpAnyL_take (i := 13) (T := (fun _ => True)) (v := ?_) rfl (by kernel_rfl) (by kernel_rfl) (by kernel_rfl) (fun _ _ _ h => h) (fun _ _ _ _ _ => trivial) (SS.up (by decide) (by decide)) (SS.down (by decide) (by decide)) (Or.inl ⟨by rfl, ?_⟩) hcl hS ?_
  rotate_left
  · (intro w9 hw9; (try dsimp only at hw9); go_simp; try with_reducible rfl)
  clear hcl hS
  intro hcl hS
  (try simp only [Act.put]); (try simp only [List.setIfInBounds_toArray]); (repeat (first | simp only [List.set_cons_succ] | simp only [List.set_cons_zero]))
  refine wpAnyL_take (i := 14) (T := (fun _ => True)) (v := ?_) rfl (by kernel_rfl) (by kernel_rfl) (by kernel_rfl) (fun _ _ _ h => h) (fun _ _ _ _ _ => trivial) (SS.up (by decide) (by decide)) (SS.down (by decide) (by decide)) (Or.inl ⟨by rfl, ?_⟩) hcl hS ?_
  rotate_left
  · (intro w9 hw9; (try dsimp only at hw9); go_simp; try with_reducible rfl)
  clear hcl hS
  intro hcl hS
  (try simp only [Act.put]); (try simp only [List.setIfInBounds_toArray]); (repeat (first | simp only [List.set_cons_succ] | simp only [List.set_cons_zero]))
  refine wpAnyL_only (i := 11) (by kernel_rfl) rfl rfl hcl (fun K9 hK9 => ?_)
  go_simp
  clear hS hcl
  refine hK9 _ _ ⟨fun _ => h9.box.mono (ex), fun hh => absurd hh (by decide), trivial⟩ (fun hcl hS => ?_)
  clear hK9
  refine wpAnyL_only (i := 12) (by kernel_rfl) rfl rfl hcl (fun K9 hK9 => ?_)
  clear hS hcl
  refine wp_append_mute (w0 := w) 117 (.tmp 108) (.tmp 110) 114 114 rfl 143 143 6 64 Tryz.underlying114 Tryz.underlying114 info_Msg zero_Msg (by decide) (h9.ext.trans (ex)) N l1.length n (ys.map msgRw) rfl (h9.m1.own.mono (ex)) h9.m1.room (msgRw_mute _) _ 1 1 [[.int .i64 x.kind, .int .i64 x.term, .int .i64 x.at_, .int .i64 x.before, .slice D x.recs.length K, .int .i64 x.acked]] rfl (Sl.drawn (Sl.alloc' (by simp [go_sem]) (by simp) (by simp))) rfl (by decide) (msgRw_one [(x, D, K)]) (msgRw_mute [(x, D, K)]) (by unfold maxLen; omega) (by omega) _ rfl _ rfl ?_; intro M5 m5 V5 hx5 hown5 hk5 hs5 hgr5 hA5
  have hg9 := CaseAt.box1 (h9.mono (by exact ex)) hgr5
  refine hK9 _ _ ⟨fun _ => hg9, fun hh => absurd hh (by decide), trivial⟩ (fun hcl hS => ?_)
  clear hK9
  refine wpAnyL_only (i := 15) (by kernel_rfl) rfl rfl hcl (fun K9 hK9 => ?_)
  clear hS hcl
  go_simp
  refine hK9 _ _ ⟨fun _ => hg9, fun hh => absurd hh (by decide), trivial⟩ (fun hcl hS => ?_)
  clear hK9
  refine wpAnyL_only (i := 16) (by kernel_rfl) rfl rfl hcl (fun K9 hK9 => ?_)
  clear hS hcl
  refine wp_store_cell 114 (.tmp 114) (.tmp 111) rfl hg9 13 rfl (.slice M5 (l1 ++ [x]).length m5) (by simp [Act.eval, List.length_append]) (show 13 < 15 by decide) (show 15 < 44 by decide) (by kernel_rfl) rfl [.int .i64 n0.id, .int .i64 n0.term, .bool n0.speaks, .slice A n0.log.length a, .int .i64 n0.acked, .int .i64 n0.next, .int .i64 n1.id, .int .i64 n1.term, .bool n1.speaks, .slice B n1.log.length b, .int .i64 n1.acked, .int .i64 n1.next, .slice M l0.length m, .slice M5 (l1 ++ [x]).length m5, .int .i64 t] rfl ?_; intro V6 ht6 hb6
  refine hK9 _ _ ⟨fun hh => absurd hh (by decide), fun hh => absurd hh (by decide), trivial⟩ (fun hcl hS => ?_)
  clear hK9 hcl hS
  refine wpAnyL_done (by kernel_rfl) ?_ _
  go_wp2
  go_ret
  exact ⟨rfl, (((s9.ext (by exact ex)).trans hs5).trans (ht6.stay hg9 (.inr rfl) (noStr_at (cas_mute _ _ _ _ _ _ _ _ _ _ _ _ _ _ _ _ _ _ _ _ _ _ _)))), CaseAt.mail1 (h9.mono (by exact ex)) hs5 hgr5 hx5 hown5 hk5 hA5 (l9.mono (by exact ex)) ht6 hb6⟩
set_option maxHeartbeats 6400000 in
set_option maxRecDepth 100000 in
theorem top_send0_no (h : CaseAt w W g n0 n1 l0 l1 t A a B b M m xs N n ys) (hn : NodOk n0) (hk0 : 0 ≤ kd) (hk1 : kd ≤ 255) (hi0 : 0 ≤ nd) (hi1 : nd ≤ 255) (hp0 : 0 ≤ pk) (hp1 : pk ≤ 255) (hk : kd % 4 = 2) (hi : nd % 2 = 0) {x : Msg} {er : Int} (hv : sendV n0 = (x, er)) (her : er ≠ 0) (hsp : n0.speaks = false) (_hL : l1.length ≤ 1000) :
    Calls Tryz.prog 49 #[.pointer (some ⟨g, 0, none⟩), .agg #[.int .u8 kd, .int .u8 nd, .int .u8 pk]] W (StepD w W g n0 n1 l0 l1 t) := by
  have HC := Lib.hid h
  have HN := Lib.hid hn
  have hl0 := (h.q0.recs h.ext (Ext.refl W)).len
  have hl1 := (h.q1.recs h.ext (Ext.refl W)).len
  have ht0 := hn.t0
  have ht1 := hn.t1
  have hd1 := hn.id1
  have hd2 := hn.id2
  have hw1 : IntKind.i64.wrap nd = nd := IntWalk.i64_in _ (by omega)
  have hw2 : IntKind.i64.wrap pk = pk := IntWalk.i64_in _ (by omega)
  have hw3 : IntKind.i64.wrap 1 = 1 := rfl
  have hw4 : IntKind.i64.wrap 0 = 0 := rfl
  have HS := Lib.hid (fun (V : World) (hx : Ext W V) => by have := (rep_Send n0 A a V (h.q0.recs h.ext hx)).mono fun _ _ q => RetMsgE.parts q hv; rw [hsp] at this; exact this)
  have HE := Lib.hid (show ∀ r ∈ x.recs, AcnAt w r.act from fun r hr => h.q0.el r (sendV_recs n0 r (by rw [hv]; exact hr)))
  clear hv
  have c0:=h.box.c 0 rfl;have c1:=h.box.c 1 rfl;have c2:=h.box.c 2 rfl;have c3:=h.box.c 3 rfl;have c4:=h.box.c 4 rfl;have c5:=h.box.c 5 rfl;have c6:=h.box.c 6 rfl;have c7:=h.box.c 7 rfl;have c8:=h.box.c 8 rfl;have c9:=h.box.c 9 rfl;have c10:=h.box.c 10 rfl;have c11:=h.box.c 11 rfl;have c12:=h.box.c 12 rfl;have c13:=h.box.c 13 rfl;have c14:=h.box.c 14 rfl
  clear h hn
  have hz : (er == 0) = false := by simpa using her
  clear her
  rw [hsp] at c2
  clear hsp
  go_enter Tryz.func49, Tryz.ntmps49
  go_wp2_with (go_at_call 101; refine (HS.out _ (ex)).mono ?_; rintro e w' ⟨D, K, rfl, hx, hl⟩; have HLa := Lib.hid hl; obtain ⟨ye, rfl⟩ := hx.get; clear hx hl)
  go_ret
  exact ⟨rfl, Ext.stay (by exact ex), _, _, _, _, _, _, _, _, _, _, HC.out.mono (by exact ex)⟩
set_option maxHeartbeats 6400000 in
set_option maxRecDepth 100000 in
theorem top_send1_yes (h : CaseAt w W g n0 n1 l0 l1 t A a B b M m xs N n ys) (hn : NodOk n1) (hk0 : 0 ≤ kd) (hk1 : kd ≤ 255) (hi0 : 0 ≤ nd) (hi1 : nd ≤ 255) (hp0 : 0 ≤ pk) (hp1 : pk ≤ 255) (hk : kd % 4 = 2) (hi : nd % 2 = 1) {x : Msg} (hv : sendV n1 = (x, 0)) (hL : l0.length ≤ 1000) :
    Calls Tryz.prog 49 #[.pointer (some ⟨g, 0, none⟩), .agg #[.int .u8 kd, .int .u8 nd, .int .u8 pk]] W (StepD w W g n0 n1 (l0 ++ [x]) l1 t) := by
  have HC := Lib.hid h
  have HN := Lib.hid hn
  have hl0 := (h.q0.recs h.ext (Ext.refl W)).len
  have hl1 := (h.q1.recs h.ext (Ext.refl W)).len
  have ht0 := hn.t0
  have ht1 := hn.t1
  have hd1 := hn.id1
  have hd2 := hn.id2
  have hw1 : IntKind.i64.wrap nd = nd := IntWalk.i64_in _ (by omega)
  have hw2 : IntKind.i64.wrap pk = pk := IntWalk.i64_in _ (by omega)
  have hw3 : IntKind.i64.wrap 1 = 1 := rfl
  have hw4 : IntKind.i64.wrap 0 = 0 := rfl
  have HS := Lib.hid (fun (V : World) (hx : Ext W V) => (rep_Send n1 B b V (h.q1.recs h.ext hx)).mono fun _ _ q => RetMsgE.parts q hv)
  have HE := Lib.hid (show ∀ r ∈ x.recs, AcnAt w r.act from fun r hr => h.q1.el r (sendV_recs n1 r (by rw [hv]; exact hr)))
  clear hv
  have c0:=h.box.c 0 rfl;have c1:=h.box.c 1 rfl;have c2:=h.box.c 2 rfl;have c3:=h.box.c 3 rfl;have c4:=h.box.c 4 rfl;have c5:=h.box.c 5 rfl;have c6:=h.box.c 6 rfl;have c7:=h.box.c 7 rfl;have c8:=h.box.c 8 rfl;have c9:=h.box.c 9 rfl;have c10:=h.box.c 10 rfl;have c11:=h.box.c 11 rfl;have c12:=h.box.c 12 rfl;have c13:=h.box.c 13 rfl;have c14:=h.box.c 14 rfl
  clear h hn
  go_enter Tryz.func49, Tryz.ntmps49
  go_wp2_with (go_at_call 101; refine (HS.out _ (ex)).mono ?_; rintro e w' ⟨D, K, rfl, hx, hl⟩; have HLa := Lib.hid hl; obtain ⟨ye, rfl⟩ := hx.get; clear hx hl)
  refine wp_name (fun W9 hW9 => ?_)
  have k12 : BoxAt W9 (W.heap.size + 1 + 1 + ye.n) [.int .i64 x.kind, .int .i64 x.term, .int .i64 x.at_, .int .i64 x.before, .slice D x.recs.length K, .int .i64 x.acked] 143 := by rw [hW9]; exact (by repeat (first | exact BoxAt.new (by first | rfl | (simp [go_sem]; done) | (simp [go_sem]; omega)) _ _ | apply BoxAt.xt | apply BoxAt.drew | apply BoxAt.drewN | apply BoxAt.alloc))
  have h9 : CaseAt w W9 g n0 n1 l0 l1 t A a B b M m xs N n ys := by rw [hW9]; exact HC.out.mono (ex)
  have s9 : StayC W W9 := by rw [hW9]; exact Ext.stay (ex)
  have l9 : LogW w W9 D x.recs.length K x.recs := by rw [hW9]; exact (HLa.out.mono (ex)).logw HE.out
  clear hW9 c0 c1 c2 c3 c4 c5 c6 c7 c8 c9 c10 c11 c12 c13 c14 HLa
  refine wp_region_L (S := SS 16 11 (fun w9 => BoxAt w9 g [.int .i64 n0.id, .int .i64 n0.term, .bool n0.speaks, .slice A n0.log.length a, .int .i64 n0.acked, .int .i64 n0.next, .int .i64 n1.id, .int .i64 n1.term, .bool n1.speaks, .slice B n1.log.length b, .int .i64 n1.acked, .int .i64 n1.next, .slice M l0.length m, .slice N l1.length n, .int .i64 t] 117) (fun w9 => BoxAt w9 (W.heap.size + 1 + 1 + ye.n) [.int .i64 x.kind, .int .i64 x.term, .int .i64 x.at_, .int .i64 x.before, .slice D x.recs.length K, .int .i64 x.acked] 143) (fun _ => True)) (by kernel_rfl) ⟨fun _ => h9.box.mono (ex), fun _ => k12.mono (ex), trivial⟩ (fun hcl hS => ?_)
  refine wpAnyL_take (i := 0) (T := (fun _ => True)) (v := ?_) rfl (by kernel_rfl) (by kernel_rfl) (by kernel_rfl) (fun _ _ _ h => h) (fun _ _ _ _ _ => trivial) (SS.up (by decide) (by decide)) (SS.down (by decide) (by decide)) (Or.inl ⟨by rfl, ?_⟩) hcl hS ?_
  rotate_left
  · (intro w9 hw9; (try dsimp only at hw9); go_simp; try with_reducible rfl)
  clear hcl hS
  intro hcl hS
  (try simp only [Act.put]); (try simp only [List.setIfInBounds_toArray]); (repeat (first | simp only [List.set_cons_succ] | simp only [List.set_cons_zero]))
  refine wpAnyL_take (i := 1) (T := (fun _ => True)) (v := ?_) rfl (by kernel_rfl) (by kernel_rfl) (by kernel_rfl) (fun _ _ _ h => h) (fun _ _ _ _ _ => trivial) (SS.up (by decide) (by decide)) (SS.down (by decide) (by decide)) (Or.inl ⟨by rfl, ?_⟩) hcl hS ?_
  rotate_left
  · (intro w9 hw9; (try dsimp only at hw9); go_simp; try with_reducible rfl)
  clear hcl hS
  intro hcl hS
  (try simp only [Act.put]); (try simp only [List.setIfInBounds_toArray]); (repeat (first | simp only [List.set_cons_succ] | simp only [List.set_cons_zero]))
  refine wpAnyL_take (i := 2) (T := (fun _ => True)) (v := ?_) rfl (by kernel_rfl) (by kernel_rfl) (by kernel_rfl) (fun _ _ _ h => h) (fun _ _ _ _ _ => trivial) (SS.up (by decide) (by decide)) (SS.down (by decide) (by decide)) (Or.inl ⟨by rfl, ?_⟩) hcl hS ?_
  rotate_left
  · (intro w9 hw9; (try dsimp only at hw9); go_simp; try with_reducible rfl)
  clear hcl hS
  intro hcl hS
  (try simp only [Act.put]); (try simp only [List.setIfInBounds_toArray]); (repeat (first | simp only [List.set_cons_succ] | simp only [List.set_cons_zero]))
  refine wpAnyL_take (i := 3) (T := (fun _ => True)) (v := ?_) rfl (by kernel_rfl) (by kernel_rfl) (by kernel_rfl) (fun _ _ _ h => h) (fun _ _ _ _ _ => trivial) (SS.up (by decide) (by decide)) (SS.down (by decide) (by decide)) (Or.inl ⟨by rfl, ?_⟩) hcl hS ?_
  rotate_left
  · (intro w9 hw9; (try dsimp only at hw9); go_simp; try with_reducible rfl)
  clear hcl hS
  intro hcl hS
  (try simp only [Act.put]); (try simp only [List.setIfInBounds_toArray]); (repeat (first | simp only [List.set_cons_succ] | simp only [List.set_cons_zero]))
  refine wpAnyL_take (i := 4) (T := (fun _ => True)) (v := ?_) rfl (by kernel_rfl) (by kernel_rfl) (by kernel_rfl) (fun _ _ _ h => h) (fun _ _ _ _ _ => trivial) (SS.up (by decide) (by decide)) (SS.down (by decide) (by decide)) (Or.inl ⟨by rfl, ?_⟩) hcl hS ?_
  rotate_left
  · (intro w9 hw9; (try dsimp only at hw9); go_simp; try with_reducible rfl)
  clear hcl hS
  intro hcl hS
  (try simp only [Act.put]); (try simp only [List.setIfInBounds_toArray]); (repeat (first | simp only [List.set_cons_succ] | simp only [List.set_cons_zero]))
  refine wpAnyL_take (i := 5) (T := (fun _ => True)) (v := ?_) rfl (by kernel_rfl) (by kernel_rfl) (by kernel_rfl) (fun _ _ _ h => h) (fun _ _ _ _ _ => trivial) (SS.up (by decide) (by decide)) (SS.down (by decide) (by decide)) (Or.inl ⟨by rfl, ?_⟩) hcl hS ?_
  rotate_left
  · (intro w9 hw9; (try dsimp only at hw9); go_simp; try with_reducible rfl)
  clear hcl hS
  intro hcl hS
  (try simp only [Act.put]); (try simp only [List.setIfInBounds_toArray]); (repeat (first | simp only [List.set_cons_succ] | simp only [List.set_cons_zero]))
  refine wpAnyL_take (i := 6) (T := (fun _ => True)) (v := ?_) rfl (by kernel_rfl) (by kernel_rfl) (by kernel_rfl) (fun _ _ _ h => h) (fun _ _ _ _ _ => trivial) (SS.up (by decide) (by decide)) (SS.down (by decide) (by decide)) (Or.inl ⟨by rfl, ?_⟩) hcl hS ?_
  rotate_left
  · (intro w9 hw9; (try dsimp only at hw9); go_simp; try with_reducible rfl)
  clear hcl hS
  intro hcl hS
  (try simp only [Act.put]); (try simp only [List.setIfInBounds_toArray]); (repeat (first | simp only [List.set_cons_succ] | simp only [List.set_cons_zero]))
  refine wpAnyL_take (i := 7) (T := (fun _ => True)) (v := ?_) rfl (by kernel_rfl) (by kernel_rfl) (by kernel_rfl) (fun _ _ _ h => h) (fun _ _ _ _ _ => trivial) (SS.up (by decide) (by decide)) (SS.down (by decide) (by decide)) (Or.inl ⟨by rfl, ?_⟩) hcl hS ?_
  rotate_left
  · (intro w9 hw9; (try dsimp only at hw9); go_simp; try with_reducible rfl)
  clear hcl hS
  intro hcl hS
  (try simp only [Act.put]); (try simp only [List.setIfInBounds_toArray]); (repeat (first | simp only [List.set_cons_succ] | simp only [List.set_cons_zero]))
  refine wpAnyL_take (i := 8) (T := (fun _ => True)) (v := ?_) rfl (by kernel_rfl) (by kernel_rfl) (by kernel_rfl) (fun _ _ _ h => h) (fun _ _ _ _ _ => trivial) (SS.up (by decide) (by decide)) (SS.down (by decide) (by decide)) (Or.inl ⟨by rfl, ?_⟩) hcl hS ?_
  rotate_left
  · (intro w9 hw9; (try dsimp only at hw9); go_simp; try with_reducible rfl)
  clear hcl hS
  intro hcl hS
  (try simp only [Act.put]); (try simp only [List.setIfInBounds_toArray]); (repeat (first | simp only [List.set_cons_succ] | simp only [List.set_cons_zero]))
  refine wpAnyL_take (i := 9) (T := (fun w9 => BoxAt w9 g [.int .i64 n0.id, .int .i64 n0.term, .bool n0.speaks, .slice A n0.log.length a, .int .i64 n0.acked, .int .i64 n0.next, .int .i64 n1.id, .int .i64 n1.term, .bool n1.speaks, .slice B n1.log.length b, .int .i64 n1.acked, .int .i64 n1.next, .slice M l0.length m, .slice N l1.length n, .int .i64 t] 117)) (v := ?_) rfl (by kernel_rfl) (by kernel_rfl) (by kernel_rfl) (fun _ _ _ h => h) (fun _ _ hc hi hS => hS.1 (hc.not (k := 16) (by kernel_rfl) hi)) (SS.up (by decide) (by decide)) (SS.down (by decide) (by decide)) (Or.inl ⟨by rfl, ?_⟩) hcl hS ?_
  rotate_left
  · (intro w9 hw9; (try dsimp only at hw9); have z9:=hw9.c 12 rfl; go_simp; try with_reducible rfl)
  clear hcl hS
  intro hcl hS
  (try simp only [Act.put]); (try simp only [List.setIfInBounds_toArray]); (repeat (first | simp only [List.set_cons_succ] | simp only [List.set_cons_zero]))
  refine wpAnyL_take (i := 10) (T := (fun w9 => BoxAt w9 (W.heap.size + 1 + 1 + ye.n) [.int .i64 x.kind, .int .i64 x.term, .int .i64 x.at_, .int .i64 x.before, .slice D x.recs.length K, .int .i64 x.acked] 143)) (v := ?_) rfl (by kernel_rfl) (by kernel_rfl) (by kernel_rfl) (fun _ _ _ h => h) (fun _ _ hc hi hS => hS.2.1 (hc.not (k := 11) (by kernel_rfl) hi)) (SS.up (by decide) (by decide)) (SS.down (by decide) (by decide)) (Or.inl ⟨by rfl, ?_⟩) hcl hS ?_
  rotate_left
  · (intro w9 hw9; (try dsimp only at hw9); obtain ⟨z0, z1, z2, z3, z4, z5⟩ := hw9.six; go_simp; try with_reducible rfl)
  clear hcl hS
  intro hcl hS
  (try simp only [Act.put]); (try simp only [List.setIfInBounds_toArray]); (repeat (first | simp only [List.set_cons_succ] | simp only [List.set_cons_zero]))
  refine wpAnyL_take (i := 13) (T := (fun _ => True)) (v := ?_) rfl (by kernel_rfl) (by kernel_rfl) (by kernel_rfl) (fun _ _ _ h => h) (fun _ _ _ _ _ => trivial) (SS.up (by decide) (by decide)) (SS.down (by decide) (by decide)) (Or.inl ⟨by rfl, ?_⟩) hcl hS ?_
  rotate_left
  · (intro w9 hw9; (try dsimp only at hw9); go_simp; try with_reducible rfl)
  clear hcl hS
  intro hcl hS
  (try simp only [Act.put]); (try simp only [List.setIfInBounds_toArray]); (repeat (first | simp only [List.set_cons_succ] | simp only [List.set_cons_zero]))
  refine wpAnyL_take (i := 14) (T := (fun _ => True)) (v := ?_) rfl (by kernel_rfl) (by kernel_rfl) (by kernel_rfl) (fun _ _ _ h => h) (fun _ _ _ _ _ => trivial) (SS.up (by decide) (by decide)) (SS.down (by decide) (by decide)) (Or.inl ⟨by rfl, ?_⟩) hcl hS ?_
  rotate_left
  · (intro w9 hw9; (try dsimp only at hw9); go_simp; try with_reducible rfl)
  clear hcl hS
  intro hcl hS
  (try simp only [Act.put]); (try simp only [List.setIfInBounds_toArray]); (repeat (first | simp only [List.set_cons_succ] | simp only [List.set_cons_zero]))
  refine wpAnyL_only (i := 11) (by kernel_rfl) rfl rfl hcl (fun K9 hK9 => ?_)
  go_simp
  clear hS hcl
  refine hK9 _ _ ⟨fun _ => h9.box.mono (ex), fun hh => absurd hh (by decide), trivial⟩ (fun hcl hS => ?_)
  clear hK9
  refine wpAnyL_only (i := 12) (by kernel_rfl) rfl rfl hcl (fun K9 hK9 => ?_)
  clear hS hcl
  refine wp_append_mute (w0 := w) 117 (.tmp 108) (.tmp 110) 114 114 rfl 143 143 6 64 Tryz.underlying114 Tryz.underlying114 info_Msg zero_Msg (by decide) (h9.ext.trans (ex)) M l0.length m (xs.map msgRw) rfl (h9.m0.own.mono (ex)) h9.m0.room (msgRw_mute _) _ 1 1 [[.int .i64 x.kind, .int .i64 x.term, .int .i64 x.at_, .int .i64 x.before, .slice D x.recs.length K, .int .i64 x.acked]] rfl (Sl.drawn (Sl.alloc' (by simp [go_sem]) (by simp) (by simp))) rfl (by decide) (msgRw_one [(x, D, K)]) (msgRw_mute [(x, D, K)]) (by unfold maxLen; omega) (by omega) _ rfl _ rfl ?_; intro M5 m5 V5 hx5 hown5 hk5 hs5 hgr5 hA5
  have hg9 := CaseAt.box0 (h9.mono (by exact ex)) hgr5
  refine hK9 _ _ ⟨fun _ => hg9, fun hh => absurd hh (by decide), trivial⟩ (fun hcl hS => ?_)
  clear hK9
  refine wpAnyL_only (i := 15) (by kernel_rfl) rfl rfl hcl (fun K9 hK9 => ?_)
  clear hS hcl
  go_simp
  refine hK9 _ _ ⟨fun _ => hg9, fun hh => absurd hh (by decide), trivial⟩ (fun hcl hS => ?_)
  clear hK9
  refine wpAnyL_only (i := 16) (by kernel_rfl) rfl rfl hcl (fun K9 hK9 => ?_)
  clear hS hcl
  refine wp_store_cell 114 (.tmp 114) (.tmp 111) rfl hg9 12 rfl (.slice M5 (l0 ++ [x]).length m5) (by simp [Act.eval, List.length_append]) (show 12 < 15 by decide) (show 15 < 44 by decide) (by kernel_rfl) rfl [.int .i64 n0.id, .int .i64 n0.term, .bool n0.speaks, .slice A n0.log.length a, .int .i64 n0.acked, .int .i64 n0.next, .int .i64 n1.id, .int .i64 n1.term, .bool n1.speaks, .slice B n1.log.length b, .int .i64 n1.acked, .int .i64 n1.next, .slice M5 (l0 ++ [x]).length m5, .slice N l1.length n, .int .i64 t] rfl ?_; intro V6 ht6 hb6
  refine hK9 _ _ ⟨fun hh => absurd hh (by decide), fun hh => absurd hh (by decide), trivial⟩ (fun hcl hS => ?_)
  clear hK9 hcl hS
  refine wpAnyL_done (by kernel_rfl) ?_ _
  go_wp2
  go_ret
  exact ⟨rfl, (((s9.ext (by exact ex)).trans hs5).trans (ht6.stay hg9 (.inr rfl) (noStr_at (cas_mute _ _ _ _ _ _ _ _ _ _ _ _ _ _ _ _ _ _ _ _ _ _ _)))), CaseAt.mail0 (h9.mono (by exact ex)) hs5 hgr5 hx5 hown5 hk5 hA5 (l9.mono (by exact ex)) ht6 hb6⟩
set_option maxHeartbeats 6400000 in
set_option maxRecDepth 100000 in
theorem top_send1_no (h : CaseAt w W g n0 n1 l0 l1 t A a B b M m xs N n ys) (hn : NodOk n1) (hk0 : 0 ≤ kd) (hk1 : kd ≤ 255) (hi0 : 0 ≤ nd) (hi1 : nd ≤ 255) (hp0 : 0 ≤ pk) (hp1 : pk ≤ 255) (hk : kd % 4 = 2) (hi : nd % 2 = 1) {x : Msg} {er : Int} (hv : sendV n1 = (x, er)) (her : er ≠ 0) (hsp : n1.speaks = false) (_hL : l0.length ≤ 1000) :
    Calls Tryz.prog 49 #[.pointer (some ⟨g, 0, none⟩), .agg #[.int .u8 kd, .int .u8 nd, .int .u8 pk]] W (StepD w W g n0 n1 l0 l1 t) := by
  have HC := Lib.hid h
  have HN := Lib.hid hn
  have hl0 := (h.q0.recs h.ext (Ext.refl W)).len
  have hl1 := (h.q1.recs h.ext (Ext.refl W)).len
  have ht0 := hn.t0
  have ht1 := hn.t1
  have hd1 := hn.id1
  have hd2 := hn.id2
  have hw1 : IntKind.i64.wrap nd = nd := IntWalk.i64_in _ (by omega)
  have hw2 : IntKind.i64.wrap pk = pk := IntWalk.i64_in _ (by omega)
  have hw3 : IntKind.i64.wrap 1 = 1 := rfl
  have hw4 : IntKind.i64.wrap 0 = 0 := rfl
  have HS := Lib.hid (fun (V : World) (hx : Ext W V) => by have := (rep_Send n1 B b V (h.q1.recs h.ext hx)).mono fun _ _ q => RetMsgE.parts q hv; rw [hsp] at this; exact this)
  have HE := Lib.hid (show ∀ r ∈ x.recs, AcnAt w r.act from fun r hr => h.q1.el r (sendV_recs n1 r (by rw [hv]; exact hr)))
  clear hv
  have c0:=h.box.c 0 rfl;have c1:=h.box.c 1 rfl;have c2:=h.box.c 2 rfl;have c3:=h.box.c 3 rfl;have c4:=h.box.c 4 rfl;have c5:=h.box.c 5 rfl;have c6:=h.box.c 6 rfl;have c7:=h.box.c 7 rfl;have c8:=h.box.c 8 rfl;have c9:=h.box.c 9 rfl;have c10:=h.box.c 10 rfl;have c11:=h.box.c 11 rfl;have c12:=h.box.c 12 rfl;have c13:=h.box.c 13 rfl;have c14:=h.box.c 14 rfl
  clear h hn
  have hz : (er == 0) = false := by simpa using her
  clear her
  rw [hsp] at c8
  clear hsp
  go_enter Tryz.func49, Tryz.ntmps49
  go_wp2_with (go_at_call 101; refine (HS.out _ (ex)).mono ?_; rintro e w' ⟨D, K, rfl, hx, hl⟩; have HLa := Lib.hid hl; obtain ⟨ye, rfl⟩ := hx.get; clear hx hl)
  go_ret
  exact ⟨rfl, Ext.stay (by exact ex), _, _, _, _, _, _, _, _, _, _, HC.out.mono (by exact ex)⟩
end
end Go.Proofs.YtmhinhgflehkaaaGreat
