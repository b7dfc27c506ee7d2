/-
  Chapter 54 in plain: two nodes that settle.
-/
import Derived.Test.YtlpboikonnpjbaaGreatGrpl
import Derived.Test.YtlpboikonnpjbaaGreatFourE
namespace Go.Proofs.YtlpboikonnpjbaaGreat

/-! ### Equal records -/
theorem SameE.symm {a b : Edit} (h : SameE a b) : SameE b a := by
  obtain ⟨h1, h2, h3, h4, h5, h6, h7, h8, h9, h10, h11, h12, h13, h14, h15, h16, h17, h18, h19, h20, h21⟩ := h
  exact ⟨h1.symm, h2.symm, h3.symm, h4.symm, h5.symm, h6.symm, h7.symm, h8.symm, h9.symm, h10.symm, h11.symm, h12.symm, h13.symm, h14.symm, h15.symm, h16.symm, h17.symm, h18.symm, h19.symm, h20.symm, h21.symm⟩
theorem SameA.symm {a b : Acn} (h : SameA a b) : SameA b a := by
  obtain ⟨h1, h2, h3, h4, h5, h6, h7, h8, h9, h10⟩ := h
  exact ⟨h1.symm, h2.symm, h3.symm, h4.symm, h5.symm, h6.symm, h7.symm, h8.symm, h9.symm, h10.symm⟩
open Classical in
theorem sameA_prop {a b : Acn} : sameA a b = true ↔ SameA a b := by
  unfold sameA
  exact decide_eq_true_iff
theorem sameA_symm {a b : Acn} (h : sameA a b = true) : sameA b a = true := sameA_prop.2 (sameA_prop.1 h).symm
theorem sameR_prop {x y : Rec} : sameR x y = true ↔ x.term = y.term ∧ SameA x.act y.act := by
  unfold sameR
  rw [Bool.and_eq_true, decide_eq_true_eq, sameA_prop]
theorem sameRs_iff : ∀ (l m : List Rec), sameRs l m = true ↔ l.length = m.length ∧ ∀ (i : Nat) (x y : Rec), l[i]? = some x → m[i]? = some y → sameR x y = true
  | [], [] => by simp [sameRs]
  | [], _ :: _ => by simp [sameRs]
  | _ :: _, [] => by simp [sameRs]
  | x :: l, y :: m => by
    have ih := sameRs_iff l m
    simp only [sameRs, Bool.and_eq_true, ih, List.length_cons]
    constructor
    · rintro ⟨h1, h2, h3⟩
      refine ⟨by omega, fun i a b ha hb => ?_⟩
      cases i with
      | zero => simp at ha hb; subst ha hb; exact h1
      | succ i => exact h3 i a b (by simpa using ha) (by simpa using hb)
    · rintro ⟨h1, h2⟩
      exact ⟨h2 0 x y rfl rfl, by omega, fun i a b ha hb => h2 (i + 1) a b (by simpa using ha) (by simpa using hb)⟩
theorem sameRs_refl (l : List Rec) : sameRs l l = true := by
  rw [sameRs_iff]
  refine ⟨rfl, fun i x y hx hy => ?_⟩
  rw [hx] at hy
  injection hy with hy
  subst hy
  exact sameR_prop.2 ⟨rfl, SameA.refl _⟩
theorem sameRs_symm {l m : List Rec} (h : sameRs l m = true) : sameRs m l = true := by
  rw [sameRs_iff] at h ⊢
  exact ⟨h.1.symm, fun i x y hx hy => by
    have := sameR_prop.1 (h.2 i y x hy hx)
    exact sameR_prop.2 ⟨this.1.symm, this.2.symm⟩⟩
theorem sameRs_take {l m : List Rec} (h : sameRs l m = true) (k : Nat) : sameRs (l.take k) (m.take k) = true := by
  rw [sameRs_iff] at h ⊢
  refine ⟨by simp [h.1], fun i x y hx hy => ?_⟩
  rw [List.getElem?_take] at hx hy
  split at hx
  · rename_i hi
    rw [if_pos hi] at hy
    exact h.2 i x y hx hy
  · cases hx
theorem sameRs_snoc {l m : List Rec} (h : sameRs l m = true) (r : Rec) : sameRs (l ++ [r]) (m ++ [r]) = true := by
  rw [sameRs_iff] at h ⊢
  obtain ⟨h1, h2⟩ := h
  refine ⟨by simp [h1], fun i x y hx hy => ?_⟩
  by_cases hi : i < l.length
  · rw [List.getElem?_append_left hi] at hx
    rw [List.getElem?_append_left (by omega)] at hy
    exact h2 i x y hx hy
  · rw [List.getElem?_append_right (by omega)] at hx
    rw [List.getElem?_append_right (by omega), ← h1, hx] at hy
    injection hy with hy
    subst hy
    exact sameR_prop.2 ⟨rfl, SameA.refl _⟩
theorem sameN_refl (n : Nod) : sameN n n = true := by simp [sameN, sameRs_refl]
theorem sameM_refl (m : Msg) : sameM m m = true := by simp [sameM, sameRs_refl]

/-! ### One exchange -/
theorem recdV_top {n : Nod} {m : Msg} (he : (recdV n m).2.2.2 = 0) : (recdV n m).1.term = max n.term m.term := by
  unfold recdV at he ⊢
  by_cases ht : m.term < n.term
  · rw [if_pos ht]
    split <;> (show n.term = _; omega)
  · rw [if_neg ht] at he ⊢
    have hit := inTerm_term ht
    by_cases hk : m.kind = 0
    · rw [if_pos hk] at he ⊢
      rcases takeV_cases he with h | ⟨h, h0, h1⟩ | h
      · rw [takeV_far h]; show (inTerm n m).term = _; omega
      · rw [takeV_other h h0 h1]; show (inTerm n m).term = _; omega
      · rw [takeV_taken h]; show (inTerm n m).term = _; omega
    · rw [if_neg hk]
      split
      · have e2 : (ackN (inTerm n m) m).term = m.term := by rw [← hit]; unfold ackN; split <;> rfl
        show (ackN (inTerm n m) m).term = _; omega
      · have e2 : (refuseN (inTerm n m) m).term = m.term := by rw [← hit]; unfold refuseN; split <;> rfl
        show (refuseN (inTerm n m) m).term = _; omega
/-- An answer in the node's own term. -/
theorem recdV_answer {n : Nod} {m : Msg} (hk : m.kind ≠ 0) (ht : m.term = n.term) : (recdV n m).1.log = n.log ∧ (recdV n m).1.speaks = n.speaks ∧ (recdV n m).1.term = n.term ∧ (recdV n m).1.id = n.id ∧ (recdV n m).2.2.2 = 0 := by
  unfold recdV
  rw [if_neg (by omega), if_neg hk, inTerm_same ht.symm]
  split
  · unfold ackN; split <;> exact ⟨rfl, rfl, rfl, rfl, rfl⟩
  · unfold refuseN; split <;> exact ⟨rfl, rfl, rfl, rfl, rfl⟩
theorem own_other {i j t : Int} (hi1 : 1 ≤ i) (hi2 : i ≤ 2) (hj1 : 1 ≤ j) (hj2 : j ≤ 2) (hne : ¬ i = j) (h : ownB i t = true) : ownB j t = false := by
  unfold ownB at h ⊢
  have := of_decide_eq_true h
  apply decide_eq_false
  omega
theorem own_pos {i t : Int} (h : ownB i t = true) : 1 ≤ t := by
  unfold ownB at h
  exact (of_decide_eq_true h).1
theorem termAt_get {l : List Rec} {k : Nat} {r : Rec} (h : l[k]? = some r) : termAt l (k : Int) = r.term := by
  unfold termAt
  rw [if_neg (by omega), Int.toNat_natCast, h]
theorem sentM_ok {n : Nod} (hn : NodOk n) (hs : n.speaks = true) : MsgOk (sentM n) := by
  have h1 := own_pos (hn.own hs)
  have h2 := hn.n0; have h3 := hn.n1; have h4 := hn.len; have h5 := hn.a0; have h6 := hn.a1; have h7 := hn.t1
  have hb : 0 < n.next → ∃ r, n.log[(n.next - 1).toNat]? = some r ∧ termAt n.log (n.next - 1) = r.term := fun h0 => by
    refine ⟨n.log[(n.next - 1).toNat]'(by omega), List.getElem?_eq_getElem (by omega), ?_⟩
    have := termAt_get (List.getElem?_eq_getElem (l := n.log) (i := (n.next - 1).toNat) (by omega))
    rwa [Int.toNat_of_nonneg (by omega)] at this
  refine ⟨Int.le_refl _, by show (0 : Int) ≤ 2; omega, h1, h7, h2, by show n.next ≤ 256; omega, fun _ => ⟨fun h0 => ?_, fun h0 => ?_, ?_, ?_, h5, by show n.acked ≤ 256; omega⟩, fun h => absurd rfl h⟩
  · show (if 0 < n.next then _ else (0 : Int)) = 0
    have h0' : n.next = 0 := h0
    rw [if_neg (by omega)]
  · have h0' : 0 < n.next := h0
    show 1 ≤ (if 0 < n.next then _ else (0 : Int)) ∧ (if 0 < n.next then _ else (0 : Int)) ≤ n.term
    rw [if_pos h0']
    obtain ⟨r, hr, he⟩ := hb h0'
    have hm := List.mem_of_getElem? hr
    have := hn.recs.pos r hm; have := hn.recs.hi r hm
    omega
  · show ((n.log.drop n.next.toNat).take 16).length ≤ 16
    rw [List.length_take]; omega
  · have hsub := hn.recs.sub ((List.take_sublist 16 _).trans (List.drop_sublist n.next.toNat n.log))
    refine ⟨fun r hr => ?_, hsub.pos, hsub.hi, hsub.act, hsub.asc⟩
    show (if 0 < n.next then _ else (0 : Int)) ≤ r.term
    by_cases h0 : 0 < n.next
    · rw [if_pos h0]
      obtain ⟨q, hq, he⟩ := hb h0
      obtain ⟨j, hj⟩ := List.getElem?_of_mem (List.mem_of_mem_take hr)
      rw [List.getElem?_drop] at hj
      have := (recs_get hn.recs.asc (show (n.next - 1).toNat < n.next.toNat + j by omega) hq hj).1
      omega
    · rw [if_neg h0]; have := hsub.pos r hr; omega

/-! ### What settling leaves -/
/-- A speaker and another node. -/
structure Pair (a b : Nod) : Prop where
  na : NodOk a
  nb : NodOk b
  ne : ¬ a.id = b.id
  speaks : a.speaks = true
  term : b.term ≤ a.term
theorem Pair.quiet {a b : Nod} (h : Pair a b) : ownB b.id (sentM a).term = false := own_other h.na.id1 h.na.id2 h.nb.id1 h.nb.id2 h.ne (h.na.own h.speaks)
theorem settleR_ok : ∀ (f : Nat) (k : Int) (a b x y : Nod) (c : Int), Pair a b → settleR f k a b = (x, y, c, 0) →
    Pair x y ∧ x.log = a.log ∧ x.id = a.id ∧ x.term = a.term ∧ y.id = b.id ∧ settledB x y = true
  | 0, k, a, b, x, y, c, _, h => by simp [settleR] at h
  | f + 1, k, a, b, x, y, c, hp, h => by
    unfold settleR at h
    split at h
    · rename_i hs
      injection h with e1 h
      injection h with e2 h
      subst e1 e2
      exact ⟨hp, rfl, rfl, rfl, rfl, hs⟩
    split at h
    · rename_i he
      injection h with e1 h
      injection h with e2 h
      injection h with e3 h
      exact absurd h he
    rename_i he
    have he : (recvV b (sentM a)).2.2.2 = 0 := by simpa using he
    have hl := recvV_left he
    obtain ⟨h1, h2, h3, h4, h5⟩ := recvV_ok he
    have htop : (recvV b (sentM a)).1.term = a.term := by
      rw [h5, recdV_top h4]
      have : (sentM a).term = a.term := rfl
      have := hp.term
      omega
    have hp1 : Pair a (recvV b (sentM a)).1 := ⟨hp.na, hl.node, by rw [hl.id]; exact hp.ne, hp.speaks, by rw [htop]; exact Int.le_refl _⟩
    split at h
    · obtain ⟨q1, q2, q3, q4, q5, q6⟩ := settleR_ok f _ _ _ _ _ _ hp1 h
      exact ⟨q1, q2, q3, q4, q5.trans hl.id, q6⟩
    rename_i hok
    split at h
    · rename_i he2
      injection h with e1 h
      injection h with e2 h
      injection h with e3 h
      exact absurd h he2
    rename_i he2
    have he2 : (recvV a (recvV b (sentM a)).2.1).2.2.2 = 0 := by simpa using he2
    have hl2 := recvV_left he2
    obtain ⟨g1, g2, g3, g4, g5⟩ := recvV_ok he2
    obtain ⟨a1, a2, a3⟩ := hl.ans (by simpa using hok)
    obtain ⟨w1, w2, w3, w4, _⟩ := recdV_answer (n := a) a3 (a2.trans htop)
    rw [← g5] at w1 w2 w3 w4
    have hp2 : Pair (recvV a (recvV b (sentM a)).2.1).1 (recvV b (sentM a)).1 := ⟨hl2.node, hl.node, by rw [w4, hl.id]; exact hp.ne, w2.trans hp.speaks, by rw [w3, htop]; exact Int.le_refl _⟩
    obtain ⟨q1, q2, q3, q4, q5, q6⟩ := settleR_ok f _ _ _ _ _ _ hp2 h
    exact ⟨q1, q2.trans w1, q3.trans w4, q4.trans w3, q5.trans hl.id, q6⟩
theorem settleV_ok {a b x y : Nod} {c : Int} (h : settleV a b = (x, y, c, 0)) : Pair a b ∧ Pair x y ∧ x.log = a.log ∧ x.id = a.id ∧ x.term = a.term ∧ y.id = b.id ∧ settledB x y = true := by
  unfold settleV at h
  split at h
  · rename_i he
    injection h with e1 h
    injection h with e2 h
    injection h with e3 h
    exact absurd h he
  split at h
  · rename_i he
    injection h with e1 h
    injection h with e2 h
    injection h with e3 h
    exact absurd h he
  split at h
  · simp at h
  split at h
  · simp at h
  rename_i h1 h2 h3 h4
  have hs : a.speaks = true := by
    cases hs : a.speaks
    · exact absurd (Or.inl hs) h4
    · rfl
  have hp : Pair a b := ⟨(nodE_iff a).1 (by simpa using h1), (nodE_iff b).1 (by simpa using h2), h3, hs, by
    by_cases ht : a.term < b.term
    · exact absurd (Or.inr ht) h4
    · omega⟩
  obtain ⟨q1, q2, q3, q4, q5, q6⟩ := settleR_ok _ _ _ _ _ _ _ hp h
  exact ⟨hp, q1, q2, q3, q4, q5, q6⟩
theorem settled_all {x y : Nod} (h : settledB x y = true) : sameRs x.log (y.log.take x.log.length) = true ∧ x.acked = x.log.length ∧ y.acked = x.log.length := by
  unfold settledB at h
  simp only [Bool.and_eq_true, decide_eq_true_eq] at h
  exact ⟨h.1.1, h.1.2, h.2⟩

/-! ### They do settle -/
/-- The speaker has one record that the other one has not: the last one. -/
structure Half (L : List Rec) (n : Nat) (T : Int) (s o : Nod) : Prop where
  pair : Pair s o
  len : L.length = n + 1
  log : s.log = L
  term : s.term = T
  acked : s.acked = n
  next : s.next ≤ n
  oacked : o.acked = n
  olen : n ≤ o.log.length
  same : sameRs (L.take n) (o.log.take n) = true
  new : ∀ r, o.log[n]? = some r → r.term ≠ T
  last : (L[n]?).map (·.term) = some T
/-- Both have all records. -/
structure Full (L : List Rec) (n : Nat) (T : Int) (s o : Nod) : Prop where
  pair : Pair s o
  len : L.length = n + 1
  log : s.log = L
  term : s.term = T
  acked : s.acked = n + 1
  next : s.next = n + 1
  oacked : o.acked ≤ n + 1
  same : sameRs L o.log = true
/-- The end. -/
structure Done (L : List Rec) (p q : Nod) : Prop where
  np : NodOk p
  nq : NodOk q
  log : p.log = L
  same : sameRs L q.log = true
  pa : p.acked = L.length
  qa : q.acked = L.length
theorem Full.done {L : List Rec} {n : Nat} {T : Int} {s o : Nod} (h : Full L n T s o) (ha : o.acked = n + 1) : settledB s o = true ∧ Done L s o := by
  have hl := (sameRs_iff _ _).1 h.same
  have hlen := h.len
  refine ⟨?_, h.pair.na, h.pair.nb, h.log, h.same, by rw [h.acked, hlen]; omega, by rw [ha, hlen]; omega⟩
  unfold settledB
  rw [h.log, List.take_of_length_le (by omega), h.same, h.acked, ha, hlen]
  simp
/-- What the other one does with what it is sent, if it fits. -/
theorem exchange {s o : Nod} (hp : Pair s o) (ht : Taken (inTerm o (sentM s)) (sentM s)) :
    recvV o (sentM s) = (tookN (inTerm o (sentM s)) (sentM s), ansM (inTerm o (sentM s)) 1 (s.next + (sentM s).recs.length), true, 0) := by
  have hrd : recdV o (sentM s) = (tookN (inTerm o (sentM s)) (sentM s), ansM (inTerm o (sentM s)) 1 (s.next + (sentM s).recs.length), true, 0) := by
    unfold recdV
    rw [if_neg (by have := hp.term; show ¬ s.term < o.term; omega), if_pos (show (sentM s).kind = 0 from rfl), takeV_taken ht]
    rfl
  have := recvV_go hp.nb (sentM_ok hp.na hp.speaks) (fun _ => hp.quiet) (by rw [hrd])
  rw [this, hrd]
theorem exchange_back {s o : Nod} (hp : Pair s o) (k : Int) (h0 : 0 ≤ k) (h : k ≤ s.log.length) :
    recvV s (ansM (inTerm o (sentM s)) 1 k) = (⟨s.id, s.term, s.speaks, s.log, max s.acked k, max s.next k⟩, msg0, false, 0) := by
  have hit : (inTerm o (sentM s)).term = s.term := by
    have h1 : (sentM s).term = s.term := rfl
    have h2 := inTerm_term (n := o) (m := sentM s) (by have := hp.term; omega)
    omega
  have hl := hp.na.len
  have hrd : recdV s (ansM (inTerm o (sentM s)) 1 k) = (⟨s.id, s.term, s.speaks, s.log, max s.acked k, max s.next k⟩, msg0, false, 0) := by
    unfold recdV
    have e : (ansM (inTerm o (sentM s)) 1 k).term = s.term := hit
    rw [if_neg (by omega), if_neg (by show ¬ (1 : Int) = 0; omega), if_pos (show (ansM (inTerm o (sentM s)) 1 k).kind = 1 from rfl), inTerm_same e.symm]
    unfold ackN
    rw [if_pos ⟨hp.speaks, h⟩]
    rfl
  have := recvV_go hp.na (m := ansM (inTerm o (sentM s)) 1 k) (ansM_ok (.inl rfl) (by rw [hit]; exact own_pos (hp.na.own hp.speaks)) (by rw [hit]; exact hp.na.t1) h0 (by omega)) (fun hk => by have : (1 : Int) = 0 := hk; omega) (by rw [hrd])
  rw [this, hrd]
theorem Pair.next {s o : Nod} (hp : Pair s o) (ht : Taken (inTerm o (sentM s)) (sentM s)) (k : Int) (h0 : 0 ≤ k) (h : k ≤ s.log.length) : Pair ⟨s.id, s.term, s.speaks, s.log, max s.acked k, max s.next k⟩ (tookN (inTerm o (sentM s)) (sentM s)) := by
  have e1 := recvV_left (n := o) (m := sentM s) (by rw [exchange hp ht])
  have e2 := recvV_left (n := s) (m := ansM (inTerm o (sentM s)) 1 k) (by rw [exchange_back hp k h0 h])
  rw [exchange hp ht] at e1
  rw [exchange_back hp k h0 h] at e2
  have hit : (inTerm o (sentM s)).term = s.term := by
    have h1 : (sentM s).term = s.term := rfl
    have h2 := inTerm_term (n := o) (m := sentM s) (by have := hp.term; omega)
    omega
  exact ⟨e2.node, e1.node, by rw [e1.id]; exact hp.ne, hp.speaks, by show (inTerm o (sentM s)).term ≤ s.term; omega⟩
/-- One round of settling. -/
theorem settleR_step {s o : Nod} (hp : Pair s o) (ht : Taken (inTerm o (sentM s)) (sentM s)) (hl : s.next + (sentM s).recs.length ≤ s.log.length) (f : Nat) (k : Int) (hns : settledB s o = false) :
    settleR (f + 1) k s o = settleR f (k + 1) ⟨s.id, s.term, s.speaks, s.log, max s.acked (s.next + (sentM s).recs.length), max s.next (s.next + (sentM s).recs.length)⟩ (tookN (inTerm o (sentM s)) (sentM s)) := by
  have h0 := hp.na.n0
  conv => lhs; unfold settleR
  rw [hns, exchange hp ht]
  simp only
  rw [exchange_back hp _ (by omega) hl]
  simp
theorem same_get {a b : List Rec} (h : sameRs a b = true) {i : Nat} {x : Rec} (hx : a[i]? = some x) : ∃ y, b[i]? = some y ∧ x.term = y.term ∧ x.act.at_ = y.act.at_ := by
  obtain ⟨h1, h2⟩ := (sameRs_iff a b).1 h
  have hi := (List.getElem?_eq_some_iff.1 hx).1
  refine ⟨b[i]'(by omega), List.getElem?_eq_getElem (by omega), ?_⟩
  obtain ⟨q1, q2⟩ := sameR_prop.1 (h2 i _ _ hx (List.getElem?_eq_getElem (by omega)))
  exact ⟨q1, q2.at_⟩
theorem Full.settles {L : List Rec} {n : Nat} {T : Int} {s o : Nod} (h : Full L n T s o) (f : Nat) (k : Int) : ∃ p q c, settleR (f + 2) k s o = (p, q, c, 0) ∧ Done L p q := by
  by_cases hb : settledB s o = true
  · have ha : o.acked = n + 1 := by
      have := (settled_all hb).2.2
      rw [h.log, h.len] at this
      omega
    refine ⟨s, o, k, ?_, (h.done ha).2⟩
    unfold settleR
    rw [if_pos hb]
  · have hb : settledB s o = false := by simpa using hb
    have hl := (sameRs_iff _ _).1 h.same
    have hlen := h.len
    have hnx := h.next
    have hlog := h.log
    have hr : (sentM s).recs = [] := by
      show (s.log.drop s.next.toNat).take 16 = []
      rw [hlog, List.drop_eq_nil_of_le (by omega)]; rfl
    have hkl := keepN_le ((inTerm o (sentM s)).log.drop (sentM s).at_.toNat) (sentM s).recs
    have hil := inTerm_log o (sentM s)
    have htk : tookL (inTerm o (sentM s)) (sentM s) = o.log := by
      have hat : (sentM s).at_ = s.next := rfl
      have := (tookL_len (n := inTerm o (sentM s)) (m := sentM s) (by rw [hil, hat]; omega)).2.1 (by rw [hr]; simp)
      rw [this, hil]
    have hin := h.pair.nb.inTerm (sentM_ok h.pair.na h.pair.speaks)
    have ht : Taken (inTerm o (sentM s)) (sentM s) := by
      refine ⟨?_, fun _ => ?_, fun hk => ?_, ?_, ?_⟩
      · rw [hil]; show s.next ≤ _; omega
      · rw [hil]
        show termAt o.log (s.next - 1) = (if 0 < s.next then termAt s.log (s.next - 1) else 0)
        rw [if_pos (by omega), hlog]
        obtain ⟨y, hy, he, _⟩ := same_get h.same (List.getElem?_eq_getElem (l := L) (i := n) (by omega))
        have e : s.next - 1 = (n : Int) := by omega
        rw [e, termAt_get hy, termAt_get (List.getElem?_eq_getElem (l := L) (i := n) (by omega)), he]
      · rw [hr] at hk; simp at hk
      · rw [htk]; exact h.pair.nb.len
      · rw [htk]; have := hin.recs; rwa [hil] at this
    rw [settleR_step h.pair ht (by rw [hr, hlog, hlen]; simp; omega) (f + 1) k hb, hr]
    have hfull : Full L n T ⟨s.id, s.term, s.speaks, s.log, max s.acked (s.next + (([] : List Rec).length : Int)), max s.next (s.next + (([] : List Rec).length : Int))⟩ (tookN (inTerm o (sentM s)) (sentM s)) := by
      have hac := h.acked
      have hoa := h.oacked
      refine ⟨h.pair.next ht _ (by simp; omega) (by rw [hlog, hlen]; simp; omega), hlen, hlog, h.term, by show max s.acked _ = _; simp; omega, by show max s.next _ = _; simp; omega, ?_, ?_⟩
      · show max (inTerm o (sentM s)).acked (min s.acked (s.next + (sentM s).recs.length)) ≤ _
        rw [inTerm_acked, hr]; simp; omega
      · show sameRs L (tookL _ _) = true
        rw [htk]; exact h.same
    have ha : (tookN (inTerm o (sentM s)) (sentM s)).acked = n + 1 := by
      have hac := h.acked
      have hoa := h.oacked
      show max (inTerm o (sentM s)).acked (min s.acked (s.next + (sentM s).recs.length)) = _
      rw [inTerm_acked, hr]; simp; omega
    obtain ⟨hd1, hd2⟩ := hfull.done ha
    refine ⟨_, _, k + 1, ?_, hd2⟩
    conv => lhs; unfold settleR
    rw [if_pos hd1]
theorem Half.settles {L : List Rec} {n : Nat} {T : Int} : ∀ (d f : Nat) (k : Int) (s o : Nod), Half L n T s o → (n : Int) - s.next < 16 * d → d + 2 ≤ f → ∃ p q c, settleR f k s o = (p, q, c, 0) ∧ Done L p q
  | 0, f, k, s, o, h, hd, _ => by have := h.next; omega
  | d + 1, f, k, s, o, h, hd, hf => by
    obtain ⟨g, rfl⟩ : ∃ g, f = g + 1 := ⟨f - 1, by omega⟩
    have hlen := h.len; have hnx := h.next; have hn0 := h.pair.na.n0; have hlog := h.log; have hoa := h.oacked; have hol := h.olen; have hac := h.acked
    have h256 := h.pair.na.len
    rw [hlog] at h256
    have hb : settledB s o = false := by
      cases hc : settledB s o with
      | false => rfl
      | true =>
        have := (settled_all hc).2.1
        rw [hlog, hlen] at this
        omega
    obtain ⟨j, hj⟩ : ∃ j : Nat, s.next = j := ⟨s.next.toNat, by omega⟩
    have hat : (sentM s).at_.toNat = j := by show s.next.toNat = j; omega
    have hrc : (sentM s).recs = (L.drop j).take 16 := by
      show (s.log.drop s.next.toNat).take 16 = _
      rw [hlog, show s.next.toNat = j by omega]
    have hrl : (sentM s).recs.length = min 16 (n + 1 - j) := by rw [hrc, List.length_take, List.length_drop, hlen]
    have hil := inTerm_log o (sentM s)
    have hia := inTerm_acked o (sentM s)
    have hin := h.pair.nb.inTerm (sentM_ok h.pair.na h.pair.speaks)
    have hit : (inTerm o (sentM s)).term = T := by
      have h1 : (sentM s).term = s.term := rfl
      have h2 := inTerm_term (n := o) (m := sentM s) (by have := h.pair.term; omega)
      have := h.term
      omega
    have hterm : ∀ i, i < n → (o.log[i]?).map (·.term) = (L[i]?).map (·.term) := fun i hi => by
      obtain ⟨y, hy, he, _⟩ := same_get h.same (i := i) (x := L[i]'(by omega)) (by rw [List.getElem?_take, if_pos hi]; exact List.getElem?_eq_getElem (by omega))
      rw [List.getElem?_take, if_pos hi] at hy
      rw [hy, List.getElem?_eq_getElem (by omega)]
      simp [he]
    have hget : ∀ i, i < (sentM s).recs.length → (sentM s).recs[i]? = L[j + i]? := fun i hi => by
      rw [hrc, List.getElem?_take, if_pos (by omega), List.getElem?_drop]
    -- how many are kept
    have hk : keepN ((inTerm o (sentM s)).log.drop (sentM s).at_.toNat) (sentM s).recs = min (sentM s).recs.length (n - j) := by
      rw [hil, hat]
      have hkl := keepN_le (o.log.drop j) (sentM s).recs
      have hge := keepN_ge (o.log.drop j) (sentM s).recs (min (sentM s).recs.length (n - j)) (by rw [List.length_drop]; omega) (by omega) (fun i hi => by
        rw [List.getElem?_drop, hget i (by omega)]
        exact hterm (j + i) (by omega))
      refine Nat.le_antisymm ?_ hge
      refine Nat.not_lt.1 fun hgt => ?_
      have hij : min (sentM s).recs.length (n - j) = n - j := by omega
      have hlt : n - j < keepN (o.log.drop j) (sentM s).recs := by omega
      have := keepN_term (o.log.drop j) (sentM s).recs (n - j) hlt
      rw [List.getElem?_drop, hget (n - j) (by omega), show j + (n - j) = n by omega, h.last] at this
      cases hr : o.log[n]? with
      | none => rw [hr] at this; cases this
      | some r => rw [hr] at this; exact h.new r hr (by simpa using this)
    have hatle : (sentM s).at_.toNat ≤ (inTerm o (sentM s)).log.length := by rw [hil, hat]; omega
    obtain ⟨q1, q2, q3⟩ := tookL_len (n := inTerm o (sentM s)) (m := sentM s) hatle
    rw [hk, hat] at q1
    rw [hk] at q2
    have hbefore : 0 < (sentM s).at_ → termAt (inTerm o (sentM s)).log ((sentM s).at_ - 1) = (sentM s).before := fun h0 => by
      rw [hil]
      show termAt o.log (s.next - 1) = (if 0 < s.next then termAt s.log (s.next - 1) else 0)
      have h0' : 0 < s.next := h0
      rw [if_pos h0', hlog, hj, show ((j : Int) - 1) = ((j - 1 : Nat) : Int) by omega]
      have := hterm (j - 1) (by omega)
      rw [List.getElem?_eq_getElem (by omega), List.getElem?_eq_getElem (by omega)] at this
      rw [termAt_get (List.getElem?_eq_getElem (by omega)), termAt_get (List.getElem?_eq_getElem (by omega))]
      simpa using this
    have hat1 : (sentM s).at_ ≤ (inTerm o (sentM s)).log.length := by rw [hil]; show s.next ≤ _; omega
    have hacm : (sentM s).acked = s.acked := rfl
    by_cases hcase : (sentM s).recs.length ≤ n - j
    · -- the last one is not among them
      have htk : tookL (inTerm o (sentM s)) (sentM s) = o.log := by rw [q2 (by omega), hil]
      have ht : Taken (inTerm o (sentM s)) (sentM s) := by
        refine ⟨hat1, hbefore, fun hlt => ?_, ?_, ?_⟩
        · rw [hk] at hlt; omega
        · rw [htk]; exact h.pair.nb.len
        · rw [htk]; have := hin.recs; rwa [hil] at this
      have hle : s.next + ((sentM s).recs.length : Int) ≤ s.log.length := by rw [hlog, hlen]; omega
      rw [settleR_step h.pair ht hle g k hb]
      refine Half.settles d g (k + 1) _ _ ⟨h.pair.next ht _ (by omega) hle, hlen, hlog, h.term, ?_, ?_, ?_, ?_, ?_, ?_, h.last⟩ ?_ (by omega)
      · show max s.acked _ = _; omega
      · show max s.next _ ≤ _; omega
      · show max (inTerm o (sentM s)).acked (min s.acked (s.next + (sentM s).recs.length)) = _
        rw [hia]; omega
      · show n ≤ (tookL _ _).length; rw [htk]; exact hol
      · show sameRs _ ((tookL _ _).take n) = true; rw [htk]; exact h.same
      · show ∀ r, (tookL _ _)[n]? = some r → _; rw [htk]; exact h.new
      · show (n : Int) - max s.next (s.next + (sentM s).recs.length) < _
        omega
    · -- it is the last of them
      have hrl2 : (sentM s).recs.length = n + 1 - j := by omega
      have hLn : L[n]? = some (L[n]'(by omega)) := List.getElem?_eq_getElem (by omega)
      have hlt : (L[n]'(by omega)).term = T := by have := h.last; rw [hLn] at this; simpa using this
      have htk : tookL (inTerm o (sentM s)) (sentM s) = o.log.take n ++ [L[n]'(by omega)] := by
        unfold tookL
        simp only
        rw [if_pos (by rw [hk]; omega), hk, hil, hat, show j + min (sentM s).recs.length (n - j) = n by omega, show min (sentM s).recs.length (n - j) = n - j by omega]
        congr 1
        rw [hrc, List.take_of_length_le (by rw [List.length_drop, hlen]; omega), List.drop_drop, show j + (n - j) = n by omega, List.drop_eq_getElem_cons (by omega), List.drop_eq_nil_of_le (by omega)]
      have hro : RecsOk 1 T (o.log.take n ++ [L[n]'(by omega)]) := by
        have h1 : RecsOk 1 T o.log := by have := hin.recs; rwa [hil, hit] at this
        have h2 : RecsOk 1 T L := by have := h.pair.na.recs; rwa [hlog, h.term] at this
        have hmem : L[n]'(by omega) ∈ L := List.getElem_mem _
        refine (h1.sub (List.take_sublist n o.log)).append ⟨by simp; exact h2.lo _ hmem, by simp; exact h2.pos _ hmem, by simp; exact h2.hi _ hmem, by simp; exact h2.act _ hmem, by simp⟩ ?_
        intro x hx y hy
        simp at hy
        subst hy
        have hn0 : 0 < n := by
          rcases Nat.eq_zero_or_pos n with h0 | h0
          · rw [h0] at hx; simp at hx
          · exact h0
        rw [List.getLast?_eq_getElem?, List.length_take, Nat.min_eq_left hol] at hx
        obtain ⟨y, hy, e1, e2⟩ := same_get h.same (i := n - 1) (x := L[n - 1]'(by omega)) (by rw [List.getElem?_take, if_pos (by omega)]; exact List.getElem?_eq_getElem (by omega))
        rw [hx] at hy
        injection hy with hy
        subst hy
        have := recs_get h2.asc (show n - 1 < n by omega) (List.getElem?_eq_getElem (by omega)) hLn
        omega
      have ht : Taken (inTerm o (sentM s)) (sentM s) := by
        refine ⟨hat1, hbefore, fun _ => ?_, ?_, ?_⟩
        · rw [hk, hia, hil]; show _ ≤ s.next + _; omega
        · rw [htk]; simp; omega
        · rw [htk, hit]; exact hro
      have hle : s.next + ((sentM s).recs.length : Int) ≤ s.log.length := by rw [hlog, hlen]; omega
      rw [settleR_step h.pair ht hle g k hb]
      obtain ⟨g', rfl⟩ : ∃ g', g = g' + 2 := ⟨g - 2, by omega⟩
      refine Full.settles (n := n) (T := T) ⟨h.pair.next ht _ (by omega) hle, hlen, hlog, h.term, ?_, ?_, ?_, ?_⟩ g' (k + 1)
      · show max s.acked _ = _; omega
      · show max s.next _ = _; omega
      · show max (inTerm o (sentM s)).acked (min s.acked (s.next + (sentM s).recs.length)) ≤ _
        rw [hia]; omega
      · show sameRs L (tookL _ _) = true
        rw [htk]
        have e : L = L.take n ++ [L[n]'(by omega)] := by
          rw [← List.take_succ_eq_append_getElem, List.take_of_length_le (by omega)]
        have := sameRs_snoc h.same (L[n]'(by omega))
        rwa [← e] at this
/-- What the speaker does then, and settles again, is at both. -/
theorem settle_more {x y more : Nod} {act : Acn} (hp : Pair x y) (hs : settledB x y = true) (hm : actV x act = (more, 0)) (hlast : x.log.length < y.log.length → ∀ r, y.log.getLast? = some r → r.term < x.term) :
    ∃ p q c, settleV more y = (p, q, c, 0) ∧ Done more.log p q ∧ more.log.length = x.log.length + 1 := by
  unfold actV at hm
  split at hm
  · rename_i he; injection hm with _ hm; exact absurd hm he
  split at hm
  · simp at hm
  split at hm
  · rename_i he; injection hm with _ hm; exact absurd hm he
  split at hm
  · simp at hm
  split at hm
  · simp at hm
  rename_i h1 h2 h3 h4 h5
  injection hm with hm _
  have hx := hp.na
  have hl := hx.len
  obtain ⟨hs1, hs2, hs3⟩ := settled_all hs
  have hro : RecsOk 1 x.term (x.log ++ [⟨x.term, act⟩]) := by
    have ho := own_pos (hx.own hp.speaks)
    refine hx.recs.append ⟨by simp; omega, by simp; omega, by simp, by simp; simpa using h3, by simp⟩ ?_
    intro a ha b hb
    simp at hb
    subst hb
    have := hx.recs.hi a (List.mem_of_getLast? ha)
    refine ⟨this, ?_⟩
    unfold early at h4
    rw [ha] at h4
    simp at h4
    exact h4
  have hmore : NodOk more := by
    subst hm
    have := hx.a0; have := hx.a1; have := hx.n0; have := hx.n1
    exact ⟨hx.id1, hx.id2, hx.t0, hx.t1, hx.own, by show (x.log ++ _).length ≤ 256; simp; omega, hro, hx.a0, by show x.acked ≤ ((x.log ++ _).length : Int); simp; omega, hx.n0, by show x.next ≤ ((x.log ++ _).length : Int); simp; omega, hx.n2⟩
  have hpm : Pair more y := by subst hm; exact ⟨hmore, hp.nb, hp.ne, hp.speaks, hp.term⟩
  have hlen : more.log.length = x.log.length + 1 := by subst hm; simp [actN]
  have htk := (sameRs_iff _ _).1 hs1
  have hyl : x.log.length ≤ y.log.length := by have := htk.1; rw [List.length_take] at this; omega
  have hh : Half more.log x.log.length x.term more y := by
    have e1 : more.log = x.log ++ [⟨x.term, act⟩] := by subst hm; rfl
    refine ⟨hpm, hlen, rfl, by subst hm; rfl, by subst hm; exact hs2, ?_, hs3, hyl, ?_, ?_, ?_⟩
    · subst hm; exact hx.n1
    · rw [e1, List.take_append_of_le_length (Nat.le_refl _), List.take_of_length_le (Nat.le_refl _)]; exact hs1
    · intro r hr
      have hlt := (List.getElem?_eq_some_iff.1 hr).1
      have hgl : y.log.getLast? = some (y.log[y.log.length - 1]'(by omega)) := by rw [List.getLast?_eq_getElem?, List.getElem?_eq_getElem (by omega)]
      have h6 := hlast hlt _ hgl
      by_cases he : x.log.length = y.log.length - 1
      · rw [List.getElem?_eq_getElem hlt] at hr
        injection hr with hr
        have : r = y.log[y.log.length - 1]'(by omega) := by rw [← hr]; congr 1
        rw [this]; omega
      · have := (recs_get hp.nb.recs.asc (show x.log.length < y.log.length - 1 by omega) hr (List.getElem?_eq_getElem (by omega))).1
        omega
    · rw [e1, List.getElem?_append_right (Nat.le_refl _), Nat.sub_self]; rfl
  have hn := hh.next
  have hn0 := hmore.n0
  obtain ⟨p, q, c, hset, hd⟩ := Half.settles (x.log.length / 16 + 1) 521 0 more y hh (by omega) (by omega)
  refine ⟨p, q, c, ?_, hd, hlen⟩
  unfold settleV
  rw [if_neg (by simpa using (nodE_iff more).2 hmore), if_neg (by simpa using (nodE_iff y).2 hp.nb), if_neg hpm.ne, if_neg]
  · exact hset
  · rintro (h | h)
    · rw [hpm.speaks] at h; cases h
    · have := hpm.term; omega
end Go.Proofs.YtlpboikonnpjbaaGreat

/-
  The action of the examples.
-/
namespace Go.Proofs.YtlpboikonnpjbaaGreat

/-- The action ActGo of the list 1. -/
def goA (t : Int) : Acn := mkA t 0 1 0
theorem acnE_goA {t : Int} (h0 : 0 ≤ t) (h1 : t ≤ 10000000) : acnE (goA t) = 0 := by
  unfold goA
  rw [acnE_mk t 0 1 0 (by decide) (by unfold inE; rw [if_neg (by omega)])]
  simp only [chkS, show useB 0 0 = true by decide +kernel, show useB 0 1 = false by decide +kernel, show useB 0 2 = false by decide +kernel, show useB 0 3 = false by decide +kernel, show useB 0 4 = false by decide +kernel, show useB 0 5 = false by decide +kernel, show useB 0 6 = false by decide +kernel, show useB 0 7 = false by decide +kernel, Nat.zero_add, Nat.reduceAdd]
  simp [inE, parsE, scan]
end Go.Proofs.YtlpboikonnpjbaaGreat

/-
  Chapter 54's examples in plain.
-/
namespace Go.Proofs.YtlpboikonnpjbaaGreat

noncomputable def exR0 : Rec := ⟨1, goA 0⟩
noncomputable def exR1 : Rec := ⟨1, goA 100⟩
noncomputable def exR7 : Rec := ⟨2, goA 7⟩
theorem goA_at (t : Int) : (goA t).at_ = t := rfl
theorem exE0 : acnE (goA 0) = 0 := acnE_goA (by omega) (by omega)
theorem exE1 : acnE (goA 100) = 0 := acnE_goA (by omega) (by omega)
theorem exE7 : acnE (goA 7) = 0 := acnE_goA (by omega) (by omega)
theorem mm1 : max (0 : Int) (min 0 2) = 0 := by decide
theorem mm2 : max (0 : Int) 2 = 2 := by decide
theorem mm3 : min (0 : Int) 2 = 0 := by decide
theorem mm4 : max (0 : Int) (min 0 1) = 0 := by decide
theorem ex_recs : recsE 1 1 [exR0, exR1] = 0 := by simp [recsE, scan, recS, exR0, exR1, exE0, exE1, goA_at]
theorem ex_recs2 : recsE 1 2 [exR0, exR1] = 0 := by simp [recsE, scan, recS, exR0, exR1, exE0, exE1, goA_at]
theorem ex_recs0 : recsE 0 1 [exR0, exR1] = 0 := by simp [recsE, scan, recS, exR0, exR1, exE0, exE1, goA_at]
theorem ex_recs7 : recsE 1 2 [exR7] = 0 := by simp [recsE, scan, recS, exR7, exE7]
theorem ex_recs70 : recsE 0 2 [exR7] = 0 := by simp [recsE, scan, recS, exR7, exE7]
theorem ex_recs_1 : recsE 1 1 [exR0] = 0 := by simp [recsE, scan, recS, exR0, exE0]
theorem ex_recs_nil (a b : Int) : recsE a b [] = 0 := by simp [recsE, scan]
theorem ex_leadA : leadV ⟨1, 0, false, [], 0, 0⟩ 1 = (⟨1, 1, true, [], 0, 0⟩, 0) := by
  simp [leadV, nodE, ex_recs_nil, ownB, ledN]
theorem ex_actA : actV ⟨1, 1, true, [], 0, 0⟩ (goA 0) = (⟨1, 1, true, [exR0], 0, 0⟩, 0) := by
  simp [actV, nodE, ex_recs_nil, ownB, exE0, early, actN, exR0]
theorem ex_actA2 : actV ⟨1, 1, true, [exR0], 0, 0⟩ (goA 100) = (⟨1, 1, true, [exR0, exR1], 0, 0⟩, 0) := by
  simp [actV, nodE, ex_recs_1, ownB, exE1, early, actN, exR1]
  simp [exR0, goA_at]
theorem ex_sendA : sendV ⟨1, 1, true, [exR0, exR1], 0, 0⟩ = (⟨0, 1, 0, 0, [exR0, exR1], 0⟩, 0) := by
  simp [sendV, nodE, ex_recs, ownB, sentM]
theorem ex_recvX : recvV ⟨2, 0, false, [], 0, 0⟩ ⟨0, 1, 0, 0, [exR0, exR1], 0⟩ = (⟨2, 1, false, [exR0, exR1], 0, 0⟩, ⟨1, 1, 2, 0, [], 0⟩, true, 0) := by
  simp [recvV, nodE, msgE, appE, ex_recs_nil, ex_recs0, ex_recs, ownB, recdV, inTerm, takeV, tookL, keepN, ansM, mm1]
theorem ex_recvY : recvV ⟨1, 1, true, [exR0, exR1], 0, 0⟩ ⟨1, 1, 2, 0, [], 0⟩ = (⟨1, 1, true, [exR0, exR1], 2, 2⟩, msg0, false, 0) := by
  simp [recvV, nodE, msgE, ansE, ex_recs, ownB, recdV, inTerm, ackN, mm2]
theorem ex_sendY : sendV ⟨1, 1, true, [exR0, exR1], 2, 2⟩ = (⟨0, 1, 2, 1, [], 2⟩, 0) := by
  have h : exR1.term = 1 := rfl
  simp [sendV, nodE, ex_recs, ownB, sentM, termAt, h]
theorem ex_recvX2 : recvV ⟨2, 1, false, [exR0, exR1], 0, 0⟩ ⟨0, 1, 2, 1, [], 2⟩ = (⟨2, 1, false, [exR0, exR1], 2, 0⟩, ⟨1, 1, 2, 0, [], 0⟩, true, 0) := by
  simp [recvV, nodE, msgE, appE, ex_recs_nil, ex_recs, ownB, recdV, inTerm, takeV, tookL, keepN, ansM, termAt, show exR1.term = 1 from rfl, mm2]
theorem ex_leadB : leadV ⟨2, 0, false, [], 0, 0⟩ 2 = (⟨2, 2, true, [], 0, 0⟩, 0) := by
  simp [leadV, nodE, ex_recs_nil, ownB, ledN]
theorem ex_actB : actV ⟨2, 2, true, [], 0, 0⟩ (goA 7) = (⟨2, 2, true, [exR7], 0, 0⟩, 0) := by
  simp [actV, nodE, ex_recs_nil, ownB, exE7, early, actN, exR7]
theorem ex_sendB : sendV ⟨2, 2, true, [exR7], 0, 0⟩ = (⟨0, 2, 0, 0, [exR7], 0⟩, 0) := by
  simp [sendV, nodE, ex_recs7, ownB, sentM]
theorem ex_recvZ : recvV ⟨1, 1, true, [exR0, exR1], 0, 0⟩ ⟨0, 2, 0, 0, [exR7], 0⟩ = (⟨1, 2, false, [exR7], 0, 0⟩, ⟨1, 2, 1, 0, [], 0⟩, true, 0) := by
  have h : keepN [exR0, exR1] [exR7] = 0 := by simp [keepN, exR0, exR7]
  simp [recvV, nodE, msgE, appE, ex_recs, ex_recs7, ex_recs70, ownB, recdV, inTerm, takeV, tookL, h, ansM, mm3, mm4]
theorem ex_recvB : recvV ⟨2, 2, true, [exR7], 0, 0⟩ ⟨0, 1, 0, 0, [exR0, exR1], 0⟩ = (⟨2, 2, true, [exR7], 0, 0⟩, ⟨2, 2, 0, 0, [], 0⟩, true, 0) := by
  simp [recvV, nodE, msgE, appE, ex_recs0, ex_recs7, ownB, recdV, ansM]
end Go.Proofs.YtlpboikonnpjbaaGreat
