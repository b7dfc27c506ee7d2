/-
 Two nodes and their mail, in plain: what they do, and what holds of them whatever they do.
-/
import Derived.Test.YtmhinhgflehkaaaGreatGrag
namespace Go.Proofs.YtmhinhgflehkaaaGreat

structure CW where
 n : Bool → Nod
 mail : Bool → List Msg
 time : Int
def setN (w : CW) (i : Bool) (x : Nod) : CW := ⟨fun j => if j = i then x else w.n j, w.mail, w.time⟩
def postM (w : CW) (i : Bool) (m : Msg) : CW := ⟨w.n, fun j => if j = i then w.mail j ++ [m] else w.mail j, w.time⟩
def setT (w : CW) (t : Int) : CW := ⟨w.n, w.mail, t⟩
def idOf (i : Bool) : Int := if i then 2 else 1
theorem setN_same (w : CW) (i : Bool) (x : Nod) : (setN w i x).n i = x := if_pos rfl
theorem setN_other (w : CW) (i : Bool) (x : Nod) : (setN w i x).n (!i) = w.n (!i) := if_neg (by cases i <;> decide)
theorem both {p : Bool → Prop} (i : Bool) (h1 : p i) (h2 : p (!i)) : ∀ j, p j := fun j => by cases i <;> cases j <;> assumption
theorem own_not {i : Bool} {t : Int} (h : ownB (idOf i) t = true) : ownB (idOf (!i)) t = false := by
 cases i
 ·exact own_other (i := 1) (j := 2) (by decide) (by decide) (by decide) (by decide) (by decide) h
 ·exact own_other (i := 2) (j := 1) (by decide) (by decide) (by decide) (by decide) (by decide) h

def Mat (G : Int → Option (List Rec)) (X : List Rec) : Prop := ∀ k r, X[k]? = some r → ∃ Y, G r.term = some Y ∧ X.take (k + 1) = Y.take (k + 1)
theorem Mat.pre {G : Int → Option (List Rec)} {X Z : List Rec} (h : Mat G X) (hz : Z <+: X) : Mat G Z := fun k r hk => by
 obtain ⟨t, rfl⟩ := hz
 have hlt := (List.getElem?_eq_some_iff.1 hk).1
 obtain ⟨Y, h1, h2⟩ := h k r (by rw [List.getElem?_append_left hlt]; exact hk)
 exact ⟨Y, h1, by rw [← h2, List.take_append_of_le_length (by omega)]⟩
theorem Mat.same {G : Int → Option (List Rec)} {X Z : List Rec} (hx : Mat G X) (hz : Mat G Z) {p : Nat} {a b : Rec} (ha : X[p]? = some a) (hb : Z[p]? = some b) (h : a.term = b.term) : X.take (p + 1) = Z.take (p + 1) := by
 obtain ⟨Y, h1, h2⟩ := hx p a ha
 obtain ⟨Y', h3, h4⟩ := hz p b hb
 rw [h, h3] at h1
 injection h1 with h1
 rw [h2, h4, h1]

structure App (G : Int → Option (List Rec)) (i : Bool) (m : Msg) : Prop where
 own : ownB (idOf (!i)) m.term = true
 log : ∃ Y, G m.term = some Y ∧ m.at_.toNat + m.recs.length ≤ Y.length ∧ m.recs = (Y.drop m.at_.toNat).take m.recs.length ∧ (0 < m.at_ → m.before = termAt Y (m.at_ - 1))
structure Ackd (a b : Nod) (m : Msg) : Prop where
 old : m.term ≤ a.term
 log : a.speaks = true → a.term = m.term → m.at_ ≤ a.log.length ∧ m.at_ ≤ b.log.length ∧ a.log.take m.at_.toNat = b.log.take m.at_.toNat
structure Fine (G : Int → Option (List Rec)) (K : Nat) (t : Int) (X : List Rec) : Prop where
 len : X.length ≤ K
 mat : Mat G X
 time : ∀ r ∈ X, r.act.at_ ≤ t
structure Inv (G : Int → Option (List Rec)) (K : Nat) (w : CW) : Prop where
 node : ∀ i, NodOk (w.n i)
 id : ∀ i, (w.n i).id = idOf i
 now : ∀ i, (w.n i).speaks = true → G (w.n i).term = some (w.n i).log
 led : ∀ i T Y, G T = some Y → ownB (idOf i) T = true → T ≤ (w.n i).term
 gen : ∀ T Y, G T = some Y → 1 ≤ T ∧ RecsOk 1 T Y ∧ Fine G K w.time Y
 log : ∀ i, Fine G K w.time (w.n i).log
 pre : ∀ i T Y, G T = some Y → ownB (idOf i) T = true → (w.n (!i)).term ≤ T → Y <+: (w.n i).log
 com : ∀ i, (w.n i).acked ≤ (w.n (!i)).log.length ∧ (w.n i).log.take (w.n i).acked.toNat = (w.n (!i)).log.take (w.n i).acked.toNat
 terms : ∀ i, (w.n i).term ≤ 2 * K
 t0 : 0 ≤ w.time
 t1 : w.time ≤ 255 * K
 mail : ∀ i m, m ∈ w.mail i → MsgOk m ∧ m.term ≤ 2 * K ∧ (m.kind = 0 → App G i m) ∧ (m.kind = 1 → Ackd (w.n i) (w.n (!i)) m)

theorem Inv.own {G : Int → Option (List Rec)} {K : Nat} {w : CW} (h : Inv G K w) {i : Bool} (hs : (w.n i).speaks = true) : ownB (idOf i) (w.n i).term = true := by
 have := (h.node i).own hs
 rwa [h.id i] at this
theorem Inv.posted {G : Int → Option (List Rec)} {K : Nat} {w : CW} (h : Inv G K w) {i : Bool} {m : Msg} (h1 : MsgOk m) (h2 : m.term ≤ 2 * K) (h3 : m.kind = 0 → App G i m) (h4 : m.kind = 1 → Ackd (w.n i) (w.n (!i)) m) : Inv G K (postM w i m) :=
 ⟨h.node, h.id, h.now, h.led, h.gen, h.log, h.pre, h.com, h.terms, h.t0, h.t1, fun j x hx => by
  by_cases hj : j = i
  ·subst hj
   have hx : x ∈ w.mail j ++ [m] := by have : x ∈ (if j = j then w.mail j ++ [m] else w.mail j) := hx; rwa [if_pos rfl] at this
   rcases List.mem_append.1 hx with hx | hx
   ·exact h.mail j x hx
   ·simp at hx; subst hx; exact ⟨h1, h2, h3, h4⟩
  ·have : x ∈ (if j = i then w.mail j ++ [m] else w.mail j) := hx
   rw [if_neg hj] at this
   exact h.mail j x this⟩
structure Next (G : Int → Option (List Rec)) (K : Nat) (w : CW) (i : Bool) (x : Nod) : Prop where
 node : NodOk x
 id : x.id = idOf i
 term : (w.n i).term ≤ x.term
 top : x.term ≤ 2 * K
 speaks : x.speaks = true → (w.n i).speaks = true ∧ x.term = (w.n i).term ∧ x.log = (w.n i).log
 log : Fine G K w.time x.log
 pre : ∀ T Y, G T = some Y → ownB (idOf i) T = true → (w.n (!i)).term ≤ T → Y <+: x.log
 com : x.acked ≤ (w.n (!i)).log.length ∧ x.log.take x.acked.toNat = (w.n (!i)).log.take x.acked.toNat
 safe : ∀ c : Int, 0 ≤ c → c ≤ (w.n i).log.length → (w.n i).log.take c.toNat = (w.n (!i)).log.take c.toNat → c ≤ (w.n (!i)).log.length → c ≤ x.log.length ∧ x.log.take c.toNat = (w.n i).log.take c.toNat
theorem Inv.next {G : Int → Option (List Rec)} {K : Nat} {w : CW} (h : Inv G K w) {i : Bool} {x : Nod} (hx : Next G K w i x) : Inv G K (setN w i x) := by
 have hs := setN_same w i x
 have ho := setN_other w i x
 have hs' : ∀ {j}, j = (!i) → (setN w i x).n (!j) = x := fun {j} e => by subst e; rw [Bool.not_not]; exact hs
 have ho' : (setN w i x).n (!i) = w.n (!i) := ho
 refine ⟨?_, ?_, ?_, ?_, h.gen, ?_, ?_, ?_, ?_, h.t0, h.t1, ?_⟩
 ·exact both i (by rw [hs]; exact hx.node) (by rw [ho]; exact h.node _)
 ·exact both i (by rw [hs]; exact hx.id) (by rw [ho]; exact h.id _)
 ·refine both i (fun hp => ?_) (fun hp => ?_)
  ·rw [hs] at hp ⊢
   obtain ⟨a, b, c⟩ := hx.speaks hp
   rw [b, c]; exact h.now i a
  ·rw [ho] at hp ⊢; exact h.now _ hp
 ·refine both i (fun T Y hY hT => ?_) (fun T Y hY hT => ?_)
  ·rw [hs]; exact Int.le_trans (h.led i T Y hY hT) hx.term
  ·rw [ho]; exact h.led _ T Y hY hT
 ·exact both i (by rw [hs]; exact hx.log) (by rw [ho]; exact h.log _)
 ·refine both i (fun T Y hY hT hle => ?_) (fun T Y hY hT hle => ?_)
  ·rw [hs]; rw [ho] at hle; exact hx.pre T Y hY hT hle
  ·rw [ho]; rw [Bool.not_not, hs] at hle
   exact h.pre (!i) T Y hY hT (by rw [Bool.not_not]; exact Int.le_trans hx.term hle)
 ·refine both i ?_ ?_
  ·rw [hs, ho]; exact hx.com
  ·rw [ho, Bool.not_not, hs]
   obtain ⟨c1, c2⟩ := h.com (!i)
   rw [Bool.not_not] at c1 c2
   obtain ⟨s1, s2⟩ := hx.safe _ (h.node (!i)).a0 c1 c2.symm (h.node (!i)).a1
   exact ⟨s1, by rw [s2]; exact c2⟩
 ·exact both i (by rw [hs]; exact hx.top) (by rw [ho]; exact h.terms _)
 ·refine both i (fun m hm => ?_) (fun m hm => ?_)
  ·obtain ⟨a, b, c, d⟩ := h.mail i m hm
   refine ⟨a, b, c, fun hk => ?_⟩
   rw [hs, ho]
   have hd := d hk
   refine ⟨Int.le_trans hd.old hx.term, fun hp ht => ?_⟩
   obtain ⟨e1, e2, e3⟩ := hx.speaks hp
   rw [e3]
   exact hd.log e1 (by rw [← e2]; exact ht)
  ·obtain ⟨a, b, c, d⟩ := h.mail (!i) m hm
   refine ⟨a, b, c, fun hk => ?_⟩
   rw [ho, Bool.not_not, hs]
   have hd := d hk
   rw [Bool.not_not] at hd
   refine ⟨hd.old, fun hp ht => ?_⟩
   obtain ⟨e1, e2, e3⟩ := hd.log hp ht
   obtain ⟨s1, s2⟩ := hx.safe m.at_ a.at0 e2 e3.symm e1
   exact ⟨e1, s1, by rw [s2]; exact e3⟩
theorem Inv.still {G : Int → Option (List Rec)} {K : Nat} {w : CW} (h : Inv G K w) {i : Bool} {x : Nod} (h1 : NodOk x) (h2 : x.id = (w.n i).id) (h3 : (w.n i).term ≤ x.term) (h4 : x.term ≤ 2 * K) (h5 : x.speaks = true → (w.n i).speaks = true ∧ x.term = (w.n i).term)
  (h6 : x.log = (w.n i).log) (h7 : x.acked = (w.n i).acked ∨ (x.acked ≤ (w.n (!i)).log.length ∧ x.log.take x.acked.toNat = (w.n (!i)).log.take x.acked.toNat)) : Next G K w i x :=
 ⟨h1, h2.trans (h.id i), h3, h4, fun hp => ⟨(h5 hp).1, (h5 hp).2, h6⟩, by rw [h6]; exact h.log i, fun T Y hY hT hle => by rw [h6]; exact h.pre i T Y hY hT hle, by
  rcases h7 with h7 | h7
  ·rw [h7, h6]; exact h.com i
  ·exact h7, fun c _ hc _ _ => by rw [h6]; exact ⟨hc, rfl⟩⟩

/-! ### To receive -/
theorem pre_get {X Y : List Rec} (h : X <+: Y) {k : Nat} (hk : k < X.length) : X[k]? = Y[k]? := by
 obtain ⟨t, rfl⟩ := h
 rw [List.getElem?_append_left hk]
theorem take_get {X Y : List Rec} {c k : Nat} (h : X.take c = Y.take c) (hk : k < c) : X[k]? = Y[k]? := by
 have := congrArg (fun l => l[k]?) h
 simp only [List.getElem?_take, if_pos hk] at this
 exact this
structure Fits (Y L : List Rec) (m : Msg) (X : List Rec) : Prop where
 pre : X <+: Y ∨ X = L
 end_ : X.take (m.at_.toNat + m.recs.length) = Y.take (m.at_.toNat + m.recs.length)
 long : m.at_.toNat + m.recs.length ≤ X.length
 safe : ∀ c : Nat, c ≤ L.length → (∀ k, k < c → k < Y.length → L[k]? = Y[k]?) → c ≤ X.length ∧ X.take c = L.take c
 keep : keepN (L.drop m.at_.toNat) m.recs < m.recs.length → ∀ c : Nat, c ≤ L.length → (∀ k, k < c → k < Y.length → L[k]? = Y[k]?) → c ≤ m.at_.toNat + keepN (L.drop m.at_.toNat) m.recs
theorem fits {G : Int → Option (List Rec)} {Y : List Rec} {n : Nod} {m : Msg} (hm : MsgOk m) (hL : Mat G n.log) (hY : Mat G Y) (h1 : m.at_.toNat + m.recs.length ≤ Y.length) (h2 : m.recs = (Y.drop m.at_.toNat).take m.recs.length) (h3 : 0 < m.at_ → m.before = termAt Y (m.at_ - 1))
  (hat : m.at_ ≤ n.log.length) (hb : 0 < m.at_ → termAt n.log (m.at_ - 1) = m.before) : Fits Y n.log m (tookL n m) := by
 have a0 := hm.at0
 obtain ⟨p, hp⟩ : ∃ p, m.at_.toNat = p := ⟨_, rfl⟩
 rw [hp] at h1 h2
 have hl : m.at_.toNat ≤ n.log.length := by omega
 have hkl := keepN_le (n.log.drop m.at_.toNat) m.recs
 have hkt := keepN_term (n.log.drop m.at_.toNat) m.recs
 have hks := keepN_stop (n.log.drop m.at_.toNat) m.recs
 obtain ⟨q1, q2, q3⟩ := tookL_len (m := m) hl
 have hdef : tookL n m = if keepN (n.log.drop m.at_.toNat) m.recs < m.recs.length then n.log.take (m.at_.toNat + keepN (n.log.drop m.at_.toNat) m.recs) ++ m.recs.drop (keepN (n.log.drop m.at_.toNat) m.recs) else n.log := rfl
 rw [hp] at hkl hkt hks q1 q2 q3 hdef hl
 obtain ⟨k, hk⟩ : ∃ k, keepN (n.log.drop p) m.recs = k := ⟨_, rfl⟩
 rw [hk] at hkl hkt hks q1 q2 hdef
 rw [List.length_drop] at hkl
 have hrec : ∀ i, i < m.recs.length → m.recs[i]? = Y[p + i]? := fun i hi => by
  conv => lhs; rw [h2]
  rw [List.getElem?_take, if_pos hi, List.getElem?_drop]
 have hE : n.log.take (p + k) = Y.take (p + k) := by
  rcases Nat.eq_zero_or_pos (p + k) with h0 | h0
  ·rw [h0]; rfl
  ·have e : p + k = (p + k - 1) + 1 := by omega
   have ha : n.log[p + k - 1]? = some (n.log[p + k - 1]'(by omega)) := List.getElem?_eq_getElem (by omega)
   have hb' : Y[p + k - 1]? = some (Y[p + k - 1]'(by omega)) := List.getElem?_eq_getElem (by omega)
   rw [e]
   refine hL.same hY ha hb' ?_
   by_cases h00 : k = 0
   ·have hat0 : 0 < m.at_ := by omega
    have h4 := hb hat0
    rw [h3 hat0] at h4
    have e1 : m.at_ - 1 = ((p + k - 1 : Nat) : Int) := by omega
    rw [e1, termAt_get ha, termAt_get hb'] at h4
    exact h4
   ·have h4 := hkt (k - 1) (by omega)
    rw [List.getElem?_drop, hrec (k - 1) (by omega), show p + (k - 1) = p + k - 1 by omega, ha, hb'] at h4
    simpa using h4
 have hkeep : k < m.recs.length → ∀ c : Nat, c ≤ n.log.length → (∀ i, i < c → i < Y.length → n.log[i]? = Y[i]?) → c ≤ p + k := fun hlt c hc hcy => by
  refine Nat.not_lt.1 fun hgt => ?_
  have h5 := hks (by rw [List.length_drop]; omega) hlt
  rw [List.getElem?_drop, hrec k hlt, hcy (p + k) hgt (by omega)] at h5
  exact h5 rfl
 by_cases hlt : k < m.recs.length
 ·have hX : tookL n m = Y.take (p + m.recs.length) := by
   have h9 : m.recs.drop k = (Y.drop (p + k)).take (m.recs.length - k) := by
    conv => lhs; rw [h2]
    rw [List.drop_take, List.drop_drop]
   have e : p + m.recs.length = (p + k) + (m.recs.length - k) := by omega
   rw [hdef, if_pos hlt, hE, h9, e]
   exact List.take_add.symm
  refine ⟨.inl (by rw [hX]; exact List.take_prefix _ _), by rw [hp, hX, List.take_take, Nat.min_self], by rw [hp]; exact q3, fun c hc hcy => ?_, ?_⟩
  ·have h6 := hkeep hlt c hc hcy
   refine ⟨by omega, ?_⟩
   have h7 : (tookL n m).take (p + k) = n.log.take (p + k) := by rw [hX, List.take_take, Nat.min_eq_left (by omega), hE]
   exact take_of_take h7 h6
  ·rw [hp, hk]; exact hkeep
 ·have hX : tookL n m = n.log := by rw [hdef, if_neg hlt]
  refine ⟨.inr hX, by rw [hp, hX, show m.recs.length = k by omega]; exact hE, by rw [hp]; exact q3, fun c hc hcy => by rw [hX]; exact ⟨hc, rfl⟩, ?_⟩
  rw [hp, hk]; exact hkeep
theorem Inv.take {G : Int → Option (List Rec)} {K : Nat} {w : CW} (h : Inv G K w) (hK : K ≤ 200) {i : Bool} {m : Msg} (hmem : m ∈ w.mail i) (hk : m.kind = 0) (ht : ¬ m.term < (w.n i).term) :
  (takeV (inTerm (w.n i) m) m).2.2.2 = 0 ∧ Next G K w i (takeV (inTerm (w.n i) m) m).1 ∧ ((takeV (inTerm (w.n i) m) m).2.1.kind = 1 → Ackd (w.n (!i)) (takeV (inTerm (w.n i) m) m).1 (takeV (inTerm (w.n i) m) m).2.1) := by
 obtain ⟨hm, htop, happ, _⟩ := h.mail i m hmem
 obtain ⟨hown, Y, hG, h1, h2, h3⟩ := happ hk
 have hn := h.node i
 have hin := hn.inTerm hm
 have hit := inTerm_term ht
 have hil := inTerm_log (w.n i) m
 have hia := inTerm_acked (w.n i) m
 have a0 := hm.at0
 obtain ⟨g1, g2, g3⟩ := h.gen _ _ hG
 have hledj := h.led (!i) _ _ hG hown
 have hpre := h.pre (!i) _ _ hG hown (by rw [Bool.not_not]; omega)
 have hno : ownB (idOf i) m.term = false := by have := own_not hown; rwa [Bool.not_not] at this
 have hq := inTerm_quiet hn ht (by rw [h.id i]; exact hno)
 have hfi := h.log i
 have still : Next G K w i (inTerm (w.n i) m) := h.still hin (inTerm_id _ _) (by rw [hit]; omega) (by rw [hit]; exact htop) (fun hp => by rw [hq] at hp; cases hp) hil (.inl hia)
 by_cases hat : m.at_ ≤ (w.n i).log.length
 ·by_cases hb : 0 < m.at_ → termAt (w.n i).log (m.at_ - 1) = m.before
  ·have hf : Fits Y (w.n i).log m (tookL (inTerm (w.n i) m) m) := by
    have := fits (n := inTerm (w.n i) m) (m := m) (G := G) (Y := Y) hm (by rw [hil]; exact hfi.mat) g3.mat h1 h2 h3 (by rw [hil]; exact hat) (by rw [hil]; exact hb)
    rwa [hil] at this
   have hYj : ∀ k, k < Y.length → Y[k]? = (w.n (!i)).log[k]? := fun k hk => pre_get hpre hk
   have hcom : ∀ c : Nat, (w.n i).log.take c = (w.n (!i)).log.take c → ∀ k, k < c → k < Y.length → (w.n i).log[k]? = Y[k]? := fun c hc k hk1 hk2 => by
    rw [hYj k hk2]; exact take_get hc hk1
   have hXK : (tookL (inTerm (w.n i) m) m).length ≤ K := by
    rcases hf.pre with hp | hp
    ·exact Nat.le_trans hp.length_le g3.len
    ·rw [hp]; exact hfi.len
   have hXr : RecsOk 1 m.term (tookL (inTerm (w.n i) m) m) := by
    rcases hf.pre with hp | hp
    ·exact g2.sub hp.sublist
    ·rw [hp]; exact hn.recs.wide (.inl (Int.le_refl _)) (by omega)
   have hXf : Fine G K w.time (tookL (inTerm (w.n i) m) m) := by
    rcases hf.pre with hp | hp
    ·exact ⟨hXK, g3.mat.pre hp, fun r hr => g3.time r (hp.subset hr)⟩
    ·rw [hp]; exact hfi
   have hac := h.com i
   have ha0 := hn.a0
   have ha1 := hn.a1
   have htk : Taken (inTerm (w.n i) m) m := by
    refine ⟨by rw [hil]; exact hat, by rw [hil]; exact hb, fun hlt => ?_, by omega, by rw [hit]; exact hXr⟩
    rw [hil] at hlt
    have := hf.keep hlt (w.n i).acked.toNat (by omega) (hcom _ hac.2)
    rw [hia, hil]; omega
   rw [takeV_taken htk]
   have hnode := htk.node hin hm hk hq
   have hlen := hf.long
   have hpl := hpre.length_le
   have hend : (tookL (inTerm (w.n i) m) m).take (m.at_.toNat + m.recs.length) = (w.n (!i)).log.take (m.at_.toNat + m.recs.length) := by
    rw [hf.end_]
    obtain ⟨t, ht⟩ := hpre
    rw [← ht, List.take_append_of_le_length h1]
   have hma := (hm.app hk).a0
   refine ⟨rfl, ⟨hnode, (inTerm_id _ _).trans (h.id i), by show (w.n i).term ≤ (inTerm (w.n i) m).term; rw [hit]; omega, by show (inTerm (w.n i) m).term ≤ _; rw [hit]; exact htop, (fun hp => by rw [show (tookN (inTerm (w.n i) m) m).speaks = (inTerm (w.n i) m).speaks from rfl, hq] at hp; cases hp), hXf, fun T Z hZ hT hle => ?_, ?_, fun c hc0 hc hcc hcl => ?_⟩, fun _ => ⟨?_, fun hp hte => ?_⟩⟩
   ·have e1 := h.led i T Z hZ hT
    have e2 : T = m.term := by omega
    rw [e2, hno] at hT; cases hT
   ·show max (inTerm (w.n i) m).acked (min m.acked (m.at_ + m.recs.length)) ≤ ((w.n (!i)).log.length : Int) ∧ (tookL (inTerm (w.n i) m) m).take (max (inTerm (w.n i) m).acked (min m.acked (m.at_ + m.recs.length))).toNat = (w.n (!i)).log.take (max (inTerm (w.n i) m).acked (min m.acked (m.at_ + m.recs.length))).toNat
    rw [hia]
    by_cases hmx : min m.acked (m.at_ + m.recs.length) ≤ (w.n i).acked
    ·rw [show max (w.n i).acked (min m.acked (m.at_ + m.recs.length)) = (w.n i).acked by omega]
     refine ⟨hac.1, ?_⟩
     rw [(hf.safe _ (by omega) (hcom _ hac.2)).2]
     exact hac.2
    ·rw [show max (w.n i).acked (min m.acked (m.at_ + m.recs.length)) = min m.acked (m.at_ + m.recs.length) by omega]
     exact ⟨by omega, take_of_take hend (by omega)⟩
   ·have := hf.safe c.toNat (by omega) (hcom _ hcc)
    exact ⟨by show c ≤ ((tookL (inTerm (w.n i) m) m).length : Int); omega, this.2⟩
   ·show (inTerm (w.n i) m).term ≤ _; rw [hit]; exact hledj
   ·have hte' : (w.n (!i)).term = (inTerm (w.n i) m).term := hte
    rw [hit] at hte'
    have := h.now (!i) hp
    rw [hte', hG] at this
    injection this with this
    refine ⟨by show m.at_ + m.recs.length ≤ _; omega, by show m.at_ + m.recs.length ≤ ((tookL (inTerm (w.n i) m) m).length : Int); omega, ?_⟩
    have e : (m.at_ + (m.recs.length : Int)).toNat = m.at_.toNat + m.recs.length := by omega
    show (w.n (!i)).log.take (m.at_ + (m.recs.length : Int)).toNat = (tookL (inTerm (w.n i) m) m).take (m.at_ + (m.recs.length : Int)).toNat
    rw [e, hend]
  ·have hb' : 0 < m.at_ ∧ termAt (w.n i).log (m.at_ - 1) ≠ m.before := by
    by_cases h0 : 0 < m.at_
    ·exact ⟨h0, fun he => hb fun _ => he⟩
    ·exact absurd (fun h00 => absurd h00 h0) hb
   rw [takeV_other (by rw [hil]; exact hat) hb'.1 (by rw [hil]; exact hb'.2)]
   exact ⟨rfl, still, fun hc => by have : (2 : Int) = 1 := hc; omega⟩
 ·rw [takeV_far (by rw [hil]; omega)]
  exact ⟨rfl, still, fun hc => by have : (2 : Int) = 1 := hc; omega⟩
theorem Inv.recv {G : Int → Option (List Rec)} {K : Nat} {w : CW} (h : Inv G K w) (hK : K ≤ 200) {i : Bool} {m : Msg} (hmem : m ∈ w.mail i) :
  (recvV (w.n i) m).2.2.2 = 0 ∧ Inv G K (setN w i (recvV (w.n i) m).1) ∧ ((recvV (w.n i) m).2.2.1 = true → Inv G K (postM (setN w i (recvV (w.n i) m).1) (!i) (recvV (w.n i) m).2.1)) := by
 obtain ⟨hm, htop, happ, hack⟩ := h.mail i m hmem
 have hn := h.node i
 have hno : m.kind = 0 → ownB (w.n i).id m.term = false := fun hk => by
  have := own_not (happ hk).own
  rw [Bool.not_not] at this
  rw [h.id i]; exact this
 have hin := hn.inTerm hm
 have hil := inTerm_log (w.n i) m
 have hia := inTerm_acked (w.n i) m
 have hterms := h.terms i
 have key : (recdV (w.n i) m).2.2.2 = 0 ∧ Next G K w i (recdV (w.n i) m).1 ∧ ((recdV (w.n i) m).2.1.kind = 1 → (recdV (w.n i) m).2.2.1 = true → Ackd (w.n (!i)) (recdV (w.n i) m).1 (recdV (w.n i) m).2.1) := by
  by_cases ht : m.term < (w.n i).term
  ·have e : recdV (w.n i) m = if m.kind = 0 then (w.n i, ansM (w.n i) 2 0, true, 0) else (w.n i, msg0, false, 0) := by unfold recdV; rw [if_pos ht]
   have hst : Next G K w i (w.n i) := h.still hn rfl (Int.le_refl _) hterms (fun hp => ⟨hp, rfl⟩) rfl (.inl rfl)
   rw [e]
   split
   ·exact ⟨rfl, hst, fun hc => by have : (2 : Int) = 1 := hc; omega⟩
   ·exact ⟨rfl, hst, fun _ hc => by cases hc⟩
  ·have hit := inTerm_term ht
   by_cases hk : m.kind = 0
   ·have e : recdV (w.n i) m = takeV (inTerm (w.n i) m) m := by unfold recdV; rw [if_neg ht, if_pos hk]
    rw [e]
    obtain ⟨q1, q2, q3⟩ := h.take hK hmem hk ht
    exact ⟨q1, q2, fun hc _ => q3 hc⟩
   ·by_cases hk1 : m.kind = 1
    ·have e : recdV (w.n i) m = (ackN (inTerm (w.n i) m) m, msg0, false, 0) := by unfold recdV; rw [if_neg ht, if_neg hk, if_pos hk1]
     rw [e]
     refine ⟨rfl, ?_, fun _ hc => by cases hc⟩
     have hd := hack hk1
     have hte : (w.n i).term = m.term := by have := hd.old; omega
     rw [inTerm_same hte]
     have hok := ackN_ok hn hm
     unfold ackN at hok ⊢
     by_cases hc : (w.n i).speaks = true ∧ m.at_ ≤ (w.n i).log.length
     ·rw [if_pos hc] at hok ⊢
      obtain ⟨e1, e2, e3⟩ := hd.log hc.1 hte
      refine h.still hok rfl (Int.le_refl _) hterms (fun hp => ⟨hp, rfl⟩) rfl ?_
      have hcom := h.com i
      show max (w.n i).acked m.at_ = _ ∨ (max (w.n i).acked m.at_ ≤ _ ∧ (w.n i).log.take (max (w.n i).acked m.at_).toNat = _)
      by_cases hmx : m.at_ ≤ (w.n i).acked
      ·exact .inl (by omega)
      ·right
       rw [show max (w.n i).acked m.at_ = m.at_ by omega]
       exact ⟨e2, e3⟩
     ·rw [if_neg hc]
      exact h.still hn rfl (Int.le_refl _) hterms (fun hp => ⟨hp, rfl⟩) rfl (.inl rfl)
    ·have e : recdV (w.n i) m = (refuseN (inTerm (w.n i) m) m, msg0, false, 0) := by unfold recdV; rw [if_neg ht, if_neg hk, if_neg hk1]
     rw [e]
     refine ⟨rfl, ?_, fun _ hc => by cases hc⟩
     have hok := refuseN_ok (m := m) hin
     have e1 : (refuseN (inTerm (w.n i) m) m).id = (w.n i).id := by rw [← inTerm_id (w.n i) m]; unfold refuseN; split <;> rfl
     have e2 : (refuseN (inTerm (w.n i) m) m).term = m.term := by rw [← hit]; unfold refuseN; split <;> rfl
     have e3 : (refuseN (inTerm (w.n i) m) m).acked = (w.n i).acked := by rw [← hia]; unfold refuseN; split <;> rfl
     have e4 : (refuseN (inTerm (w.n i) m) m).log = (w.n i).log := by rw [← hil]; unfold refuseN; split <;> rfl
     have e5 : (refuseN (inTerm (w.n i) m) m).speaks = (inTerm (w.n i) m).speaks := by unfold refuseN; split <;> rfl
     refine h.still hok e1 (by rw [e2]; omega) (by rw [e2]; exact htop) (fun hp => ?_) e4 (.inl e3)
     rw [e5] at hp
     rcases inTerm_speaks hp with ⟨g1, g2⟩ | ⟨g1, g2⟩
     ·exact ⟨g1, by rw [e2, g2]⟩
     ·omega
 obtain ⟨q1, q2, q3⟩ := key
 have hl := recdV_left hn hm hno q1
 rw [recvV_go hn hm hno q1]
 have hinv := h.next q2
 refine ⟨q1, hinv, fun hok => ?_⟩
 obtain ⟨a1, a2, a3⟩ := hl.ans hok
 refine hinv.posted a1 (by rw [a2]; exact q2.top) (fun hk => absurd hk a3) (fun hk => ?_)
 rw [setN_other, Bool.not_not, setN_same]
 exact q3 hk hok

/-! ### To lead, to act, to send -/
def nextTerm (n : Nod) : Int := if (n.term + 1) % 2 = n.id % 2 then n.term + 1 else n.term + 2
def addG (G : Int → Option (List Rec)) (T : Int) (X : List Rec) : Int → Option (List Rec) := fun t => if t = T then some X else G t
theorem Mat.add {G : Int → Option (List Rec)} {T : Int} {X Z : List Rec} (h : Mat G Z) (hx : ∀ Y, G T = some Y → Y <+: X) : Mat (addG G T X) Z := fun k r hk => by
 obtain ⟨Y, h1, h2⟩ := h k r hk
 by_cases ht : r.term = T
 ·rw [ht] at h1 ⊢
  refine ⟨X, if_pos rfl, ?_⟩
  obtain ⟨t, rfl⟩ := hx Y h1
  rw [h2]
  have hlt := (List.getElem?_eq_some_iff.1 hk).1
  have : k + 1 ≤ Y.length := by
   have h3 := congrArg List.length h2
   rw [List.length_take, List.length_take] at h3
   omega
  rw [List.take_append_of_le_length this]
 ·exact ⟨Y, by show (if r.term = T then some X else G r.term) = _; rw [if_neg ht]; exact h1, h2⟩
theorem addG_same (G : Int → Option (List Rec)) (T : Int) (X : List Rec) : addG G T X T = some X := if_pos rfl
theorem addG_other {G : Int → Option (List Rec)} {T t : Int} {X : List Rec} (h : t ≠ T) : addG G T X t = G t := if_neg h
theorem Inv.act {G : Int → Option (List Rec)} {K : Nat} {w : CW} (h : Inv G K w) (i : Bool) (hs : (w.n i).speaks = true) {a : Acn} {t : Int} (ha : acnE a = 0) (hat : a.at_ = t) (ht : w.time ≤ t) (ht2 : t ≤ 255 * (K + 1 : Nat)) (hK : K ≤ 200) :
  actV (w.n i) a = (actN (w.n i) a, 0) ∧ ∃ G', Inv G' (K + 1) (setN (setT w t) i (actN (w.n i) a)) := by
 have hn := h.node i
 have hid := h.id i
 have hfi := h.log i
 have hlk := hfi.len
 have hown := h.own hs
 have hnow := h.now i hs
 have hearly : early (w.n i).log a = false := by
  unfold early
  cases hg : (w.n i).log.getLast? with
  | none => rfl
  | some r =>
   have := hfi.time r (List.mem_of_getLast? hg)
   simp only
   apply decide_eq_false
   omega
 have hro : RecsOk 1 (w.n i).term ((w.n i).log ++ [⟨(w.n i).term, a⟩]) := by
  have hp := own_pos hown
  refine hn.recs.append ⟨by simp; omega, by simp; omega, by simp, by simpa using ha, by simp⟩ ?_
  intro x hx y hy
  simp at hy
  subst hy
  have h1 := hn.recs.hi x (List.mem_of_getLast? hx)
  have h2 := hfi.time x (List.mem_of_getLast? hx)
  exact ⟨h1, by show x.act.at_ ≤ a.at_; omega⟩
 have hok : NodOk (actN (w.n i) a) := by
  have := hn.a0; have := hn.a1; have := hn.n0; have := hn.n1
  exact ⟨hn.id1, hn.id2, hn.t0, hn.t1, hn.own, by show ((w.n i).log ++ _).length ≤ 256; simp; omega, hro, hn.a0, by show (w.n i).acked ≤ (((w.n i).log ++ _).length : Int); simp; omega, hn.n0, by show (w.n i).next ≤ (((w.n i).log ++ _).length : Int); simp; omega, hn.n2⟩
 refine ⟨?_, ?_⟩
 ·unfold actV
  rw [if_neg (by simpa using (nodE_iff _).2 hn), if_neg (by rw [hs]; simp), if_neg (by simpa using ha), if_neg (by rw [hearly]; simp), if_neg (by omega)]
 obtain ⟨X, hX⟩ : ∃ X, (w.n i).log ++ [(⟨(w.n i).term, a⟩ : Rec)] = X := ⟨_, rfl⟩
 have hXl : (actN (w.n i) a).log = X := hX
 have hpre0 : (w.n i).log <+: X := ⟨_, hX⟩
 have hXlen : X.length = (w.n i).log.length + 1 := by rw [← hX]; simp
 rw [hX] at hro
 obtain ⟨T, hT⟩ : ∃ T, (w.n i).term = T := ⟨_, rfl⟩
 rw [hT] at hnow hown hro
 have hTx : (actN (w.n i) a).term = T := hT
 have hadd : ∀ {Z}, Mat G Z → Mat (addG G T X) Z := fun {Z} hz => hz.add (fun Y hY => by rw [hnow] at hY; injection hY with hY; rw [← hY]; exact hpre0)
 have hfine : ∀ {Z}, Fine G K w.time Z → Fine (addG G T X) (K + 1) t Z := fun {Z} hz => ⟨by have := hz.len; omega, hadd hz.mat, fun r hr => by have := hz.time r hr; omega⟩
 have hXf : Fine (addG G T X) (K + 1) t X := by
  refine ⟨by omega, fun k r hk => ?_, fun r hr => ?_⟩
  ·by_cases hlt : k < (w.n i).log.length
   ·have := pre_get hpre0 hlt
    rw [hk] at this
    obtain ⟨Y, q1, q2⟩ := hadd hfi.mat k r this
    refine ⟨Y, q1, ?_⟩
    rw [← q2, ← hX, List.take_append_of_le_length (by omega)]
   ·have hkl := (List.getElem?_eq_some_iff.1 hk).1
    have hke : k = (w.n i).log.length := by omega
    have : r.term = T := by
     rw [← hX, hke, List.getElem?_append_right (Nat.le_refl _), Nat.sub_self] at hk
     simp at hk
     rw [← hk]; exact hT
    rw [this]
    exact ⟨X, addG_same _ _ _, rfl⟩
  ·rw [← hX] at hr
   rcases List.mem_append.1 hr with hr | hr
   ·have := hfi.time r hr; omega
   ·simp at hr; subst hr; show a.at_ ≤ t; omega
 have hse := setN_same (setT w t) i (actN (w.n i) a)
 have ho : (setN (setT w t) i (actN (w.n i) a)).n (!i) = w.n (!i) := setN_other (setT w t) i _
 have hne : ∀ {u}, ownB (idOf (!i)) u = true → u ≠ T := fun {u} hu e => by
  subst e
  rw [own_not hown] at hu; cases hu
 have htk : ∀ c : Int, c ≤ (w.n i).log.length → X.take c.toNat = (w.n i).log.take c.toNat := fun c hc => by rw [← hX, List.take_append_of_le_length (by omega)]
 refine ⟨addG G T X, ?_, ?_, ?_, ?_, fun u Y hY => ?_, ?_, ?_, ?_, ?_, ?_, ht2, ?_⟩
 ·exact both i (by rw [hse]; exact hok) (by rw [ho]; exact h.node _)
 ·exact both i (by rw [hse]; exact hid) (by rw [ho]; exact h.id _)
 ·refine both i (fun _ => ?_) (fun hp => ?_)
  ·rw [hse, hTx, hXl]; exact addG_same _ _ _
  ·rw [ho] at hp ⊢
   rw [addG_other (hne (h.own hp))]
   exact h.now _ hp
 ·refine both i (fun u Y hY hu => ?_) (fun u Y hY hu => ?_)
  ·rw [hse, hTx]
   by_cases e : u = T
   ·omega
   ·rw [addG_other e] at hY
    have := h.led i u Y hY hu
    omega
  ·rw [ho]
   rw [addG_other (hne hu)] at hY
   exact h.led _ u Y hY hu
 ·by_cases e : u = T
  ·subst e
   rw [addG_same] at hY
   injection hY with hY
   subst hY
   exact ⟨own_pos hown, hro, hXf⟩
  ·rw [addG_other e] at hY
   obtain ⟨g1, g2, g3⟩ := h.gen u Y hY
   exact ⟨g1, g2, hfine g3⟩
 ·exact both i (by rw [hse, hXl]; exact hXf) (by rw [ho]; exact hfine (h.log _))
 ·refine both i (fun u Y hY hu hle => ?_) (fun u Y hY hu hle => ?_)
  ·rw [hse, hXl]; rw [ho] at hle
   by_cases e : u = T
   ·subst e
    rw [addG_same] at hY
    injection hY with hY
    subst hY
    exact List.prefix_refl _
   ·rw [addG_other e] at hY
    exact (h.pre i u Y hY hu hle).trans hpre0
  ·rw [ho]; rw [Bool.not_not, hse, hTx] at hle
   rw [addG_other (hne hu)] at hY
   exact h.pre (!i) u Y hY hu (by rw [Bool.not_not]; omega)
 ·refine both i ?_ ?_
  ·rw [hse, ho, hXl]
   obtain ⟨c1, c2⟩ := h.com i
   refine ⟨c1, ?_⟩
   show X.take (w.n i).acked.toNat = _
   rw [htk _ hn.a1]; exact c2
  ·rw [ho, Bool.not_not, hse, hXl]
   obtain ⟨c1, c2⟩ := h.com (!i)
   rw [Bool.not_not] at c1 c2
   exact ⟨by omega, by rw [htk _ c1]; exact c2⟩
 ·exact both i (by rw [hse, hTx]; have := h.terms i; omega) (by rw [ho]; have := h.terms (!i); omega)
 ·have := h.t0; show 0 ≤ t; omega
 ·refine both i (fun m hm => ?_) (fun m hm => ?_)
  ·obtain ⟨p, q, c, d⟩ := h.mail i m hm
   refine ⟨p, by omega, fun hk => ?_, fun hk => ?_⟩
   ·obtain ⟨q1, Y, q2, q3⟩ := c hk
    exact ⟨q1, Y, by rw [addG_other (hne q1)]; exact q2, q3⟩
   ·rw [hse, ho]
    have hd := d hk
    refine ⟨hd.old, fun hp he => ?_⟩
    obtain ⟨e1, e2, e3⟩ := hd.log hs he
    rw [hXl]
    exact ⟨by omega, e2, by rw [htk _ e1]; exact e3⟩
  ·obtain ⟨p, q, c, d⟩ := h.mail (!i) m hm
   refine ⟨p, by omega, fun hk => ?_, fun hk => ?_⟩
   ·obtain ⟨q1, Y, q2, q3, q4, q5⟩ := c hk
    by_cases e : m.term = T
    ·rw [e, hnow] at q2
     injection q2 with q2
     subst q2
     refine ⟨q1, X, by rw [e]; exact addG_same _ _ _, by omega, ?_, fun h0 => ?_⟩
     ·rw [← hX, List.drop_append_of_le_length (by omega), List.take_append_of_le_length (by rw [List.length_drop]; omega)]
      exact q4
     ·have p0 := p.at0
      rw [q5 h0]
      unfold termAt
      rw [if_neg (by omega), if_neg (by omega), ← pre_get hpre0 (by omega)]
    ·exact ⟨q1, Y, by rw [addG_other e]; exact q2, q3, q4, q5⟩
   ·rw [ho, Bool.not_not, hse]
    have hd := d hk
    rw [Bool.not_not] at hd
    refine ⟨hd.old, fun hp he => ?_⟩
    obtain ⟨e1, e2, e3⟩ := hd.log hp he
    rw [hXl]
    exact ⟨e1, by omega, by rw [htk _ e2]; exact e3⟩
theorem Inv.send {G : Int → Option (List Rec)} {K : Nat} {w : CW} (h : Inv G K w) (i : Bool) (hs : (w.n i).speaks = true) : sendV (w.n i) = (sentM (w.n i), 0) ∧ Inv G K (postM w (!i) (sentM (w.n i))) := by
 have hn := h.node i
 have h0 := hn.n0; have h1 := hn.n1
 refine ⟨?_, h.posted (sentM_ok hn hs) (h.terms i) (fun _ => ⟨?_, ?_⟩) (fun hc => by have : (0 : Int) = 1 := hc; omega)⟩
 ·unfold sendV
  rw [if_neg (by simpa using (nodE_iff _).2 hn), if_neg (by rw [hs]; simp)]
 ·rw [Bool.not_not]; exact h.own hs
 ·have hl : (sentM (w.n i)).recs.length = min 16 ((w.n i).log.length - (w.n i).next.toNat) := by
   show (((w.n i).log.drop _).take 16).length = _
   rw [List.length_take, List.length_drop]
  refine ⟨(w.n i).log, h.now i hs, ?_, ?_, fun hp => ?_⟩
  ·show (w.n i).next.toNat + _ ≤ _; rw [hl]; omega
  ·show ((w.n i).log.drop (w.n i).next.toNat).take 16 = ((w.n i).log.drop (w.n i).next.toNat).take (sentM (w.n i)).recs.length
   rw [hl]
   by_cases hc : 16 ≤ (w.n i).log.length - (w.n i).next.toNat
   ·rw [Nat.min_eq_left hc]
   ·rw [Nat.min_eq_right (by omega), List.take_of_length_le (by rw [List.length_drop]; omega), List.take_of_length_le (by rw [List.length_drop]; omega)]
  ·show (if 0 < (w.n i).next then _ else (0 : Int)) = _
   have hp' : 0 < (w.n i).next := hp
   rw [if_pos hp']
   rfl
end Go.Proofs.YtmhinhgflehkaaaGreat
