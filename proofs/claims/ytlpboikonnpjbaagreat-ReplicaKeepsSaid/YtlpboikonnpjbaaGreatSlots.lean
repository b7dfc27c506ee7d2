/-
  A region that draws its order: a head of operations that read, make memory or call, in whatever order, each with a slot of its own; what each leaves in its slot is told by a property that later growth keeps; then a tail in its order. No order need be parted.
-/
import Derived.Test.YtlpboikonnpjbaaGreatGtail
import Derived.StillTail
namespace Go.Proofs.YtlpboikonnpjbaaGreat
open Go.RowKit

section
variable {P : Program} {ops : Array Oper} {Q : Exit → Act → World → Prop}

/-- The slot of an operation. -/
def dstB (ops : Array Oper) (i : Nat) : Option Tmp := (ops[i]?).bind (·.dst)
def headB (ops : Array Oper) (k m : Nat) : Bool := (List.range k).all fun i => match ops[i]? with
  | none => false
  | some o => (match o.dst with
    | none => false
    | some d => decide (d < m) && (List.range k).all fun j => decide (j = i) || decide (dstB ops j ≠ some d)) && o.after.all fun e => !Region.binds .any e || decide (e.on < i)
def tailB (ops : Array Oper) (k : Nat) (F : List Nat) : Bool := (List.range ops.size).all fun i =>
  decide (i < k) || ((List.range k).all fun c => F.contains c || waitsB .any ops i c) || (List.range i).any fun j => decide (k ≤ j) && waitsB .any ops i j
def coreMask (ops : Array Oper) (k : Nat) (F : List Nat) : Array Bool := ((List.range ops.size).map fun i => decide (i < k) && !F.contains i).toArray
def headMask (ops : Array Oper) (k : Nat) : Array Bool := ((List.range ops.size).map fun i => decide (i < k)).toArray
def freeB (ops : Array Oper) (k : Nat) (F : List Nat) : Bool := F.all fun i => decide (i < k) && Region.free .any ops (coreMask ops k F) i && (match ops[i]? with
  | none => false
  | some o => o.after.all fun e => !Region.binds .any e || (decide (e.on < k) && !F.contains e.on))
/-- The form of such a region: k operations in its head, of which those of F may come up late. -/
def slotsB (ops : Array Oper) (k : Nat) (F : List Nat) (m : Nat) : Bool :=
  Region.noSelect ops && decide (k ≤ ops.size) && headB ops k m && tailB ops k F && freeB ops k F && Region.seqB .any ops (ops.size - k) k (headMask ops k)

theorem waitsB_get {i j : Nat} (h : waitsB .any ops i j = true) : ∃ o e, ops[i]? = some o ∧ e ∈ o.after ∧ Region.binds .any e = true ∧ e.on = j := by
  unfold waitsB at h
  cases ho : ops[i]? with
  | none => rw [ho] at h; cases h
  | some o =>
    rw [ho] at h
    obtain ⟨e, he, hb⟩ := Array.any_eq_true'.1 h
    simp only [Bool.and_eq_true, beq_iff_eq] at hb
    exact ⟨o, e, rfl, he, hb.1, hb.2⟩
theorem headB_get {k m : Nat} (h : headB ops k m = true) {i : Nat} (hi : i < k) : ∃ o d, ops[i]? = some o ∧ o.dst = some d ∧ dstB ops i = some d ∧ d < m ∧ (∀ j, j < k → j ≠ i → dstB ops j ≠ some d) ∧ ∀ e ∈ o.after, Region.binds .any e = true → e.on < i := by
  have h1 := List.all_eq_true.1 h i (List.mem_range.2 hi)
  cases ho : ops[i]? with
  | none => simp [ho] at h1
  | some o =>
    simp only [ho, Bool.and_eq_true] at h1
    obtain ⟨h2, h3⟩ := h1
    cases hd : o.dst with
    | none => simp [hd] at h2
    | some d =>
      simp only [hd, Bool.and_eq_true, decide_eq_true_eq] at h2
      refine ⟨o, d, rfl, hd, by unfold dstB; rw [ho]; exact hd, h2.1, fun j hj hne => ?_, fun e he hb => ?_⟩
      · have h4 := List.all_eq_true.1 h2.2 j (List.mem_range.2 hj)
        simp only [Bool.or_eq_true, decide_eq_true_eq] at h4
        rcases h4 with h4 | h4
        · exact absurd h4 hne
        · exact h4
      · have h4 := Array.all_eq_true_iff_forall_mem.1 h3 e he
        simpa [hb] using h4

/-! ### All slots filled -/
def putAll : List Oper → (Nat → Value) → Nat → Act → Act
  | [], _, _, a => a
  | o :: l, u, i, a => putAll l u (i + 1) (a.put o.dst (u i))
theorem put_size (a : Act) (d : Option Tmp) (v : Value) : (a.put d v).tmps.size = a.tmps.size := by
  cases d <;> simp [Act.put]
theorem put_defers (a : Act) (d : Option Tmp) (v : Value) : (a.put d v).defers = a.defers := by
  cases d <;> rfl
theorem put_ne (a : Act) {d : Option Tmp} (v : Value) {t : Nat} (h : d ≠ some t) : (a.put d v).tmps[t]? = a.tmps[t]? := by
  cases d with
  | none => rfl
  | some d =>
    have hne : d ≠ t := fun e => h (by rw [e])
    simp [Act.put, Array.getElem?_setIfInBounds_ne hne]
theorem put_eq (a : Act) (v : Value) {t : Nat} (h : t < a.tmps.size) : (a.put (some t) v).tmps[t]? = some v := by
  simp [Act.put, Array.getElem?_setIfInBounds_self_of_lt h]
theorem putAll_size : ∀ (l : List Oper) (u : Nat → Value) (i : Nat) (a : Act), (putAll l u i a).tmps.size = a.tmps.size
  | [], _, _, _ => rfl
  | o :: l, u, i, a => by rw [putAll, putAll_size l u (i + 1) _, put_size]
theorem putAll_defers : ∀ (l : List Oper) (u : Nat → Value) (i : Nat) (a : Act), (putAll l u i a).defers = a.defers
  | [], _, _, _ => rfl
  | o :: l, u, i, a => by rw [putAll, putAll_defers l u (i + 1) _, put_defers]
theorem putAll_ne : ∀ (l : List Oper) (u : Nat → Value) (i : Nat) (a : Act) (t : Nat), (∀ o ∈ l, o.dst ≠ some t) → (putAll l u i a).tmps[t]? = a.tmps[t]?
  | [], _, _, _, _, _ => rfl
  | o :: l, u, i, a, t, h => by
    rw [putAll, putAll_ne l u (i + 1) _ t (fun q hq => h q (by simp [hq])), put_ne _ _ (h o (by simp))]
theorem putAll_at : ∀ (l : List Oper) (u : Nat → Value) (i : Nat) (a : Act) (t j : Nat) (o : Oper), l[j]? = some o → o.dst = some t → (∀ j' q, l[j']? = some q → j' ≠ j → q.dst ≠ some t) → t < a.tmps.size → (putAll l u i a).tmps[t]? = some (u (i + j))
  | [], _, _, _, _, _, _, h, _, _, _ => by simp at h
  | q :: l, u, i, a, t, 0, o, h, hd, hn, ht => by
    obtain rfl : q = o := by simpa using h
    rw [putAll, putAll_ne l u (i + 1) _ t (fun q' hq' => by
      obtain ⟨j', hj'⟩ := List.getElem?_of_mem hq'
      exact hn (j' + 1) q' (by simpa using hj') (by omega)), hd, put_eq _ _ ht]
    rfl
  | q :: l, u, i, a, t, j + 1, o, h, hd, hn, ht => by
    rw [putAll, putAll_at l u (i + 1) _ t j o (by simpa using h) hd (fun j' q' hj' hne => hn (j' + 1) q' (by simpa using hj') (by omega)) (by rw [put_size]; exact ht)]
    congr 2; omega

/-! ### What is known on the way -/
structure SInv (ops : Array Oper) (k : Nat) (T : Nat → Value → World → Prop) (a0 : Act) (w0 : World) (L : Array Bool) (a : Act) (w : World) : Prop where
  size : L.size = ops.size
  ext : Ext w0 w
  tmps : a.tmps.size = a0.tmps.size
  defers : a.defers = a0.defers
  tail : ∀ i, k ≤ i → L.getD i false = false
  old : ∀ t, (∀ i, i < k → dstB ops i ≠ some t) → a.tmps[t]? = a0.tmps[t]?
  new : ∀ i d, i < k → dstB ops i = some d → L.getD i false = true → T i (a.tmps.getD d undef) w
/-- What the slots of a state hold. -/
def heldU (ops : Array Oper) (a : Act) (i : Nat) : Value := a.tmps.getD ((dstB ops i).getD 0) undef
theorem head_at {k i : Nat} (h : i < k) : (ops.toList.take k)[i]? = ops[i]? := by
  rw [List.getElem?_take, if_pos h, Array.getElem?_toList]
theorem SInv.act {k : Nat} {T : Nat → Value → World → Prop} {a0 : Act} {w0 : World} {L : Array Bool} {a : Act} {w : World} (h : SInv ops k T a0 w0 L a w) (hB : headB ops k a0.tmps.size = true) :
    a = putAll (ops.toList.take k) (heldU ops a) 0 a0 := by
  have hlt : ∀ j q, (ops.toList.take k)[j]? = some q → j < k := fun j q hj => by
    rw [List.getElem?_take] at hj
    split at hj
    · assumption
    · cases hj
  have ht : a.tmps = (putAll (ops.toList.take k) (heldU ops a) 0 a0).tmps := by
    apply Array.ext_getElem?
    intro t
    by_cases hx : ∃ i, i < k ∧ dstB ops i = some t
    · obtain ⟨i, hi, hd⟩ := hx
      obtain ⟨o, d, ho, hod, hd', hdm, hne, -⟩ := headB_get hB hi
      rw [hd] at hd'
      obtain rfl : t = d := by injection hd'
      rw [putAll_at _ _ 0 a0 t i o (by rw [head_at hi, ho]) hod (fun j q hj hji => by
        have hjk := hlt j q hj
        rw [head_at hjk] at hj
        have := hne j hjk hji
        unfold dstB at this
        rw [hj] at this
        exact this) hdm, Nat.zero_add]
      unfold heldU
      rw [hd]
      have : t < a.tmps.size := by rw [h.tmps]; exact hdm
      simp [this]
    · rw [putAll_ne _ _ 0 a0 t (fun q hq => by
        obtain ⟨j, hj⟩ := List.getElem?_of_mem hq
        have hjk := hlt j q hj
        rw [head_at hjk] at hj
        intro he
        exact hx ⟨j, hjk, by unfold dstB; rw [hj]; exact he⟩)]
      exact h.old t fun i hi he => hx ⟨i, hi, he⟩
  have hd : a.defers = (putAll (ops.toList.take k) (heldU ops a) 0 a0).defers := by rw [putAll_defers]; exact h.defers
  generalize putAll (ops.toList.take k) (heldU ops a) 0 a0 = b at ht hd
  cases a; cases b
  simp only at ht hd
  subst ht hd
  rfl
theorem SInv.next {k : Nat} {T : Nat → Value → World → Prop} {a0 : Act} {w0 : World} {L : Array Bool} {a : Act} {w : World} (h : SInv ops k T a0 w0 L a w) (hB : headB ops k a0.tmps.size = true) (hst : ∀ i v w w', Ext w w' → T i v w → T i v w')
    {i : Nat} (hi : i < k) {v : Value} {w' : World} (hx : Ext w w') (hv : T i v w') : SInv ops k T a0 w0 (L.setIfInBounds i true) (a.put (dstB ops i) v) w' := by
  obtain ⟨o, d, ho, hod, hd, hdm, hne, -⟩ := headB_get hB hi
  refine ⟨by simp [h.size], h.ext.trans hx, by rw [put_size]; exact h.tmps, by rw [put_defers]; exact h.defers, fun j hj => ?_, fun t ht => ?_, fun j dj hj hdj hl => ?_⟩
  · rw [getD_set_ne false (by omega)]; exact h.tail j hj
  · rw [put_ne _ _ (ht i hi)]; exact h.old t ht
  · rw [hd]
    by_cases hij : j = i
    · subst hij
      rw [hd] at hdj
      obtain rfl : d = dj := by injection hdj
      have : (a.put (some d) v).tmps.getD d undef = v := by
        rw [Array.getD_eq_getD_getElem?, put_eq _ _ (by rw [h.tmps]; exact hdm)]; rfl
      rw [this]; exact hv
    · have hdd : d ≠ dj := fun e => hne j hj hij (by rw [e]; exact hdj)
      have : (a.put (some d) v).tmps.getD dj undef = a.tmps.getD dj undef := by
        rw [Array.getD_eq_getD_getElem?, Array.getD_eq_getD_getElem?, put_ne _ _ (fun e => hdd (by injection e))]
      rw [this]
      rw [getD_set_ne false (fun e => hij e.symm)] at hl
      exact hst _ _ _ _ hx (h.new j dj hj hdj hl)
theorem SInv.at_ {k : Nat} {T : Nat → Value → World → Prop} {a0 : Act} {w0 : World} {L : Array Bool} {a : Act} {w : World} (h : SInv ops k T a0 w0 L a w) (hB : headB ops k a0.tmps.size = true) {i : Nat} (hi : i < k) (hl : L.getD i false = true) : T i (heldU ops a i) w := by
  obtain ⟨o, d, ho, hod, hd, -⟩ := headB_get hB hi
  unfold heldU
  rw [hd]
  exact h.new i d hi hd hl

/-! ### How many are left -/
def leftN (n : Nat) (L : Array Bool) : Nat := ((List.range n).filter fun j => !L.getD j false).length
theorem leftN_set {n i : Nat} {L : Array Bool} (hi : i < n) (hL : i < L.size) (h : L.getD i false = false) : leftN n L = leftN n (L.setIfInBounds i true) + 1 := by
  have key : ∀ n, leftN n L = leftN n (L.setIfInBounds i true) + (if i < n then 1 else 0) := by
    intro n
    induction n with
    | zero => simp [leftN]
    | succ n ih =>
      unfold leftN at ih ⊢
      rw [List.range_succ, List.filter_append, List.filter_append, List.length_append, List.length_append, ih]
      by_cases hin : i = n
      · subst hin
        have e2 : (L.setIfInBounds i true).getD i false = true := by
          rw [Array.getD_eq_getD_getElem?, Array.getElem?_setIfInBounds_self_of_lt hL]; rfl
        rw [List.filter_cons, List.filter_cons, h, e2]
        simp
      · have e1 : (L.setIfInBounds i true).getD n false = L.getD n false := getD_set_ne false hin
        rw [List.filter_cons, List.filter_cons, e1, List.filter_nil, List.filter_nil]
        have : (if i < n + 1 then 1 else 0) = (if i < n then 1 else 0) := by
          by_cases h : i < n
          · rw [if_pos h, if_pos (by omega)]
          · rw [if_neg h, if_neg (by omega)]
        rw [this]
        omega
  have := key n
  rw [if_pos hi] at this
  exact this
theorem leftN_pos {n i : Nat} {L : Array Bool} (hi : i < n) (h : L.getD i false = false) : 0 < leftN n L := by
  unfold leftN
  exact List.length_pos_of_mem (List.mem_filter.2 ⟨List.mem_range.2 hi, by rw [h]; rfl⟩)
theorem leftN_tail {n k : Nat} {L : Array Bool} (hk : k ≤ n) (h1 : ∀ i, i < k → L.getD i false = true) (h2 : ∀ i, k ≤ i → L.getD i false = false) : leftN n L = n - k := by
  have key : ∀ m, leftN (k + m) L = m := by
    intro m
    induction m with
    | zero =>
      unfold leftN
      rw [Nat.add_zero, List.length_eq_zero_iff, List.filter_eq_nil_iff]
      intro i hi
      rw [h1 i (List.mem_range.1 hi)]; simp
    | succ m ih =>
      unfold leftN at ih ⊢
      rw [← Nat.add_assoc, List.range_succ, List.filter_append, List.length_append, ih, List.filter_cons, h2 (k + m) (by omega)]
      simp
  have := key (n - k)
  rwa [show k + (n - k) = n by omega] at this

/-! ### The walk -/
/-- What operation i is to do, whatever has come before it. -/
def SlotGoal (P : Program) (ops : Array Oper) (Q : Exit → Act → World → Prop) (k : Nat) (T : Nat → Value → World → Prop) (a0 : Act) (w0 : World) (i : Nat) : Prop :=
  ∀ (u : Nat → Value) (w : World), Ext w0 w → (∀ j, waitsB .any ops i j = true → T j (u j) w) →
    wpOp P ops Q i (fun a' w' => ∃ v, a' = (putAll (ops.toList.take k) u 0 a0).put (dstB ops i) v ∧ Ext w w' ∧ T i v w') (putAll (ops.toList.take k) u 0 a0) w
/-- The same of one that only computes. -/
def PureGoal (P : Program) (ops : Array Oper) (k : Nat) (T : Nat → Value → World → Prop) (a0 : Act) (w0 : World) (i : Nat) : Prop :=
  ∀ (u : Nat → Value) (w : World), Ext w0 w → (∀ j, waitsB .any ops i j = true → T j (u j) w) →
    ∃ v, (∀ o, ops[i]? = some o → Yields P ops o v (putAll (ops.toList.take k) u 0 a0)) ∧ T i v w
theorem PureGoal.slot {k : Nat} {T : Nat → Value → World → Prop} {a0 : Act} {w0 : World} {i : Nat} (hB : headB ops k a0.tmps.size = true) (hi : i < k) (h : PureGoal P ops k T a0 w0 i) : SlotGoal P ops Q k T a0 w0 i := by
  intro u w hx hd
  obtain ⟨v, hy, hv⟩ := h u w hx hd
  obtain ⟨o, d, ho, hod, hdd, -⟩ := headB_get hB hi
  refine (hy o ho).wpOp ho ⟨v, ?_, Ext.refl _, hv⟩
  rw [hdd, hod]
section
variable {k : Nat} {F : List Nat} {T : Nat → Value → World → Prop} {a0 : Act} {w0 : World}
theorem wpAny_core (hB : headB ops k a0.tmps.size = true) (hT : tailB ops k F = true) (hks : k ≤ ops.size) (hst : ∀ i v w w', Ext w w' → T i v w → T i v w') (hop : ∀ i, i < k → SlotGoal P ops Q k T a0 w0 i)
    (hend : ∀ L a w, SInv ops k T a0 w0 L a w → (∀ i, i < k → F.contains i = false → L.getD i false = true) → wpAny P .any ops Q (leftN ops.size L) L a w) :
    ∀ (f : Nat) (L : Array Bool) (a : Act) (w : World), SInv ops k T a0 w0 L a w → leftN ops.size L = f → wpAny P .any ops Q f L a w := by
  intro f
  induction f with
  | zero =>
    intro L a w inv hf
    rw [← hf]
    refine hend L a w inv fun i hi _ => ?_
    cases hl : L.getD i false with
    | true => rfl
    | false => have := leftN_pos (n := ops.size) (i := i) (by omega) hl; omega
  | succ f ih =>
    intro L a w inv hf
    by_cases hall : ∀ i, i < k → F.contains i = false → L.getD i false = true
    · rw [← hf]; exact hend L a w inv hall
    · have hall' : ∀ i, i < k → Region.ready .any ops L = [] → L.getD i false = true := by
        intro i
        induction i using Nat.strongRecOn with
        | _ i ihi =>
          intro hi hr
          cases hl : L.getD i false with
          | true => rfl
          | false =>
            obtain ⟨o, d, ho, -, -, -, -, hed⟩ := headB_get hB hi
            have hm : i ∈ Region.ready .any ops L := mem_ready.2 ⟨getD_in (by rw [inv.size]; omega) hl, o, ho, fun e he hb => ihi e.on (hed e he hb) (by have := hed e he hb; omega) hr⟩
            rw [hr] at hm
            cases hm
      refine ⟨fun hr => absurd (fun i hi _ => hall' i hi hr) hall, fun i hi => ?_⟩
      obtain ⟨hun, o, ho, hdeps⟩ := mem_ready.1 hi
      have his : i < ops.size := (Array.getElem?_eq_some_iff.1 ho).1
      have hw : ∀ j, waitsB .any ops i j = true → L.getD j false = true := fun j hj => by
        obtain ⟨o', e, ho', he, hb, rfl⟩ := waitsB_get hj
        rw [ho] at ho'
        obtain rfl : o = o' := by injection ho'
        exact hdeps e he hb
      have hik : i < k := by
        rcases Nat.lt_or_ge i k with h | h
        · exact h
        · exfalso
          have h1 := List.all_eq_true.1 hT i (List.mem_range.2 his)
          simp only [Bool.or_eq_true, decide_eq_true_eq] at h1
          rcases h1 with (h1 | h1) | h1
          · omega
          · refine hall fun c hc hF => ?_
            have h2 := List.all_eq_true.1 h1 c (List.mem_range.2 hc)
            rw [hF, Bool.false_or] at h2
            exact hw c h2
          · obtain ⟨j, hj, h2⟩ := List.any_eq_true.1 h1
            simp only [Bool.and_eq_true, decide_eq_true_eq] at h2
            have h3 := hw j h2.2
            rw [inv.tail j h2.1] at h3
            cases h3
      have hact := inv.act hB
      have hg := hop i hik (heldU ops a) w inv.ext (fun j hj => by
        have hlj := hw j hj
        obtain ⟨o', e, ho', he, hb, rfl⟩ := waitsB_get hj
        obtain ⟨o2, -, ho2, -, -, -, -, hed⟩ := headB_get hB hik
        rw [ho'] at ho2
        obtain rfl : o' = o2 := by injection ho2
        exact inv.at_ hB (by have := hed e he hb; omega) hlj)
      rw [← hact] at hg
      refine wpOp_mono (fun a' w' h => ?_) hg
      obtain ⟨v, rfl, hx, hv⟩ := h
      refine ih _ _ _ (inv.next hB hst hik hx hv) ?_
      have := leftN_set (n := ops.size) (i := i) (L := L) his (by rw [inv.size]; exact his) (getD_both hun)
      omega
theorem wpAny_free (hB : headB ops k a0.tmps.size = true) (hF : freeB ops k F = true) (hks : k ≤ ops.size) (hsel : Region.noSelect ops = true) (hseq : Region.seqB .any ops (ops.size - k) k (headMask ops k) = true) (hst : ∀ i v w w', Ext w w' → T i v w → T i v w')
    (hQ : ∀ c t t' ds w, Q (.panic c) ⟨t, ds⟩ w → Q (.panic c) ⟨t', ds⟩ w) (hpure : ∀ i, i ∈ F → PureGoal P ops k T a0 w0 i)
    (hend : ∀ u w, Ext w0 w → (∀ i, i < k → T i (u i) w) → wpList P ops Q (ops.toList.drop k) (putAll (ops.toList.take k) u 0 a0) w) :
    ∀ (G : List Nat) (_ : ∀ i ∈ G, i ∈ F) (L : Array Bool) (a : Act) (w : World), SInv ops k T a0 w0 L a w → (∀ i, i < k → F.contains i = false → L.getD i false = true) → (∀ i, i < k → G.contains i = false → L.getD i false = true) → wpAny P .any ops Q (leftN ops.size L) L a w
  | [], _, L, a, w, inv, _, h => by
    have h1 : ∀ i, i < k → L.getD i false = true := fun i hi => h i hi rfl
    have hL : L = headMask ops k := by
      apply Array.ext_getElem?
      intro i
      have e : (headMask ops k)[i]? = ((List.range ops.size)[i]?).map fun i => decide (i < k) := by unfold headMask; simp
      rw [e]
      by_cases hi : i < ops.size
      · rw [List.getElem?_range hi]
        have hi' : i < L.size := by rw [inv.size]; exact hi
        by_cases hik : i < k
        · have := h1 i hik
          simp [hi'] at this
          simp [hi', hik, this]
        · have := inv.tail i (by omega)
          simp [hi'] at this
          simp [hi', hik, this]
      · rw [Array.getElem?_eq_none (by rw [inv.size]; omega), List.getElem?_eq_none (by simp; omega)]
        rfl
    rw [leftN_tail hks h1 inv.tail]
    have hlen : (ops.toList.drop k).length = ops.size - k := by simp
    rw [← hlen]
    refine wpAny_of_seq (ops.toList.drop k) k L a w (fun j => by rw [List.getElem?_drop, Array.getElem?_toList]) (by rw [hlen, hL]; exact hseq) ?_
    rw [inv.act hB]
    exact hend _ w inv.ext fun i hi => inv.at_ hB hi (h1 i hi)
  | i :: G, hG, L, a, w, inv, hc, h => by
    have hiF := hG i (by simp)
    by_cases hl : L.getD i false = true
    · refine wpAny_free hB hF hks hsel hseq hst hQ hpure hend G (fun j hj => hG j (by simp [hj])) L a w inv hc fun j hj hGj => ?_
      by_cases hji : j = i
      · rw [hji]; exact hl
      · refine h j hj ?_
        rw [List.contains_cons, hGj, Bool.or_false, beq_eq_false_iff_ne]
        exact hji
    · have hl' : L.getD i false = false := by simpa using hl
      have h1 := List.all_eq_true.1 hF i hiF
      simp only [Bool.and_eq_true, decide_eq_true_eq] at h1
      obtain ⟨⟨hik, hfree⟩, hdep⟩ := h1
      obtain ⟨o, d, ho, hod, hd, hdm, hne, hed⟩ := headB_get hB hik
      simp only [ho] at hdep
      have his : i < ops.size := by omega
      have hdl : ∀ e ∈ o.after, Region.binds .any e = true → L.getD e.on false = true := fun e he hb => by
        have h2 := Array.all_eq_true_iff_forall_mem.1 hdep e he
        simp only [hb, Bool.not_true, Bool.false_or, Bool.and_eq_true, decide_eq_true_eq, Bool.not_eq_true'] at h2
        exact hc e.on h2.1 h2.2
      have hready : i ∈ Region.ready .any ops L := mem_ready.2 ⟨getD_in (by rw [inv.size]; exact his) hl', o, ho, hdl⟩
      obtain ⟨v, hy, hv⟩ := hpure i hiF (heldU ops a) w inv.ext (fun j hj => by
        obtain ⟨o', e, ho', he, hb, rfl⟩ := waitsB_get hj
        rw [ho] at ho'
        obtain rfl : o = o' := by injection ho'
        exact inv.at_ hB (by have := hed e he hb; omega) (hdl e he hb))
      rw [← inv.act hB] at hy
      rw [leftN_set (n := ops.size) (i := i) his (by rw [inv.size]; exact his) hl']
      refine wpAny_first ho (Region.noSelect_spec hsel) (fun c a w h => by
        obtain ⟨t, ds⟩ := a
        generalize o.dst = dd at h
        cases dd with
        | none => exact h
        | some d => exact hQ c _ t ds w h) (leftN ops.size (L.setIfInBounds i true)) L a w (fun j oj hj hji hun hno => ?_) hready (hy o ho) ?_
      · refine Region.free_spec ho hfree j oj hj hji ?_ hno
        have hjs : j < ops.size := (Array.getElem?_eq_some_iff.1 hj).1
        have ec : (coreMask ops k F).getD j true = (decide (j < k) && !F.contains j) := by unfold coreMask; simp [hjs]
        rw [ec]
        by_cases hjk : j < k ∧ F.contains j = false
        · have := hc j hjk.1 hjk.2
          rw [getD_both hun] at this
          cases this
        · by_cases h2 : j < k
          · have h3 : F.contains j = true := by
              cases h4 : F.contains j with
              | true => rfl
              | false => exact absurd ⟨h2, h4⟩ hjk
            simp only [h3]
            simp
          · simp [h2]
      · rw [hod, ← hd]
        refine wpAny_free hB hF hks hsel hseq hst hQ hpure hend G (fun j hj => hG j (by simp [hj])) _ _ w (inv.next hB hst hik (Ext.refl w) hv) (fun j hj hFj => getD_set_true (hc j hj hFj)) fun j hj hGj => ?_
        by_cases hji : j = i
        · rw [hji, Array.getD_eq_getD_getElem?, Array.getElem?_setIfInBounds_self_of_lt (by rw [inv.size]; exact his)]; rfl
        · refine getD_set_true (h j hj ?_)
          rw [List.contains_cons, hGj, Bool.or_false, beq_eq_false_iff_ne]
          exact hji
end
/-- All of n in a row. -/
def allOf (p : Nat → Prop) : Nat → Nat → Prop
  | 0, _ => True
  | n + 1, i => p i ∧ allOf p n (i + 1)
theorem allOf_get {p : Nat → Prop} : ∀ {n i : Nat}, allOf p n i → ∀ j, i ≤ j → j < i + n → p j
  | 0, _, _, _, h1, h2 => by omega
  | n + 1, i, h, j, h1, h2 => by
    by_cases hj : j = i
    · rw [hj]; exact h.1
    · exact allOf_get h.2 j (by omega) (by omega)
theorem allOf_mk {p : Nat → Prop} : ∀ {n i : Nat}, (∀ j, i ≤ j → j < i + n → p j) → allOf p n i
  | 0, _, _ => trivial
  | n + 1, i, h => ⟨h i (Nat.le_refl _) (by omega), allOf_mk fun j h1 h2 => h j (by omega) (by omega)⟩
/-- Such a region. -/
theorem wp_region_slots {id : Nat} {a : Act} {w : World} {l : List Oper} (k : Nat) (F : List Nat) (T : Nat → Value → World → Prop) (hm : P.follows .mixedOrders = true) (hB : slotsB l.toArray k F a.tmps.size = true)
    (hst : ∀ i v w w', Ext w w' → T i v w → T i v w') (hQ : ∀ c t t' ds w, Q (.panic c) ⟨t, ds⟩ w → Q (.panic c) ⟨t', ds⟩ w)
    (hop : allOf (fun i => if F.contains i = true then PureGoal P l.toArray k T a w.drew i else SlotGoal P l.toArray Q k T a w.drew i) k 0)
    (hend : ∀ u w', Ext w.drew w' → allOf (fun i => T i (u i) w') k 0 → wpList P l.toArray Q (l.drop k) (putAll (l.take k) u 0 a) w') : (Code.region id l.toArray true).wp P Q a w := by
  simp only [slotsB, Bool.and_eq_true, decide_eq_true_eq] at hB
  obtain ⟨⟨⟨⟨⟨h1, h2⟩, h3⟩, h4⟩, h5⟩, h6⟩ := hB
  have hpure : ∀ i, i ∈ F → PureGoal P l.toArray k T a w.drew i := fun i hi => by
    have hik : i < k := by
      have := List.all_eq_true.1 h5 i hi
      simp only [Bool.and_eq_true, decide_eq_true_eq] at this
      exact this.1.1
    have := allOf_get hop i (by omega) (by omega)
    rwa [if_pos (by simpa using hi)] at this
  refine wp_region_any hm ?_
  have hleft : leftN l.toArray.size (Array.replicate l.toArray.size false) = l.toArray.size := by
    have := leftN_tail (n := l.toArray.size) (k := 0) (L := Array.replicate l.toArray.size false) (Nat.zero_le _) (fun i hi => by omega) (fun i _ => getD_replicate_false _ _)
    simpa using this
  refine wpAny_core (F := F) h3 h4 h2 hst (fun i hi => ?_) (fun L a' w' inv hall => ?_) l.toArray.size _ a w.drew ⟨by simp, Ext.refl _, rfl, rfl, fun i _ => getD_replicate_false _ _, fun _ _ => rfl, fun i d _ _ hl => by rw [getD_replicate_false] at hl; cases hl⟩ hleft
  · by_cases hF : F.contains i = true
    · exact (hpure i (by simpa using hF)).slot h3 hi
    · have := allOf_get hop i (by omega) (by omega)
      rwa [if_neg hF] at this
  · refine wpAny_free h3 h5 h2 h1 h6 hst hQ hpure (fun u w'' hx hT => ?_) F (fun _ h => h) L a' w' inv hall hall
    have := hend u w'' hx (allOf_mk fun j _ hj => hT j (by omega))
    simpa using this

/-! ### Properties that growth keeps -/
structure Stab where
  p : Value → World → Prop
  up : ∀ v w w', Ext w w' → p v w → p v w'
/-- A value that is known. -/
def Stab.is (x : Value) : Stab := ⟨fun v _ => v = x, fun _ _ _ _ h => h⟩
/-- Anything. -/
def Stab.any : Stab := ⟨fun _ _ => True, fun _ _ _ _ _ => trivial⟩
/-- The property of the i-th. -/
def prop (Ts : List Stab) (i : Nat) : Value → World → Prop := match Ts[i]? with | some t => t.p | none => fun _ _ => True
theorem prop_up (Ts : List Stab) : ∀ i v w w', Ext w w' → prop Ts i v w → prop Ts i v w' := fun i v w w' hx h => by
  unfold prop at h ⊢
  cases hi : Ts[i]? with
  | none => trivial
  | some t => rw [hi] at h; exact t.up v w w' hx h
/-- What operation i is to do; A: the state by the slots' values. -/
def SlotA (P : Program) (ops : Array Oper) (Q : Exit → Act → World → Prop) (T : Nat → Value → World → Prop) (A : (Nat → Value) → Act) (w0 : World) (i : Nat) : Prop :=
  ∀ (u : Nat → Value) (w : World), Ext w0 w → (∀ j, waitsB .any ops i j = true → T j (u j) w) → wpOp P ops Q i (fun a' w' => ∃ v, a' = (A u).put (dstB ops i) v ∧ Ext w w' ∧ T i v w') (A u) w
def PureA (P : Program) (ops : Array Oper) (T : Nat → Value → World → Prop) (A : (Nat → Value) → Act) (w0 : World) (i : Nat) : Prop :=
  ∀ (u : Nat → Value) (w : World), Ext w0 w → (∀ j, waitsB .any ops i j = true → T j (u j) w) → ∃ v, (∀ o, ops[i]? = some o → Yields P ops o v (A u)) ∧ T i v w
/-- Such a region, by a list of properties. -/
theorem wp_region_stab {id : Nat} {a : Act} {w : World} {l : List Oper} (k : Nat) (F : List Nat) (Ts : List Stab) {A : (Nat → Value) → Act} (hA : ∀ u, putAll (l.take k) u 0 a = A u) (hm : P.follows .mixedOrders = true) (hB : slotsB l.toArray k F a.tmps.size = true)
    (hQ : ∀ c t t' ds w, Q (.panic c) ⟨t, ds⟩ w → Q (.panic c) ⟨t', ds⟩ w)
    (hop : allOf (fun i => if F.contains i = true then PureA P l.toArray (prop Ts) A w.drew i else SlotA P l.toArray Q (prop Ts) A w.drew i) k 0)
    (hend : ∀ u w', Ext w.drew w' → allOf (fun i => prop Ts i (u i) w') k 0 → wpList P l.toArray Q (l.drop k) (A u) w') : (Code.region id l.toArray true).wp P Q a w := by
  obtain rfl : A = fun u => putAll (l.take k) u 0 a := funext fun u => (hA u).symm
  exact wp_region_slots k F (prop Ts) hm hB (prop_up Ts) hQ hop hend

/-! ### One operation -/
theorem slot_run {i : Nat} {T : Nat → Value → World → Prop} {o : Oper} {d : Tmp} {a : Act} {w : World} (ho : ops[i]? = some o) (hd : o.dst = some d) (hw : Region.wanted o (yielded ops a.tmps) = true)
    (h : ∀ K : Act → World → Prop, (∀ a' w', a' = a.put (some d) (a'.tmps.getD d undef) → Ext w w' → T i (a'.tmps.getD d undef) w' → K a' w') → o.wp P a w K Q) :
    wpOp P ops Q i (fun a' w' => ∃ v, a' = a.put (dstB ops i) v ∧ Ext w w' ∧ T i v w') a w := by
  unfold wpOp
  simp only [ho]
  rw [if_pos hw]
  have e : dstB ops i = some d := by unfold dstB; rw [ho]; exact hd
  rw [e]
  exact .inl (h _ fun a' w' h1 h2 h3 => ⟨_, h1, h2, h3⟩)
theorem slot_skip {i : Nat} {T : Nat → Value → World → Prop} {o : Oper} {a : Act} {w : World} (ho : ops[i]? = some o) (hw : Region.wanted o (yielded ops a.tmps) = false) (hT : T i undef w) :
    wpOp P ops Q i (fun a' w' => ∃ v, a' = a.put (dstB ops i) v ∧ Ext w w' ∧ T i v w') a w := by
  unfold wpOp
  simp only [ho]
  rw [if_neg (by rw [hw]; simp)]
  exact ⟨undef, by unfold dstB; rw [ho]; rfl, Ext.refl _, hT⟩
theorem pure_run {i : Nat} {T : Nat → Value → World → Prop} {w : World} {o : Oper} {b : Act} {v : Value} (ho : ops[i]? = some o) (hw : Region.wanted o (yielded ops b.tmps) = true)
    (hy : ∀ w', (execOp b.eval o).run P w' = .ok (.value v) w') (hT : T i v w) :
    ∃ v, (∀ o, ops[i]? = some o → Yields P ops o v b) ∧ T i v w :=
  ⟨v, fun o' ho' => by rw [ho] at ho'; obtain rfl : o = o' := (by injection ho'); exact .inl ⟨hw, hy⟩, hT⟩
end
end Go.Proofs.YtlpboikonnpjbaaGreat
