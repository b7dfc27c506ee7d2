/-
  What packing keeps: plain.
-/
import Derived.Test.YtgmicckeefoghaaPackP
import Derived.Test.YtgmicckeefoghaaChanges
namespace Go.Proofs.Ytgmicckeefoghaa
open Go.RowKit

theorem cntP_mono (l : List Move) {i : Nat} : ∀ {j : Nat}, i ≤ j → cntP l i ≤ cntP l j
  | 0, h => by rw [Nat.le_zero.1 h]; exact Nat.le_refl _
  | j + 1, h => by
    rcases Nat.lt_or_ge i (j + 1) with h1 | h1
    · have := cntP_mono l (show i ≤ j by omega)
      rw [cntP_step]; omega
    · rw [show i = j + 1 by omega]; exact Nat.le_refl _
theorem cntP_one (l : List Move) : cntP l 1 = 1 := by rw [cntP_step]; simp [cntP, keepB]
theorem cntP_pos (l : List Move) {j : Nat} (h : 1 ≤ j) : 1 ≤ cntP l j := by
  have := cntP_mono l h
  rwa [cntP_one] at this
theorem packT_prefix (l : List Move) (ts : List Timing) {i : Nat} : ∀ {j : Nat}, i ≤ j → j ≤ ts.length → ∃ r, packT l ts j = packT l ts i ++ r
  | 0, h, _ => ⟨[], by rw [Nat.le_zero.1 h, List.append_nil]⟩
  | j + 1, h, hj => by
    rcases Nat.lt_or_ge i (j + 1) with h1 | h1
    · obtain ⟨r, hr⟩ := packT_prefix l ts (show i ≤ j by omega) (by omega)
      rw [packT_step l (List.getElem?_eq_getElem (show j < ts.length by omega)), hr, List.append_assoc]
      exact ⟨_, rfl⟩
    · exact ⟨[], by rw [show i = j + 1 by omega, List.append_nil]⟩
theorem packT_get {l : List Move} {ts : List Timing} {i j : Nat} {t : Timing} (hk : keepB l i = true) (ht : ts[i]? = some t) (hi : i < j) (hj : j ≤ ts.length) : (packT l ts j)[cntP l i]? = some t := by
  obtain ⟨r, hr⟩ := packT_prefix l ts (show i + 1 ≤ j by omega) hj
  have hl := packT_len l ts i (by omega)
  rw [hr, packT_step l ht, hk, if_pos rfl, List.append_assoc, List.getElem?_append_right (by omega), hl]
  simp
theorem cntP_from (l : List Move) {q : Nat} : ∀ {j : Nat}, q < cntP l j → ∃ r, r < j ∧ keepB l r = true ∧ cntP l r = q
  | 0, h => by simp [cntP] at h
  | j + 1, h => by
    rw [cntP_step] at h
    rcases Nat.lt_or_ge q (cntP l j) with h1 | h1
    · obtain ⟨r, h2, h3, h4⟩ := cntP_from l h1
      exact ⟨r, by omega, h3, h4⟩
    · split at h
      · rename_i hk; exact ⟨j, by omega, hk, by omega⟩
      · omega
theorem packM_mem {l k : List Move} {m : Move} (h : m ∈ k) : { m with part := (cntP l m.part.toNat : Int) } ∈ packM l k := List.mem_map.2 ⟨m, h, rfl⟩
theorem packM_get {l k : List Move} {i : Nat} {m : Move} (h : k[i]? = some m) : (packM l k)[i]? = some { m with part := (cntP l m.part.toNat : Int) } := by
  unfold packM; rw [List.getElem?_map, h]; rfl
theorem packC_len (c : Cue) : (packC c).parts.length = cntP c.moves c.parts.length := packT_len _ _ _ (Nat.le_refl _)
theorem packC_moves_len (c : Cue) : (packC c).moves.length = c.moves.length := packM_len _ _
section
variable {c : Cue} (h : cueE c = 0)
include h
omit h in
theorem pack_keep {x : Move} (hx : x ∈ c.moves) {q : Nat} (hq : x.part = (q : Int) + 1) : keepB c.moves q = true := by
  by_cases h0 : q = 0
  · subst h0; rfl
  · rw [keep_pos _ h0]
    exact List.any_eq_true.2 ⟨x, hx, by simp [hq]⟩
theorem pack_part {x : Move} (hx : x ∈ c.moves) : 1 ≤ cntP c.moves x.part.toNat ∧ cntP c.moves x.part.toNat ≤ (packC c).parts.length := by
  obtain ⟨h1, h2⟩ := parts_in h x hx
  exact ⟨cntP_pos _ (by omega), by rw [packC_len]; exact cntP_mono _ (by omega)⟩
theorem pack_time {x : Move} (hx : x ∈ c.moves) {t : Timing} (ht : c.parts[(x.part - 1).toNat]? = some t) : (packC c).parts[cntP c.moves x.part.toNat - 1]? = some t := by
  obtain ⟨h1, h2⟩ := parts_in h x hx
  obtain ⟨q, hq⟩ : ∃ q : Nat, x.part = (q : Int) + 1 := ⟨(x.part - 1).toNat, by omega⟩
  have hk := pack_keep hx hq
  rw [show (x.part - 1).toNat = q by omega] at ht
  rw [show x.part.toNat = q + 1 by omega, cntP_step, hk]
  exact packT_get hk ht (by omega) (Nat.le_refl _)
theorem pack_ok : cueE (packC c) = 0 := by
  obtain ⟨e1, e2, e3, e4, e5⟩ := cueE_ok h
  have hl := parts_len h
  have hok := (okM_iff _).1 (movesE_scan e3).2
  have hpos : 1 ≤ (packC c).parts.length := by rw [packC_len]; exact cntP_pos _ (by omega)
  have hle : (packC c).parts.length ≤ 4 := by have := cntP_le c.moves c.parts.length; rw [packC_len]; omega
  have hm : movesE (packC c).moves = 0 := by
    unfold movesE
    rw [packC_moves_len, if_neg (by have := (movesE_scan e3).1; omega)]
    refine (okM_iff _).2 ⟨fun m hm => ?_, ?_⟩
    · obtain ⟨x, hx, rfl⟩ := List.mem_map.1 hm
      have h1 := hok.1 x hx
      have h2 := pack_part h hx
      unfold moveE1 at h1 ⊢
      simp only [] at h1 ⊢
      split at h1
      · rename_i h3; rw [if_pos h3]; exact h1
      · rename_i h3
        rw [if_neg h3]
        split at h1
        · rename_i h4; rw [if_pos h4]; exact h1
        · rename_i h4
          rw [if_neg h4, if_neg (by omega)]
    · show (List.map _ c.moves).Pairwise _
      rw [List.pairwise_map]
      exact hok.2
  have hall : ∀ t ∈ (packC c).parts, timingE t = 0 := fun t ht => by
    obtain ⟨i, _, hi⟩ := List.mem_filterMap.1 ht
    exact timesE_ok (partsE_ok h) t (List.mem_of_getElem? hi)
  have hp : partsE (packC c) = 0 := by
    have h1 : (packC c).parts.all timingOk = true := List.all_eq_true.2 fun t ht => timingE_ok (hall t ht)
    have h2 : ((packC c).moves.any fun m => decide (((packC c).parts.length : Int) < m.part)) = false := by
      rw [List.any_eq_false]
      intro m hm
      obtain ⟨x, hx, rfl⟩ := List.mem_map.1 hm
      have := pack_part h hx
      simp only [decide_eq_true_eq]
      omega
    unfold partsE timesE
    simp only [h1, h2, if_neg (show ¬ (packC c).parts.length = 0 by omega), if_neg (show ¬ 4 < (packC c).parts.length by omega)]
    simp
  have hn : nextE (packC c) = nextE c := rfl
  have hn1 : numE (packC c).number = 0 := e1
  have hn2 : labelE (packC c).label = 0 := e2
  unfold cueE
  simp only [hn1, hn2, hm, hp, hn, e5]
  simp
omit h in
theorem pack_all {i : Nat} (hi : i < (packC c).parts.length) : keepB (packC c).moves i = true := by
  rw [packC_len] at hi
  by_cases h0 : i = 0
  · subst h0; rfl
  · obtain ⟨r, h1, h2, h3⟩ := cntP_from c.moves hi
    have hr : r ≠ 0 := fun e => by rw [e] at h3; exact h0 (by rw [← h3]; rfl)
    rw [keep_pos _ hr] at h2
    obtain ⟨m, hm, hmp⟩ := List.any_eq_true.1 h2
    have hmp' : m.part = (r : Int) + 1 := by simpa using hmp
    rw [keep_pos _ h0]
    refine List.any_eq_true.2 ⟨_, packM_mem (l := c.moves) hm, ?_⟩
    have hk : keepB c.moves r = true := by rw [keep_pos _ hr]; exact h2
    have : cntP c.moves m.part.toNat = i + 1 := by rw [show m.part.toNat = r + 1 by omega, cntP_step, hk, h3]; rfl
    simp [this]
omit h in
theorem pack_cnt : ∀ {j : Nat}, j ≤ (packC c).parts.length → cntP (packC c).moves j = j
  | 0, _ => rfl
  | j + 1, hj => by rw [cntP_step, pack_all (show j < _ by omega), pack_cnt (by omega)]; rfl
omit h in
theorem pack_take : ∀ {j : Nat}, j ≤ (packC c).parts.length → packT (packC c).moves (packC c).parts j = (packC c).parts.take j
  | 0, _ => rfl
  | j + 1, hj => by
    rw [packT_step _ (List.getElem?_eq_getElem (show j < (packC c).parts.length by omega)), pack_all (show j < _ by omega), pack_take (by omega), if_pos rfl, List.take_succ_eq_append_getElem (by omega)]
theorem pack_again : packV (packC c) = (packC c, 0) := by
  rw [packV_ok (pack_ok h)]
  have h1 : packT (packC c).moves (packC c).parts (packC c).parts.length = (packC c).parts := by
    rw [pack_take (Nat.le_refl _), List.take_length]
  have h2 : packM (packC c).moves (packC c).moves = (packC c).moves := by
    unfold packM
    conv => rhs; rw [← List.map_id (packC c).moves]
    refine List.map_congr_left fun m hm => ?_
    obtain ⟨x, hx, rfl⟩ := List.mem_map.1 hm
    have := pack_part h hx
    simp only [Int.toNat_natCast, id]
    rw [pack_cnt this.2]
  show ({ packC c with moves := packM (packC c).moves (packC c).moves, parts := packT (packC c).moves (packC c).parts (packC c).parts.length }, _) = _
  rw [h1, h2]
end
/-- How many moves the first parts have. -/
def splitN (l : List Move) (j : Nat) : Nat := (l.filter fun m => decide (m.part ≤ (j : Int))).length
theorem splitN_step {l : List Move} (j : Nat) : splitN l (j + 1) = splitN l j + (splitM l ((j : Int) + 1)).length := by
  unfold splitN splitM
  induction l with
  | nil => rfl
  | cons x l ih =>
    simp only [] at ih
    rcases (by omega : x.part ≤ (j : Int) ∨ x.part = (j : Int) + 1 ∨ (j : Int) + 1 < x.part) with h | h | h
    · have e1 : decide (x.part ≤ (j : Int)) = true := by simpa using h
      have e2 : decide (x.part ≤ ((j + 1 : Nat) : Int)) = true := by simp; omega
      have e3 : (!(x.part != (j : Int) + 1)) = false := by simp; omega
      simp only [List.filter_cons, e1, e2, e3, if_true, Bool.false_eq_true, if_false, List.length_cons]
      omega
    · have e1 : decide (x.part ≤ (j : Int)) = false := by simp; omega
      have e2 : decide (x.part ≤ ((j + 1 : Nat) : Int)) = true := by simp; omega
      have e3 : (!(x.part != (j : Int) + 1)) = true := by simp; omega
      simp only [List.filter_cons, e1, e2, e3, if_true, Bool.false_eq_true, if_false, List.length_cons]
      omega
    · have e1 : decide (x.part ≤ (j : Int)) = false := by simp; omega
      have e2 : decide (x.part ≤ ((j + 1 : Nat) : Int)) = false := by simp; omega
      have e3 : (!(x.part != (j : Int) + 1)) = false := by simp; omega
      simp only [List.filter_cons, e1, e2, e3, Bool.false_eq_true, if_false]
      omega
theorem splitN_zero {l : List Move} (h : ∀ x ∈ l, 1 ≤ x.part) : splitN l 0 = 0 := by
  unfold splitN
  rw [List.length_eq_zero_iff, List.filter_eq_nil_iff]
  intro x hx
  have := h x hx
  simp; omega
theorem splitN_all {l : List Move} {n : Nat} (h : ∀ x ∈ l, x.part ≤ (n : Int)) : splitN l n = l.length := by
  unfold splitN
  rw [List.filter_eq_self.2 fun x hx => by simpa using h x hx]
end Go.Proofs.Ytgmicckeefoghaa
