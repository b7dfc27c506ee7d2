import Derived.Test.YtgmicckeefoghaaStr
import Derived.Lib.IndexBytes
namespace Go.Proofs.Ytgmicckeefoghaa
open Go.RowKit

/-- An ending that is one bool, of which only its truth is told. -/
def IntSign (b : Bool) (e : Ending) : Prop := ∃ k : Int, e = .returned (.int .i64 k) ∧ decide (0 ≤ k) = b

set_option maxHeartbeats 400000 in
theorem ContainsFunc_digits (s : ByteArray) (w : World) (hs : s.size ≤ maxLen) :
    Calls Try.prog 181 #[.string s, .func (Fn.func 182) #[] #[]] w fun e w' => e = .returned (.bool (!s.data.toList.all isDig)) ∧ Ext w w' := by
  go_enter Try.func181, Try.ntmps181
  go_wp2_with fail
  go_in
  go_wp2_with fail
  refine (indexFunc_digits s _ hs).mono ?_
  rintro e w' ⟨⟨k, rfl, hk⟩, hx⟩
  obtain ⟨y, rfl⟩ := hx.get
  clear hx
  have HK := Lib.hid hk
  clear hk
  go_wp2
  go_ret
  rw [← HK.out]
  exact ⟨rfl, by repeat (first | exact Ext.refl _ | assumption | apply Ext.xt | apply Ext.alloc | apply Ext.drew | apply Ext.drewN)⟩

set_option maxHeartbeats 400000 in
theorem num_digits (s : ByteArray) (w : World) (hs : s.size ≤ maxLen) :
    Calls Try.prog 158 #[.string s] w fun e w' => e = .returned (.bool (digs s)) ∧ Ext w w' := by
  by_cases h : s.toList = []
  · have E : Hid (digs s = false) := Lib.hid (by simp [digs, h])
    go_enter Try.func158, Try.ntmps158
    go_wp2
    go_ret
    rw [E.out]
    exact ⟨rfl, Ext.refl _⟩
  · have E : Hid (digs s = s.data.toList.all isDig) := Lib.hid (by simp [digs, h])
    have h2 : s.toList.isEmpty = false := by simpa using h
    clear h
    go_enter Try.func158, Try.ntmps158
    go_wp2_with (go_at_call 181; refine (ContainsFunc_digits s _ hs).mono ?_; rintro e w' ⟨rfl, hx⟩; obtain ⟨y, rfl⟩ := hx.get; clear hx)
    go_ret
    rw [E.out]
    exact ⟨ret_b (by simp), by repeat (first | exact Ext.refl _ | assumption | apply Ext.xt | apply Ext.alloc | apply Ext.drew | apply Ext.drewN)⟩

/-- The last byte is a zero. -/
def lastZero (s : ByteArray) : Bool := decide (s.data.toList.getLast? = some 48)
theorem suffix_zero (s : ByteArray) (h : 1 ≤ s.size) : ((s.extract (s.size - 1) s.size).toList == [48]) = lastZero s := by
  rw [Lib.toList_data, Lib.extract_to_end]
  have hl : s.data.toList.length = s.size := rfl
  unfold lastZero
  rw [List.getLast?_eq_getElem?, hl]
  rw [List.drop_eq_getElem_cons (by omega), List.drop_eq_nil_of_le (by omega), List.getElem?_eq_getElem (by omega)]
  rw [Bool.eq_iff_iff]
  simp
theorem lastZero_empty (s : ByteArray) (h : s.size = 0) : lastZero s = false := by
  have hl : s.data.toList.length = s.size := rfl
  have : s.data.toList = [] := List.eq_nil_of_length_eq_zero (by omega)
  simp [lastZero, this]

set_option maxHeartbeats 400000 in
theorem HasSuffix_zero (s : ByteArray) (w : World) (hs : s.size ≤ maxLen) :
    Calls Try.prog 160 #[.string s, .string ⟨#[48]⟩] w fun e w' => e = .returned (.bool (lastZero s)) ∧ w = w' := by
  unfold maxLen at hs
  by_cases h : 1 ≤ s.size
  · have E := Lib.hid (suffix_zero s h)
    have h0 : (1 : Int) ≤ (s.size : Int) := by omega
    go_enter Try.func160, Try.ntmps160
    go_wp2_with go_in
    go_ret
    rw [← E.out]
    exact ⟨rfl, rfl⟩
  · have E := Lib.hid (lastZero_empty s (by omega))
    have h0 : s.size = 0 := by omega
    go_enter Try.func160, Try.ntmps160
    go_wp2_with go_in
    go_ret
    rw [E.out]
    exact ⟨rfl, rfl⟩

/-- The first byte is a zero. -/
def firstZero (s : ByteArray) : Bool := decide (s.data.toList.head? = some 48)
/-- The error of a number. -/
def numE (s : ByteArray) : Int :=
  if digs (whole s) = false then 3 else if point s = true ∧ (digs (rest s) = false ∨ lastZero (rest s) = true) then 3
  else if (whole s).size ≠ 1 ∧ firstZero (whole s) = true then 3 else if s.toList = [48] ∨ 4 < (whole s).size ∨ 3 < (rest s).size then 2 else 0

theorem whole_le (s : ByteArray) : (whole s).size ≤ s.size := by
  unfold whole; split
  · exact Nat.le_refl _
  · simp [ByteArray.size_extract]; omega
theorem rest_le (s : ByteArray) : (rest s).size ≤ s.size := by
  unfold rest; split
  · simp
  · simp [ByteArray.size_extract]
theorem digs_size (s : ByteArray) (h : digs s = true) : 1 ≤ s.size := by
  rcases Nat.lt_or_ge 0 s.size with h1 | h1
  · exact h1
  · have hl : s.data.toList.length = s.size := rfl
    have h2 : s.data.toList = [] := List.eq_nil_of_length_eq_zero (by omega)
    simp [digs, Lib.toList_data, h2] at h
theorem first_at (s : ByteArray) (h : 0 < s.size) : ((s[0].toNat : Int) == 48) = firstZero s := by
  have hl : s.data.toList.length = s.size := rfl
  have h0 : s.data.toList.head? = some s[0] := by
    rw [List.head?_eq_getElem?, List.getElem?_eq_getElem (by omega)]; rfl
  unfold firstZero
  rw [h0]
  by_cases h2 : s[0] = 48
  · rw [h2]; rfl
  · rw [decide_eq_false (by intro h3; exact h2 (Option.some.inj h3)), beq_eq_false_iff_ne]
    intro h3
    exact h2 (UInt8.toNat_inj.1 (by change s[0].toNat = 48; omega))

section
variable (b : Nat) (W R : ByteArray) (p : Bool) (w : World) (h0 : w.cell? ⟨b, 0, none⟩ = some (.string W)) (h1 : w.cell? ⟨b, 1, none⟩ = some (.string R)) (h2 : w.cell? ⟨b, 2, none⟩ = some (.bool p))
include h0 in
set_option maxHeartbeats 400000 in
theorem num_Check1 (hW : W.size ≤ maxLen) : Calls Try.prog 157 #[.pointer (some ⟨b, 0, none⟩)] w fun e w' => e = .returned (.bool (digs W)) ∧ Ext w w' := by
  go_enter Try.func157, Try.ntmps157
  go_wp2_with (go_at_call 158; refine (num_digits W _ hW).mono ?_; rintro e w' ⟨rfl, hx⟩; obtain ⟨y, rfl⟩ := hx.get; clear hx)
  go_ret
  exact ⟨rfl, by repeat (first | exact Ext.refl _ | assumption | apply Ext.xt | apply Ext.alloc | apply Ext.drew | apply Ext.drewN)⟩
include h1 h2 in
set_option maxHeartbeats 400000 in
theorem num_Check2 (hR : R.size ≤ maxLen) : Calls Try.prog 159 #[.pointer (some ⟨b, 0, none⟩)] w fun e w' => e = .returned (.bool (!p || (digs R && !lastZero R))) ∧ Ext w w' := by
  cases p with
  | false =>
    go_enter Try.func159, Try.ntmps159
    go_wp2
    go_ret
    exact ⟨rfl, by repeat (first | exact Ext.refl _ | assumption | apply Ext.xt | apply Ext.alloc | apply Ext.drew | apply Ext.drewN)⟩
  | true =>
    cases hd : digs R with
    | false =>
      have C : Calls Try.prog 158 #[.string R] w fun e w' => e = .returned (.bool false) ∧ Ext w w' := hd ▸ num_digits R w hR
      have HC := Lib.hid C
      clear hd C
      go_enter Try.func159, Try.ntmps159
      go_wp2_with (go_at_call 158; refine (HC.out).mono ?_; rintro e w' ⟨rfl, hx⟩; obtain ⟨y, rfl⟩ := hx.get; clear hx)
      go_ret
      exact ⟨rfl, by repeat (first | exact Ext.refl _ | assumption | apply Ext.xt | apply Ext.alloc | apply Ext.drew | apply Ext.drewN)⟩
    | true =>
      have C : Calls Try.prog 158 #[.string R] w fun e w' => e = .returned (.bool true) ∧ Ext w w' := hd ▸ num_digits R w hR
      have HC := Lib.hid C
      clear hd C
      go_enter Try.func159, Try.ntmps159
      go_wp2_with (first | (go_at_call 158; refine (HC.out).mono ?_; rintro e w' ⟨rfl, hx⟩; obtain ⟨y, rfl⟩ := hx.get; clear hx) | (go_at_call 160; refine (HasSuffix_zero R _ hR).mono ?_; rintro e w' ⟨rfl, rfl⟩))
      go_ret
      exact ⟨rfl, by repeat (first | exact Ext.refl _ | assumption | apply Ext.xt | apply Ext.alloc | apply Ext.drew | apply Ext.drewN)⟩
include h0 in
set_option maxHeartbeats 400000 in
theorem num_Check3 (hW : W.size ≤ maxLen) (hW1 : 1 ≤ W.size) : Calls Try.prog 161 #[.pointer (some ⟨b, 0, none⟩)] w fun e w' => e = .returned (.bool (W.size == 1 || !firstZero W)) ∧ Ext w w' := by
  unfold maxLen at hW
  have E := Lib.hid (first_at W hW1)
  by_cases h1 : W.size = 1
  · have hb : ((W.size : Int) == 1) = true := by rw [h1]; rfl
    have E2 : Hid ((W.size == 1) = true) := Lib.hid (by rw [h1]; rfl)
    clear h1
    go_enter Try.func161, Try.ntmps161
    go_wp2
    go_ret
    rw [E2.out]
    exact ⟨rfl, by repeat (first | exact Ext.refl _ | assumption | apply Ext.xt | apply Ext.alloc | apply Ext.drew | apply Ext.drewN)⟩
  · have hb : ((W.size : Int) == 1) = false := by rw [beq_eq_false_iff_ne]; omega
    have E2 : Hid ((W.size == 1) = false) := Lib.hid (by rw [beq_eq_false_iff_ne]; exact h1)
    clear h1
    have hb2 : (0 : Int) < (W.size : Int) := by omega
    go_enter Try.func161, Try.ntmps161
    go_wp2
    go_ret
    rw [E2.out, ← E.out]
    exact ⟨rfl, by repeat (first | exact Ext.refl _ | assumption | apply Ext.xt | apply Ext.alloc | apply Ext.drew | apply Ext.drewN)⟩
end

set_option maxHeartbeats 1000000 in
theorem num_Check (s : ByteArray) (w : World) (hs : s.size ≤ maxLen) :
    Calls Try.prog 109 #[.string s] w fun e w' => e = .returned (.int .i64 (numE s)) ∧ Ext w w' := by
  have hW : (whole s).size ≤ maxLen := Nat.le_trans (whole_le s) hs
  have hR : (rest s).size ≤ maxLen := Nat.le_trans (rest_le s) hs
  have HE : Hid (numE s = if digs (whole s) = false then 3 else if (!point s || (digs (rest s) && !lastZero (rest s))) = false then 3
      else if ((whole s).size == 1 || !firstZero (whole s)) = false then 3 else if s.toList = [48] ∨ 4 < (whole s).size ∨ 3 < (rest s).size then 2 else 0) := Lib.hid (by
    unfold numE
    cases digs (whole s) <;> cases point s <;> cases digs (rest s) <;> cases lastZero (rest s) <;> cases firstZero (whole s) <;> simp)
  have C1 : Hid (∀ (b : Nat) (w : World) (_ : w.cell? ⟨b, 0, none⟩ = some (.string (whole s))), Calls Try.prog 157 #[.pointer (some ⟨b, 0, none⟩)] w fun e w' => e = .returned (.bool (digs (whole s))) ∧ Ext w w') :=
    Lib.hid fun b w h => num_Check1 b (whole s) w h hW
  have C2 : Hid (∀ (b : Nat) (w : World) (_ : w.cell? ⟨b, 1, none⟩ = some (.string (rest s))) (_ : w.cell? ⟨b, 2, none⟩ = some (.bool (point s))), Calls Try.prog 159 #[.pointer (some ⟨b, 0, none⟩)] w fun e w' => e = .returned (.bool (!point s || (digs (rest s) && !lastZero (rest s)))) ∧ Ext w w') :=
    Lib.hid fun b w h h' => num_Check2 b (rest s) (point s) w h h' hR
  have C3 : Hid (∀ (b : Nat) (w : World) (_ : w.cell? ⟨b, 0, none⟩ = some (.string (whole s))) (_ : digs (whole s) = true), Calls Try.prog 161 #[.pointer (some ⟨b, 0, none⟩)] w fun e w' => e = .returned (.bool ((whole s).size == 1 || !firstZero (whole s))) ∧ Ext w w') :=
    Lib.hid fun b w h h' => num_Check3 b (whole s) w h hW (digs_size _ h')
  have hs0 : ((whole s).size : Int) ≤ 9223372036854775807 := by unfold maxLen at hW; omega
  have hs1 : ((rest s).size : Int) ≤ 9223372036854775807 := by unfold maxLen at hR; omega
  generalize (!point s || (digs (rest s) && !lastZero (rest s))) = f2 at *
  generalize ((whole s).size == 1 || !firstZero (whole s)) = f3 at *
  have hD : Hid (digs (whole s) = digs (whole s)) := Lib.hid rfl
  generalize hd : digs (whole s) = f1 at *
  cases f1 with
  | false =>
    clear hd C2 C3
    go_enter Try.func109, Try.ntmps109
    go_wp2_with (go_at_call 156; refine (strings_Cut_dot s _ hs).mono ?_; rintro e w' ⟨rfl, hx⟩; obtain ⟨y, rfl⟩ := hx.get; clear hx)
    refine wp_loop_rounds 1 ?_
    rw [rounds_succ]
    go_wp2_with (go_at_call 157; refine (C1.out _ _ (by simp [go_sem, *])).mono ?_; rintro e w' ⟨rfl, hx⟩; obtain ⟨y, rfl⟩ := hx.get; clear hx)
    go_ret
    rw [HE.out]
    exact ⟨rfl, by repeat (first | exact Ext.refl _ | assumption | apply Ext.xt | apply Ext.alloc | apply Ext.drew | apply Ext.drewN)⟩
  | true =>
    replace C3 := Lib.hid fun b w h => C3.out b w h rfl
    clear hd
    cases f2 with
    | false =>
      go_enter Try.func109, Try.ntmps109
      go_wp2_with (go_at_call 156; refine (strings_Cut_dot s _ hs).mono ?_; rintro e w' ⟨rfl, hx⟩; obtain ⟨y, rfl⟩ := hx.get; clear hx)
      refine wp_loop_rounds 2 ?_
      rw [rounds_succ]
      go_wp2_with (first | (go_at_call 157; refine (C1.out _ _ (by simp [go_sem, *])).mono ?_; rintro e w' ⟨rfl, hx⟩; obtain ⟨y, rfl⟩ := hx.get; clear hx) | (go_at_call 159; refine (C2.out _ _ (by simp [go_sem, *]) (by simp [go_sem, *])).mono ?_; rintro e w' ⟨rfl, hx⟩; obtain ⟨y, rfl⟩ := hx.get; clear hx))
      rw [rounds_succ]
      go_wp2_with (first | (go_at_call 157; refine (C1.out _ _ (by simp [go_sem, *])).mono ?_; rintro e w' ⟨rfl, hx⟩; obtain ⟨y, rfl⟩ := hx.get; clear hx) | (go_at_call 159; refine (C2.out _ _ (by simp [go_sem, *]) (by simp [go_sem, *])).mono ?_; rintro e w' ⟨rfl, hx⟩; obtain ⟨y, rfl⟩ := hx.get; clear hx))
      go_ret
      rw [HE.out]
      exact ⟨rfl, by repeat (first | exact Ext.refl _ | assumption | apply Ext.xt | apply Ext.alloc | apply Ext.drew | apply Ext.drewN)⟩
    | true =>
      cases f3 with
      | false =>
        go_enter Try.func109, Try.ntmps109
        go_wp2_with (go_at_call 156; refine (strings_Cut_dot s _ hs).mono ?_; rintro e w' ⟨rfl, hx⟩; obtain ⟨y, rfl⟩ := hx.get; clear hx)
        refine wp_loop_rounds 3 ?_
        rw [rounds_succ]
        go_wp2_with (first | (go_at_call 157; refine (C1.out _ _ (by simp [go_sem, *])).mono ?_; rintro e w' ⟨rfl, hx⟩; obtain ⟨y, rfl⟩ := hx.get; clear hx) | (go_at_call 159; refine (C2.out _ _ (by simp [go_sem, *]) (by simp [go_sem, *])).mono ?_; rintro e w' ⟨rfl, hx⟩; obtain ⟨y, rfl⟩ := hx.get; clear hx) | (go_at_call 161; refine (C3.out _ _ (by simp [go_sem, *])).mono ?_; rintro e w' ⟨rfl, hx⟩; obtain ⟨y, rfl⟩ := hx.get; clear hx))
        rw [rounds_succ]
        go_wp2_with (first | (go_at_call 157; refine (C1.out _ _ (by simp [go_sem, *])).mono ?_; rintro e w' ⟨rfl, hx⟩; obtain ⟨y, rfl⟩ := hx.get; clear hx) | (go_at_call 159; refine (C2.out _ _ (by simp [go_sem, *]) (by simp [go_sem, *])).mono ?_; rintro e w' ⟨rfl, hx⟩; obtain ⟨y, rfl⟩ := hx.get; clear hx) | (go_at_call 161; refine (C3.out _ _ (by simp [go_sem, *])).mono ?_; rintro e w' ⟨rfl, hx⟩; obtain ⟨y, rfl⟩ := hx.get; clear hx))
        rw [rounds_succ]
        go_wp2_with (first | (go_at_call 157; refine (C1.out _ _ (by simp [go_sem, *])).mono ?_; rintro e w' ⟨rfl, hx⟩; obtain ⟨y, rfl⟩ := hx.get; clear hx) | (go_at_call 159; refine (C2.out _ _ (by simp [go_sem, *]) (by simp [go_sem, *])).mono ?_; rintro e w' ⟨rfl, hx⟩; obtain ⟨y, rfl⟩ := hx.get; clear hx) | (go_at_call 161; refine (C3.out _ _ (by simp [go_sem, *])).mono ?_; rintro e w' ⟨rfl, hx⟩; obtain ⟨y, rfl⟩ := hx.get; clear hx))
        go_ret
        rw [HE.out]
        exact ⟨rfl, by repeat (first | exact Ext.refl _ | assumption | apply Ext.xt | apply Ext.alloc | apply Ext.drew | apply Ext.drewN)⟩
      | true =>
        go_enter Try.func109, Try.ntmps109
        go_wp2_with (go_at_call 156; refine (strings_Cut_dot s _ hs).mono ?_; rintro e w' ⟨rfl, hx⟩; obtain ⟨y, rfl⟩ := hx.get; clear hx)
        refine wp_loop_rounds 4 ?_
        rw [rounds_succ]
        go_wp2_with (first | (go_at_call 157; refine (C1.out _ _ (by simp [go_sem, *])).mono ?_; rintro e w' ⟨rfl, hx⟩; obtain ⟨y, rfl⟩ := hx.get; clear hx) | (go_at_call 159; refine (C2.out _ _ (by simp [go_sem, *]) (by simp [go_sem, *])).mono ?_; rintro e w' ⟨rfl, hx⟩; obtain ⟨y, rfl⟩ := hx.get; clear hx) | (go_at_call 161; refine (C3.out _ _ (by simp [go_sem, *])).mono ?_; rintro e w' ⟨rfl, hx⟩; obtain ⟨y, rfl⟩ := hx.get; clear hx))
        rw [rounds_succ]
        go_wp2_with (first | (go_at_call 157; refine (C1.out _ _ (by simp [go_sem, *])).mono ?_; rintro e w' ⟨rfl, hx⟩; obtain ⟨y, rfl⟩ := hx.get; clear hx) | (go_at_call 159; refine (C2.out _ _ (by simp [go_sem, *]) (by simp [go_sem, *])).mono ?_; rintro e w' ⟨rfl, hx⟩; obtain ⟨y, rfl⟩ := hx.get; clear hx) | (go_at_call 161; refine (C3.out _ _ (by simp [go_sem, *])).mono ?_; rintro e w' ⟨rfl, hx⟩; obtain ⟨y, rfl⟩ := hx.get; clear hx))
        rw [rounds_succ]
        go_wp2_with (first | (go_at_call 157; refine (C1.out _ _ (by simp [go_sem, *])).mono ?_; rintro e w' ⟨rfl, hx⟩; obtain ⟨y, rfl⟩ := hx.get; clear hx) | (go_at_call 159; refine (C2.out _ _ (by simp [go_sem, *]) (by simp [go_sem, *])).mono ?_; rintro e w' ⟨rfl, hx⟩; obtain ⟨y, rfl⟩ := hx.get; clear hx) | (go_at_call 161; refine (C3.out _ _ (by simp [go_sem, *])).mono ?_; rintro e w' ⟨rfl, hx⟩; obtain ⟨y, rfl⟩ := hx.get; clear hx))
        rw [rounds_succ]
        go_wp2
        all_goals
          go_ret
          go_light
          refine ⟨ret_i ?_, by repeat (first | exact Ext.refl _ | assumption | apply Ext.xt | apply Ext.alloc | apply Ext.drew | apply Ext.drewN)⟩
          rw [HE.out]
          simp only [Bool.true_eq_false, if_false]
          grind

theorem last_at (s : ByteArray) (h : 0 < s.size) : ((s[s.size - 1].toNat : Int) == 48) = lastZero s := by
  have hl : s.data.toList.length = s.size := rfl
  have h0 : s.data.toList.getLast? = some s[s.size - 1] := by
    rw [List.getLast?_eq_getElem?, hl, List.getElem?_eq_getElem (by omega)]; rfl
  unfold lastZero
  rw [h0]
  by_cases h2 : s[s.size - 1] = 48
  · rw [h2]; rfl
  · rw [decide_eq_false (by intro h3; exact h2 (Option.some.inj h3)), beq_eq_false_iff_ne]
    intro h3
    exact h2 (UInt8.toNat_inj.1 (by change s[s.size - 1].toNat = 48; omega))

set_option maxHeartbeats 1000000 in
theorem r05_Check (s : ByteArray) (w : World) (hs : s.size ≤ maxLen) :
    Calls Try.prog 104 #[.string s] w fun e w' => e = .returned (.int .i64 (numE s)) ∧ Ext w w' := by
  have hW : (whole s).size ≤ maxLen := Nat.le_trans (whole_le s) hs
  have hR : (rest s).size ≤ maxLen := Nat.le_trans (rest_le s) hs
  have DW : Hid (∀ w, Calls Try.prog 155 #[.string (whole s)] w fun e w' => e = .returned (.bool (digs (whole s))) ∧ w = w') := Lib.hid fun w => r05_digits _ w hW
  have DR : Hid (∀ w, Calls Try.prog 155 #[.string (rest s)] w fun e w' => e = .returned (.bool (digs (rest s))) ∧ w = w') := Lib.hid fun w => r05_digits _ w hR
  have HE : Hid (numE s = if digs (whole s) = false then 3 else if point s = true ∧ (digs (rest s) = false ∨ lastZero (rest s) = true) then 3
      else if (whole s).size ≠ 1 ∧ firstZero (whole s) = true then 3 else if s.toList = [48] ∨ 4 < (whole s).size ∨ 3 < (rest s).size then 2 else 0) := Lib.hid rfl
  have E1 : Hid (digs (whole s) = true → ∃ h : 0 < (whole s).size, (((whole s)[0].toNat : Int) == 48) = firstZero (whole s)) := Lib.hid fun h => ⟨digs_size _ h, first_at _ (digs_size _ h)⟩
  have E2 : Hid (digs (rest s) = true → ∃ h : 0 < (rest s).size, (((rest s)[(rest s).size - 1].toNat : Int) == 48) = lastZero (rest s)) := Lib.hid fun h => ⟨digs_size _ h, last_at _ (digs_size _ h)⟩
  unfold maxLen at hW hR
  have S : Hid (∀ w, Calls Try.prog 154 #[.string s] w fun e w' => e = .returned (.tuple #[.string (whole s), .string (rest s), .bool (point s)]) ∧ Ext w w') := Lib.hid fun w => r05_Split s w hs
  generalize digs (whole s) = d1 at *
  generalize digs (rest s) = d2 at *
  generalize point s = p at *
  cases d1 with
  | false =>
    go_enter Try.func104, Try.ntmps104
    go_wp2_with (first | (go_at_call 154; refine (S.out _).mono ?_; rintro e w' ⟨rfl, hx⟩; obtain ⟨y, rfl⟩ := hx.get; clear hx) | (go_at_call_of 155 (Value.string (whole s)); refine (DW.out _).mono ?_; rintro e w' ⟨rfl, rfl⟩) | (go_at_call_of 155 (Value.string (rest s)); refine (DR.out _).mono ?_; rintro e w' ⟨rfl, rfl⟩))
    all_goals
      go_ret
      go_light
      refine ⟨ret_i ?_, by repeat (first | exact Ext.refl _ | assumption | apply Ext.xt | apply Ext.alloc | apply Ext.drew | apply Ext.drewN)⟩
      rw [HE.out]
      grind
  | true =>
    obtain ⟨h1, e1⟩ := E1.out rfl
    clear E1
    generalize firstZero (whole s) = f at *
    cases p with
    | false =>
      clear E2
      cases f with
      | false =>
        go_enter Try.func104, Try.ntmps104
        go_wp2_with (first | (go_at_call 154; refine (S.out _).mono ?_; rintro e w' ⟨rfl, hx⟩; obtain ⟨y, rfl⟩ := hx.get; clear hx) | (go_at_call_of 155 (Value.string (whole s)); refine (DW.out _).mono ?_; rintro e w' ⟨rfl, rfl⟩) | (go_at_call_of 155 (Value.string (rest s)); refine (DR.out _).mono ?_; rintro e w' ⟨rfl, rfl⟩))
        all_goals
          go_ret
          go_light
          refine ⟨ret_i ?_, by repeat (first | exact Ext.refl _ | assumption | apply Ext.xt | apply Ext.alloc | apply Ext.drew | apply Ext.drewN)⟩
          rw [HE.out]
          grind
      | true =>
        go_enter Try.func104, Try.ntmps104
        go_wp2_with (first | (go_at_call 154; refine (S.out _).mono ?_; rintro e w' ⟨rfl, hx⟩; obtain ⟨y, rfl⟩ := hx.get; clear hx) | (go_at_call_of 155 (Value.string (whole s)); refine (DW.out _).mono ?_; rintro e w' ⟨rfl, rfl⟩) | (go_at_call_of 155 (Value.string (rest s)); refine (DR.out _).mono ?_; rintro e w' ⟨rfl, rfl⟩))
        all_goals
          go_ret
          go_light
          refine ⟨ret_i ?_, by repeat (first | exact Ext.refl _ | assumption | apply Ext.xt | apply Ext.alloc | apply Ext.drew | apply Ext.drewN)⟩
          rw [HE.out]
          grind
    | true =>
      cases d2 with
      | false =>
        go_enter Try.func104, Try.ntmps104
        go_wp2_with (first | (go_at_call 154; refine (S.out _).mono ?_; rintro e w' ⟨rfl, hx⟩; obtain ⟨y, rfl⟩ := hx.get; clear hx) | (go_at_call_of 155 (Value.string (whole s)); refine (DW.out _).mono ?_; rintro e w' ⟨rfl, rfl⟩) | (go_at_call_of 155 (Value.string (rest s)); refine (DR.out _).mono ?_; rintro e w' ⟨rfl, rfl⟩))
        all_goals
          go_ret
          go_light
          refine ⟨ret_i ?_, by repeat (first | exact Ext.refl _ | assumption | apply Ext.xt | apply Ext.alloc | apply Ext.drew | apply Ext.drewN)⟩
          rw [HE.out]
          grind
      | true =>
        obtain ⟨h2, e2⟩ := E2.out rfl
        clear E2
        generalize lastZero (rest s) = l at *
        cases f with
        | false =>
          cases l with
          | false =>
            go_enter Try.func104, Try.ntmps104
            go_wp2_with (first | (go_at_call 154; refine (S.out _).mono ?_; rintro e w' ⟨rfl, hx⟩; obtain ⟨y, rfl⟩ := hx.get; clear hx) | (go_at_call_of 155 (Value.string (whole s)); refine (DW.out _).mono ?_; rintro e w' ⟨rfl, rfl⟩) | (go_at_call_of 155 (Value.string (rest s)); refine (DR.out _).mono ?_; rintro e w' ⟨rfl, rfl⟩))
            all_goals
              go_ret
              go_light
              refine ⟨ret_i ?_, by repeat (first | exact Ext.refl _ | assumption | apply Ext.xt | apply Ext.alloc | apply Ext.drew | apply Ext.drewN)⟩
              rw [HE.out]
              grind
          | true =>
            go_enter Try.func104, Try.ntmps104
            go_wp2_with (first | (go_at_call 154; refine (S.out _).mono ?_; rintro e w' ⟨rfl, hx⟩; obtain ⟨y, rfl⟩ := hx.get; clear hx) | (go_at_call_of 155 (Value.string (whole s)); refine (DW.out _).mono ?_; rintro e w' ⟨rfl, rfl⟩) | (go_at_call_of 155 (Value.string (rest s)); refine (DR.out _).mono ?_; rintro e w' ⟨rfl, rfl⟩))
            all_goals
              go_ret
              go_light
              refine ⟨ret_i ?_, by repeat (first | exact Ext.refl _ | assumption | apply Ext.xt | apply Ext.alloc | apply Ext.drew | apply Ext.drewN)⟩
              rw [HE.out]
              grind
        | true =>
          cases l with
          | false =>
            go_enter Try.func104, Try.ntmps104
            go_wp2_with (first | (go_at_call 154; refine (S.out _).mono ?_; rintro e w' ⟨rfl, hx⟩; obtain ⟨y, rfl⟩ := hx.get; clear hx) | (go_at_call_of 155 (Value.string (whole s)); refine (DW.out _).mono ?_; rintro e w' ⟨rfl, rfl⟩) | (go_at_call_of 155 (Value.string (rest s)); refine (DR.out _).mono ?_; rintro e w' ⟨rfl, rfl⟩))
            all_goals
              go_ret
              go_light
              refine ⟨ret_i ?_, by repeat (first | exact Ext.refl _ | assumption | apply Ext.xt | apply Ext.alloc | apply Ext.drew | apply Ext.drewN)⟩
              rw [HE.out]
              grind
          | true =>
            go_enter Try.func104, Try.ntmps104
            go_wp2_with (first | (go_at_call 154; refine (S.out _).mono ?_; rintro e w' ⟨rfl, hx⟩; obtain ⟨y, rfl⟩ := hx.get; clear hx) | (go_at_call_of 155 (Value.string (whole s)); refine (DW.out _).mono ?_; rintro e w' ⟨rfl, rfl⟩) | (go_at_call_of 155 (Value.string (rest s)); refine (DR.out _).mono ?_; rintro e w' ⟨rfl, rfl⟩))
            all_goals
              go_ret
              go_light
              refine ⟨ret_i ?_, by repeat (first | exact Ext.refl _ | assumption | apply Ext.xt | apply Ext.alloc | apply Ext.drew | apply Ext.drewN)⟩
              rw [HE.out]
              grind
end Go.Proofs.Ytgmicckeefoghaa
