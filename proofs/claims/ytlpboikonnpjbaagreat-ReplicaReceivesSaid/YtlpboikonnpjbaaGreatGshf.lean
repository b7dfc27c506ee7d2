/-
  Logs of actions: the edits among them; shifts; insertions.
-/
import Derived.Test.YtlpboikonnpjbaaGreatGbtw
import Derived.Test.YtlpboikonnpjbaaGreatInsA
namespace Go.Proofs.YtlpboikonnpjbaaGreat
open Go.RowKit

theorem intR_one : ∀ (l : List Int), ∀ r ∈ l.map intR, ∀ u ∈ r, u.oneCell' = true := fun l r hr u hu => by
  obtain ⟨n, _, rfl⟩ := List.mem_map.1 hr
  simp [intR] at hu
  subst hu
  rfl
def isEd (a : Acn) : Bool := decide (a.kind = 17 ∨ a.kind = 18 ∨ a.kind = 19)
def edAt (l : List Acn) (i : Nat) : Bool := match l[i]? with | some a => isEd a | none => false
def idxsE (l : List Acn) (k : Nat) : List Int := ((List.range k).filter (edAt l)).map Int.ofNat
theorem idxsE_len (l : List Acn) (k : Nat) : (idxsE l k).length ≤ k := by
  unfold idxsE
  rw [List.length_map]
  exact Nat.le_trans (List.length_filter_le _ _) (by simp)
theorem idxsE_yes {l : List Acn} {k : Nat} {m : Acn} (hm : l[k]? = some m) (h : isEd m = true) : idxsE l (k + 1) = idxsE l k ++ [(k : Int)] := by
  have he : edAt l k = true := by unfold edAt; rw [hm]; exact h
  unfold idxsE
  rw [List.range_succ, List.filter_append, List.map_append]
  simp [he]
theorem idxsE_no {l : List Acn} {k : Nat} {m : Acn} (hm : l[k]? = some m) (h : isEd m = false) : idxsE l (k + 1) = idxsE l k := by
  have he : edAt l k = false := by unfold edAt; rw [hm]; exact h
  unfold idxsE
  rw [List.range_succ, List.filter_append, List.map_append]
  simp [he]
noncomputable def editsV (l : List Acn) : List Int × Int := if logE l ≠ 0 then ([], logE l) else (idxsE l l.length, 0)
def RetInts2 (w0 : World) (v : List Int × Int) (e : Ending) (w' : World) : Prop := ∃ A k, e = .returned (.tuple #[.slice A v.1.length k, .int .i64 v.2]) ∧ Ext w0 w' ∧ Own w0 w' 3 1 A v.1.length k (v.1.map intR)
/-! ### Shifts -/
theorem flat_setCell {size : Nat} : ∀ (rows : List (List Value)) (_ : ∀ r ∈ rows, r.length = size) (i : Nat) (row : List Value) (_ : rows[i]? = some row) (j : Nat) (_ : j < size) (v : Value), rows.flatten.set (i * size + j) v = (rows.set i (row.set j v)).flatten
  | [], _, _, _, h, _, _, _ => by simp at h
  | r :: rs, hr, 0, row, h, j, hj, v => by
    have h0 : r = row := by simpa using h
    subst h0
    have hl := hr r (by simp)
    rw [List.set_cons_zero, List.flatten_cons, List.flatten_cons, Nat.zero_mul, Nat.zero_add, List.set_append_left _ _ (by omega)]
  | r :: rs, hr, i + 1, row, h, j, hj, v => by
    have hl := hr r (by simp)
    rw [List.set_cons_succ, List.flatten_cons, List.flatten_cons, List.set_append_right _ _ (by rw [hl, Nat.succ_mul]; omega), hl, show (i + 1) * size + j - size = i * size + j by rw [Nat.succ_mul]; omega]
    rw [flat_setCell rs (fun x hx => hr x (by simp [hx])) i row (by simpa using h) j hj v]
theorem mem_set {α : Type} {l : List α} {i : Nat} {x y : α} (h : y ∈ l.set i x) : y ∈ l ∨ y = x := by
  rcases List.mem_or_eq_of_mem_set h with h | h
  · exact .inl h
  · exact .inr h
/-- A store of one cell into an own slice. -/
theorem Own.putCell {w0 w : World} {E : TypeId} {size g n k i j : Nat} {rows : List (List Value)} {row : List Value} {v : Value} (h : Own w0 w E size (some ⟨g, 0, none⟩) n k rows) (hi : rows[i]? = some row) (hj : j < size) (h1 : v.oneCell' = true) :
    Own w0 (w.setCell ⟨g, i * size + j, none⟩ v) E size (some ⟨g, 0, none⟩) n k (rows.set i (row.set j v)) := by
  have hmem := List.mem_of_getElem? hi
  have hil : i < rows.length := (List.getElem?_eq_some_iff.1 hi).1
  refine ⟨by rw [List.length_set]; exact h.len, fun r hr => ?_, fun r hr u hu => ?_, h.le, h.cap, ?_⟩
  · rcases mem_set hr with hr | rfl
    · exact h.row r hr
    · rw [List.length_set]; exact h.row row hmem
  · rcases mem_set hr with hr | rfl
    · exact h.one r hr u hu
    · rcases mem_set hu with hu | rfl
      · exact h.one row hmem u hu
      · exact h1
  · rcases h.at_ with h0 | ⟨g', cur, hA, hg, hb, hcs, htk⟩
    · have := h.le; have := h.len; omega
    injection hA with hA
    injection hA with hA
    subst hA
    refine .inr ⟨g, cur.setIfInBounds (i * size + j) v, rfl, hg, heap_setCell_same w g (i * size + j) cur E v hb, by rw [Array.size_setIfInBounds]; exact hcs, ?_⟩
    rw [Array.toList_setIfInBounds, List.take_set, htk, flat_setCell rows h.row i row hi j hj v]
theorem Own.cellOf {w0 w : World} {E : TypeId} {size n k i j : Nat} {A : Option Addr} {rows : List (List Value)} {row : List Value} {v : Value} (h : Own w0 w E size A n k rows) (hi : rows[i]? = some row) (hj : row[j]? = some v) :
    ∃ g, A = some ⟨g, 0, none⟩ ∧ w0.heap.size ≤ g ∧ w.cell? ⟨g, i * size + j, none⟩ = some v ∧ w.frozen? ⟨g, i * size + j, none⟩ = false := by
  obtain ⟨g, rfl, hc⟩ := h.get i row hi
  have hil : i < rows.length := (List.getElem?_eq_some_iff.1 hi).1
  rcases h.at_ with h0 | ⟨g', cur, hA, hg, hb, -⟩
  · have := h.le; have := h.len; omega
  injection hA with hA
  injection hA with hA
  subst hA
  exact ⟨g, rfl, hg, hc j v hj, by simp [World.frozen?, hb]⟩
def shA (by_ : Int) (a : Acn) : Acn := { a with at_ := a.at_ + by_ }
theorem shA_row (by_ : Int) (a : Acn) : acnR (shA by_ a) = (acnR a).set 0 (.int .i64 (a.at_ + by_)) := rfl
def shOk (by_ : Int) (a : Acn) : Bool := decide (-a.at_ ≤ by_ ∧ by_ ≤ 10000000 - a.at_)
noncomputable def shiftV (l : List Acn) (by_ : Int) : List Acn × Int := if logE l ≠ 0 then ([], logE l) else if l.all (shOk by_) = true then (l.map (shA by_), 0) else ([], 2)
/-- The first k are shifted. -/
def shK (l : List Acn) (by_ : Int) (k : Nat) : List Acn := (l.take k).map (shA by_) ++ l.drop k
theorem shK_get {l : List Acn} {by_ : Int} {k : Nat} {m : Acn} (hm : l[k]? = some m) : ((shK l by_ k).map acnR)[k]? = some (acnR m) := by
  have hk := (List.getElem?_eq_some_iff.1 hm).1
  unfold shK
  rw [List.getElem?_map, List.getElem?_append_right (by simp; omega)]
  simp only [List.length_map, List.length_take, Nat.min_eq_left (Nat.le_of_lt hk), Nat.sub_self, List.getElem?_drop, Nat.add_zero, hm]
  rfl
theorem shK_set {l : List Acn} {by_ : Int} {k : Nat} {m : Acn} (hm : l[k]? = some m) : ((shK l by_ k).map acnR).set k (acnR (shA by_ m)) = (shK l by_ (k + 1)).map acnR := by
  obtain ⟨hk, he⟩ := List.getElem?_eq_some_iff.1 hm
  have hl : ((l.take k).map (shA by_)).length = k := by simp; omega
  unfold shK
  rw [List.map_append, List.set_append_right _ _ (by simp; omega), List.drop_eq_getElem_cons hk, he, List.take_succ_eq_append_getElem hk, he]
  simp only [List.length_map, List.length_take, Nat.min_eq_left (Nat.le_of_lt hk), Nat.sub_self, List.map_cons, List.set_cons_zero, List.map_append, List.map_nil, List.append_assoc, List.cons_append, List.nil_append]
theorem shK_all (l : List Acn) (by_ : Int) : shK l by_ l.length = l.map (shA by_) := by simp [shK]
theorem shK_none (l : List Acn) (by_ : Int) : shK l by_ 0 = l := by simp [shK]
theorem shA_at {w : World} {by_ : Int} {a : Acn} (h : AcnAt w a) : AcnAt w (shA by_ a) := ⟨h.cue, h.entries, h.params, h.chans, h.edit⟩
theorem allS_step {α : Type} {p : α → Bool} {l : List α} {k : Nat} {m : α} (h : (l.take k).all p = true) (hm : l[k]? = some m) (hp : p m = true) : (l.take (k + 1)).all p = true := by
  obtain ⟨hk, he⟩ := List.getElem?_eq_some_iff.1 hm
  rw [List.take_succ_eq_append_getElem hk, he, List.all_append, h]
  simp [hp]
theorem allS_not {α : Type} {p : α → Bool} {l : List α} {k : Nat} {m : α} (hm : l[k]? = some m) (hp : p m = false) : ¬ l.all p = true := fun h => by
  have := List.all_eq_true.1 h m (List.mem_of_getElem? hm)
  rw [hp] at this
  cases this
set_option maxHeartbeats 3200000 in
set_option maxRecDepth 100000 in
theorem act_Shift (A : Option Addr) (c : Nat) (l : List Acn) (by_ : Int) (w : World) (hs : LogAt w A c l) :
    Calls Tryz.prog 59 #[.slice A l.length c, .int .i64 by_] w (RetLog w (shiftV l by_)) := by
  have HS := Lib.hid hs
  clear hs
  by_cases h : logE l = 0
  · have hz : (logE l != 0) = false := by simpa using h
    have h256 := (logE_ok h).1
    have HB := Lib.hid (fun a (ha : a ∈ l) => logE_at h ha)
    have HL := Lib.hid h
    clear h
    go_enter Tryz.func59, Tryz.ntmps59
    go_wp2_with (first | (go_at_call 101; refine (act_Log A c l _ HS.out).mono ?_; rintro e w' ⟨rfl, hx⟩; obtain ⟨y, rfl⟩ := hx.get; clear hx) | (go_at_call 103; refine (Clone_A A c l _ (HS.out.sl.mono (by repeat (first | exact Ext.refl _ | assumption | apply Ext.xt | apply Ext.alloc | apply Ext.drew | apply Ext.drewN))) (by omega)).mono ?_; rintro e w' ⟨D, n', rfl, hx, hown⟩; have hxw : Ext w w' := Ext.trans (by repeat (first | exact Ext.refl _ | assumption | apply Ext.xt | apply Ext.alloc | apply Ext.drew | apply Ext.drewN)) hx; have HO0 := Lib.hid (hown.older (show Ext w _ by repeat (first | exact Ext.refl _ | assumption | apply Ext.xt | apply Ext.alloc | apply Ext.drew | apply Ext.drewN))); clear hx hown))
    go_loopw [18] (fun i wr => ∃ j : Nat, j ≤ l.length ∧ i = .int .i64 j ∧ Ext w wr ∧ Hid ((l.take j).all (shOk by_) = true) ∧ Hid (Own w wr 45 44 D l.length n' ((shK l by_ j).map acnR))) (fun i _ => l.length - (intOf i).toNat)
    case atStart => exact ⟨0, by omega, rfl, hxw, Lib.hid (by simp), Lib.hid (by rw [shK_none]; exact HO0.out)⟩
    case round =>
      obtain ⟨j, hj, rfl, hx, HK, HO⟩ := hrel
      have HX := Lib.hid hx
      clear hx HO0 hxw
      by_cases hlt : j < l.length
      · obtain ⟨m, hm⟩ : ∃ m, l[j]? = some m := ⟨_, List.getElem?_eq_getElem hlt⟩
        obtain ⟨g, rfl, hg, hcell, hfro⟩ := HO.out.cellOf (shK_get (by_ := by_) hm) (j := 0) rfl
        simp only [Nat.add_zero] at hcell hfro
        have hb0 : (0 : Int) ≤ (j : Int) := by omega
        have hb1 : (j : Int) < (l.length : Int) := by omega
        obtain ⟨hat0, hat1⟩ := HB.out m (List.mem_of_getElem? hm)
        have HM := Lib.hid hm
        have HG := Lib.hid hg
        clear hm hg
        by_cases h1 : by_ < -m.at_
        · have HV := Lib.hid (show shiftV l by_ = ([], 2) by unfold shiftV; rw [if_neg (by simpa using HL.out), if_neg (allS_not HM.out (decide_eq_false (by omega)))])
          go_wp2
          go_ret2
          exact RetLog.err HV.out HX.out
        · by_cases h2 : 10000000 - m.at_ < by_
          · have HV := Lib.hid (show shiftV l by_ = ([], 2) by unfold shiftV; rw [if_neg (by simpa using HL.out), if_neg (allS_not HM.out (decide_eq_false (by omega)))])
            go_wp2
            go_ret2
            exact RetLog.err HV.out HX.out
          · have HV := Lib.hid (allS_step HK.out HM.out (show shOk by_ m = true from decide_eq_true (by omega)))
            go_wp2
            go_light
            refine ⟨⟨j + 1, by omega, by go_num, HX.out.setCell HG.out _, HV, Lib.hid ?_⟩, by simp [intOf]; omega⟩
            have hp := HO.out.putCell (shK_get (by_ := by_) HM.out) (j := 0) (v := .int .i64 (m.at_ + by_)) (by omega) rfl
            rw [← shA_row, shK_set HM.out] at hp
            exact hp
      · obtain rfl : j = l.length := by omega
        have HV := Lib.hid (show shiftV l by_ = (l.map (shA by_), 0) by
          have := HK.out
          rw [List.take_length] at this
          unfold shiftV; rw [if_neg (by simpa using HL.out), if_pos this])
        go_wp2
        go_ret2
        rw [HV.out]
        have ho := HO.out
        rw [shK_all] at ho
        refine ⟨D, n', by simp only [List.length_map]; rfl, HX.out, by simpa using ho, fun a ha => ?_⟩
        obtain ⟨x, hx, rfl⟩ := List.mem_map.1 ha
        exact shA_at ((HS.out.el x hx).mono HX.out)
  · have hz : (logE l != 0) = true := by simpa using h
    have HV := Lib.hid (show shiftV l by_ = ([], logE l) by unfold shiftV; rw [if_pos h])
    clear h
    go_enter Tryz.func59, Tryz.ntmps59
    go_wp2_with (go_at_call 101; refine (act_Log A c l _ HS.out).mono ?_; rintro e w' ⟨rfl, hx⟩; obtain ⟨y, rfl⟩ := hx.get; clear hx)
    go_ret2
    exact RetLog.err HV.out (by repeat (first | exact Ext.refl _ | assumption | apply Ext.xt | apply Ext.alloc | apply Ext.drew | apply Ext.drewN))
end Go.Proofs.YtlpboikonnpjbaaGreat

/-
  Logs of actions in plain: order, counts, parts, shifts.
-/
namespace Go.Proofs.YtlpboikonnpjbaaGreat
open Go.RowKit

def Asc (l : List Acn) : Prop := l.Pairwise fun a b => a.at_ ≤ b.at_
theorem acnS_le {p a : Acn} (h : acnS (some p) a = 0) : p.at_ ≤ a.at_ := by
  unfold acnS at h
  split at h
  · omega
  · simp only at h
    split at h <;> omega
theorem asc_of : ∀ (l : List Acn) (_ : ∀ k a b, l[k]? = some a → l[k + 1]? = some b → a.at_ ≤ b.at_), Asc l
  | [], _ => List.Pairwise.nil
  | [a], _ => by simp [Asc]
  | a :: b :: r, h => by
    have h1 := asc_of (b :: r) (fun k x y hx hy => h (k + 1) x y (by simpa using hx) (by simpa using hy))
    have h0 := h 0 a b rfl rfl
    refine List.Pairwise.cons (fun y hy => ?_) h1
    rcases List.mem_cons.1 hy with rfl | hy
    · exact h0
    · have := (List.pairwise_cons.1 h1).1 y hy; omega
theorem asc_get {l : List Acn} (h : Asc l) {i j : Nat} {a b : Acn} (hij : i < j) (ha : l[i]? = some a) (hb : l[j]? = some b) : a.at_ ≤ b.at_ := by
  obtain ⟨h1, rfl⟩ := List.getElem?_eq_some_iff.1 ha
  obtain ⟨h2, rfl⟩ := List.getElem?_eq_some_iff.1 hb
  exact List.pairwise_iff_getElem.1 h i j h1 h2 hij
theorem logE_iff (l : List Acn) : logE l = 0 ↔ l.length ≤ 256 ∧ (∀ a ∈ l, acnE a = 0) ∧ Asc l := by
  constructor
  · intro h
    obtain ⟨h1, h2⟩ := logE_ok h
    refine ⟨h1, fun a ha => ?_, asc_of l fun k a b ha hb => ?_⟩
    · obtain ⟨k, hk⟩ := List.getElem?_of_mem ha
      exact acnS_zero (h2 k a hk)
    · have := h2 (k + 1) b hb
      rw [prv_succ, ha] at this
      exact acnS_le this
  · rintro ⟨h1, h2, h3⟩
    unfold logE
    rw [if_neg (by omega)]
    refine scan_zero acnS l fun k a hk => ?_
    have ha := h2 a (List.mem_of_getElem? hk)
    cases k with
    | zero => exact acnS_none ha
    | succ k =>
      rw [prv_succ]
      obtain ⟨b, hb⟩ : ∃ b, l[k]? = some b := ⟨_, List.getElem?_eq_getElem (by have := (List.getElem?_eq_some_iff.1 hk).1; omega)⟩
      rw [hb]
      have := asc_get h3 (Nat.lt_succ_self k) hb hk
      exact acnS_ge ha (by omega)

/-! ### Up to a time -/
theorem le_filter {l : List Acn} (h : Asc l) (t : Int) : (l.filter fun a => decide (a.at_ ≤ t)) = l.take (untilL l t) := by
  induction l with
  | nil => rfl
  | cons a r ih =>
    obtain ⟨h1, h2⟩ := List.pairwise_cons.1 h
    by_cases ht : a.at_ ≤ t
    · have : untilL (a :: r) t = untilL r t + 1 := by unfold untilL; rw [List.takeWhile_cons_of_pos (by simpa using ht)]; rfl
      rw [this, List.filter_cons_of_pos (by simpa using ht), ih h2]
      rfl
    · have : untilL (a :: r) t = 0 := by unfold untilL; rw [List.takeWhile_cons_of_neg (by simpa using ht)]; rfl
      rw [this, List.filter_cons_of_neg (by simpa using ht), List.take_zero]
      rw [List.filter_eq_nil_iff]
      intro b hb
      have := h1 b hb
      simp; omega
theorem gt_filter {l : List Acn} (h : Asc l) (t : Int) : (l.filter fun a => decide (t < a.at_)) = l.drop (untilL l t) := by
  induction l with
  | nil => rfl
  | cons a r ih =>
    obtain ⟨h1, h2⟩ := List.pairwise_cons.1 h
    by_cases ht : a.at_ ≤ t
    · have : untilL (a :: r) t = untilL r t + 1 := by unfold untilL; rw [List.takeWhile_cons_of_pos (by simpa using ht)]; rfl
      rw [this, List.filter_cons_of_neg (by simp; omega), ih h2]
      rfl
    · have : untilL (a :: r) t = 0 := by unfold untilL; rw [List.takeWhile_cons_of_neg (by simpa using ht)]; rfl
      rw [this, List.drop_zero, List.filter_eq_self]
      intro b hb
      rcases List.mem_cons.1 hb with rfl | hb
      · simp; omega
      · have := h1 b hb; simp; omega
def cntL (l : List Acn) (t : Int) : Nat := (l.filter fun a => decide (a.at_ ≤ t)).length
theorem cntL_until {l : List Acn} (h : Asc l) (t : Int) : cntL l t = untilL l t := by
  unfold cntL
  rw [le_filter h, List.length_take, Nat.min_eq_left (untilL_le l t)]
theorem until_take (l : List Acn) (k : Nat) (t : Int) : untilL (l.take k) t = min k (untilL l t) := by
  induction l generalizing k with
  | nil => simp [untilL]
  | cons a r ih =>
    cases k with
    | zero => simp [untilL]
    | succ k =>
      rw [List.take_succ_cons]
      by_cases ht : a.at_ ≤ t
      · have h1 : ∀ l : List Acn, untilL (a :: l) t = untilL l t + 1 := fun l => by unfold untilL; rw [List.takeWhile_cons_of_pos (by simpa using ht)]; rfl
        rw [h1, h1, ih]; omega
      · have h1 : ∀ l : List Acn, untilL (a :: l) t = 0 := fun l => by unfold untilL; rw [List.takeWhile_cons_of_neg (by simpa using ht)]; rfl
        rw [h1, h1]; omega
theorem asc_take {l : List Acn} (h : Asc l) (k : Nat) : Asc (l.take k) := h.sublist (List.take_sublist _ _)
def btwL (l : List Acn) (i k : Int) : List Acn := l.filter fun a => decide (i < a.at_ ∧ a.at_ ≤ k)
theorem btwL_eq {l : List Acn} (h : Asc l) (i k : Int) : btwL l i k = if untilL l k < untilL l i then [] else (l.take (untilL l k)).drop (untilL l i) := by
  have h1 : btwL l i k = (l.filter fun a => decide (a.at_ ≤ k)).filter fun a => decide (i < a.at_) := by
    unfold btwL
    rw [List.filter_filter]
    congr 1
    funext a
    rw [Bool.eq_iff_iff]; simp
  rw [h1, le_filter h, gt_filter (asc_take h _), until_take]
  split
  · rename_i hlt
    rw [Nat.min_eq_left (by omega), List.drop_eq_nil_of_le (by rw [List.length_take]; omega)]
  · rename_i hlt
    rw [Nat.min_eq_right (by omega)]
theorem betweenV_ok {l : List Acn} (h : logE l = 0) (i k : Int) : betweenV l i k = (btwL l i k, 0) := by
  unfold betweenV
  rw [if_neg (by simpa using h), btwL_eq ((logE_iff l).1 h).2.2]
  split <;> rfl
/-! ### Shifts -/
theorem shA_err {a : Acn} {n : Int} (h : acnE a = 0) (h0 : shOk n a = true) : acnE (shA n a) = 0 := by
  obtain ⟨h1, h2⟩ := of_decide_eq_true h0
  have hat := acnE_at h
  unfold acnE at h ⊢
  split at h
  · omega
  · rename_i h3
    split at h
    · omega
    · rw [if_neg (show ¬ ((shA n a).kind < 0 ∨ 20 ≤ (shA n a).kind) from h3)]
      rw [if_neg (by
        simp only [ne_eq, Decidable.not_not]
        unfold inE
        rw [if_neg]
        show ¬ (a.at_ + n < 0 ∨ 10000000 < a.at_ + n)
        omega)]
      exact h
theorem shift_log {l : List Acn} {n : Int} (h : logE l = 0) (h0 : l.all (shOk n) = true) : logE (l.map (shA n)) = 0 := by
  obtain ⟨h1, h2, h3⟩ := (logE_iff l).1 h
  refine (logE_iff _).2 ⟨by simpa using h1, fun a ha => ?_, ?_⟩
  · obtain ⟨x, hx, rfl⟩ := List.mem_map.1 ha
    exact shA_err (h2 x hx) (List.all_eq_true.1 h0 x hx)
  · unfold Asc
    rw [List.pairwise_map]
    exact h3.imp fun {a b} hab => by show a.at_ + n ≤ b.at_ + n; omega
theorem shA_back (a : Acn) (n : Int) : shA (-n) (shA n a) = a := by
  obtain ⟨t, k, g, c, v, d, e, p, q, x⟩ := a
  show (⟨t + n + -n, k, g, c, v, d, e, p, q, x⟩ : Acn) = _
  rw [show t + n + -n = t by omega]
theorem shift_back (l : List Acn) (n : Int) : (l.map (shA n)).map (shA (-n)) = l := by
  rw [List.map_map]
  conv => rhs; rw [← List.map_id l]
  congr 1
  funext a
  exact shA_back a n
theorem shift_back_ok {l : List Acn} {n : Int} (h : logE l = 0) : (l.map (shA n)).all (shOk (-n)) = true := by
  rw [List.all_eq_true]
  intro a ha
  obtain ⟨x, hx, rfl⟩ := List.mem_map.1 ha
  have := logE_at h hx
  exact decide_eq_true (by show -(x.at_ + n) ≤ -n ∧ -n ≤ 10000000 - (x.at_ + n); omega)
theorem shift_until (l : List Acn) (n t : Int) : untilL (l.map (shA n)) (t + n) = untilL l t := by
  unfold untilL
  rw [List.takeWhile_map, List.length_map]
  congr 2
  funext a
  show decide (a.at_ + n ≤ t + n) = decide (a.at_ ≤ t)
  rw [decide_eq_decide]; omega
/-! ### Insertions -/
def insL (l : List Acn) (a : Acn) : List Acn := l.take (untilL l a.at_) ++ a :: l.drop (untilL l a.at_)
theorem asc_ins {l : List Acn} (h : Asc l) (a : Acn) : Asc (insL l a) := by
  unfold insL
  rw [← le_filter h, ← gt_filter h]
  refine List.pairwise_append.2 ⟨h.sublist List.filter_sublist, List.Pairwise.cons (fun b hb => ?_) (h.sublist List.filter_sublist), fun x hx y hy => ?_⟩
  · have := (List.mem_filter.1 hb).2; simp at this; omega
  · have h1 := (List.mem_filter.1 hx).2
    simp at h1
    rcases List.mem_cons.1 hy with rfl | hy
    · exact h1
    · have := (List.mem_filter.1 hy).2; simp at this; omega
theorem ins_mem {l : List Acn} {a x : Acn} (h : x ∈ insL l a) : x ∈ l ∨ x = a := by
  unfold insL at h
  rcases List.mem_append.1 h with h | h
  · exact .inl (List.mem_of_mem_take h)
  · rcases List.mem_cons.1 h with h | h
    · exact .inr h
    · exact .inl (List.mem_of_mem_drop h)
theorem ins_len (l : List Acn) (a : Acn) : (insL l a).length = l.length + 1 := by
  have := untilL_le l a.at_
  unfold insL
  simp; omega
theorem ins_log {l : List Acn} {a : Acn} (h : logE l = 0) (ha : acnE a = 0) (hl : l.length ≤ 255) : logE (insL l a) = 0 := by
  obtain ⟨h1, h2, h3⟩ := (logE_iff l).1 h
  refine (logE_iff _).2 ⟨by rw [ins_len]; omega, fun x hx => ?_, asc_ins h3 a⟩
  rcases ins_mem hx with hx | rfl
  · exact h2 x hx
  · exact ha
theorem ins_until {l : List Acn} (h : Asc l) (a : Acn) : untilL (insL l a) a.at_ = untilL l a.at_ + 1 := by
  rw [← cntL_until (asc_ins h a), ← cntL_until h]
  unfold cntL insL
  rw [List.filter_append, List.filter_cons_of_pos (by simp), List.length_append, List.length_cons]
  have h1 : ((l.take (untilL l a.at_)).filter fun b => decide (b.at_ ≤ a.at_)) = l.take (untilL l a.at_) := by
    rw [← le_filter h, List.filter_filter]; simp
  have h2 : ((l.drop (untilL l a.at_)).filter fun b => decide (b.at_ ≤ a.at_)) = [] := by
    rw [← gt_filter h, List.filter_filter, List.filter_eq_nil_iff]
    intro b _
    simp
  rw [h1, h2, ← le_filter h]
  rfl
end Go.Proofs.YtlpboikonnpjbaaGreat
