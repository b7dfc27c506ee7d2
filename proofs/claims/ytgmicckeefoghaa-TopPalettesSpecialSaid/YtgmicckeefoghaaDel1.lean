/-
  slices.Contains at parameters; the closure of cue.Drop; that of cue.Split.
-/
import Derived.Test.YtgmicckeefoghaaMerge
import Derived.Test.YtgmicckeefoghaaDel
namespace Go.Proofs.Ytgmicckeefoghaa
open Go.RowKit

/-- Whether a list has a parameter. -/
def hasP (ps : List Param) (p : Param) : Bool := ps.any fun q => decide (p = q)

set_option maxHeartbeats 800000 in
set_option maxRecDepth 100000 in
theorem Index_P (C : Option Addr) (c : Nat) (ps : List Param) (p : Param) (w : World) (hs : Sl w C 2 (ps.map prm)) (hl : ps.length ≤ maxLen) :
    Calls Try.prog 152 #[.slice C ps.length c, .agg (prm p).toArray] w fun e w' => IntSign (hasP ps p) e ∧ Ext w w' := by
  unfold maxLen at hl
  simp only [prm]
  go_enter Try.func152, Try.ntmps152
  go_wp2
  go_loopw [8] (fun i wr => ∃ j : Nat, j ≤ ps.length ∧ i = .int .i64 j ∧ Ext (w.alloc (.cells #[.int .i64 p.ch, .int .i64 p.attr] 40)) wr ∧ Hid ((ps.take j).all (fun q => !decide (p = q)) = true)) (fun i _ => ps.length - (intOf i).toNat)
  case atStart => exact ⟨0, by omega, rfl, Ext.refl _, Lib.hid (by simp)⟩
  case round =>
    obtain ⟨j, hj, rfl, hx, HN⟩ := hrel
    obtain ⟨y, rfl⟩ := hx.get
    clear hx
    by_cases hlt : j < ps.length
    · obtain ⟨q, hq⟩ : ∃ q, ps[j]? = some q := ⟨_, List.getElem?_eq_getElem hlt⟩
      have HQ := Lib.hid hq
      obtain ⟨b', o, rfl, hc0, hc1⟩ := hs.row2 (i := j) (by rw [List.getElem?_map, hq]; rfl)
      have hb0 : (0 : Int) ≤ (j : Int) := by omega
      have hb1 : (j : Int) < (ps.length : Int) := by omega
      clear hq hs
      go_wp2
      (refine wp_region_grows (by kernel_rfl) (by kernel_rfl) ?_; (repeat (go_big_quiet_step (fail))); refine wpQuiet_nil ?_; rintro _ ⟨y, rfl⟩)
      by_cases he : p = q
      · have hz : eqP p.ch p.attr q.ch q.attr = true := by rw [eqP_def]; simpa using he
        rw [hz]
        have HE := Lib.hid he
        clear he
        go_wp2
        go_ret
        refine ⟨⟨j, rfl, ?_⟩, by repeat (first | exact Ext.refl _ | assumption | apply Ext.xt | apply Ext.alloc | apply Ext.drew | apply Ext.drewN)⟩
        rw [decide_eq_true (by omega)]
        symm
        unfold hasP
        rw [List.any_eq_true]
        exact ⟨q, List.mem_of_getElem? HQ.out, by simpa using HE.out⟩
      · have hz : eqP p.ch p.attr q.ch q.attr = false := by rw [eqP_def]; simpa using he
        rw [hz]
        have HE := Lib.hid he
        clear he
        go_wp2
        go_light
        exact ⟨⟨j + 1, by omega, by go_num, by repeat (first | exact Ext.refl _ | assumption | apply Ext.xt | apply Ext.alloc | apply Ext.drew | apply Ext.drewN), Lib.hid (all_step HQ.out (by simpa using HE.out) HN.out)⟩, by simp [intOf]; omega⟩
    · have HA := Lib.hid (all_full (l := ps) (k := j) (by omega) HN.out)
      go_wp2
      go_ret
      refine ⟨⟨-1, rfl, ?_⟩, by repeat (first | exact Ext.refl _ | assumption | apply Ext.xt | apply Ext.alloc | apply Ext.drew | apply Ext.drewN)⟩
      rw [decide_eq_false (by omega)]
      symm
      unfold hasP
      rw [List.any_eq_false]
      intro q hq
      have := List.all_eq_true.1 HA.out q hq
      simpa using this
set_option maxHeartbeats 400000 in
set_option maxRecDepth 100000 in
theorem Contains_P (C : Option Addr) (c : Nat) (ps : List Param) (p : Param) (w : World) (hs : Sl w C 2 (ps.map prm)) (hl : ps.length ≤ maxLen) :
    Calls Try.prog 100 #[.slice C ps.length c, .agg (prm p).toArray] w fun e w' => e = .returned (.bool (hasP ps p)) ∧ Ext w w' := by
  simp only [prm]
  go_enter Try.func100, Try.ntmps100
  go_wp2_with fail
  refine (Index_P C c ps p _ (hs.mono (by repeat (first | exact Ext.refl _ | assumption | apply Ext.xt | apply Ext.alloc | apply Ext.drew | apply Ext.drewN))) hl).mono ?_
  rintro e w' ⟨⟨r, rfl, hr⟩, hx⟩
  obtain ⟨y, rfl⟩ := hx.get
  clear hx
  have HR := Lib.hid hr
  clear hr
  go_wp2
  go_ret
  rw [← HR.out]
  exact ⟨rfl, by repeat (first | exact Ext.refl _ | assumption | apply Ext.xt | apply Ext.alloc | apply Ext.drew | apply Ext.drewN)⟩
set_option maxHeartbeats 400000 in
set_option maxRecDepth 100000 in
theorem cue_Drop1 (m : Move) (bp : Nat) (C : Option Addr) (c : Nat) (ps : List Param) (w : World) (hs : Sl w C 2 (ps.map prm)) (hl : ps.length ≤ maxLen) (hb : w.cell? ⟨bp, 0, none⟩ = some (.slice C ps.length c)) :
    Calls Try.prog 99 #[.agg (mv m).toArray, .pointer (some ⟨bp, 0, none⟩)] w fun e w' => e = .returned (.bool (hasP ps m.p)) ∧ Ext w w' := by
  simp only [mv]
  go_enter Try.func99, Try.ntmps99
  go_wp2_with (go_at_call 100; refine (Contains_P C c ps m.p _ (hs.mono (by repeat (first | exact Ext.refl _ | assumption | apply Ext.xt | apply Ext.alloc | apply Ext.drew | apply Ext.drewN))) hl).mono ?_; rintro e w' ⟨rfl, hx⟩; obtain ⟨y, rfl⟩ := hx.get; clear hx)
  go_ret
  exact ⟨rfl, by repeat (first | exact Ext.refl _ | assumption | apply Ext.xt | apply Ext.alloc | apply Ext.drew | apply Ext.drewN)⟩
set_option maxHeartbeats 400000 in
set_option maxRecDepth 100000 in
theorem cue_Split1 (m : Move) (bp : Nat) (part : Int) (w : World) (hb : w.cell? ⟨bp, 0, none⟩ = some (.int .i64 part)) :
    Calls Try.prog 115 #[.agg (mv m).toArray, .pointer (some ⟨bp, 0, none⟩)] w fun e w' => e = .returned (.bool (m.part != part)) ∧ Ext w w' := by
  simp only [mv]
  go_enter Try.func115, Try.ntmps115
  go_wp2
  go_ret
  exact ⟨rfl, by repeat (first | exact Ext.refl _ | assumption | apply Ext.xt | apply Ext.alloc | apply Ext.drew | apply Ext.drewN)⟩
/-- The place of the first one, or -1. -/
def idxQ {α : Type} (q : α → Bool) (l : List α) : Int := match l.findIdx? q with | some i => i | none => -1
theorem idxQ_at {α : Type} {q : α → Bool} {l : List α} {j : Nat} {x : α} (hx : l[j]? = some x) (hq : q x = true) (hn : (l.take j).all (fun y => !q y) = true) : idxQ q l = j := by
  unfold idxQ
  obtain ⟨hj, hxe⟩ := List.getElem?_eq_some_iff.1 hx
  rw [show l.findIdx? q = some j by
    rw [List.findIdx?_eq_some_iff_getElem]
    refine ⟨hj, by rw [hxe]; exact hq, fun k hk => ?_⟩
    have := List.all_eq_true.1 hn l[k] (by rw [List.mem_iff_getElem]; exact ⟨k, by rw [List.length_take]; omega, by rw [List.getElem_take]⟩)
    simpa using this]
theorem idxQ_none {α : Type} {q : α → Bool} {l : List α} (hn : l.all (fun y => !q y) = true) : idxQ q l = -1 := by
  unfold idxQ
  rw [List.findIdx?_eq_none_iff.2 (fun x hx => by have := List.all_eq_true.1 hn x hx; simpa using this)]
theorem idxQ_cases {α : Type} (q : α → Bool) (l : List α) : (idxQ q l = -1 ∧ l.filter (fun x => !q x) = l) ∨ ∃ i : Nat, idxQ q l = i ∧ i < l.length ∧ Deleting q l l i (i + 1) := by
  unfold idxQ
  cases h : l.findIdx? q with
  | none =>
    left
    rw [List.findIdx?_eq_none_iff] at h
    exact ⟨rfl, List.filter_eq_self.2 fun x hx => by rw [h x hx]; rfl⟩
  | some i =>
    right
    obtain ⟨hlt, hp, hj⟩ := List.findIdx?_eq_some_iff_getElem.1 h
    refine ⟨i, rfl, hlt, rfl, ?_, rfl, by omega⟩
    rw [List.take_succ_eq_append_getElem hlt, List.filter_append]
    have : (l.take i).filter (fun x => !q x) = l.take i := List.filter_eq_self.2 fun x hx => by
      obtain ⟨k, hk, rfl⟩ := List.getElem_of_mem hx
      rw [List.length_take] at hk
      rw [List.getElem_take]
      have := hj k (by omega)
      simpa using this
    rw [this]
    simp [hp]
end Go.Proofs.Ytgmicckeefoghaa

/-
  slices.IndexFunc and slices.DeleteFunc at moves, over the closures of cue.Drop and of cue.Split.
-/
namespace Go.Proofs.Ytgmicckeefoghaa
open Go.RowKit

def RetSl' (w0 : World) (o : List Move) (e : Ending) (w' : World) : Prop := ∃ A k, e = .returned (.slice A o.length k) ∧ Ext w0 w' ∧ Own w0 w' 90 5 A o.length k (o.map mv)

set_option maxHeartbeats 800000 in
set_option maxRecDepth 100000 in
theorem IndexFunc_Drop (A : Option Addr) (k : Nat) (l : List Move) (bp : Nat) (C : Option Addr) (c : Nat) (ps : List Param) (w : World) (hs : Sl w A 5 (l.map mv)) (hl : l.length ≤ maxLen) (hcs : Sl w C 2 (ps.map prm)) (hcl : ps.length ≤ maxLen) (hcb : w.cell? ⟨bp, 0, none⟩ = some (.slice C ps.length c)) :
    Calls Try.prog 151 #[.slice A l.length k, .func (Fn.func 99) #[] #[.pointer (some ⟨bp, 0, none⟩)]] w fun e w' => e = .returned (.int .i64 (idxQ (fun m : Move => hasP ps m.p) l)) ∧ Ext w w' := by
  unfold maxLen at hl
  go_enter Try.func151, Try.ntmps151
  go_wp2
  go_loopw [8] (fun i wr => ∃ j : Nat, j ≤ l.length ∧ i = .int .i64 j ∧ Ext w wr ∧ Hid ((l.take j).all (fun m => !((fun m : Move => hasP ps m.p) m)) = true)) (fun i _ => l.length - (intOf i).toNat)
  case atStart => exact ⟨0, by omega, rfl, Ext.refl _, Lib.hid (by simp)⟩
  case round =>
    obtain ⟨j, hj, rfl, hx, HN⟩ := hrel
    obtain ⟨y, rfl⟩ := hx.get
    clear hx
    by_cases hlt : j < l.length
    · obtain ⟨m, hm⟩ : ∃ m, l[j]? = some m := ⟨_, List.getElem?_eq_getElem hlt⟩
      have HM := Lib.hid hm
      obtain ⟨b', o, rfl, hc0, hc1, hc2, hc3, hc4⟩ := hs.row5 (i := j) (by rw [List.getElem?_map, hm]; rfl)
      clear hm hs
      cases hq : (fun m : Move => hasP ps m.p) m
      · have HQ := Lib.hid hq
        go_wp2_with (go_at_call 99; refine (cue_Drop1 m bp C c ps _ (hcs.mono (by repeat (first | exact Ext.refl _ | assumption | apply Ext.xt | apply Ext.alloc | apply Ext.drew | apply Ext.drewN))) hcl (by simp [go_sem, *])).mono ?_; rintro e w' ⟨rfl, hx⟩; obtain ⟨y, rfl⟩ := hx.get; clear hx)
        go_light
        exact ⟨⟨j + 1, by omega, by go_num, by repeat (first | exact Ext.refl _ | assumption | apply Ext.xt | apply Ext.alloc | apply Ext.drew | apply Ext.drewN), Lib.hid (all_step HM.out (by rw [HQ.out]; rfl) HN.out)⟩, by simp [intOf]; omega⟩
      · have HQ := Lib.hid hq
        go_wp2_with (go_at_call 99; refine (cue_Drop1 m bp C c ps _ (hcs.mono (by repeat (first | exact Ext.refl _ | assumption | apply Ext.xt | apply Ext.alloc | apply Ext.drew | apply Ext.drewN))) hcl (by simp [go_sem, *])).mono ?_; rintro e w' ⟨rfl, hx⟩; obtain ⟨y, rfl⟩ := hx.get; clear hx)
        go_ret
        rw [idxQ_at HM.out HQ.out HN.out]
        exact ⟨rfl, by repeat (first | exact Ext.refl _ | assumption | apply Ext.xt | apply Ext.alloc | apply Ext.drew | apply Ext.drewN)⟩
    · have HA := Lib.hid (all_full (l := l) (k := j) (by omega) HN.out)
      go_wp2
      go_ret
      rw [idxQ_none HA.out]
      exact ⟨rfl, by repeat (first | exact Ext.refl _ | assumption | apply Ext.xt | apply Ext.alloc | apply Ext.drew | apply Ext.drewN)⟩

set_option maxHeartbeats 1600000 in
set_option maxRecDepth 100000 in
theorem DeleteFunc_Drop (w0 : World) (A : Option Addr) (k : Nat) (l : List Move) (bp : Nat) (C : Option Addr) (c : Nat) (ps : List Param) (W : World) (hx0 : Ext w0 W) (ho : Own w0 W 90 5 A l.length k (l.map mv)) (hl : l.length ≤ 1000000) (hcs : Sl w0 C 2 (ps.map prm)) (hcl : ps.length ≤ maxLen) (hcb : w0.cell? ⟨bp, 0, none⟩ = some (.slice C ps.length c)) :
    Calls Try.prog 97 #[.slice A l.length k, .func (Fn.func 99) #[] #[.pointer (some ⟨bp, 0, none⟩)]] W
      (RetSl' w0 (l.filter fun m => !((fun m : Move => hasP ps m.p) m))) := by
  obtain ⟨y0, rfl⟩ := hx0.get
  clear hx0
  have HO := Lib.hid ho
  have hle := ho.le
  have hcap := ho.cap
  have HL := Lib.hid (show l.length ≤ maxLen by unfold maxLen; omega)
  unfold maxLen at hcap
  rcases idxQ_cases (fun m : Move => hasP ps m.p) l with ⟨hi, hf⟩ | ⟨i0, hi, hlt0, hD⟩
  · have HF := Lib.hid hf
    clear ho hf
    go_enter Try.func97, Try.ntmps97
    go_wp2_with (go_at_call 151; refine (IndexFunc_Drop A k l bp C c ps _ (HO.out.sl) HL.out (hcs.mono (by repeat (first | exact Ext.refl _ | assumption | apply Ext.xt | apply Ext.alloc | apply Ext.drew | apply Ext.drewN))) hcl (by simp [go_sem, *])).mono ?_; rintro e w' ⟨rfl, hx⟩; obtain ⟨y, rfl⟩ := hx.get; clear hx)
    go_ret
    rw [HF.out]
    exact ⟨A, k, rfl, by repeat (first | exact Ext.refl _ | assumption | apply Ext.xt | apply Ext.alloc | apply Ext.drew | apply Ext.drewN), HO.out.mono (by repeat (first | exact Ext.refl _ | assumption | apply Ext.xt | apply Ext.alloc | apply Ext.drew | apply Ext.drewN))⟩
  · obtain ⟨g, rfl, _, _⟩ := ho.there hlt0
    have HD := Lib.hid hD
    have hb0 : ((i0 : Int) == -1) = false := by rw [beq_eq_false_iff_ne]; omega
    clear ho hD
    go_enter Try.func97, Try.ntmps97
    go_wp2_with (go_at_call 151; refine (IndexFunc_Drop _ k l bp C c ps _ (HO.out.sl) HL.out (hcs.mono (by repeat (first | exact Ext.refl _ | assumption | apply Ext.xt | apply Ext.alloc | apply Ext.drew | apply Ext.drewN))) hcl (by simp [go_sem, *])).mono ?_; rintro e w' ⟨rfl, hx⟩; obtain ⟨y, rfl⟩ := hx.get; clear hx)
    go_loopw [5, 6] (fun s t wr => ∃ (i j : Nat) (cur : List Move), i < j ∧ j ≤ l.length ∧ s = .int .i64 i ∧ t = .int .i64 j ∧ Hid (Deleting (fun m : Move => hasP ps m.p) l cur i j) ∧ Ext w0 wr ∧ Hid (Own w0 wr 90 5 (some ⟨g, 0, none⟩) l.length k (cur.map mv))) (fun _ t _ => l.length - (intOf t).toNat)
    case atStart => exact ⟨i0, i0 + 1, l, by omega, by omega, rfl, by go_num, HD, by repeat (first | exact Ext.refl _ | assumption | apply Ext.xt | apply Ext.alloc | apply Ext.drew | apply Ext.drewN), Lib.hid (HO.out.mono (by repeat (first | exact Ext.refl _ | assumption | apply Ext.xt | apply Ext.alloc | apply Ext.drew | apply Ext.drewN)))⟩
    case round =>
      obtain ⟨i, j, cur, hij, hj, rfl, rfl, HD, hx, HO⟩ := hrel
      obtain ⟨y, rfl⟩ := hx.get
      clear hx
      by_cases hlt : j < l.length
      · obtain ⟨x, hx⟩ : ∃ x, l[j]? = some x := ⟨_, List.getElem?_eq_getElem hlt⟩
        have HX := Lib.hid hx
        obtain ⟨b', of, hA, hc0, hc1, hc2, hc3, hc4⟩ := HO.out.sl.row5 (i := j) (by rw [List.getElem?_map, HD.out.get hx]; rfl)
        injection hA with hA
        injection hA with hA hA2
        subst hA hA2
        simp only [Nat.zero_add] at hc0 hc1 hc2 hc3 hc4
        have hj0 : (0 : Int) ≤ (j : Int) := by omega
        have hj1 : (j : Int) < (l.length : Int) := by omega
        have hi0 : (0 : Int) ≤ (i : Int) := by omega
        have hi1 : (i : Int) < (l.length : Int) := by omega
        have hin : i < l.length := by omega
        clear hx
        cases hq : (fun m : Move => hasP ps m.p) x
        · have HQ := Lib.hid hq
          go_wp2_with (first
            | (go_at_call 99; refine (cue_Drop1 x bp C c ps _ (hcs.mono (by repeat (first | exact Ext.refl _ | assumption | apply Ext.xt | apply Ext.alloc | apply Ext.drew | apply Ext.drewN))) hcl (by simp [go_sem, *])).mono ?_; rintro e w' ⟨rfl, hx⟩; obtain ⟨y, rfl⟩ := hx.get; clear hx)
            | (refine wpList_store_mine (w0 := w0) rfl 90 _ _ rfl 90 5 (by repeat (first | exact Ext.refl _ | assumption | apply Ext.xt | apply Ext.alloc | apply Ext.drew | apply Ext.drewN)) g l.length k i (cur.map mv) (HO.out.mono (by repeat (first | exact Ext.refl _ | assumption | apply Ext.xt | apply Ext.alloc | apply Ext.drew | apply Ext.drewN))) hin (mv x) (by rfl) (by rfl) rfl (mv_one [x] _ (by simp)) (by kernel_rfl) ?_; intro w1 hx1 hown hg; have HO1 := Lib.hid hown; obtain ⟨y1, rfl⟩ := hx1.get; clear hown hx1 hg))
          go_light
          exact ⟨⟨i + 1, j + 1, cur.set i x, by omega, by omega, by go_num, by go_num, Lib.hid (HD.out.keep HX.out HQ.out hin (by omega)), by repeat (first | exact Ext.refl _ | assumption | apply Ext.xt | apply Ext.alloc | apply Ext.drew | apply Ext.drewN), Lib.hid (by rw [List.map_set]; exact HO1.out.mono (by repeat (first | exact Ext.refl _ | assumption | apply Ext.xt | apply Ext.alloc | apply Ext.drew | apply Ext.drewN)))⟩, by simp [intOf]; omega⟩
        · have HQ := Lib.hid hq
          go_wp2_with (go_at_call 99; refine (cue_Drop1 x bp C c ps _ (hcs.mono (by repeat (first | exact Ext.refl _ | assumption | apply Ext.xt | apply Ext.alloc | apply Ext.drew | apply Ext.drewN))) hcl (by simp [go_sem, *])).mono ?_; rintro e w' ⟨rfl, hx⟩; obtain ⟨y, rfl⟩ := hx.get; clear hx)
          go_light
          exact ⟨⟨i, j + 1, cur, by omega, by omega, rfl, by go_num, Lib.hid (HD.out.skip HX.out HQ.out), by repeat (first | exact Ext.refl _ | assumption | apply Ext.xt | apply Ext.alloc | apply Ext.drew | apply Ext.drewN), Lib.hid (HO.out.mono (by repeat (first | exact Ext.refl _ | assumption | apply Ext.xt | apply Ext.alloc | apply Ext.drew | apply Ext.drewN)))⟩, by simp [intOf]; omega⟩
      · have HE := Lib.hid (HD.out.done (by omega))
        have hin : i < l.length := by omega
        have hi0 : (0 : Int) ≤ (i : Int) := by omega
        have hi1 : (i : Int) ≤ (l.length : Int) := by omega
        have hi2 : (i : Int) ≤ (k : Int) := by omega
        have q1 : ¬ k = i := by omega
        have q2 : ¬ l.length = i := by omega
        have HN := Lib.hid (show (cur.take i).length = i by rw [List.length_take, HD.out.len]; omega)
        go_wp2_with (refine wpList_clear_mine (w0 := w0) rfl (.tmp 38) 35 rfl 90 5 40 Try.underlying35 info_M (by kernel_rfl) (by repeat (first | exact Ext.refl _ | assumption | apply Ext.xt | apply Ext.alloc | apply Ext.drew | apply Ext.drewN)) g l.length k i (k - i) (cur.map mv) HO.out hin rfl ?_; intro w1 hx1 hown hg; have HO1 := Lib.hid hown; obtain ⟨y1, rfl⟩ := hx1.get; clear hown hx1 hg)
        go_ret
        rw [← HE.out]
        refine ⟨some ⟨g, 0, none⟩, k, by rw [HN.out]; rfl, by repeat (first | exact Ext.refl _ | assumption | apply Ext.xt | apply Ext.alloc | apply Ext.drew | apply Ext.drewN), ?_⟩
        rw [HN.out, List.map_take]
        exact HO1.out.mono (by repeat (first | exact Ext.refl _ | assumption | apply Ext.xt | apply Ext.alloc | apply Ext.drew | apply Ext.drewN))

set_option maxHeartbeats 800000 in
set_option maxRecDepth 100000 in
theorem IndexFunc_Split (A : Option Addr) (k : Nat) (l : List Move) (bp : Nat) (part : Int) (w : World) (hs : Sl w A 5 (l.map mv)) (hl : l.length ≤ maxLen) (hcb : w.cell? ⟨bp, 0, none⟩ = some (.int .i64 part)) :
    Calls Try.prog 151 #[.slice A l.length k, .func (Fn.func 115) #[] #[.pointer (some ⟨bp, 0, none⟩)]] w fun e w' => e = .returned (.int .i64 (idxQ (fun m : Move => m.part != part) l)) ∧ Ext w w' := by
  unfold maxLen at hl
  go_enter Try.func151, Try.ntmps151
  go_wp2
  go_loopw [8] (fun i wr => ∃ j : Nat, j ≤ l.length ∧ i = .int .i64 j ∧ Ext w wr ∧ Hid ((l.take j).all (fun m => !((fun m : Move => m.part != part) m)) = true)) (fun i _ => l.length - (intOf i).toNat)
  case atStart => exact ⟨0, by omega, rfl, Ext.refl _, Lib.hid (by simp)⟩
  case round =>
    obtain ⟨j, hj, rfl, hx, HN⟩ := hrel
    obtain ⟨y, rfl⟩ := hx.get
    clear hx
    by_cases hlt : j < l.length
    · obtain ⟨m, hm⟩ : ∃ m, l[j]? = some m := ⟨_, List.getElem?_eq_getElem hlt⟩
      have HM := Lib.hid hm
      obtain ⟨b', o, rfl, hc0, hc1, hc2, hc3, hc4⟩ := hs.row5 (i := j) (by rw [List.getElem?_map, hm]; rfl)
      clear hm hs
      cases hq : (fun m : Move => m.part != part) m
      · have HQ := Lib.hid hq
        go_wp2_with (go_at_call 115; refine (cue_Split1 m bp part _ (by simp [go_sem, *])).mono ?_; rintro e w' ⟨rfl, hx⟩; obtain ⟨y, rfl⟩ := hx.get; clear hx)
        go_light
        exact ⟨⟨j + 1, by omega, by go_num, by repeat (first | exact Ext.refl _ | assumption | apply Ext.xt | apply Ext.alloc | apply Ext.drew | apply Ext.drewN), Lib.hid (all_step HM.out (by rw [HQ.out]; rfl) HN.out)⟩, by simp [intOf]; omega⟩
      · have HQ := Lib.hid hq
        go_wp2_with (go_at_call 115; refine (cue_Split1 m bp part _ (by simp [go_sem, *])).mono ?_; rintro e w' ⟨rfl, hx⟩; obtain ⟨y, rfl⟩ := hx.get; clear hx)
        go_ret
        rw [idxQ_at HM.out HQ.out HN.out]
        exact ⟨rfl, by repeat (first | exact Ext.refl _ | assumption | apply Ext.xt | apply Ext.alloc | apply Ext.drew | apply Ext.drewN)⟩
    · have HA := Lib.hid (all_full (l := l) (k := j) (by omega) HN.out)
      go_wp2
      go_ret
      rw [idxQ_none HA.out]
      exact ⟨rfl, by repeat (first | exact Ext.refl _ | assumption | apply Ext.xt | apply Ext.alloc | apply Ext.drew | apply Ext.drewN)⟩

set_option maxHeartbeats 1600000 in
set_option maxRecDepth 100000 in
theorem DeleteFunc_Split (w0 : World) (A : Option Addr) (k : Nat) (l : List Move) (bp : Nat) (part : Int) (W : World) (hx0 : Ext w0 W) (ho : Own w0 W 90 5 A l.length k (l.map mv)) (hl : l.length ≤ 1000000) (hcb : w0.cell? ⟨bp, 0, none⟩ = some (.int .i64 part)) :
    Calls Try.prog 97 #[.slice A l.length k, .func (Fn.func 115) #[] #[.pointer (some ⟨bp, 0, none⟩)]] W
      (RetSl' w0 (l.filter fun m => !((fun m : Move => m.part != part) m))) := by
  obtain ⟨y0, rfl⟩ := hx0.get
  clear hx0
  have HO := Lib.hid ho
  have hle := ho.le
  have hcap := ho.cap
  have HL := Lib.hid (show l.length ≤ maxLen by unfold maxLen; omega)
  unfold maxLen at hcap
  rcases idxQ_cases (fun m : Move => m.part != part) l with ⟨hi, hf⟩ | ⟨i0, hi, hlt0, hD⟩
  · have HF := Lib.hid hf
    clear ho hf
    go_enter Try.func97, Try.ntmps97
    go_wp2_with (go_at_call 151; refine (IndexFunc_Split A k l bp part _ (HO.out.sl) HL.out (by simp [go_sem, *])).mono ?_; rintro e w' ⟨rfl, hx⟩; obtain ⟨y, rfl⟩ := hx.get; clear hx)
    go_ret
    rw [HF.out]
    exact ⟨A, k, rfl, by repeat (first | exact Ext.refl _ | assumption | apply Ext.xt | apply Ext.alloc | apply Ext.drew | apply Ext.drewN), HO.out.mono (by repeat (first | exact Ext.refl _ | assumption | apply Ext.xt | apply Ext.alloc | apply Ext.drew | apply Ext.drewN))⟩
  · obtain ⟨g, rfl, _, _⟩ := ho.there hlt0
    have HD := Lib.hid hD
    have hb0 : ((i0 : Int) == -1) = false := by rw [beq_eq_false_iff_ne]; omega
    clear ho hD
    go_enter Try.func97, Try.ntmps97
    go_wp2_with (go_at_call 151; refine (IndexFunc_Split _ k l bp part _ (HO.out.sl) HL.out (by simp [go_sem, *])).mono ?_; rintro e w' ⟨rfl, hx⟩; obtain ⟨y, rfl⟩ := hx.get; clear hx)
    go_loopw [5, 6] (fun s t wr => ∃ (i j : Nat) (cur : List Move), i < j ∧ j ≤ l.length ∧ s = .int .i64 i ∧ t = .int .i64 j ∧ Hid (Deleting (fun m : Move => m.part != part) l cur i j) ∧ Ext w0 wr ∧ Hid (Own w0 wr 90 5 (some ⟨g, 0, none⟩) l.length k (cur.map mv))) (fun _ t _ => l.length - (intOf t).toNat)
    case atStart => exact ⟨i0, i0 + 1, l, by omega, by omega, rfl, by go_num, HD, by repeat (first | exact Ext.refl _ | assumption | apply Ext.xt | apply Ext.alloc | apply Ext.drew | apply Ext.drewN), Lib.hid (HO.out.mono (by repeat (first | exact Ext.refl _ | assumption | apply Ext.xt | apply Ext.alloc | apply Ext.drew | apply Ext.drewN)))⟩
    case round =>
      obtain ⟨i, j, cur, hij, hj, rfl, rfl, HD, hx, HO⟩ := hrel
      obtain ⟨y, rfl⟩ := hx.get
      clear hx
      by_cases hlt : j < l.length
      · obtain ⟨x, hx⟩ : ∃ x, l[j]? = some x := ⟨_, List.getElem?_eq_getElem hlt⟩
        have HX := Lib.hid hx
        obtain ⟨b', of, hA, hc0, hc1, hc2, hc3, hc4⟩ := HO.out.sl.row5 (i := j) (by rw [List.getElem?_map, HD.out.get hx]; rfl)
        injection hA with hA
        injection hA with hA hA2
        subst hA hA2
        simp only [Nat.zero_add] at hc0 hc1 hc2 hc3 hc4
        have hj0 : (0 : Int) ≤ (j : Int) := by omega
        have hj1 : (j : Int) < (l.length : Int) := by omega
        have hi0 : (0 : Int) ≤ (i : Int) := by omega
        have hi1 : (i : Int) < (l.length : Int) := by omega
        have hin : i < l.length := by omega
        clear hx
        cases hq : (fun m : Move => m.part != part) x
        · have HQ := Lib.hid hq
          go_wp2_with (first
            | (go_at_call 115; refine (cue_Split1 x bp part _ (by simp [go_sem, *])).mono ?_; rintro e w' ⟨rfl, hx⟩; obtain ⟨y, rfl⟩ := hx.get; clear hx)
            | (refine wpList_store_mine (w0 := w0) rfl 90 _ _ rfl 90 5 (by repeat (first | exact Ext.refl _ | assumption | apply Ext.xt | apply Ext.alloc | apply Ext.drew | apply Ext.drewN)) g l.length k i (cur.map mv) (HO.out.mono (by repeat (first | exact Ext.refl _ | assumption | apply Ext.xt | apply Ext.alloc | apply Ext.drew | apply Ext.drewN))) hin (mv x) (by rfl) (by rfl) rfl (mv_one [x] _ (by simp)) (by kernel_rfl) ?_; intro w1 hx1 hown hg; have HO1 := Lib.hid hown; obtain ⟨y1, rfl⟩ := hx1.get; clear hown hx1 hg))
          go_light
          exact ⟨⟨i + 1, j + 1, cur.set i x, by omega, by omega, by go_num, by go_num, Lib.hid (HD.out.keep HX.out HQ.out hin (by omega)), by repeat (first | exact Ext.refl _ | assumption | apply Ext.xt | apply Ext.alloc | apply Ext.drew | apply Ext.drewN), Lib.hid (by rw [List.map_set]; exact HO1.out.mono (by repeat (first | exact Ext.refl _ | assumption | apply Ext.xt | apply Ext.alloc | apply Ext.drew | apply Ext.drewN)))⟩, by simp [intOf]; omega⟩
        · have HQ := Lib.hid hq
          go_wp2_with (go_at_call 115; refine (cue_Split1 x bp part _ (by simp [go_sem, *])).mono ?_; rintro e w' ⟨rfl, hx⟩; obtain ⟨y, rfl⟩ := hx.get; clear hx)
          go_light
          exact ⟨⟨i, j + 1, cur, by omega, by omega, rfl, by go_num, Lib.hid (HD.out.skip HX.out HQ.out), by repeat (first | exact Ext.refl _ | assumption | apply Ext.xt | apply Ext.alloc | apply Ext.drew | apply Ext.drewN), Lib.hid (HO.out.mono (by repeat (first | exact Ext.refl _ | assumption | apply Ext.xt | apply Ext.alloc | apply Ext.drew | apply Ext.drewN)))⟩, by simp [intOf]; omega⟩
      · have HE := Lib.hid (HD.out.done (by omega))
        have hin : i < l.length := by omega
        have hi0 : (0 : Int) ≤ (i : Int) := by omega
        have hi1 : (i : Int) ≤ (l.length : Int) := by omega
        have hi2 : (i : Int) ≤ (k : Int) := by omega
        have q1 : ¬ k = i := by omega
        have q2 : ¬ l.length = i := by omega
        have HN := Lib.hid (show (cur.take i).length = i by rw [List.length_take, HD.out.len]; omega)
        go_wp2_with (refine wpList_clear_mine (w0 := w0) rfl (.tmp 38) 35 rfl 90 5 40 Try.underlying35 info_M (by kernel_rfl) (by repeat (first | exact Ext.refl _ | assumption | apply Ext.xt | apply Ext.alloc | apply Ext.drew | apply Ext.drewN)) g l.length k i (k - i) (cur.map mv) HO.out hin rfl ?_; intro w1 hx1 hown hg; have HO1 := Lib.hid hown; obtain ⟨y1, rfl⟩ := hx1.get; clear hown hx1 hg)
        go_ret
        rw [← HE.out]
        refine ⟨some ⟨g, 0, none⟩, k, by rw [HN.out]; rfl, by repeat (first | exact Ext.refl _ | assumption | apply Ext.xt | apply Ext.alloc | apply Ext.drew | apply Ext.drewN), ?_⟩
        rw [HN.out, List.map_take]
        exact HO1.out.mono (by repeat (first | exact Ext.refl _ | assumption | apply Ext.xt | apply Ext.alloc | apply Ext.drew | apply Ext.drewN))
end Go.Proofs.Ytgmicckeefoghaa
