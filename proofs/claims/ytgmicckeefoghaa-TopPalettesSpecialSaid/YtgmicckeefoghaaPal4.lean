/-
  The hue of a parameter in a palette.
-/
import Derived.Test.YtgmicckeefoghaaPal3
namespace Go.Proofs.Ytgmicckeefoghaa
open Go.RowKit

def posH (l : List Hue) (p : Param) : Nat := (l.takeWhile fun h => before h.p p).length
def foundH (l : List Hue) (p : Param) : Bool := match l[posH l p]? with | some h => decide (h.p = p) | none => false
theorem posH_le (l : List Hue) (p : Param) : posH l p ≤ l.length := (List.takeWhile_sublist _).length_le
theorem huesE_scan {l : List Hue} (h : huesE l = 0) : l.length ≤ 256 ∧ scan hueE none l = 0 := by
  unfold huesE at h
  split at h
  · omega
  · exact ⟨by omega, h⟩
theorem hue_in {l : List Hue} (h : scan hueE none l = 0) {i : Nat} {a : Hue} (ha : l[i]? = some a) : paramE0 a.p = 0 ∧ levB a.lev = true := by
  have h1 := scan_ok hueE l h i a ha
  unfold hueE hueE1 at h1
  grind
theorem hue_next {l : List Hue} (h : scan hueE none l = 0) (i : Nat) (a b : Hue) (ha : l[i]? = some a) (hb : l[i + 1]? = some b) : before a.p b.p = true := by
  have h1 := scan_ok hueE l h (i + 1) b hb
  rw [prv_succ, ha] at h1
  unfold hueE at h1
  grind
theorem hue_lt {l : List Hue} (h : scan hueE none l = 0) {i j : Nat} {a b : Hue} (hij : i < j) (ha : l[i]? = some a) (hb : l[j]? = some b) : before a.p b.p = true :=
  chain_lt (fun x y : Hue => before x.p y.p = true) (fun _ _ _ h1 h2 => before_trans h1 h2) (hue_next h) (j - i - 1) i a b ha (by rw [show i + (j - i - 1) + 1 = j by omega]; exact hb)
theorem posH_iff {l : List Hue} (h : scan hueE none l = 0) (p : Param) {i : Nat} {a : Hue} (ha : l[i]? = some a) : before a.p p = true ↔ i < posH l p :=
  tw_iff (fun x : Hue => before x.p p) (l := l) (fun _ _ _ _ hij hi hj hb => before_trans (hue_lt h hij hi hj) hb) ha

set_option maxHeartbeats 400000 in
theorem pal_hue1 (h : Hue) (p : Param) (w : World) (hh : paramE0 h.p = 0) (hp : paramE0 p = 0) :
    Calls Try.prog 166 #[.agg (hueR h).toArray, .agg (prm p).toArray] w fun e w' => e = .returned (.int .i64 (cmpP h.p p)) ∧ Ext w w' := by
  have HH := Lib.hid hh
  have HP := Lib.hid hp
  clear hh hp
  simp only [hueR, prm]
  go_enter Try.func166, Try.ntmps166
  go_wp2
  (refine wp_region_grows (by kernel_rfl) (by kernel_rfl) ?_; (repeat (go_big_quiet_step (first | (go_at_call 167; exact Calls.grows (pal_place h _)) | (go_at_call 150; exact Calls.grows (pal_compare0 h.p p _ HH.out HP.out))))); refine wpQuiet_nil ?_; rintro _ ⟨y, rfl⟩)
  go_wp2
  go_ret
  exact ⟨rfl, by repeat (first | exact Ext.refl _ | assumption | apply Ext.xt | apply Ext.alloc | apply Ext.drew | apply Ext.drewN)⟩

set_option maxHeartbeats 800000 in
set_option maxRecDepth 100000 in
theorem BinarySearch_hues (A : Option Addr) (c : Nat) (l : List Hue) (p : Param) (w : World) (hs : Sl w A 3 (l.map hueR)) (hl : l.length ≤ 1000000) (hok : scan hueE none l = 0) (hp : paramE0 p = 0) :
    Calls Try.prog 165 #[.slice A l.length c, .agg (prm p).toArray, .func (Fn.func 166) #[] #[]] w
      fun e w' => e = .returned (.tuple #[.int .i64 (posH l p), .bool (foundH l p)]) ∧ Ext w w' := by
  have hpl := posH_le l p
  have HOK := Lib.hid hok
  have HP := Lib.hid hp
  clear hok hp
  simp only [prm]
  go_enter Try.func165, Try.ntmps165
  go_wp2
  go_loopw [9, 10] (fun i j wr => ∃ lo hi : Nat, lo ≤ posH l p ∧ posH l p ≤ hi ∧ hi ≤ l.length ∧ i = .int .i64 lo ∧ j = .int .i64 hi ∧ Ext (w.alloc (.cells #[.int .i64 p.ch, .int .i64 p.attr] 40)) wr) (fun i j _ => (intOf j).toNat - (intOf i).toNat)
  case atStart => exact ⟨0, l.length, by omega, hpl, by omega, rfl, rfl, Ext.refl _⟩
  case round =>
    obtain ⟨lo, hi, h1, h2, h3, rfl, rfl, hx⟩ := hrel
    obtain ⟨y, rfl⟩ := hx.get
    clear hx
    by_cases hlt : lo < hi
    · obtain ⟨mid, hmid, hm1, hm2⟩ : ∃ mid : Nat, ((lo : Int) + (hi : Int)) / 2 = (mid : Int) ∧ lo ≤ mid ∧ mid < hi := ⟨(lo + hi) / 2, by omega, by omega, by omega⟩
      obtain ⟨m, hm⟩ : ∃ m, l[mid]? = some m := ⟨_, List.getElem?_eq_getElem (by omega)⟩
      have HI := Lib.hid (posH_iff HOK.out p hm)
      have HQ := Lib.hid (hue_in HOK.out hm).1
      have HB := Lib.hid (cmpP_before m.p p)
      obtain ⟨b, o, rfl, hc0, hc1, hc2⟩ := hs.row3 (i := mid) (by rw [List.getElem?_map, hm]; rfl)
      clear hm hs
      have hb0 : (0 : Int) ≤ (mid : Int) := by omega
      have hb1 : (mid : Int) < (l.length : Int) := by omega
      by_cases hbf : cmpP m.p p < 0
      · have hlo : mid + 1 ≤ posH l p := by have := HI.out.1 (HB.out.1 hbf); omega
        clear HI HB
        go_wp2
        (refine wp_region_grows (by kernel_rfl) (by kernel_rfl) ?_; (repeat (go_big_quiet_step ((go_at_call 166; exact Calls.grows (pal_hue1 m p _ HQ.out HP.out))))); refine wpQuiet_nil ?_; rintro _ ⟨y, rfl⟩)
        go_wp2
        go_light
        refine ⟨⟨mid + 1, hi, hlo, h2, h3, by go_num, rfl, by repeat (first | exact Ext.refl _ | assumption | apply Ext.xt | apply Ext.alloc | apply Ext.drew | apply Ext.drewN)⟩, by simp [intOf]; omega⟩
      · have hhi : posH l p ≤ mid := by
          rcases Nat.lt_or_ge mid (posH l p) with h | h
          · exact absurd (HB.out.2 (HI.out.2 h)) hbf
          · exact h
        have hbf' : 0 ≤ cmpP m.p p := by omega
        clear HI HB hbf
        go_wp2
        (refine wp_region_grows (by kernel_rfl) (by kernel_rfl) ?_; (repeat (go_big_quiet_step ((go_at_call 166; exact Calls.grows (pal_hue1 m p _ HQ.out HP.out))))); refine wpQuiet_nil ?_; rintro _ ⟨y, rfl⟩)
        go_wp2
        go_light
        refine ⟨⟨lo, mid, h1, hhi, by omega, rfl, by go_num, by repeat (first | exact Ext.refl _ | assumption | apply Ext.xt | apply Ext.alloc | apply Ext.drew | apply Ext.drewN)⟩, by simp [intOf]; omega⟩
    · obtain rfl : lo = hi := by omega
      have hpos : posH l p = lo := by omega
      have HE := Lib.hid hpos
      by_cases hn : lo < l.length
      · obtain ⟨m, hm⟩ : ∃ m, l[lo]? = some m := ⟨_, List.getElem?_eq_getElem (by omega)⟩
        have HQ := Lib.hid (hue_in HOK.out hm).1
        have HF : Hid (foundH l p = (cmpP m.p p == 0)) := Lib.hid (by
          unfold foundH
          rw [hpos, hm]
          simp only []
          rw [Bool.eq_iff_iff, decide_eq_true_iff, beq_iff_eq, cmpP_zero])
        obtain ⟨b, o, rfl, hc0, hc1, hc2⟩ := hs.row3 (i := lo) (by rw [List.getElem?_map, hm]; rfl)
        clear hm hs hpos
        have hb0 : (0 : Int) ≤ (lo : Int) := by omega
        have hb1 : (lo : Int) < (l.length : Int) := by omega
        go_wp2
        (refine wp_region_grows (by kernel_rfl) (by kernel_rfl) ?_; (repeat (go_big_quiet_step ((go_at_call 166; exact Calls.grows (pal_hue1 m p _ HQ.out HP.out))))); refine wpQuiet_nil ?_; rintro _ ⟨y, rfl⟩)
        go_wp2
        go_ret2
        rw [HE.out, HF.out]
        exact ⟨rfl, by repeat (first | exact Ext.refl _ | assumption | apply Ext.xt | apply Ext.alloc | apply Ext.drew | apply Ext.drewN)⟩
      · have HF : Hid (foundH l p = false) := Lib.hid (by
          unfold foundH
          rw [hpos, List.getElem?_eq_none (by omega)])
        have hb0 : (0 : Int) ≤ (lo : Int) := by omega
        have hb1 : decide ((lo : Int) < (l.length : Int)) = false := by rw [decide_eq_false_iff_not]; omega
        have hb2 : decide (lo < l.length) = false := by rw [decide_eq_false_iff_not]; omega
        clear hpos
        go_wp2
        (refine wp_region_grows (by kernel_rfl) (by kernel_rfl) ?_; (repeat (go_big_quiet_step (fail))); refine wpQuiet_nil ?_; rintro _ ⟨y, rfl⟩)
        go_wp2
        go_ret2
        rw [HE.out, HF.out]
        exact ⟨rfl, by repeat (first | exact Ext.refl _ | assumption | apply Ext.xt | apply Ext.alloc | apply Ext.drew | apply Ext.drewN)⟩
end Go.Proofs.Ytgmicckeefoghaa
