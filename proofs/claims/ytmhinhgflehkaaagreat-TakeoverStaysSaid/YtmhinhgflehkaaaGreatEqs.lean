/-
 Lists of entries, parameters, integers, hues, gains, points are equal: slices.Equal, and the references' loops.
-/
import Derived.Test.YtmhinhgflehkaaaGreatGacn
import Derived.Test.YtmhinhgflehkaaaGreatGsame
namespace Go.Proofs.YtmhinhgflehkaaaGreat
open Go.RowKit

theorem eqPP_def (m n : Param) : eqP m.ch m.attr n.ch n.attr = decide (m = n) := rfl
@[go_sem high] theorem eqIn_prm0 (w : World) (a b a' b' : Int) : (Op.equalIn 10000 233 (.agg #[.int .i64 a, .int .i64 b]) (.agg #[.int .i64 a', .int .i64 b'])).run Tryz.prog w = .ok (eqP a b a' b') w := by
 have hS : Tryz.prog.underlying 233 = some (.struct (Tryz.prog.fieldsOf 233)) := by kernel_rfl
 have hp : Tryz.prog.stoodInHeld 233 = false := by kernel_rfl
 rw [show (10000 : Nat) = 9999 + 1 from rfl, run_equalIn_agg w 9999 233 _ _ hS hp]
 simp only [Program.fieldsOf, Tryz.underlying233]
 go_simp
 unfold eqP
 simp only [Param.mk.injEq]
 by_cases h1 : a = a' <;> by_cases h2 : b = b' <;> simp [h1, h2]
def eqH (s t : Hue) : Bool := decide (s = t)
@[go_sem high] theorem eqIn_hue (w : World) (a b c a' b' c' : Int) : (Op.equalIn 10000 271 (.agg #[.int .i64 a, .int .i64 b, .int .i64 c]) (.agg #[.int .i64 a', .int .i64 b', .int .i64 c'])).run Tryz.prog w = .ok (eqH ⟨⟨a, b⟩, c⟩ ⟨⟨a', b'⟩, c'⟩) w := by
 have hS : Tryz.prog.underlying 271 = some (.struct (Tryz.prog.fieldsOf 271)) := by kernel_rfl
 have hp : Tryz.prog.stoodInHeld 271 = false := by kernel_rfl
 rw [show (10000 : Nat) = 9999 + 1 from rfl, run_equalIn_agg w 9999 271 _ _ hS hp]
 simp only [Program.fieldsOf, Tryz.underlying271]
 go_simp
 unfold eqH
 simp only [Hue.mk.injEq, Param.mk.injEq]
 by_cases h0 : a = a'
 ·by_cases h1 : b = b'
  ·by_cases h2 : c = c' <;> simp [h0, h1, h2]
  ·simp [h0, h1]
 ·simp [h0]
@[go_sem] theorem guard_hue (w : World) (op : BinOp) (x y : Operand) (xs ys : Array Value) : (eqGuard op 271 x y (.agg xs) (.agg ys)).run Tryz.prog w = .ok () w := run_eqGuard_agg w op _ x y xs ys (by kernel_rfl)
def eqG (s t : Gain) : Bool := decide (s = t)
@[go_sem high] theorem eqIn_gain (w : World) (a b c a' b' c' : Int) : (Op.equalIn 10000 274 (.agg #[.int .i64 a, .int .i64 b, .int .i64 c]) (.agg #[.int .i64 a', .int .i64 b', .int .i64 c'])).run Tryz.prog w = .ok (eqG ⟨⟨a, b⟩, c⟩ ⟨⟨a', b'⟩, c'⟩) w := by
 have hS : Tryz.prog.underlying 274 = some (.struct (Tryz.prog.fieldsOf 274)) := by kernel_rfl
 have hp : Tryz.prog.stoodInHeld 274 = false := by kernel_rfl
 have e1 := fun w => eqIn_prm w a b a' b'
 rw [show (10000 : Nat) = 9999 + 1 from rfl, run_equalIn_agg w 9999 274 _ _ hS hp]
 simp only [Program.fieldsOf, Tryz.underlying274]
 go_simp
 unfold eqG
 simp only [Gain.mk.injEq, Param.mk.injEq]
 by_cases h0 : a = a'
 ·by_cases h1 : b = b'
  ·by_cases h2 : c = c' <;> simp [h0, h1, h2]
  ·simp [h0, h1]
 ·simp [h0]
@[go_sem] theorem guard_gain (w : World) (op : BinOp) (x y : Operand) (xs ys : Array Value) : (eqGuard op 274 x y (.agg xs) (.agg ys)).run Tryz.prog w = .ok () w := run_eqGuard_agg w op _ x y xs ys (by kernel_rfl)
def eqO (s t : Pt) : Bool := decide (s = t)
@[go_sem high] theorem eqIn_pt (w : World) (a b a' b' : Int) : (Op.equalIn 10000 277 (.agg #[.int .i64 a, .int .i64 b]) (.agg #[.int .i64 a', .int .i64 b'])).run Tryz.prog w = .ok (eqO ⟨a, b⟩ ⟨a', b'⟩) w := by
 have hS : Tryz.prog.underlying 277 = some (.struct (Tryz.prog.fieldsOf 277)) := by kernel_rfl
 have hp : Tryz.prog.stoodInHeld 277 = false := by kernel_rfl
 rw [show (10000 : Nat) = 9999 + 1 from rfl, run_equalIn_agg w 9999 277 _ _ hS hp]
 simp only [Program.fieldsOf, Tryz.underlying277]
 go_simp
 unfold eqO
 simp only [Pt.mk.injEq]
 by_cases h0 : a = a'
 ·by_cases h1 : b = b' <;> simp [h0, h1]
 ·simp [h0]
@[go_sem] theorem guard_pt (w : World) (op : BinOp) (x y : Operand) (xs ys : Array Value) : (eqGuard op 277 x y (.agg xs) (.agg ys)).run Tryz.prog w = .ok () w := run_eqGuard_agg w op _ x y xs ys (by kernel_rfl)
theorem eqH_def (m n : Hue) : eqH ⟨⟨m.p.ch, m.p.attr⟩, m.lev⟩ ⟨⟨n.p.ch, n.p.attr⟩, n.lev⟩ = decide (m = n) := rfl
theorem eqG_def (m n : Gain) : eqG ⟨⟨m.p.ch, m.p.attr⟩, m.lev⟩ ⟨⟨n.p.ch, n.p.attr⟩, n.lev⟩ = decide (m = n) := rfl
theorem eqO_def (m n : Pt) : eqO ⟨m.x, m.y⟩ ⟨n.x, n.y⟩ = decide (m = n) := rfl
set_option maxHeartbeats 800000 in
theorem Equal_E (A : Option Addr) (c : Nat) (l : List Entry) (B : Option Addr) (d : Nat) (l' : List Entry) (w : World) (hs : Sl w A 4 (l.map en)) (hl : l.length ≤ maxLen) (hs' : Sl w B 4 (l'.map en)) (hl' : l'.length ≤ maxLen) :
  Calls Tryz.prog 143 #[.slice A l.length c, .slice B l'.length d] w fun e w' => e = .returned (.bool (decide (l = l'))) ∧ Ext w w' := by
 unfold maxLen at hl hl'
 by_cases hn : l.length = l'.length
 ·have hb : ((l.length : Int) != (l'.length : Int)) = false := by simp [hn]
  have HN := Lib.hid hn
  have hle : l.length ≤ l'.length := by omega
  clear hn
  go_enter Tryz.func143, Tryz.ntmps143
  go_wp2
  go_loopw [13] (fun i wr => ∃ k : Nat, k ≤ l.length ∧ i = .int .i64 k ∧ Ext w wr ∧ Hid (l.take k = l'.take k)) (fun i _ => l.length - (intOf i).toNat)
  case atStart => exact ⟨0, by omega, rfl, Ext.refl _, Lib.hid (by simp)⟩
  case round =>
   obtain ⟨k, hk, rfl, hx, HE⟩ := hrel
   obtain ⟨y, rfl⟩ := hx.get
   clear hx
   by_cases hlt : k < l.length
   ·obtain ⟨m, hm⟩ : ∃ m, l[k]? = some m := ⟨_, List.getElem?_eq_getElem hlt⟩
    obtain ⟨m', hm'⟩ : ∃ m', l'[k]? = some m' := ⟨_, List.getElem?_eq_getElem (by omega)⟩
    have HM := Lib.hid hm
    have HM' := Lib.hid hm'
    obtain ⟨b, o, rfl, hc0, hc1, hc2, hc3⟩ := hs.row4 (i := k) (by rw [List.getElem?_map, hm]; rfl)
    obtain ⟨b', o', rfl, hd0, hd1, hd2, hd3⟩ := hs'.row4 (i := k) (by rw [List.getElem?_map, hm']; rfl)
    have hb0 : (0 : Int) ≤ (k : Int) := by omega
    have hb1 : (k : Int) < (l.length : Int) := by omega
    have hb2 : (k : Int) < (l'.length : Int) := by omega
    clear hm hm' hs hs'
    go_wp2
    (refine wp_region_grows (by kernel_rfl) (by kernel_rfl) ?_; (repeat (go_big_quiet_step (fail))); refine wpQuiet_nil ?_; rintro _ ⟨y, rfl⟩)
    by_cases he : m = m'
    ·have hz : eqE ⟨⟨m.p.ch, m.p.attr⟩, ⟨m.v.pal, m.v.lev⟩⟩ ⟨⟨m'.p.ch, m'.p.attr⟩, ⟨m'.v.pal, m'.v.lev⟩⟩ = true := by rw [eqE_def]; simpa using he
     rw [hz]
     have HK := Lib.hid (same_step HM.out HM'.out he HE.out)
     clear he
     go_wp2
     go_light
     exact ⟨⟨k + 1, by omega, by go_num, ex, HK⟩, by simp [intOf]; omega⟩
    ·have hz : eqE ⟨⟨m.p.ch, m.p.attr⟩, ⟨m.v.pal, m.v.lev⟩⟩ ⟨⟨m'.p.ch, m'.p.attr⟩, ⟨m'.v.pal, m'.v.lev⟩⟩ = false := by rw [eqE_def]; simpa using he
     rw [hz]
     have HK := Lib.hid (same_not HM.out HM'.out he)
     clear he
     go_wp2
     go_ret
     rw [decide_eq_false HK.out]
     exact ⟨rfl, ex⟩
   ·have HK : Hid (l = l') := Lib.hid (by
     have := HE.out
     rwa [List.take_of_length_le (by omega), List.take_of_length_le (by have := HN.out; omega)] at this)
    go_wp2
    go_ret
    rw [decide_eq_true HK.out]
    exact ⟨rfl, ex⟩
 ·have hb : ((l.length : Int) != (l'.length : Int)) = true := by simp; omega
  have HN : Hid (l ≠ l') := Lib.hid fun e => hn (by rw [e])
  clear hn
  go_enter Tryz.func143, Tryz.ntmps143
  go_wp2
  go_ret
  rw [decide_eq_false HN.out]
  exact ⟨rfl, ex⟩
set_option maxHeartbeats 800000 in
theorem Equal_P (A : Option Addr) (c : Nat) (l : List Param) (B : Option Addr) (d : Nat) (l' : List Param) (w : World) (hs : Sl w A 2 (l.map prm)) (hl : l.length ≤ maxLen) (hs' : Sl w B 2 (l'.map prm)) (hl' : l'.length ≤ maxLen) :
  Calls Tryz.prog 144 #[.slice A l.length c, .slice B l'.length d] w fun e w' => e = .returned (.bool (decide (l = l'))) ∧ Ext w w' := by
 unfold maxLen at hl hl'
 by_cases hn : l.length = l'.length
 ·have hb : ((l.length : Int) != (l'.length : Int)) = false := by simp [hn]
  have HN := Lib.hid hn
  have hle : l.length ≤ l'.length := by omega
  clear hn
  go_enter Tryz.func144, Tryz.ntmps144
  go_wp2
  go_loopw [13] (fun i wr => ∃ k : Nat, k ≤ l.length ∧ i = .int .i64 k ∧ Ext w wr ∧ Hid (l.take k = l'.take k)) (fun i _ => l.length - (intOf i).toNat)
  case atStart => exact ⟨0, by omega, rfl, Ext.refl _, Lib.hid (by simp)⟩
  case round =>
   obtain ⟨k, hk, rfl, hx, HE⟩ := hrel
   obtain ⟨y, rfl⟩ := hx.get
   clear hx
   by_cases hlt : k < l.length
   ·obtain ⟨m, hm⟩ : ∃ m, l[k]? = some m := ⟨_, List.getElem?_eq_getElem hlt⟩
    obtain ⟨m', hm'⟩ : ∃ m', l'[k]? = some m' := ⟨_, List.getElem?_eq_getElem (by omega)⟩
    have HM := Lib.hid hm
    have HM' := Lib.hid hm'
    obtain ⟨b, o, rfl, hc0, hc1⟩ := hs.row2 (i := k) (by rw [List.getElem?_map, hm]; rfl)
    obtain ⟨b', o', rfl, hd0, hd1⟩ := hs'.row2 (i := k) (by rw [List.getElem?_map, hm']; rfl)
    have hb0 : (0 : Int) ≤ (k : Int) := by omega
    have hb1 : (k : Int) < (l.length : Int) := by omega
    have hb2 : (k : Int) < (l'.length : Int) := by omega
    clear hm hm' hs hs'
    go_wp2
    (refine wp_region_grows (by kernel_rfl) (by kernel_rfl) ?_; (repeat (go_big_quiet_step (fail))); refine wpQuiet_nil ?_; rintro _ ⟨y, rfl⟩)
    by_cases he : m = m'
    ·have hz : eqP m.ch m.attr m'.ch m'.attr = true := by rw [eqPP_def]; simpa using he
     rw [hz]
     have HK := Lib.hid (same_step HM.out HM'.out he HE.out)
     clear he
     go_wp2
     go_light
     exact ⟨⟨k + 1, by omega, by go_num, ex, HK⟩, by simp [intOf]; omega⟩
    ·have hz : eqP m.ch m.attr m'.ch m'.attr = false := by rw [eqPP_def]; simpa using he
     rw [hz]
     have HK := Lib.hid (same_not HM.out HM'.out he)
     clear he
     go_wp2
     go_ret
     rw [decide_eq_false HK.out]
     exact ⟨rfl, ex⟩
   ·have HK : Hid (l = l') := Lib.hid (by
     have := HE.out
     rwa [List.take_of_length_le (by omega), List.take_of_length_le (by have := HN.out; omega)] at this)
    go_wp2
    go_ret
    rw [decide_eq_true HK.out]
    exact ⟨rfl, ex⟩
 ·have hb : ((l.length : Int) != (l'.length : Int)) = true := by simp; omega
  have HN : Hid (l ≠ l') := Lib.hid fun e => hn (by rw [e])
  clear hn
  go_enter Tryz.func144, Tryz.ntmps144
  go_wp2
  go_ret
  rw [decide_eq_false HN.out]
  exact ⟨rfl, ex⟩
set_option maxHeartbeats 800000 in
theorem Equal_I (A : Option Addr) (c : Nat) (l : List Int) (B : Option Addr) (d : Nat) (l' : List Int) (w : World) (hs : Sl w A 1 (l.map intR)) (hl : l.length ≤ maxLen) (hs' : Sl w B 1 (l'.map intR)) (hl' : l'.length ≤ maxLen) :
  Calls Tryz.prog 38 #[.slice A l.length c, .slice B l'.length d] w fun e w' => e = .returned (.bool (decide (l = l'))) ∧ Ext w w' := by
 unfold maxLen at hl hl'
 by_cases hn : l.length = l'.length
 ·have hb : ((l.length : Int) != (l'.length : Int)) = false := by simp [hn]
  have HN := Lib.hid hn
  have hle : l.length ≤ l'.length := by omega
  clear hn
  go_enter Tryz.func38, Tryz.ntmps38
  go_wp2
  go_loopw [13] (fun i wr => ∃ k : Nat, k ≤ l.length ∧ i = .int .i64 k ∧ Ext w wr ∧ Hid (l.take k = l'.take k)) (fun i _ => l.length - (intOf i).toNat)
  case atStart => exact ⟨0, by omega, rfl, Ext.refl _, Lib.hid (by simp)⟩
  case round =>
   obtain ⟨k, hk, rfl, hx, HE⟩ := hrel
   obtain ⟨y, rfl⟩ := hx.get
   clear hx
   by_cases hlt : k < l.length
   ·obtain ⟨m, hm⟩ : ∃ m, l[k]? = some m := ⟨_, List.getElem?_eq_getElem hlt⟩
    obtain ⟨m', hm'⟩ : ∃ m', l'[k]? = some m' := ⟨_, List.getElem?_eq_getElem (by omega)⟩
    have HM := Lib.hid hm
    have HM' := Lib.hid hm'
    obtain ⟨b, o, rfl, hc0⟩ := hs.row1 (i := k) (by rw [List.getElem?_map, hm]; rfl)
    obtain ⟨b', o', rfl, hd0⟩ := hs'.row1 (i := k) (by rw [List.getElem?_map, hm']; rfl)
    have hb0 : (0 : Int) ≤ (k : Int) := by omega
    have hb1 : (k : Int) < (l.length : Int) := by omega
    have hb2 : (k : Int) < (l'.length : Int) := by omega
    clear hm hm' hs hs'
    by_cases he : m = m'
    ·have hz : (m == m') = true := by simpa using he
     have hz' : (m != m') = false := by simpa using he
     have HK := Lib.hid (same_step HM.out HM'.out he HE.out)
     clear he
     go_wp2
     try (refine wp_region_grows (by kernel_rfl) (by kernel_rfl) ?_; (repeat (go_big_quiet_step (fail))); refine wpQuiet_nil ?_; rintro _ ⟨y, rfl⟩)
     try go_wp2
     go_light
     exact ⟨⟨k + 1, by omega, by go_num, ex, HK⟩, by simp [intOf]; omega⟩
    ·have hz : (m == m') = false := by simpa using he
     have hz' : (m != m') = true := by simpa using he
     have HK := Lib.hid (same_not HM.out HM'.out he)
     clear he
     go_wp2
     try (refine wp_region_grows (by kernel_rfl) (by kernel_rfl) ?_; (repeat (go_big_quiet_step (fail))); refine wpQuiet_nil ?_; rintro _ ⟨y, rfl⟩)
     try go_wp2
     go_ret
     rw [decide_eq_false HK.out]
     exact ⟨rfl, ex⟩
   ·have HK : Hid (l = l') := Lib.hid (by
     have := HE.out
     rwa [List.take_of_length_le (by omega), List.take_of_length_le (by have := HN.out; omega)] at this)
    go_wp2
    go_ret
    rw [decide_eq_true HK.out]
    exact ⟨rfl, ex⟩
 ·have hb : ((l.length : Int) != (l'.length : Int)) = true := by simp; omega
  have HN : Hid (l ≠ l') := Lib.hid fun e => hn (by rw [e])
  clear hn
  go_enter Tryz.func38, Tryz.ntmps38
  go_wp2
  go_ret
  rw [decide_eq_false HN.out]
  exact ⟨rfl, ex⟩
set_option maxHeartbeats 800000 in
theorem Equal_H (A : Option Addr) (c : Nat) (l : List Hue) (B : Option Addr) (d : Nat) (l' : List Hue) (w : World) (hs : Sl w A 3 (l.map hueR)) (hl : l.length ≤ maxLen) (hs' : Sl w B 3 (l'.map hueR)) (hl' : l'.length ≤ maxLen) :
  Calls Tryz.prog 197 #[.slice A l.length c, .slice B l'.length d] w fun e w' => e = .returned (.bool (decide (l = l'))) ∧ Ext w w' := by
 unfold maxLen at hl hl'
 by_cases hn : l.length = l'.length
 ·have hb : ((l.length : Int) != (l'.length : Int)) = false := by simp [hn]
  have HN := Lib.hid hn
  have hle : l.length ≤ l'.length := by omega
  clear hn
  go_enter Tryz.func197, Tryz.ntmps197
  go_wp2
  go_loopw [13] (fun i wr => ∃ k : Nat, k ≤ l.length ∧ i = .int .i64 k ∧ Ext w wr ∧ Hid (l.take k = l'.take k)) (fun i _ => l.length - (intOf i).toNat)
  case atStart => exact ⟨0, by omega, rfl, Ext.refl _, Lib.hid (by simp)⟩
  case round =>
   obtain ⟨k, hk, rfl, hx, HE⟩ := hrel
   obtain ⟨y, rfl⟩ := hx.get
   clear hx
   by_cases hlt : k < l.length
   ·obtain ⟨m, hm⟩ : ∃ m, l[k]? = some m := ⟨_, List.getElem?_eq_getElem hlt⟩
    obtain ⟨m', hm'⟩ : ∃ m', l'[k]? = some m' := ⟨_, List.getElem?_eq_getElem (by omega)⟩
    have HM := Lib.hid hm
    have HM' := Lib.hid hm'
    obtain ⟨b, o, rfl, hc0, hc1, hc2⟩ := hs.row3 (i := k) (by rw [List.getElem?_map, hm]; rfl)
    obtain ⟨b', o', rfl, hd0, hd1, hd2⟩ := hs'.row3 (i := k) (by rw [List.getElem?_map, hm']; rfl)
    have hb0 : (0 : Int) ≤ (k : Int) := by omega
    have hb1 : (k : Int) < (l.length : Int) := by omega
    have hb2 : (k : Int) < (l'.length : Int) := by omega
    clear hm hm' hs hs'
    go_wp2
    (refine wp_region_grows (by kernel_rfl) (by kernel_rfl) ?_; (repeat (go_big_quiet_step (fail))); refine wpQuiet_nil ?_; rintro _ ⟨y, rfl⟩)
    by_cases he : m = m'
    ·have hz : eqH ⟨⟨m.p.ch, m.p.attr⟩, m.lev⟩ ⟨⟨m'.p.ch, m'.p.attr⟩, m'.lev⟩ = true := by rw [eqH_def]; simpa using he
     rw [hz]
     have HK := Lib.hid (same_step HM.out HM'.out he HE.out)
     clear he
     go_wp2
     go_light
     exact ⟨⟨k + 1, by omega, by go_num, ex, HK⟩, by simp [intOf]; omega⟩
    ·have hz : eqH ⟨⟨m.p.ch, m.p.attr⟩, m.lev⟩ ⟨⟨m'.p.ch, m'.p.attr⟩, m'.lev⟩ = false := by rw [eqH_def]; simpa using he
     rw [hz]
     have HK := Lib.hid (same_not HM.out HM'.out he)
     clear he
     go_wp2
     go_ret
     rw [decide_eq_false HK.out]
     exact ⟨rfl, ex⟩
   ·have HK : Hid (l = l') := Lib.hid (by
     have := HE.out
     rwa [List.take_of_length_le (by omega), List.take_of_length_le (by have := HN.out; omega)] at this)
    go_wp2
    go_ret
    rw [decide_eq_true HK.out]
    exact ⟨rfl, ex⟩
 ·have hb : ((l.length : Int) != (l'.length : Int)) = true := by simp; omega
  have HN : Hid (l ≠ l') := Lib.hid fun e => hn (by rw [e])
  clear hn
  go_enter Tryz.func197, Tryz.ntmps197
  go_wp2
  go_ret
  rw [decide_eq_false HN.out]
  exact ⟨rfl, ex⟩
set_option maxHeartbeats 800000 in
theorem Equal_G (A : Option Addr) (c : Nat) (l : List Gain) (B : Option Addr) (d : Nat) (l' : List Gain) (w : World) (hs : Sl w A 3 (l.map gainR)) (hl : l.length ≤ maxLen) (hs' : Sl w B 3 (l'.map gainR)) (hl' : l'.length ≤ maxLen) :
  Calls Tryz.prog 198 #[.slice A l.length c, .slice B l'.length d] w fun e w' => e = .returned (.bool (decide (l = l'))) ∧ Ext w w' := by
 unfold maxLen at hl hl'
 by_cases hn : l.length = l'.length
 ·have hb : ((l.length : Int) != (l'.length : Int)) = false := by simp [hn]
  have HN := Lib.hid hn
  have hle : l.length ≤ l'.length := by omega
  clear hn
  go_enter Tryz.func198, Tryz.ntmps198
  go_wp2
  go_loopw [13] (fun i wr => ∃ k : Nat, k ≤ l.length ∧ i = .int .i64 k ∧ Ext w wr ∧ Hid (l.take k = l'.take k)) (fun i _ => l.length - (intOf i).toNat)
  case atStart => exact ⟨0, by omega, rfl, Ext.refl _, Lib.hid (by simp)⟩
  case round =>
   obtain ⟨k, hk, rfl, hx, HE⟩ := hrel
   obtain ⟨y, rfl⟩ := hx.get
   clear hx
   by_cases hlt : k < l.length
   ·obtain ⟨m, hm⟩ : ∃ m, l[k]? = some m := ⟨_, List.getElem?_eq_getElem hlt⟩
    obtain ⟨m', hm'⟩ : ∃ m', l'[k]? = some m' := ⟨_, List.getElem?_eq_getElem (by omega)⟩
    have HM := Lib.hid hm
    have HM' := Lib.hid hm'
    obtain ⟨b, o, rfl, hc0, hc1, hc2⟩ := hs.row3 (i := k) (by rw [List.getElem?_map, hm]; rfl)
    obtain ⟨b', o', rfl, hd0, hd1, hd2⟩ := hs'.row3 (i := k) (by rw [List.getElem?_map, hm']; rfl)
    have hb0 : (0 : Int) ≤ (k : Int) := by omega
    have hb1 : (k : Int) < (l.length : Int) := by omega
    have hb2 : (k : Int) < (l'.length : Int) := by omega
    clear hm hm' hs hs'
    go_wp2
    (refine wp_region_grows (by kernel_rfl) (by kernel_rfl) ?_; (repeat (go_big_quiet_step (fail))); refine wpQuiet_nil ?_; rintro _ ⟨y, rfl⟩)
    by_cases he : m = m'
    ·have hz : eqG ⟨⟨m.p.ch, m.p.attr⟩, m.lev⟩ ⟨⟨m'.p.ch, m'.p.attr⟩, m'.lev⟩ = true := by rw [eqG_def]; simpa using he
     rw [hz]
     have HK := Lib.hid (same_step HM.out HM'.out he HE.out)
     clear he
     go_wp2
     go_light
     exact ⟨⟨k + 1, by omega, by go_num, ex, HK⟩, by simp [intOf]; omega⟩
    ·have hz : eqG ⟨⟨m.p.ch, m.p.attr⟩, m.lev⟩ ⟨⟨m'.p.ch, m'.p.attr⟩, m'.lev⟩ = false := by rw [eqG_def]; simpa using he
     rw [hz]
     have HK := Lib.hid (same_not HM.out HM'.out he)
     clear he
     go_wp2
     go_ret
     rw [decide_eq_false HK.out]
     exact ⟨rfl, ex⟩
   ·have HK : Hid (l = l') := Lib.hid (by
     have := HE.out
     rwa [List.take_of_length_le (by omega), List.take_of_length_le (by have := HN.out; omega)] at this)
    go_wp2
    go_ret
    rw [decide_eq_true HK.out]
    exact ⟨rfl, ex⟩
 ·have hb : ((l.length : Int) != (l'.length : Int)) = true := by simp; omega
  have HN : Hid (l ≠ l') := Lib.hid fun e => hn (by rw [e])
  clear hn
  go_enter Tryz.func198, Tryz.ntmps198
  go_wp2
  go_ret
  rw [decide_eq_false HN.out]
  exact ⟨rfl, ex⟩
set_option maxHeartbeats 800000 in
theorem Equal_O (A : Option Addr) (c : Nat) (l : List Pt) (B : Option Addr) (d : Nat) (l' : List Pt) (w : World) (hs : Sl w A 2 (l.map ptR)) (hl : l.length ≤ maxLen) (hs' : Sl w B 2 (l'.map ptR)) (hl' : l'.length ≤ maxLen) :
  Calls Tryz.prog 199 #[.slice A l.length c, .slice B l'.length d] w fun e w' => e = .returned (.bool (decide (l = l'))) ∧ Ext w w' := by
 unfold maxLen at hl hl'
 by_cases hn : l.length = l'.length
 ·have hb : ((l.length : Int) != (l'.length : Int)) = false := by simp [hn]
  have HN := Lib.hid hn
  have hle : l.length ≤ l'.length := by omega
  clear hn
  go_enter Tryz.func199, Tryz.ntmps199
  go_wp2
  go_loopw [13] (fun i wr => ∃ k : Nat, k ≤ l.length ∧ i = .int .i64 k ∧ Ext w wr ∧ Hid (l.take k = l'.take k)) (fun i _ => l.length - (intOf i).toNat)
  case atStart => exact ⟨0, by omega, rfl, Ext.refl _, Lib.hid (by simp)⟩
  case round =>
   obtain ⟨k, hk, rfl, hx, HE⟩ := hrel
   obtain ⟨y, rfl⟩ := hx.get
   clear hx
   by_cases hlt : k < l.length
   ·obtain ⟨m, hm⟩ : ∃ m, l[k]? = some m := ⟨_, List.getElem?_eq_getElem hlt⟩
    obtain ⟨m', hm'⟩ : ∃ m', l'[k]? = some m' := ⟨_, List.getElem?_eq_getElem (by omega)⟩
    have HM := Lib.hid hm
    have HM' := Lib.hid hm'
    obtain ⟨b, o, rfl, hc0, hc1⟩ := hs.row2 (i := k) (by rw [List.getElem?_map, hm]; rfl)
    obtain ⟨b', o', rfl, hd0, hd1⟩ := hs'.row2 (i := k) (by rw [List.getElem?_map, hm']; rfl)
    have hb0 : (0 : Int) ≤ (k : Int) := by omega
    have hb1 : (k : Int) < (l.length : Int) := by omega
    have hb2 : (k : Int) < (l'.length : Int) := by omega
    clear hm hm' hs hs'
    go_wp2
    (refine wp_region_grows (by kernel_rfl) (by kernel_rfl) ?_; (repeat (go_big_quiet_step (fail))); refine wpQuiet_nil ?_; rintro _ ⟨y, rfl⟩)
    by_cases he : m = m'
    ·have hz : eqO ⟨m.x, m.y⟩ ⟨m'.x, m'.y⟩ = true := by rw [eqO_def]; simpa using he
     rw [hz]
     have HK := Lib.hid (same_step HM.out HM'.out he HE.out)
     clear he
     go_wp2
     go_light
     exact ⟨⟨k + 1, by omega, by go_num, ex, HK⟩, by simp [intOf]; omega⟩
    ·have hz : eqO ⟨m.x, m.y⟩ ⟨m'.x, m'.y⟩ = false := by rw [eqO_def]; simpa using he
     rw [hz]
     have HK := Lib.hid (same_not HM.out HM'.out he)
     clear he
     go_wp2
     go_ret
     rw [decide_eq_false HK.out]
     exact ⟨rfl, ex⟩
   ·have HK : Hid (l = l') := Lib.hid (by
     have := HE.out
     rwa [List.take_of_length_le (by omega), List.take_of_length_le (by have := HN.out; omega)] at this)
    go_wp2
    go_ret
    rw [decide_eq_true HK.out]
    exact ⟨rfl, ex⟩
 ·have hb : ((l.length : Int) != (l'.length : Int)) = true := by simp; omega
  have HN : Hid (l ≠ l') := Lib.hid fun e => hn (by rw [e])
  clear hn
  go_enter Tryz.func199, Tryz.ntmps199
  go_wp2
  go_ret
  rw [decide_eq_false HN.out]
  exact ⟨rfl, ex⟩
set_option maxHeartbeats 800000 in
theorem r15_SameParams (A : Option Addr) (c : Nat) (l : List Param) (B : Option Addr) (d : Nat) (l' : List Param) (w : World) (hs : Sl w A 2 (l.map prm)) (hl : l.length ≤ maxLen) (hs' : Sl w B 2 (l'.map prm)) (hl' : l'.length ≤ maxLen) :
  Calls Tryz.prog 117 #[.slice A l.length c, .slice B l'.length d] w fun e w' => e = .returned (.bool (decide (l = l'))) ∧ Ext w w' := by
 unfold maxLen at hl hl'
 by_cases hn : l.length = l'.length
 ·have hb : ((l.length : Int) != (l'.length : Int)) = false := by simp [hn]
  have HN := Lib.hid hn
  have hle : l.length ≤ l'.length := by omega
  clear hn
  go_enter Tryz.func117, Tryz.ntmps117
  go_wp2
  go_loopw [5] (fun i wr => ∃ k : Nat, k ≤ l.length ∧ i = .int .i64 k ∧ Ext w wr ∧ Hid (l.take k = l'.take k)) (fun i _ => l.length - (intOf i).toNat)
  case atStart => exact ⟨0, by omega, rfl, Ext.refl _, Lib.hid (by simp)⟩
  case round =>
   obtain ⟨k, hk, rfl, hx, HE⟩ := hrel
   obtain ⟨y, rfl⟩ := hx.get
   clear hx
   by_cases hlt : k < l.length
   ·obtain ⟨m, hm⟩ : ∃ m, l[k]? = some m := ⟨_, List.getElem?_eq_getElem hlt⟩
    obtain ⟨m', hm'⟩ : ∃ m', l'[k]? = some m' := ⟨_, List.getElem?_eq_getElem (by omega)⟩
    have HM := Lib.hid hm
    have HM' := Lib.hid hm'
    obtain ⟨b, o, rfl, hc0, hc1⟩ := hs.row2 (i := k) (by rw [List.getElem?_map, hm]; rfl)
    obtain ⟨b', o', rfl, hd0, hd1⟩ := hs'.row2 (i := k) (by rw [List.getElem?_map, hm']; rfl)
    have hb0 : (0 : Int) ≤ (k : Int) := by omega
    have hb1 : (k : Int) < (l.length : Int) := by omega
    have hb2 : (k : Int) < (l'.length : Int) := by omega
    clear hm hm' hs hs'
    go_wp2
    (refine wp_region_grows (by kernel_rfl) (by kernel_rfl) ?_; (repeat (go_big_quiet_step (fail))); refine wpQuiet_nil ?_; rintro _ ⟨y, rfl⟩)
    by_cases he : m = m'
    ·have hz : eqP m.ch m.attr m'.ch m'.attr = true := by rw [eqPP_def]; simpa using he
     rw [hz]
     have HK := Lib.hid (same_step HM.out HM'.out he HE.out)
     clear he
     go_wp2
     go_light
     exact ⟨⟨k + 1, by omega, by go_num, ex, HK⟩, by simp [intOf]; omega⟩
    ·have hz : eqP m.ch m.attr m'.ch m'.attr = false := by rw [eqPP_def]; simpa using he
     rw [hz]
     have HK := Lib.hid (same_not HM.out HM'.out he)
     clear he
     go_wp2
     go_ret
     rw [decide_eq_false HK.out]
     exact ⟨rfl, ex⟩
   ·have HK : Hid (l = l') := Lib.hid (by
     have := HE.out
     rwa [List.take_of_length_le (by omega), List.take_of_length_le (by have := HN.out; omega)] at this)
    go_wp2
    go_ret
    rw [decide_eq_true HK.out]
    exact ⟨rfl, ex⟩
 ·have hb : ((l.length : Int) != (l'.length : Int)) = true := by simp; omega
  have HN : Hid (l ≠ l') := Lib.hid fun e => hn (by rw [e])
  clear hn
  go_enter Tryz.func117, Tryz.ntmps117
  go_wp2
  go_ret
  rw [decide_eq_false HN.out]
  exact ⟨rfl, ex⟩
set_option maxHeartbeats 800000 in
theorem r15_SameInts (A : Option Addr) (c : Nat) (l : List Int) (B : Option Addr) (d : Nat) (l' : List Int) (w : World) (hs : Sl w A 1 (l.map intR)) (hl : l.length ≤ maxLen) (hs' : Sl w B 1 (l'.map intR)) (hl' : l'.length ≤ maxLen) :
  Calls Tryz.prog 118 #[.slice A l.length c, .slice B l'.length d] w fun e w' => e = .returned (.bool (decide (l = l'))) ∧ Ext w w' := by
 unfold maxLen at hl hl'
 by_cases hn : l.length = l'.length
 ·have hb : ((l.length : Int) != (l'.length : Int)) = false := by simp [hn]
  have HN := Lib.hid hn
  have hle : l.length ≤ l'.length := by omega
  clear hn
  go_enter Tryz.func118, Tryz.ntmps118
  go_wp2
  go_loopw [5] (fun i wr => ∃ k : Nat, k ≤ l.length ∧ i = .int .i64 k ∧ Ext w wr ∧ Hid (l.take k = l'.take k)) (fun i _ => l.length - (intOf i).toNat)
  case atStart => exact ⟨0, by omega, rfl, Ext.refl _, Lib.hid (by simp)⟩
  case round =>
   obtain ⟨k, hk, rfl, hx, HE⟩ := hrel
   obtain ⟨y, rfl⟩ := hx.get
   clear hx
   by_cases hlt : k < l.length
   ·obtain ⟨m, hm⟩ : ∃ m, l[k]? = some m := ⟨_, List.getElem?_eq_getElem hlt⟩
    obtain ⟨m', hm'⟩ : ∃ m', l'[k]? = some m' := ⟨_, List.getElem?_eq_getElem (by omega)⟩
    have HM := Lib.hid hm
    have HM' := Lib.hid hm'
    obtain ⟨b, o, rfl, hc0⟩ := hs.row1 (i := k) (by rw [List.getElem?_map, hm]; rfl)
    obtain ⟨b', o', rfl, hd0⟩ := hs'.row1 (i := k) (by rw [List.getElem?_map, hm']; rfl)
    have hb0 : (0 : Int) ≤ (k : Int) := by omega
    have hb1 : (k : Int) < (l.length : Int) := by omega
    have hb2 : (k : Int) < (l'.length : Int) := by omega
    clear hm hm' hs hs'
    by_cases he : m = m'
    ·have hz : (m == m') = true := by simpa using he
     have hz' : (m != m') = false := by simpa using he
     have HK := Lib.hid (same_step HM.out HM'.out he HE.out)
     clear he
     go_wp2
     try (refine wp_region_grows (by kernel_rfl) (by kernel_rfl) ?_; (repeat (go_big_quiet_step (fail))); refine wpQuiet_nil ?_; rintro _ ⟨y, rfl⟩)
     try go_wp2
     go_light
     exact ⟨⟨k + 1, by omega, by go_num, ex, HK⟩, by simp [intOf]; omega⟩
    ·have hz : (m == m') = false := by simpa using he
     have hz' : (m != m') = true := by simpa using he
     have HK := Lib.hid (same_not HM.out HM'.out he)
     clear he
     go_wp2
     try (refine wp_region_grows (by kernel_rfl) (by kernel_rfl) ?_; (repeat (go_big_quiet_step (fail))); refine wpQuiet_nil ?_; rintro _ ⟨y, rfl⟩)
     try go_wp2
     go_ret
     rw [decide_eq_false HK.out]
     exact ⟨rfl, ex⟩
   ·have HK : Hid (l = l') := Lib.hid (by
     have := HE.out
     rwa [List.take_of_length_le (by omega), List.take_of_length_le (by have := HN.out; omega)] at this)
    go_wp2
    go_ret
    rw [decide_eq_true HK.out]
    exact ⟨rfl, ex⟩
 ·have hb : ((l.length : Int) != (l'.length : Int)) = true := by simp; omega
  have HN : Hid (l ≠ l') := Lib.hid fun e => hn (by rw [e])
  clear hn
  go_enter Tryz.func118, Tryz.ntmps118
  go_wp2
  go_ret
  rw [decide_eq_false HN.out]
  exact ⟨rfl, ex⟩
set_option maxHeartbeats 800000 in
theorem r14_SameInts (A : Option Addr) (c : Nat) (l : List Int) (B : Option Addr) (d : Nat) (l' : List Int) (w : World) (hs : Sl w A 1 (l.map intR)) (hl : l.length ≤ maxLen) (hs' : Sl w B 1 (l'.map intR)) (hl' : l'.length ≤ maxLen) :
  Calls Tryz.prog 210 #[.slice A l.length c, .slice B l'.length d] w fun e w' => e = .returned (.bool (decide (l = l'))) ∧ Ext w w' := by
 unfold maxLen at hl hl'
 by_cases hn : l.length = l'.length
 ·have hb : ((l.length : Int) != (l'.length : Int)) = false := by simp [hn]
  have HN := Lib.hid hn
  have hle : l.length ≤ l'.length := by omega
  clear hn
  go_enter Tryz.func210, Tryz.ntmps210
  go_wp2
  go_loopw [5] (fun i wr => ∃ k : Nat, k ≤ l.length ∧ i = .int .i64 k ∧ Ext w wr ∧ Hid (l.take k = l'.take k)) (fun i _ => l.length - (intOf i).toNat)
  case atStart => exact ⟨0, by omega, rfl, Ext.refl _, Lib.hid (by simp)⟩
  case round =>
   obtain ⟨k, hk, rfl, hx, HE⟩ := hrel
   obtain ⟨y, rfl⟩ := hx.get
   clear hx
   by_cases hlt : k < l.length
   ·obtain ⟨m, hm⟩ : ∃ m, l[k]? = some m := ⟨_, List.getElem?_eq_getElem hlt⟩
    obtain ⟨m', hm'⟩ : ∃ m', l'[k]? = some m' := ⟨_, List.getElem?_eq_getElem (by omega)⟩
    have HM := Lib.hid hm
    have HM' := Lib.hid hm'
    obtain ⟨b, o, rfl, hc0⟩ := hs.row1 (i := k) (by rw [List.getElem?_map, hm]; rfl)
    obtain ⟨b', o', rfl, hd0⟩ := hs'.row1 (i := k) (by rw [List.getElem?_map, hm']; rfl)
    have hb0 : (0 : Int) ≤ (k : Int) := by omega
    have hb1 : (k : Int) < (l.length : Int) := by omega
    have hb2 : (k : Int) < (l'.length : Int) := by omega
    clear hm hm' hs hs'
    by_cases he : m = m'
    ·have hz : (m == m') = true := by simpa using he
     have hz' : (m != m') = false := by simpa using he
     have HK := Lib.hid (same_step HM.out HM'.out he HE.out)
     clear he
     go_wp2
     try (refine wp_region_grows (by kernel_rfl) (by kernel_rfl) ?_; (repeat (go_big_quiet_step (fail))); refine wpQuiet_nil ?_; rintro _ ⟨y, rfl⟩)
     try go_wp2
     go_light
     exact ⟨⟨k + 1, by omega, by go_num, ex, HK⟩, by simp [intOf]; omega⟩
    ·have hz : (m == m') = false := by simpa using he
     have hz' : (m != m') = true := by simpa using he
     have HK := Lib.hid (same_not HM.out HM'.out he)
     clear he
     go_wp2
     try (refine wp_region_grows (by kernel_rfl) (by kernel_rfl) ?_; (repeat (go_big_quiet_step (fail))); refine wpQuiet_nil ?_; rintro _ ⟨y, rfl⟩)
     try go_wp2
     go_ret
     rw [decide_eq_false HK.out]
     exact ⟨rfl, ex⟩
   ·have HK : Hid (l = l') := Lib.hid (by
     have := HE.out
     rwa [List.take_of_length_le (by omega), List.take_of_length_le (by have := HN.out; omega)] at this)
    go_wp2
    go_ret
    rw [decide_eq_true HK.out]
    exact ⟨rfl, ex⟩
 ·have hb : ((l.length : Int) != (l'.length : Int)) = true := by simp; omega
  have HN : Hid (l ≠ l') := Lib.hid fun e => hn (by rw [e])
  clear hn
  go_enter Tryz.func210, Tryz.ntmps210
  go_wp2
  go_ret
  rw [decide_eq_false HN.out]
  exact ⟨rfl, ex⟩
set_option maxHeartbeats 800000 in
theorem r27_Same (A : Option Addr) (c : Nat) (l : List Pt) (B : Option Addr) (d : Nat) (l' : List Pt) (w : World) (hs : Sl w A 2 (l.map ptR)) (hl : l.length ≤ maxLen) (hs' : Sl w B 2 (l'.map ptR)) (hl' : l'.length ≤ maxLen) :
  Calls Tryz.prog 211 #[.slice A l.length c, .slice B l'.length d] w fun e w' => e = .returned (.bool (decide (l = l'))) ∧ Ext w w' := by
 unfold maxLen at hl hl'
 by_cases hn : l.length = l'.length
 ·have hb : ((l.length : Int) != (l'.length : Int)) = false := by simp [hn]
  have HN := Lib.hid hn
  have hle : l.length ≤ l'.length := by omega
  clear hn
  go_enter Tryz.func211, Tryz.ntmps211
  go_wp2
  go_loopw [5] (fun i wr => ∃ k : Nat, k ≤ l.length ∧ i = .int .i64 k ∧ Ext w wr ∧ Hid (l.take k = l'.take k)) (fun i _ => l.length - (intOf i).toNat)
  case atStart => exact ⟨0, by omega, rfl, Ext.refl _, Lib.hid (by simp)⟩
  case round =>
   obtain ⟨k, hk, rfl, hx, HE⟩ := hrel
   obtain ⟨y, rfl⟩ := hx.get
   clear hx
   by_cases hlt : k < l.length
   ·obtain ⟨m, hm⟩ : ∃ m, l[k]? = some m := ⟨_, List.getElem?_eq_getElem hlt⟩
    obtain ⟨m', hm'⟩ : ∃ m', l'[k]? = some m' := ⟨_, List.getElem?_eq_getElem (by omega)⟩
    have HM := Lib.hid hm
    have HM' := Lib.hid hm'
    obtain ⟨b, o, rfl, hc0, hc1⟩ := hs.row2 (i := k) (by rw [List.getElem?_map, hm]; rfl)
    obtain ⟨b', o', rfl, hd0, hd1⟩ := hs'.row2 (i := k) (by rw [List.getElem?_map, hm']; rfl)
    have hb0 : (0 : Int) ≤ (k : Int) := by omega
    have hb1 : (k : Int) < (l.length : Int) := by omega
    have hb2 : (k : Int) < (l'.length : Int) := by omega
    clear hm hm' hs hs'
    go_wp2
    (refine wp_region_grows (by kernel_rfl) (by kernel_rfl) ?_; (repeat (go_big_quiet_step (fail))); refine wpQuiet_nil ?_; rintro _ ⟨y, rfl⟩)
    by_cases he : m = m'
    ·have hz : eqO ⟨m.x, m.y⟩ ⟨m'.x, m'.y⟩ = true := by rw [eqO_def]; simpa using he
     rw [hz]
     have HK := Lib.hid (same_step HM.out HM'.out he HE.out)
     clear he
     go_wp2
     go_light
     exact ⟨⟨k + 1, by omega, by go_num, ex, HK⟩, by simp [intOf]; omega⟩
    ·have hz : eqO ⟨m.x, m.y⟩ ⟨m'.x, m'.y⟩ = false := by rw [eqO_def]; simpa using he
     rw [hz]
     have HK := Lib.hid (same_not HM.out HM'.out he)
     clear he
     go_wp2
     go_ret
     rw [decide_eq_false HK.out]
     exact ⟨rfl, ex⟩
   ·have HK : Hid (l = l') := Lib.hid (by
     have := HE.out
     rwa [List.take_of_length_le (by omega), List.take_of_length_le (by have := HN.out; omega)] at this)
    go_wp2
    go_ret
    rw [decide_eq_true HK.out]
    exact ⟨rfl, ex⟩
 ·have hb : ((l.length : Int) != (l'.length : Int)) = true := by simp; omega
  have HN : Hid (l ≠ l') := Lib.hid fun e => hn (by rw [e])
  clear hn
  go_enter Tryz.func211, Tryz.ntmps211
  go_wp2
  go_ret
  rw [decide_eq_false HN.out]
  exact ⟨rfl, ex⟩
end Go.Proofs.YtmhinhgflehkaaaGreat
