/-
  Lists of entries that are equal; few entries.
-/
import Derived.Test.YtgmicckeefoghaaSame
import Derived.Test.YtgmicckeefoghaaPure
namespace Go.Proofs.Ytgmicckeefoghaa
open Go.RowKit

def eqE (s t : Entry) : Bool := decide (s = t)
theorem eqE_def (m n : Entry) : eqE ⟨⟨m.p.ch, m.p.attr⟩, ⟨m.v.pal, m.v.lev⟩⟩ ⟨⟨n.p.ch, n.p.attr⟩, ⟨n.v.pal, n.v.lev⟩⟩ = decide (m = n) := rfl
@[go_sem high] theorem eqIn_en (w : World) (a b c d a' b' c' d' : Int) : (Op.equalIn 10000 107 (.agg #[.int .i64 a, .int .i64 b, .int .i64 c, .int .i64 d]) (.agg #[.int .i64 a', .int .i64 b', .int .i64 c', .int .i64 d'])).run Try.prog w = .ok (eqE ⟨⟨a, b⟩, ⟨c, d⟩⟩ ⟨⟨a', b'⟩, ⟨c', d'⟩⟩) w := by
  have hS : Try.prog.underlying 107 = some (.struct (Try.prog.fieldsOf 107)) := by kernel_rfl
  have hp : Try.prog.stoodInHeld 107 = false := by kernel_rfl
  have e1 := fun w => eqIn_prm w a b a' b'
  have e2 := fun w => eqIn_val w c d c' d'
  rw [show (10000 : Nat) = 9999 + 1 from rfl, run_equalIn_agg w 9999 107 _ _ hS hp]
  simp only [Program.fieldsOf, Try.underlying107]
  go_simp
  unfold eqE
  simp only [Entry.mk.injEq, Param.mk.injEq, Val.mk.injEq]
  by_cases h1 : a = a'
  · by_cases h2 : b = b'
    · by_cases h3 : c = c'
      · by_cases h4 : d = d' <;> simp [h1, h2, h3, h4]
      · simp [h1, h2, h3]
    · simp [h1, h2]
  · simp [h1]
@[go_sem] theorem guard_en (w : World) (op : BinOp) (x y : Operand) (xs ys : Array Value) : (eqGuard op 107 x y (.agg xs) (.agg ys)).run Try.prog w = .ok () w := run_eqGuard_agg w op _ x y xs ys (by kernel_rfl)

set_option maxHeartbeats 800000 in
theorem r15_SameEntries (A : Option Addr) (c : Nat) (l : List Entry) (B : Option Addr) (d : Nat) (l' : List Entry) (w : World) (hs : Sl w A 4 (l.map en)) (hl : l.length ≤ maxLen) (hs' : Sl w B 4 (l'.map en)) (hl' : l'.length ≤ maxLen) :
    Calls Try.prog 69 #[.slice A l.length c, .slice B l'.length d] w fun e w' => e = .returned (.bool (decide (l = l'))) ∧ Ext w w' := by
  unfold maxLen at hl hl'
  by_cases hn : l.length = l'.length
  · have hb : ((l.length : Int) != (l'.length : Int)) = false := by simp [hn]
    have HN := Lib.hid hn
    have hle : l.length ≤ l'.length := by omega
    clear hn
    go_enter Try.func69, Try.ntmps69
    go_wp2
    go_loopw [5] (fun i wr => ∃ k : Nat, k ≤ l.length ∧ i = .int .i64 k ∧ Ext w wr ∧ Hid (l.take k = l'.take k)) (fun i _ => l.length - (intOf i).toNat)
    case atStart => exact ⟨0, by omega, rfl, Ext.refl _, Lib.hid (by simp)⟩
    case round =>
      obtain ⟨k, hk, rfl, hx, HE⟩ := hrel
      obtain ⟨y, rfl⟩ := hx.get
      clear hx
      by_cases hlt : k < l.length
      · obtain ⟨m, hm⟩ : ∃ m, l[k]? = some m := ⟨_, List.getElem?_eq_getElem hlt⟩
        obtain ⟨m', hm'⟩ : ∃ m', l'[k]? = some m' := ⟨_, List.getElem?_eq_getElem (by omega)⟩
        have HM := Lib.hid hm
        have HM' := Lib.hid hm'
        obtain ⟨b, o, rfl, hc0, hc1, hc2, hc3⟩ := hs.row4 (i := k) (by rw [List.getElem?_map, hm]; rfl)
        obtain ⟨b', o', rfl, hd0, hd1, hd2, hd3⟩ := hs'.row4 (i := k) (by rw [List.getElem?_map, hm']; rfl)
        have hb0 : (0 : Int) ≤ (k : Int) := by omega
        have hb1 : (k : Int) < (l.length : Int) := by omega
        have hb2 : (k : Int) < (l'.length : Int) := by omega
        clear hm hm' hs hs'
        go_wp2
        (refine wp_region_grows (by kernel_rfl) (by kernel_rfl) ?_; (repeat (go_big_quiet_step (fail))); refine wpQuiet_nil ?_; rintro _ ⟨y, rfl⟩)
        by_cases he : m = m'
        · have hz : eqE ⟨⟨m.p.ch, m.p.attr⟩, ⟨m.v.pal, m.v.lev⟩⟩ ⟨⟨m'.p.ch, m'.p.attr⟩, ⟨m'.v.pal, m'.v.lev⟩⟩ = true := by rw [eqE_def]; simpa using he
          rw [hz]
          have HK := Lib.hid (same_step HM.out HM'.out he HE.out)
          clear he
          go_wp2
          go_light
          exact ⟨⟨k + 1, by omega, by go_num, by repeat (first | exact Ext.refl _ | assumption | apply Ext.xt | apply Ext.alloc | apply Ext.drew | apply Ext.drewN), HK⟩, by simp [intOf]; omega⟩
        · have hz : eqE ⟨⟨m.p.ch, m.p.attr⟩, ⟨m.v.pal, m.v.lev⟩⟩ ⟨⟨m'.p.ch, m'.p.attr⟩, ⟨m'.v.pal, m'.v.lev⟩⟩ = false := by rw [eqE_def]; simpa using he
          rw [hz]
          have HK := Lib.hid (same_not HM.out HM'.out he)
          clear he
          go_wp2
          go_ret
          rw [decide_eq_false HK.out]
          exact ⟨rfl, by repeat (first | exact Ext.refl _ | assumption | apply Ext.xt | apply Ext.alloc | apply Ext.drew | apply Ext.drewN)⟩
      · have HK : Hid (l = l') := Lib.hid (by
          have := HE.out
          rwa [List.take_of_length_le (by omega), List.take_of_length_le (by have := HN.out; omega)] at this)
        go_wp2
        go_ret
        rw [decide_eq_true HK.out]
        exact ⟨rfl, by repeat (first | exact Ext.refl _ | assumption | apply Ext.xt | apply Ext.alloc | apply Ext.drew | apply Ext.drewN)⟩
  · have hb : ((l.length : Int) != (l'.length : Int)) = true := by simp; omega
    have HN : Hid (l ≠ l') := Lib.hid fun e => hn (by rw [e])
    clear hn
    go_enter Try.func69, Try.ntmps69
    go_wp2
    go_ret
    rw [decide_eq_false HN.out]
    exact ⟨rfl, by repeat (first | exact Ext.refl _ | assumption | apply Ext.xt | apply Ext.alloc | apply Ext.drew | apply Ext.drewN)⟩

def fewE (l : List Entry) : Bool := decide (l.length ≤ 200) || decide (4096 < l.length)
set_option maxHeartbeats 400000 in
theorem r15_FewEntries (A : Option Addr) (c : Nat) (l : List Entry) (w : World) : Calls Try.prog 46 #[.slice A l.length c] w fun e w' => e = .returned (.bool (fewE l)) ∧ w = w' := by
  go_enter Try.func46, Try.ntmps46
  go_wp2
  all_goals
    go_ret
    go_light
    refine ⟨ret_b ?_, rfl⟩
    first | grind [fewE] | (simp [fewE]; omega)
end Go.Proofs.Ytgmicckeefoghaa
