/-
  Lists of moves and cues that are equal.
-/
import Derived.Test.YtgmicckeefoghaaEq2
namespace Go.Proofs.Ytgmicckeefoghaa
open Go.RowKit

theorem eqM_def (m n : Move) : eqM ⟨⟨m.p.ch, m.p.attr⟩, ⟨m.v.pal, m.v.lev⟩, m.part⟩ ⟨⟨n.p.ch, n.p.attr⟩, ⟨n.v.pal, n.v.lev⟩, n.part⟩ = decide (m = n) := rfl
theorem eqT_def (m n : Timing) : eqT ⟨m.up, m.down, m.pos, m.col, m.beam, m.del⟩ ⟨n.up, n.down, n.pos, n.col, n.beam, n.del⟩ = decide (m = n) := rfl
theorem same_step {α : Type} {l l' : List α} {k : Nat} {m m' : α} (h : l[k]? = some m) (h' : l'[k]? = some m') (he : m = m') (hk : l.take k = l'.take k) : l.take (k + 1) = l'.take (k + 1) := by
  obtain ⟨h1, h2⟩ := List.getElem?_eq_some_iff.1 h
  obtain ⟨h3, h4⟩ := List.getElem?_eq_some_iff.1 h'
  rw [List.take_succ_eq_append_getElem h1, List.take_succ_eq_append_getElem h3, hk, h2, h4, he]
theorem same_not {α : Type} {l l' : List α} {k : Nat} {m m' : α} (h : l[k]? = some m) (h' : l'[k]? = some m') (he : m ≠ m') : l ≠ l' := fun e => by
  rw [e, h'] at h; injection h with h; exact he h.symm

set_option maxHeartbeats 800000 in
theorem r16_SameMoves (A : Option Addr) (c : Nat) (l : List Move) (B : Option Addr) (d : Nat) (l' : List Move) (w : World) (hs : Sl w A 5 (l.map mv)) (hl : l.length ≤ maxLen) (hs' : Sl w B 5 (l'.map mv)) (hl' : l'.length ≤ maxLen) :
    Calls Try.prog 45 #[.slice A l.length c, .slice B l'.length d] w fun e w' => e = .returned (.bool (decide (l = l'))) ∧ Ext w w' := by
  unfold maxLen at hl hl'
  by_cases hn : l.length = l'.length
  · have hb : ((l.length : Int) != (l'.length : Int)) = false := by simp [hn]
    have HN := Lib.hid hn
    have hle : l.length ≤ l'.length := by omega
    clear hn
    go_enter Try.func45, Try.ntmps45
    go_wp2
    go_loopw [5] (fun i wr => ∃ k : Nat, k ≤ l.length ∧ i = .int .i64 k ∧ Ext w wr ∧ Hid (l.take k = l'.take k)) (fun i _ => l.length - (intOf i).toNat)
    case atStart => exact ⟨0, by omega, rfl, Ext.refl _, Lib.hid (by simp)⟩
    case round =>
      obtain ⟨k, hk, rfl, hx, HE⟩ := hrel
      obtain ⟨y, rfl⟩ := hx.get
      clear hx
      by_cases hlt : k < l.length
      · obtain ⟨m, hm⟩ : ∃ m, l[k]? = some m := ⟨_, List.getElem?_eq_getElem hlt⟩
        obtain ⟨m', hm'⟩ : ∃ m', l'[k]? = some m' := ⟨_, List.getElem?_eq_getElem (by omega)⟩
        have HM := Lib.hid hm
        have HM' := Lib.hid hm'
        obtain ⟨b, o, rfl, hc0, hc1, hc2, hc3, hc4⟩ := hs.row5 (i := k) (by rw [List.getElem?_map, hm]; rfl)
        obtain ⟨b', o', rfl, hd0, hd1, hd2, hd3, hd4⟩ := hs'.row5 (i := k) (by rw [List.getElem?_map, hm']; rfl)
        have hb0 : (0 : Int) ≤ (k : Int) := by omega
        have hb1 : (k : Int) < (l.length : Int) := by omega
        have hb2 : (k : Int) < (l'.length : Int) := by omega
        clear hm hm' hs hs'
        go_wp2
        (refine wp_region_grows (by kernel_rfl) (by kernel_rfl) ?_; (repeat (go_big_quiet_step (fail))); refine wpQuiet_nil ?_; rintro _ ⟨y, rfl⟩)
        by_cases he : m = m'
        · have hz : eqM ⟨⟨m.p.ch, m.p.attr⟩, ⟨m.v.pal, m.v.lev⟩, m.part⟩ ⟨⟨m'.p.ch, m'.p.attr⟩, ⟨m'.v.pal, m'.v.lev⟩, m'.part⟩ = true := by rw [eqM_def]; simpa using he
          rw [hz]
          have HK := Lib.hid (same_step HM.out HM'.out he HE.out)
          clear he
          go_wp2
          go_light
          exact ⟨⟨k + 1, by omega, by go_num, by repeat (first | exact Ext.refl _ | assumption | apply Ext.xt | apply Ext.alloc | apply Ext.drew | apply Ext.drewN), HK⟩, by simp [intOf]; omega⟩
        · have hz : eqM ⟨⟨m.p.ch, m.p.attr⟩, ⟨m.v.pal, m.v.lev⟩, m.part⟩ ⟨⟨m'.p.ch, m'.p.attr⟩, ⟨m'.v.pal, m'.v.lev⟩, m'.part⟩ = false := by rw [eqM_def]; simpa using he
          rw [hz]
          have HK := Lib.hid (same_not HM.out HM'.out he)
          clear he
          go_wp2
          go_ret
          rw [decide_eq_false HK.out]
          exact ⟨rfl, by repeat (first | exact Ext.refl _ | assumption | apply Ext.xt | apply Ext.alloc | apply Ext.drew | apply Ext.drewN)⟩
      · have HK : Hid (l = l') := Lib.hid (by
          have := HE.out
          rwa [List.take_of_length_le (by omega), List.take_of_length_le (by have := HN.out; omega)] at this)
        go_wp2
        go_ret
        rw [decide_eq_true HK.out]
        exact ⟨rfl, by repeat (first | exact Ext.refl _ | assumption | apply Ext.xt | apply Ext.alloc | apply Ext.drew | apply Ext.drewN)⟩
  · have hb : ((l.length : Int) != (l'.length : Int)) = true := by simp; omega
    have HN : Hid (l ≠ l') := Lib.hid fun e => hn (by rw [e])
    clear hn
    go_enter Try.func45, Try.ntmps45
    go_wp2
    go_ret
    rw [decide_eq_false HN.out]
    exact ⟨rfl, by repeat (first | exact Ext.refl _ | assumption | apply Ext.xt | apply Ext.alloc | apply Ext.drew | apply Ext.drewN)⟩
end Go.Proofs.Ytgmicckeefoghaa
