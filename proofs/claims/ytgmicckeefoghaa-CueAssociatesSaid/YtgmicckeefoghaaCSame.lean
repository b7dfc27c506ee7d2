/-
  slices.Equal at moves and at timings; the program's Same of cues.
-/
import Derived.Test.YtgmicckeefoghaaSame
namespace Go.Proofs.Ytgmicckeefoghaa
open Go.RowKit

set_option maxHeartbeats 800000 in
theorem Equal_M (A : Option Addr) (c : Nat) (l : List Move) (B : Option Addr) (d : Nat) (l' : List Move) (w : World) (hs : Sl w A 5 (l.map mv)) (hl : l.length ≤ maxLen) (hs' : Sl w B 5 (l'.map mv)) (hl' : l'.length ≤ maxLen) :
    Calls Try.prog 60 #[.slice A l.length c, .slice B l'.length d] w fun e w' => e = .returned (.bool (decide (l = l'))) ∧ Ext w w' := by
  unfold maxLen at hl hl'
  by_cases hn : l.length = l'.length
  · have hb : ((l.length : Int) != (l'.length : Int)) = false := by simp [hn]
    have HN := Lib.hid hn
    have hle : l.length ≤ l'.length := by omega
    clear hn
    go_enter Try.func60, Try.ntmps60
    go_wp2
    go_loopw [13] (fun i wr => ∃ k : Nat, k ≤ l.length ∧ i = .int .i64 k ∧ Ext w wr ∧ Hid (l.take k = l'.take k)) (fun i _ => l.length - (intOf i).toNat)
    case atStart => exact ⟨0, by omega, rfl, Ext.refl _, Lib.hid (by simp)⟩
    case round =>
      obtain ⟨k, hk, rfl, hx, HE⟩ := hrel
      obtain ⟨y, rfl⟩ := hx.get
      clear hx
      by_cases hlt : k < l.length
      · obtain ⟨m, hm⟩ : ∃ m, l[k]? = some m := ⟨_, List.getElem?_eq_getElem hlt⟩
        obtain ⟨m', hm'⟩ : ∃ m', l'[k]? = some m' := ⟨_, List.getElem?_eq_getElem (by omega)⟩
        have HM := Lib.hid hm
        have HM' := Lib.hid hm'
        obtain ⟨b, o, rfl, hc0, hc1, hc2, hc3, hc4⟩ := hs.row5 (i := k) (by rw [List.getElem?_map, hm]; rfl)
        obtain ⟨b', o', rfl, hd0, hd1, hd2, hd3, hd4⟩ := hs'.row5 (i := k) (by rw [List.getElem?_map, hm']; rfl)
        have hb0 : (0 : Int) ≤ (k : Int) := by omega
        have hb1 : (k : Int) < (l.length : Int) := by omega
        have hb2 : (k : Int) < (l'.length : Int) := by omega
        clear hm hm' hs hs'
        go_wp2
        (refine wp_region_grows (by kernel_rfl) (by kernel_rfl) ?_; (repeat (go_big_quiet_step (fail))); refine wpQuiet_nil ?_; rintro _ ⟨y, rfl⟩)
        by_cases he : m = m'
        · have hz : eqM ⟨⟨m.p.ch, m.p.attr⟩, ⟨m.v.pal, m.v.lev⟩, m.part⟩ ⟨⟨m'.p.ch, m'.p.attr⟩, ⟨m'.v.pal, m'.v.lev⟩, m'.part⟩ = true := by rw [eqM_def]; simpa using he
          rw [hz]
          have HK := Lib.hid (same_step HM.out HM'.out he HE.out)
          clear he
          go_wp2
          go_light
          exact ⟨⟨k + 1, by omega, by go_num, by repeat (first | exact Ext.refl _ | assumption | apply Ext.xt | apply Ext.alloc | apply Ext.drew | apply Ext.drewN), HK⟩, by simp [intOf]; omega⟩
        · have hz : eqM ⟨⟨m.p.ch, m.p.attr⟩, ⟨m.v.pal, m.v.lev⟩, m.part⟩ ⟨⟨m'.p.ch, m'.p.attr⟩, ⟨m'.v.pal, m'.v.lev⟩, m'.part⟩ = false := by rw [eqM_def]; simpa using he
          rw [hz]
          have HK := Lib.hid (same_not HM.out HM'.out he)
          clear he
          go_wp2
          go_ret
          rw [decide_eq_false HK.out]
          exact ⟨rfl, by repeat (first | exact Ext.refl _ | assumption | apply Ext.xt | apply Ext.alloc | apply Ext.drew | apply Ext.drewN)⟩
      · have HK : Hid (l = l') := Lib.hid (by
          have := HE.out
          rwa [List.take_of_length_le (by omega), List.take_of_length_le (by have := HN.out; omega)] at this)
        go_wp2
        go_ret
        rw [decide_eq_true HK.out]
        exact ⟨rfl, by repeat (first | exact Ext.refl _ | assumption | apply Ext.xt | apply Ext.alloc | apply Ext.drew | apply Ext.drewN)⟩
  · have hb : ((l.length : Int) != (l'.length : Int)) = true := by simp; omega
    have HN : Hid (l ≠ l') := Lib.hid fun e => hn (by rw [e])
    clear hn
    go_enter Try.func60, Try.ntmps60
    go_wp2
    go_ret
    rw [decide_eq_false HN.out]
    exact ⟨rfl, by repeat (first | exact Ext.refl _ | assumption | apply Ext.xt | apply Ext.alloc | apply Ext.drew | apply Ext.drewN)⟩
set_option maxHeartbeats 800000 in
theorem Equal_T (A : Option Addr) (c : Nat) (l : List Timing) (B : Option Addr) (d : Nat) (l' : List Timing) (w : World) (hs : Sl w A 6 (l.map tmg)) (hl : l.length ≤ maxLen) (hs' : Sl w B 6 (l'.map tmg)) (hl' : l'.length ≤ maxLen) :
    Calls Try.prog 128 #[.slice A l.length c, .slice B l'.length d] w fun e w' => e = .returned (.bool (decide (l = l'))) ∧ Ext w w' := by
  unfold maxLen at hl hl'
  by_cases hn : l.length = l'.length
  · have hb : ((l.length : Int) != (l'.length : Int)) = false := by simp [hn]
    have HN := Lib.hid hn
    have hle : l.length ≤ l'.length := by omega
    clear hn
    go_enter Try.func128, Try.ntmps128
    go_wp2
    go_loopw [13] (fun i wr => ∃ k : Nat, k ≤ l.length ∧ i = .int .i64 k ∧ Ext w wr ∧ Hid (l.take k = l'.take k)) (fun i _ => l.length - (intOf i).toNat)
    case atStart => exact ⟨0, by omega, rfl, Ext.refl _, Lib.hid (by simp)⟩
    case round =>
      obtain ⟨k, hk, rfl, hx, HE⟩ := hrel
      obtain ⟨y, rfl⟩ := hx.get
      clear hx
      by_cases hlt : k < l.length
      · obtain ⟨m, hm⟩ : ∃ m, l[k]? = some m := ⟨_, List.getElem?_eq_getElem hlt⟩
        obtain ⟨m', hm'⟩ : ∃ m', l'[k]? = some m' := ⟨_, List.getElem?_eq_getElem (by omega)⟩
        have HM := Lib.hid hm
        have HM' := Lib.hid hm'
        obtain ⟨b, o, rfl, hc0, hc1, hc2, hc3, hc4, hc5⟩ := hs.row6 (i := k) (by rw [List.getElem?_map, hm]; rfl)
        obtain ⟨b', o', rfl, hd0, hd1, hd2, hd3, hd4, hd5⟩ := hs'.row6 (i := k) (by rw [List.getElem?_map, hm']; rfl)
        have hb0 : (0 : Int) ≤ (k : Int) := by omega
        have hb1 : (k : Int) < (l.length : Int) := by omega
        have hb2 : (k : Int) < (l'.length : Int) := by omega
        clear hm hm' hs hs'
        go_wp2
        (refine wp_region_grows (by kernel_rfl) (by kernel_rfl) ?_; (repeat (go_big_quiet_step (fail))); refine wpQuiet_nil ?_; rintro _ ⟨y, rfl⟩)
        by_cases he : m = m'
        · have hz : eqT ⟨m.up, m.down, m.pos, m.col, m.beam, m.del⟩ ⟨m'.up, m'.down, m'.pos, m'.col, m'.beam, m'.del⟩ = true := by rw [eqT_def]; simpa using he
          rw [hz]
          have HK := Lib.hid (same_step HM.out HM'.out he HE.out)
          clear he
          go_wp2
          go_light
          exact ⟨⟨k + 1, by omega, by go_num, by repeat (first | exact Ext.refl _ | assumption | apply Ext.xt | apply Ext.alloc | apply Ext.drew | apply Ext.drewN), HK⟩, by simp [intOf]; omega⟩
        · have hz : eqT ⟨m.up, m.down, m.pos, m.col, m.beam, m.del⟩ ⟨m'.up, m'.down, m'.pos, m'.col, m'.beam, m'.del⟩ = false := by rw [eqT_def]; simpa using he
          rw [hz]
          have HK := Lib.hid (same_not HM.out HM'.out he)
          clear he
          go_wp2
          go_ret
          rw [decide_eq_false HK.out]
          exact ⟨rfl, by repeat (first | exact Ext.refl _ | assumption | apply Ext.xt | apply Ext.alloc | apply Ext.drew | apply Ext.drewN)⟩
      · have HK : Hid (l = l') := Lib.hid (by
          have := HE.out
          rwa [List.take_of_length_le (by omega), List.take_of_length_le (by have := HN.out; omega)] at this)
        go_wp2
        go_ret
        rw [decide_eq_true HK.out]
        exact ⟨rfl, by repeat (first | exact Ext.refl _ | assumption | apply Ext.xt | apply Ext.alloc | apply Ext.drew | apply Ext.drewN)⟩
  · have hb : ((l.length : Int) != (l'.length : Int)) = true := by simp; omega
    have HN : Hid (l ≠ l') := Lib.hid fun e => hn (by rw [e])
    clear hn
    go_enter Try.func128, Try.ntmps128
    go_wp2
    go_ret
    rw [decide_eq_false HN.out]
    exact ⟨rfl, by repeat (first | exact Ext.refl _ | assumption | apply Ext.xt | apply Ext.alloc | apply Ext.drew | apply Ext.drewN)⟩

set_option maxHeartbeats 1600000 in
theorem cue_Same (c : Cue) (A : Option Addr) (k : Nat) (B : Option Addr) (m : Nat) (d : Cue) (A' : Option Addr) (k' : Nat) (B' : Option Addr) (m' : Nat) (w : World) (hc : CueAt w c A k B m) (hd : CueAt w d A' k' B' m') :
    Calls Try.prog 65 #[.agg (cueV c A k B m).toArray, .agg (cueV d A' k' B' m').toArray] w fun e w' => e = .returned (.bool (decide (c = d))) ∧ Ext w w' := by
  have HC := Lib.hid hc
  have HD := Lib.hid hd
  have hl : c.moves.length ≤ maxLen := Nat.le_trans hc.hk hc.hk'
  have hl' : d.moves.length ≤ maxLen := Nat.le_trans hd.hk hd.hk'
  have hp : c.parts.length ≤ maxLen := Nat.le_trans hc.hm hc.hm'
  have hp' : d.parts.length ≤ maxLen := Nat.le_trans hd.hm hd.hm'
  clear hc hd
  by_cases hM : c.moves = d.moves ∧ c.parts = d.parts
  · obtain ⟨hm1, hm2⟩ := hM
    have hz1 : decide (c.moves = d.moves) = true := by simpa using hm1
    have hz2 : decide (c.parts = d.parts) = true := by simpa using hm2
    have HE := Lib.hid (show decide (c = d) = (decide (c.number.toList = d.number.toList) && decide (c.label.toList = d.label.toList) && (c.block == d.block) && (c.mark == d.mark) && (c.follow == d.follow) && decide (c.link.toList = d.link.toList) && (c.loops == d.loops)) by
      have h1 := cue_eq c d
      have e : ∀ a b : ByteArray, (a.toList = b.toList) ↔ a = b := fun a b => ⟨bytes_ext, fun h => by rw [h]⟩
      rw [Bool.eq_iff_iff]
      simp only [decide_eq_true_iff, Bool.and_eq_true, beq_iff_eq, e]
      rw [← h1]
      simp [hm1, hm2, and_assoc])
    clear hm1 hm2
    simp only [cueV]
    go_enter Try.func65, Try.ntmps65
    go_wp2_with (first
      | (go_at_call 60; refine (Equal_M A k c.moves A' k' d.moves _ (HC.out.mv.mono (by repeat (first | exact Ext.refl _ | assumption | apply Ext.xt | apply Ext.alloc | apply Ext.drew | apply Ext.drewN))) hl (HD.out.mv.mono (by repeat (first | exact Ext.refl _ | assumption | apply Ext.xt | apply Ext.alloc | apply Ext.drew | apply Ext.drewN))) hl').mono ?_; rintro e w' ⟨rfl, hx⟩; obtain ⟨y, rfl⟩ := hx.get; clear hx)
      | (go_at_call 128; refine (Equal_T B m c.parts B' m' d.parts _ (HC.out.pt.mono (by repeat (first | exact Ext.refl _ | assumption | apply Ext.xt | apply Ext.alloc | apply Ext.drew | apply Ext.drewN))) hp (HD.out.pt.mono (by repeat (first | exact Ext.refl _ | assumption | apply Ext.xt | apply Ext.alloc | apply Ext.drew | apply Ext.drewN))) hp').mono ?_; rintro e w' ⟨rfl, hx⟩; obtain ⟨y, rfl⟩ := hx.get; clear hx))
    all_goals
      go_ret
      go_light
      rw [HE.out]
      refine ⟨ret_b ?_, by repeat (first | exact Ext.refl _ | assumption | apply Ext.xt | apply Ext.alloc | apply Ext.drew | apply Ext.drewN)⟩
      simp [*]
  · have HF : Hid (decide (c = d) = false) := Lib.hid (decide_eq_false fun h => hM (by rw [h]; exact ⟨rfl, rfl⟩))
    by_cases hm1 : c.moves = d.moves
    · have hz1 : decide (c.moves = d.moves) = true := by simpa using hm1
      have hz2 : decide (c.parts = d.parts) = false := by simpa using fun h => hM ⟨hm1, h⟩
      clear hM hm1
      simp only [cueV]
      go_enter Try.func65, Try.ntmps65
      go_wp2_with (first
        | (go_at_call 60; refine (Equal_M A k c.moves A' k' d.moves _ (HC.out.mv.mono (by repeat (first | exact Ext.refl _ | assumption | apply Ext.xt | apply Ext.alloc | apply Ext.drew | apply Ext.drewN))) hl (HD.out.mv.mono (by repeat (first | exact Ext.refl _ | assumption | apply Ext.xt | apply Ext.alloc | apply Ext.drew | apply Ext.drewN))) hl').mono ?_; rintro e w' ⟨rfl, hx⟩; obtain ⟨y, rfl⟩ := hx.get; clear hx)
        | (go_at_call 128; refine (Equal_T B m c.parts B' m' d.parts _ (HC.out.pt.mono (by repeat (first | exact Ext.refl _ | assumption | apply Ext.xt | apply Ext.alloc | apply Ext.drew | apply Ext.drewN))) hp (HD.out.pt.mono (by repeat (first | exact Ext.refl _ | assumption | apply Ext.xt | apply Ext.alloc | apply Ext.drew | apply Ext.drewN))) hp').mono ?_; rintro e w' ⟨rfl, hx⟩; obtain ⟨y, rfl⟩ := hx.get; clear hx))
      go_ret
      rw [HF.out]
      exact ⟨rfl, by repeat (first | exact Ext.refl _ | assumption | apply Ext.xt | apply Ext.alloc | apply Ext.drew | apply Ext.drewN)⟩
    · have hz1 : decide (c.moves = d.moves) = false := by simpa using hm1
      clear hM hm1
      simp only [cueV]
      go_enter Try.func65, Try.ntmps65
      go_wp2_with (go_at_call 60; refine (Equal_M A k c.moves A' k' d.moves _ (HC.out.mv.mono (by repeat (first | exact Ext.refl _ | assumption | apply Ext.xt | apply Ext.alloc | apply Ext.drew | apply Ext.drewN))) hl (HD.out.mv.mono (by repeat (first | exact Ext.refl _ | assumption | apply Ext.xt | apply Ext.alloc | apply Ext.drew | apply Ext.drewN))) hl').mono ?_; rintro e w' ⟨rfl, hx⟩; obtain ⟨y, rfl⟩ := hx.get; clear hx)
      go_ret
      rw [HF.out]
      exact ⟨rfl, by repeat (first | exact Ext.refl _ | assumption | apply Ext.xt | apply Ext.alloc | apply Ext.drew | apply Ext.drewN)⟩
end Go.Proofs.Ytgmicckeefoghaa
