/-
  The references' comparisons of the parts of an edit.
-/
import Derived.Test.YtlpboikonnpjbaaGreatGedit
import Derived.Test.YtlpboikonnpjbaaGreatEqs
namespace Go.Proofs.YtlpboikonnpjbaaGreat
open Go.RowKit

def sameGr (n : Int) (l : List Int) (m : Int) (k : List Int) : Bool := decide (n = m ∧ l = k)
def sameX (a b : Eff) : Bool := decide (a.number = b.number ∧ a.attr = b.attr ∧ a.wave.l = b.wave.l ∧ a.period = b.period ∧ a.spread = b.spread ∧ a.size = b.size)
def sameS (a b : Sub) : Bool := decide (a.number = b.number ∧ a.prio = b.prio ∧ a.inh = b.inh ∧ a.gains.l = b.gains.l)
def samePl (n : Int) (l : List Hue) (m : Int) (k : List Hue) : Bool := decide (n = m ∧ l = k)

set_option maxHeartbeats 800000 in
set_option maxRecDepth 100000 in
theorem r14_Same (n : Int) (l : Lst Int) (m : Int) (k : Lst Int) (w : World) (hl : LstAt w 1 intR l) (hk : LstAt w 1 intR k) :
    Calls Tryz.prog 149 #[.agg #[.int .i64 n, .slice l.at_ l.l.length l.cap], .agg #[.int .i64 m, .slice k.at_ k.l.length k.cap]] w fun e w' => e = .returned (.bool (sameGr n l.l m k.l)) ∧ Ext w w' := by
  have HL := Lib.hid hl
  have HK := Lib.hid hk
  clear hl hk
  go_enter Tryz.func149, Tryz.ntmps149
  go_wp2_with (go_at_call 185; refine (r14_SameInts l.at_ l.cap l.l k.at_ k.cap k.l _ (HL.out.sl.mono (by repeat (first | exact Ext.refl _ | assumption | apply Ext.xt | apply Ext.alloc | apply Ext.drew | apply Ext.drewN))) HL.out.len (HK.out.sl.mono (by repeat (first | exact Ext.refl _ | assumption | apply Ext.xt | apply Ext.alloc | apply Ext.drew | apply Ext.drewN))) HK.out.len).mono ?_; rintro e w' ⟨rfl, hx⟩; obtain ⟨y, rfl⟩ := hx.get; clear hx)
  all_goals
    go_ret
    refine ⟨ret_b ?_, by repeat (first | exact Ext.refl _ | assumption | apply Ext.xt | apply Ext.alloc | apply Ext.drew | apply Ext.drewN)⟩
    unfold sameGr
    grind
set_option maxHeartbeats 1600000 in
set_option maxRecDepth 100000 in
theorem r28_SameEffect (a b : Eff) (w : World) (ha : LstAt w 2 ptR a.wave) (hb : LstAt w 2 ptR b.wave) :
    Calls Tryz.prog 151 #[.agg (effR a).toArray, .agg (effR b).toArray] w fun e w' => e = .returned (.bool (sameX a b)) ∧ Ext w w' := by
  have HA := Lib.hid ha
  have HB := Lib.hid hb
  clear ha hb
  simp only [effR]
  go_enter Tryz.func151, Tryz.ntmps151
  go_wp2_with (go_at_call 186; refine (r27_Same a.wave.at_ a.wave.cap a.wave.l b.wave.at_ b.wave.cap b.wave.l _ (HA.out.sl.mono (by repeat (first | exact Ext.refl _ | assumption | apply Ext.xt | apply Ext.alloc | apply Ext.drew | apply Ext.drewN))) HA.out.len (HB.out.sl.mono (by repeat (first | exact Ext.refl _ | assumption | apply Ext.xt | apply Ext.alloc | apply Ext.drew | apply Ext.drewN))) HB.out.len).mono ?_; rintro e w' ⟨rfl, hx⟩; obtain ⟨y, rfl⟩ := hx.get; clear hx)
  all_goals
    go_ret
    refine ⟨ret_b ?_, by repeat (first | exact Ext.refl _ | assumption | apply Ext.xt | apply Ext.alloc | apply Ext.drew | apply Ext.drewN)⟩
    unfold sameX
    grind

set_option maxHeartbeats 3200000 in
set_option maxRecDepth 100000 in
theorem r26_Same (a b : Sub) (w : World) (ha : LstAt w 3 gainR a.gains) (hb : LstAt w 3 gainR b.gains) :
    Calls Tryz.prog 150 #[.agg (subR a).toArray, .agg (subR b).toArray] w fun e w' => e = .returned (.bool (sameS a b)) ∧ Ext w w' := by
  have hl := ha.len
  have hl' := hb.len
  have hs := ha.sl
  have hs' := hb.sl
  obtain ⟨n, p, i, ⟨l, A, c⟩⟩ := a
  obtain ⟨n', p', i', ⟨l', A', c'⟩⟩ := b
  clear ha hb
  simp only [subR] at hl hl' hs hs' ⊢
  unfold maxLen at hl hl'
  by_cases hh : n = n' ∧ p = p' ∧ i = i' ∧ l.length = l'.length
  · obtain ⟨rfl, rfl, rfl, hn⟩ := hh
    have hb : ((l.length : Int) != (l'.length : Int)) = false := by simp [hn]
    have HN := Lib.hid hn
    have hle : l.length ≤ l'.length := by omega
    clear hn
    go_enter Tryz.func150, Tryz.ntmps150
    go_wp2
    go_loopw [5] (fun q wr => ∃ k : Nat, k ≤ l.length ∧ q = .int .i64 k ∧ Ext ((w.alloc (.cells #[.int .i64 n, .int .i64 p, .bool i, .slice A l.length c] 36)).alloc (.cells #[.int .i64 n, .int .i64 p, .bool i, .slice A' l'.length c'] 36)) wr ∧ Hid (l.take k = l'.take k)) (fun q _ => l.length - (intOf q).toNat)
    case atStart => exact ⟨0, by omega, rfl, Ext.refl _, Lib.hid (by simp)⟩
    case round =>
      obtain ⟨k, hk, rfl, hx, HE⟩ := hrel
      obtain ⟨y, rfl⟩ := hx.get
      clear hx
      by_cases hlt : k < l.length
      · obtain ⟨m, hm⟩ : ∃ m, l[k]? = some m := ⟨_, List.getElem?_eq_getElem hlt⟩
        obtain ⟨m', hm'⟩ : ∃ m', l'[k]? = some m' := ⟨_, List.getElem?_eq_getElem (by omega)⟩
        have HM := Lib.hid hm
        have HM' := Lib.hid hm'
        obtain ⟨b, o, rfl, hc0, hc1, hc2⟩ := hs.row3 (i := k) (by rw [List.getElem?_map, hm]; rfl)
        obtain ⟨b', o', rfl, hd0, hd1, hd2⟩ := hs'.row3 (i := k) (by rw [List.getElem?_map, hm']; rfl)
        have hb0 : (0 : Int) ≤ (k : Int) := by omega
        have hb1 : (k : Int) < (l.length : Int) := by omega
        have hb2 : (k : Int) < (l'.length : Int) := by omega
        clear hm hm' hs hs'
        go_wp2
        (refine wp_region_grows (by kernel_rfl) (by kernel_rfl) ?_; (repeat (go_big_quiet_step (fail))); refine wpQuiet_nil ?_; rintro _ ⟨y, rfl⟩)
        by_cases he : m = m'
        · have hz : eqG ⟨⟨m.p.ch, m.p.attr⟩, m.lev⟩ ⟨⟨m'.p.ch, m'.p.attr⟩, m'.lev⟩ = true := by rw [eqG_def]; simpa using he
          rw [hz]
          have HK := Lib.hid (same_step HM.out HM'.out he HE.out)
          clear he
          go_wp2
          go_light
          exact ⟨⟨k + 1, by omega, by go_num, by repeat (first | exact Ext.refl _ | assumption | apply Ext.xt | apply Ext.alloc | apply Ext.drew | apply Ext.drewN), HK⟩, by simp [intOf]; omega⟩
        · have hz : eqG ⟨⟨m.p.ch, m.p.attr⟩, m.lev⟩ ⟨⟨m'.p.ch, m'.p.attr⟩, m'.lev⟩ = false := by rw [eqG_def]; simpa using he
          rw [hz]
          have HK := Lib.hid (same_not HM.out HM'.out he)
          clear he
          go_wp2
          go_ret
          refine ⟨ret_b ?_, by repeat (first | exact Ext.refl _ | assumption | apply Ext.xt | apply Ext.alloc | apply Ext.drew | apply Ext.drewN)⟩
          exact (decide_eq_false fun h => HK.out h.2.2.2).symm
      · have HK : Hid (l = l') := Lib.hid (by
          have := HE.out
          rwa [List.take_of_length_le (by omega), List.take_of_length_le (by have := HN.out; omega)] at this)
        go_wp2
        go_ret
        refine ⟨ret_b ?_, by repeat (first | exact Ext.refl _ | assumption | apply Ext.xt | apply Ext.alloc | apply Ext.drew | apply Ext.drewN)⟩
        exact (decide_eq_true ⟨rfl, rfl, rfl, HK.out⟩).symm
  · have HH := Lib.hid hh
    have hV : sameS ⟨n, p, i, ⟨l, A, c⟩⟩ ⟨n', p', i', ⟨l', A', c'⟩⟩ = false := decide_eq_false fun h => hh ⟨h.1, h.2.1, h.2.2.1, congrArg List.length h.2.2.2⟩
    have HV := Lib.hid hV
    clear hh hV hs hs'
    by_cases h1 : n = n'
    · by_cases h2 : p = p'
      · by_cases h3 : i = i'
        · have hb : ((l.length : Int) != (l'.length : Int)) = true := by
            simp only [bne_iff_ne, ne_eq]; intro h; exact HH.out ⟨h1, h2, h3, by omega⟩
          subst h1 h2 h3
          go_enter Tryz.func150, Tryz.ntmps150
          go_wp2
          go_ret
          exact ⟨ret_b HV.out.symm, by repeat (first | exact Ext.refl _ | assumption | apply Ext.xt | apply Ext.alloc | apply Ext.drew | apply Ext.drewN)⟩
        · subst h1 h2
          cases i <;> cases i'
          · exact absurd rfl h3
          · clear h3
            go_enter Tryz.func150, Tryz.ntmps150
            go_wp2
            go_ret
            exact ⟨ret_b HV.out.symm, by repeat (first | exact Ext.refl _ | assumption | apply Ext.xt | apply Ext.alloc | apply Ext.drew | apply Ext.drewN)⟩
          · clear h3
            go_enter Tryz.func150, Tryz.ntmps150
            go_wp2
            go_ret
            exact ⟨ret_b HV.out.symm, by repeat (first | exact Ext.refl _ | assumption | apply Ext.xt | apply Ext.alloc | apply Ext.drew | apply Ext.drewN)⟩
          · exact absurd rfl h3
      · have hz : (p != p') = true := by simpa using h2
        subst h1
        clear h2
        go_enter Tryz.func150, Tryz.ntmps150
        go_wp2
        go_ret
        exact ⟨ret_b HV.out.symm, by repeat (first | exact Ext.refl _ | assumption | apply Ext.xt | apply Ext.alloc | apply Ext.drew | apply Ext.drewN)⟩
    · have hz : (n != n') = true := by simpa using h1
      clear h1
      go_enter Tryz.func150, Tryz.ntmps150
      go_wp2
      go_ret
      exact ⟨ret_b HV.out.symm, by repeat (first | exact Ext.refl _ | assumption | apply Ext.xt | apply Ext.alloc | apply Ext.drew | apply Ext.drewN)⟩
end Go.Proofs.YtlpboikonnpjbaaGreat
