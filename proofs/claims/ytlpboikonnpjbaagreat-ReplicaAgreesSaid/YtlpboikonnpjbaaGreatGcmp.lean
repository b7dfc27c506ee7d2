/-
  The references' comparisons of the parts of an edit.
-/
import Derived.Test.YtlpboikonnpjbaaGreatGedit
import Derived.Test.YtlpboikonnpjbaaGreatEqs
import Derived.Test.YtlpboikonnpjbaaGreatGsam
namespace Go.Proofs.YtlpboikonnpjbaaGreat
open Go.RowKit

def sameGr (n : Int) (l : List Int) (m : Int) (k : List Int) : Bool := decide (n = m ∧ l = k)
def sameX (a b : Eff) : Bool := decide (a.number = b.number ∧ a.attr = b.attr ∧ a.wave.l = b.wave.l ∧ a.period = b.period ∧ a.spread = b.spread ∧ a.size = b.size)
def sameS (a b : Sub) : Bool := decide (a.number = b.number ∧ a.prio = b.prio ∧ a.inh = b.inh ∧ a.gains.l = b.gains.l)
def samePl (n : Int) (l : List Hue) (m : Int) (k : List Hue) : Bool := decide (n = m ∧ l = k)

set_option maxHeartbeats 800000 in
set_option maxRecDepth 100000 in
theorem r14_Same (n : Int) (l : Lst Int) (m : Int) (k : Lst Int) (w : World) (hl : LstAt w 1 intR l) (hk : LstAt w 1 intR k) :
    Calls Tryz.prog 149 #[.agg #[.int .i64 n, .slice l.at_ l.l.length l.cap], .agg #[.int .i64 m, .slice k.at_ k.l.length k.cap]] w fun e w' => e = .returned (.bool (sameGr n l.l m k.l)) ∧ Ext w w' := by
  have HL := Lib.hid hl
  have HK := Lib.hid hk
  clear hl hk
  go_enter Tryz.func149, Tryz.ntmps149
  go_wp2_with (go_at_call 185; refine (r14_SameInts l.at_ l.cap l.l k.at_ k.cap k.l _ (HL.out.sl.mono (by repeat (first | exact Ext.refl _ | assumption | apply Ext.xt | apply Ext.alloc | apply Ext.drew | apply Ext.drewN))) HL.out.len (HK.out.sl.mono (by repeat (first | exact Ext.refl _ | assumption | apply Ext.xt | apply Ext.alloc | apply Ext.drew | apply Ext.drewN))) HK.out.len).mono ?_; rintro e w' ⟨rfl, hx⟩; obtain ⟨y, rfl⟩ := hx.get; clear hx)
  all_goals
    go_ret
    refine ⟨ret_b ?_, by repeat (first | exact Ext.refl _ | assumption | apply Ext.xt | apply Ext.alloc | apply Ext.drew | apply Ext.drewN)⟩
    unfold sameGr
    grind
set_option maxHeartbeats 1600000 in
set_option maxRecDepth 100000 in
theorem r28_SameEffect (a b : Eff) (w : World) (ha : LstAt w 2 ptR a.wave) (hb : LstAt w 2 ptR b.wave) :
    Calls Tryz.prog 151 #[.agg (effR a).toArray, .agg (effR b).toArray] w fun e w' => e = .returned (.bool (sameX a b)) ∧ Ext w w' := by
  have HA := Lib.hid ha
  have HB := Lib.hid hb
  clear ha hb
  simp only [effR]
  go_enter Tryz.func151, Tryz.ntmps151
  go_wp2_with (go_at_call 186; refine (r27_Same a.wave.at_ a.wave.cap a.wave.l b.wave.at_ b.wave.cap b.wave.l _ (HA.out.sl.mono (by repeat (first | exact Ext.refl _ | assumption | apply Ext.xt | apply Ext.alloc | apply Ext.drew | apply Ext.drewN))) HA.out.len (HB.out.sl.mono (by repeat (first | exact Ext.refl _ | assumption | apply Ext.xt | apply Ext.alloc | apply Ext.drew | apply Ext.drewN))) HB.out.len).mono ?_; rintro e w' ⟨rfl, hx⟩; obtain ⟨y, rfl⟩ := hx.get; clear hx)
  all_goals
    go_ret
    refine ⟨ret_b ?_, by repeat (first | exact Ext.refl _ | assumption | apply Ext.xt | apply Ext.alloc | apply Ext.drew | apply Ext.drewN)⟩
    unfold sameX
    grind

set_option maxHeartbeats 3200000 in
set_option maxRecDepth 100000 in
theorem r26_Same (a b : Sub) (w : World) (ha : LstAt w 3 gainR a.gains) (hb : LstAt w 3 gainR b.gains) :
    Calls Tryz.prog 150 #[.agg (subR a).toArray, .agg (subR b).toArray] w fun e w' => e = .returned (.bool (sameS a b)) ∧ Ext w w' := by
  have hl := ha.len
  have hl' := hb.len
  have hs := ha.sl
  have hs' := hb.sl
  obtain ⟨n, p, i, ⟨l, A, c⟩⟩ := a
  obtain ⟨n', p', i', ⟨l', A', c'⟩⟩ := b
  clear ha hb
  simp only [subR] at hl hl' hs hs' ⊢
  unfold maxLen at hl hl'
  by_cases hh : n = n' ∧ p = p' ∧ i = i' ∧ l.length = l'.length
  · obtain ⟨rfl, rfl, rfl, hn⟩ := hh
    have hb : ((l.length : Int) != (l'.length : Int)) = false := by simp [hn]
    have HN := Lib.hid hn
    have hle : l.length ≤ l'.length := by omega
    clear hn
    go_enter Tryz.func150, Tryz.ntmps150
    go_wp2
    go_loopw [5] (fun q wr => ∃ k : Nat, k ≤ l.length ∧ q = .int .i64 k ∧ Ext ((w.alloc (.cells #[.int .i64 n, .int .i64 p, .bool i, .slice A l.length c] 36)).alloc (.cells #[.int .i64 n, .int .i64 p, .bool i, .slice A' l'.length c'] 36)) wr ∧ Hid (l.take k = l'.take k)) (fun q _ => l.length - (intOf q).toNat)
    case atStart => exact ⟨0, by omega, rfl, Ext.refl _, Lib.hid (by simp)⟩
    case round =>
      obtain ⟨k, hk, rfl, hx, HE⟩ := hrel
      obtain ⟨y, rfl⟩ := hx.get
      clear hx
      by_cases hlt : k < l.length
      · obtain ⟨m, hm⟩ : ∃ m, l[k]? = some m := ⟨_, List.getElem?_eq_getElem hlt⟩
        obtain ⟨m', hm'⟩ : ∃ m', l'[k]? = some m' := ⟨_, List.getElem?_eq_getElem (by omega)⟩
        have HM := Lib.hid hm
        have HM' := Lib.hid hm'
        obtain ⟨b, o, rfl, hc0, hc1, hc2⟩ := hs.row3 (i := k) (by rw [List.getElem?_map, hm]; rfl)
        obtain ⟨b', o', rfl, hd0, hd1, hd2⟩ := hs'.row3 (i := k) (by rw [List.getElem?_map, hm']; rfl)
        have hb0 : (0 : Int) ≤ (k : Int) := by omega
        have hb1 : (k : Int) < (l.length : Int) := by omega
        have hb2 : (k : Int) < (l'.length : Int) := by omega
        clear hm hm' hs hs'
        go_wp2
        (refine wp_region_grows (by kernel_rfl) (by kernel_rfl) ?_; (repeat (go_big_quiet_step (fail))); refine wpQuiet_nil ?_; rintro _ ⟨y, rfl⟩)
        by_cases he : m = m'
        · have hz : eqG ⟨⟨m.p.ch, m.p.attr⟩, m.lev⟩ ⟨⟨m'.p.ch, m'.p.attr⟩, m'.lev⟩ = true := by rw [eqG_def]; simpa using he
          rw [hz]
          have HK := Lib.hid (same_step HM.out HM'.out he HE.out)
          clear he
          go_wp2
          go_light
          exact ⟨⟨k + 1, by omega, by go_num, by repeat (first | exact Ext.refl _ | assumption | apply Ext.xt | apply Ext.alloc | apply Ext.drew | apply Ext.drewN), HK⟩, by simp [intOf]; omega⟩
        · have hz : eqG ⟨⟨m.p.ch, m.p.attr⟩, m.lev⟩ ⟨⟨m'.p.ch, m'.p.attr⟩, m'.lev⟩ = false := by rw [eqG_def]; simpa using he
          rw [hz]
          have HK := Lib.hid (same_not HM.out HM'.out he)
          clear he
          go_wp2
          go_ret
          refine ⟨ret_b ?_, by repeat (first | exact Ext.refl _ | assumption | apply Ext.xt | apply Ext.alloc | apply Ext.drew | apply Ext.drewN)⟩
          exact (decide_eq_false fun h => HK.out h.2.2.2).symm
      · have HK : Hid (l = l') := Lib.hid (by
          have := HE.out
          rwa [List.take_of_length_le (by omega), List.take_of_length_le (by have := HN.out; omega)] at this)
        go_wp2
        go_ret
        refine ⟨ret_b ?_, by repeat (first | exact Ext.refl _ | assumption | apply Ext.xt | apply Ext.alloc | apply Ext.drew | apply Ext.drewN)⟩
        exact (decide_eq_true ⟨rfl, rfl, rfl, HK.out⟩).symm
  · have HH := Lib.hid hh
    have hV : sameS ⟨n, p, i, ⟨l, A, c⟩⟩ ⟨n', p', i', ⟨l', A', c'⟩⟩ = false := decide_eq_false fun h => hh ⟨h.1, h.2.1, h.2.2.1, congrArg List.length h.2.2.2⟩
    have HV := Lib.hid hV
    clear hh hV hs hs'
    by_cases h1 : n = n'
    · by_cases h2 : p = p'
      · by_cases h3 : i = i'
        · have hb : ((l.length : Int) != (l'.length : Int)) = true := by
            simp only [bne_iff_ne, ne_eq]; intro h; exact HH.out ⟨h1, h2, h3, by omega⟩
          subst h1 h2 h3
          go_enter Tryz.func150, Tryz.ntmps150
          go_wp2
          go_ret
          exact ⟨ret_b HV.out.symm, by repeat (first | exact Ext.refl _ | assumption | apply Ext.xt | apply Ext.alloc | apply Ext.drew | apply Ext.drewN)⟩
        · subst h1 h2
          cases i <;> cases i'
          · exact absurd rfl h3
          · clear h3
            go_enter Tryz.func150, Tryz.ntmps150
            go_wp2
            go_ret
            exact ⟨ret_b HV.out.symm, by repeat (first | exact Ext.refl _ | assumption | apply Ext.xt | apply Ext.alloc | apply Ext.drew | apply Ext.drewN)⟩
          · clear h3
            go_enter Tryz.func150, Tryz.ntmps150
            go_wp2
            go_ret
            exact ⟨ret_b HV.out.symm, by repeat (first | exact Ext.refl _ | assumption | apply Ext.xt | apply Ext.alloc | apply Ext.drew | apply Ext.drewN)⟩
          · exact absurd rfl h3
      · have hz : (p != p') = true := by simpa using h2
        subst h1
        clear h2
        go_enter Tryz.func150, Tryz.ntmps150
        go_wp2
        go_ret
        exact ⟨ret_b HV.out.symm, by repeat (first | exact Ext.refl _ | assumption | apply Ext.xt | apply Ext.alloc | apply Ext.drew | apply Ext.drewN)⟩
    · have hz : (n != n') = true := by simpa using h1
      clear h1
      go_enter Tryz.func150, Tryz.ntmps150
      go_wp2
      go_ret
      exact ⟨ret_b HV.out.symm, by repeat (first | exact Ext.refl _ | assumption | apply Ext.xt | apply Ext.alloc | apply Ext.drew | apply Ext.drewN)⟩
end Go.Proofs.YtlpboikonnpjbaaGreat

/-
  The reference's comparison of palettes, at lists of one; the reference's check of an edit, and its comparison.
-/
namespace Go.Proofs.YtlpboikonnpjbaaGreat
open Go.RowKit

structure Pal1At (w : World) (b : Nat) (n : Int) (l : Lst Hue) : Prop where
  c0 : w.cell? ⟨b, 0, none⟩ = some (.int .i64 n)
  c1 : w.cell? ⟨b, 1, none⟩ = some (.slice l.at_ l.l.length l.cap)
  hl : LstAt w 3 hueR l
theorem Pal1At.mono {w w' : World} {b : Nat} {n : Int} {l : Lst Hue} (h : Pal1At w b n l) (hx : Ext w w') : Pal1At w' b n l := ⟨hx.cell h.c0, hx.cell h.c1, h.hl.mono hx⟩

set_option maxHeartbeats 3200000 in
set_option maxRecDepth 100000 in
theorem r15_Same1 (b b' : Nat) (n n' : Int) (x x' : Lst Hue) (w : World) (ha : Pal1At w b n x) (hb : Pal1At w b' n' x') :
    Calls Tryz.prog 148 #[.slice (some ⟨b, 0, none⟩) 1 1, .slice (some ⟨b', 0, none⟩) 1 1] w fun e w' => e = .returned (.bool (samePl n x.l n' x'.l)) ∧ Ext w w' := by
  obtain ⟨c0, c1, hla⟩ := ha
  obtain ⟨d0, d1, hlb⟩ := hb
  have hl := hla.len
  have hl' := hlb.len
  have hs := hla.sl
  have hs' := hlb.sl
  obtain ⟨l, A, c⟩ := x
  obtain ⟨l', A', c'⟩ := x'
  clear hla hlb
  simp only [] at hl hl' hs hs' c1 d1 ⊢
  unfold maxLen at hl hl'
  by_cases hh : n = n' ∧ l.length = l'.length
  · obtain ⟨rfl, hn⟩ := hh
    have hb : ((l.length : Int) != (l'.length : Int)) = false := by simp [hn]
    have HN := Lib.hid hn
    have hle : l.length ≤ l'.length := by omega
    clear hn
    go_enter Tryz.func148, Tryz.ntmps148
    go_wp2
    go_loopw [5, 6] (fun q _ wr => ∃ k : Nat, k ≤ 1 ∧ q = .int .i64 k ∧ Ext w wr ∧ Hid (k = 1 → l = l')) (fun q _ _ => 1 - (intOf q).toNat)
    case atStart => exact ⟨0, by omega, rfl, Ext.refl _, Lib.hid (by omega)⟩
    case round =>
      obtain ⟨k, hk, rfl, hx, HE⟩ := hrel
      obtain ⟨y, rfl⟩ := hx.get
      clear hx
      match k, hk with
      | 0, _ =>
        clear HE
        go_wp2
        (refine wp_region_grows (by kernel_rfl) (by kernel_rfl) ?_; (repeat (go_big_quiet_step (fail))); refine wpQuiet_nil ?_; rintro _ ⟨y, rfl⟩)
        go_wp2
        go_loopw [6] (fun q wr => ∃ j : Nat, j ≤ l.length ∧ q = .int .i64 j ∧ Ext w wr ∧ Hid (l.take j = l'.take j)) (fun q _ => l.length - (intOf q).toNat)
        case atStart => exact ⟨0, by omega, rfl, by repeat (first | exact Ext.refl _ | assumption | apply Ext.xt | apply Ext.alloc | apply Ext.drew | apply Ext.drewN), Lib.hid (by simp)⟩
        case round =>
          obtain ⟨j, hj, rfl, hx, HE⟩ := hrel
          obtain ⟨y2, rfl⟩ := hx.get
          clear hx
          by_cases hlt : j < l.length
          · obtain ⟨m, hm⟩ : ∃ m, l[j]? = some m := ⟨_, List.getElem?_eq_getElem hlt⟩
            obtain ⟨m', hm'⟩ : ∃ m', l'[j]? = some m' := ⟨_, List.getElem?_eq_getElem (by omega)⟩
            have HM := Lib.hid hm
            have HM' := Lib.hid hm'
            obtain ⟨g, o, rfl, hc0, hc1, hc2⟩ := hs.row3 (i := j) (by rw [List.getElem?_map, hm]; rfl)
            obtain ⟨g', o', rfl, hd0, hd1, hd2⟩ := hs'.row3 (i := j) (by rw [List.getElem?_map, hm']; rfl)
            have hb0 : (0 : Int) ≤ (j : Int) := by omega
            have hb1 : (j : Int) < (l.length : Int) := by omega
            have hb2 : (j : Int) < (l'.length : Int) := by omega
            clear hm hm' hs hs'
            go_wp2
            (refine wp_region_grows (by kernel_rfl) (by kernel_rfl) ?_; (repeat (go_big_quiet_step (fail))); refine wpQuiet_nil ?_; rintro _ ⟨y, rfl⟩)
            by_cases he : m = m'
            · have hz : eqH ⟨⟨m.p.ch, m.p.attr⟩, m.lev⟩ ⟨⟨m'.p.ch, m'.p.attr⟩, m'.lev⟩ = true := by rw [eqH_def]; simpa using he
              rw [hz]
              have HK := Lib.hid (same_step HM.out HM'.out he HE.out)
              clear he
              go_wp2
              go_light
              exact ⟨⟨j + 1, by omega, by go_num, by repeat (first | exact Ext.refl _ | assumption | apply Ext.xt | apply Ext.alloc | apply Ext.drew | apply Ext.drewN), HK⟩, by simp [intOf]; omega⟩
            · have hz : eqH ⟨⟨m.p.ch, m.p.attr⟩, m.lev⟩ ⟨⟨m'.p.ch, m'.p.attr⟩, m'.lev⟩ = false := by rw [eqH_def]; simpa using he
              rw [hz]
              have HV := Lib.hid (show samePl n l n l' = false from decide_eq_false fun h => same_not HM.out HM'.out he h.2)
              clear he
              go_wp2
              go_ret
              exact ⟨ret_b HV.out.symm, by repeat (first | exact Ext.refl _ | assumption | apply Ext.xt | apply Ext.alloc | apply Ext.drew | apply Ext.drewN)⟩
          · have HK : Hid (l = l') := Lib.hid (by
              have := HE.out
              rwa [List.take_of_length_le (by omega), List.take_of_length_le (by have := HN.out; omega)] at this)
            go_wp2
            go_light
            exact ⟨⟨1, by omega, by rfl, by repeat (first | exact Ext.refl _ | assumption | apply Ext.xt | apply Ext.alloc | apply Ext.drew | apply Ext.drewN), Lib.hid fun _ => HK.out⟩, by simp [intOf]⟩
      | 1, _ =>
        have HV := Lib.hid (show samePl n l n l' = true from decide_eq_true ⟨rfl, HE.out rfl⟩)
        go_wp2
        go_ret
        exact ⟨ret_b HV.out.symm, by repeat (first | exact Ext.refl _ | assumption | apply Ext.xt | apply Ext.alloc | apply Ext.drew | apply Ext.drewN)⟩
      | k + 2, hk => exact absurd hk (by omega)
  · have HV := Lib.hid (show samePl n l n' l' = false from decide_eq_false fun h => hh ⟨h.1, congrArg List.length h.2⟩)
    have HH := Lib.hid hh
    clear hh hs hs'
    by_cases h1 : n = n'
    · have hb : ((l.length : Int) != (l'.length : Int)) = true := by
        simp only [bne_iff_ne, ne_eq]; intro h; exact HH.out ⟨h1, by omega⟩
      subst h1
      go_enter Tryz.func148, Tryz.ntmps148
      go_wp2
      refine wp_loop_rounds 1 ?_
      rw [rounds_succ]
      go_wp2
      (refine wp_region_grows (by kernel_rfl) (by kernel_rfl) ?_; (repeat (go_big_quiet_step (fail))); refine wpQuiet_nil ?_; rintro _ ⟨y, rfl⟩)
      go_wp2
      go_ret
      exact ⟨ret_b HV.out.symm, by repeat (first | exact Ext.refl _ | assumption | apply Ext.xt | apply Ext.alloc | apply Ext.drew | apply Ext.drewN)⟩
    · have hz : (n != n') = true := by simpa using h1
      clear h1
      go_enter Tryz.func148, Tryz.ntmps148
      go_wp2
      refine wp_loop_rounds 1 ?_
      rw [rounds_succ]
      go_wp2
      (refine wp_region_grows (by kernel_rfl) (by kernel_rfl) ?_; (repeat (go_big_quiet_step (fail))); refine wpQuiet_nil ?_; rintro _ ⟨y, rfl⟩)
      go_wp2
      go_ret
      exact ⟨ret_b HV.out.symm, by repeat (first | exact Ext.refl _ | assumption | apply Ext.xt | apply Ext.alloc | apply Ext.drew | apply Ext.drewN)⟩

/-! ### The check of an edit -/
def numK (k : Int) : Bool := decide (k = 0 ∨ k = 1 ∨ k = 2 ∨ k = 4 ∨ k = 6 ∨ k = 8 ∨ k = 10 ∨ k = 12)
set_option maxHeartbeats 400000 in
set_option maxRecDepth 100000 in
theorem r32_numbered (k : Int) (w : World) : Calls Tryz.prog 145 #[.int .i64 k] w fun e w' => e = .returned (.bool (numK k)) ∧ w = w' := by
  go_enter Tryz.func145, Tryz.ntmps145
  go_wp2
  all_goals
    go_ret
    refine ⟨ret_b ?_, rfl⟩
    unfold numK
    grind
end Go.Proofs.YtlpboikonnpjbaaGreat

/-
  The reference's check of an edit.
-/
namespace Go.Proofs.YtlpboikonnpjbaaGreat
open Go.RowKit

def idleE (e : Edit) : Bool := decide ((e.kind = 0 ∨ e.cue = emptyC) ∧ (e.kind = 3 ∨ (e.pn = 0 ∧ (e.hues.l.length : Int) ≤ 0)) ∧ (e.kind = 5 ∨ (e.gn = 0 ∧ (e.chans.l.length : Int) ≤ 0)) ∧ (e.kind = 7 ∨ sameS e.sub ⟨0, 0, false, ⟨[], none, 0⟩⟩ = true) ∧ (e.kind = 9 ∨ sameX e.eff ⟨0, 0, ⟨[], none, 0⟩, 0, 0, 0⟩ = true) ∧ (e.kind = 11 ∨ e.fix = noFix))
theorem eqF_fix (e : Edit) : eqF ⟨e.fix.ch, e.fix.part, e.fix.profile, e.fix.univ, e.fix.addr, e.fix.phase, e.fix.cable⟩ ⟨0, 0, ⟨#[]⟩, 0, 0, 0, ⟨#[]⟩⟩ = decide (e.fix = noFix) := rfl
set_option maxHeartbeats 3200000 in
set_option maxRecDepth 100000 in
theorem r32_idle (e : Edit) (w : World) (he : EditAt w e) : Calls Tryz.prog 146 #[.agg (editR e).toArray] w fun r w' => r = .returned (.bool (idleE e)) ∧ Ext w w' := by
  have HE := Lib.hid he
  clear he
  go_enter Tryz.func146, Tryz.ntmps146
  go_wp2_with (first
    | (go_at_call 147; refine (r16_Same e.cue e.cA e.ck e.cB e.cm emptyC none 0 none 0 _ (HE.out.cue.mono (by repeat (first | exact Ext.refl _ | assumption | apply Ext.xt | apply Ext.alloc | apply Ext.drew | apply Ext.drewN))) ⟨Sl.nil _ _ _, Sl.nil _ _ _, by decide, by decide, by decide, by decide, by decide, by decide, by decide⟩).mono ?_; rintro e w' ⟨rfl, hx⟩; obtain ⟨y, rfl⟩ := hx.get; clear hx)
    | (go_at_call 150; refine (r26_Same e.sub ⟨0, 0, false, ⟨[], none, 0⟩⟩ _ (HE.out.gains.mono (by repeat (first | exact Ext.refl _ | assumption | apply Ext.xt | apply Ext.alloc | apply Ext.drew | apply Ext.drewN))) LstAt.nil).mono ?_; rintro e w' ⟨rfl, hx⟩; obtain ⟨y, rfl⟩ := hx.get; clear hx)
    | (go_at_call 151; refine (r28_SameEffect e.eff ⟨0, 0, ⟨[], none, 0⟩, 0, 0, 0⟩ _ (HE.out.wave.mono (by repeat (first | exact Ext.refl _ | assumption | apply Ext.xt | apply Ext.alloc | apply Ext.drew | apply Ext.drewN))) LstAt.nil).mono ?_; rintro e w' ⟨rfl, hx⟩; obtain ⟨y, rfl⟩ := hx.get; clear hx))
  all_goals
    go_ret
    refine ⟨ret_b ?_, by repeat (first | exact Ext.refl _ | assumption | apply Ext.xt | apply Ext.alloc | apply Ext.drew | apply Ext.drewN)⟩
    try rw [eqF_fix]
    unfold idleE
    grind

def t1E (e : Edit) : Bool := decide ((numK e.kind = false ∧ e.number ≠ 0) ∨ (e.kind ≠ 12 ∧ e.ch ≠ 0) ∨ (e.kind ≠ 2 ∧ e.prio ≠ 0))
def t2E (e : Edit) : Bool := decide ((e.kind ≠ 1 ∧ e.kind ≠ 13 ∧ e.key.toList.isEmpty = false) ∨ idleE e = false)
theorem t2E_idle {e : Edit} (h : e.kind = 1 ∨ e.kind = 13 ∨ e.key.toList.isEmpty = true) : t2E e = !idleE e := by
  unfold t2E
  cases idleE e
  · simp
  · simp; grind
def r32E (e : Edit) : Int := if e.kind < 0 ∨ 13 < e.kind then 1 else if t1E e = true then 3 else if t2E e = true then 3 else 0
set_option maxHeartbeats 3200000 in
set_option maxRecDepth 100000 in
theorem r32_Check0 (e : Edit) (w : World) (he : EditAt w e) : Calls Tryz.prog 99 #[.agg (editR e).toArray] w fun r w' => r = .returned (.int .i64 (r32E e)) ∧ Ext w w' := by
  have HE := Lib.hid he
  have HR := Lib.hid (rangeAt_new w rfl (editR e) 43)
  clear he
  by_cases hk : e.kind < 0 ∨ 13 < e.kind
  · have HV := Lib.hid (show r32E e = 1 by unfold r32E; rw [if_pos hk])
    rcases (by omega : e.kind < 0 ∨ (0 ≤ e.kind ∧ 13 < e.kind)) with h | ⟨h, h'⟩
    all_goals
      clear hk
      go_enter Tryz.func99, Tryz.ntmps99
      go_wp2
      go_ret
      exact ⟨ret_i HV.out.symm, by repeat (first | exact Ext.refl _ | assumption | apply Ext.xt | apply Ext.alloc | apply Ext.drew | apply Ext.drewN)⟩
  · have HK := Lib.hid hk
    have h0 : 0 ≤ e.kind := by omega
    have h13 : e.kind ≤ 13 := by omega
    clear hk
    go_enter Tryz.func99, Tryz.ntmps99
    go_upto_region 3 with fail
    go_cut [39] (fun s wx => s = .bool (t1E e) ∧ w.alloc (.cells (editR e).toArray 43) = wx)
    case first =>
      go_wp2_with (go_at_call 145; refine (r32_numbered _ _).mono ?_; rintro e w' ⟨rfl, rfl⟩)
      all_goals
        go_meet
        refine ⟨?_, rfl⟩
        go_light
        as_aux_lemma =>
          congr 1
          unfold t1E
          grind
    case rest =>
      obtain ⟨rfl, rfl⟩ := hcut
      cases ht : t1E e
      · have HT := Lib.hid ht
        clear ht
        go_upto_region 5 with fail
        go_cut [57] (fun s wx => s = .bool (t2E e) ∧ Ext w wx)
        case first =>
          have hcases : (e.kind ≠ 1 ∧ e.kind ≠ 13 ∧ e.key.toList.isEmpty = false) ∨ e.kind = 1 ∨ (e.kind ≠ 1 ∧ e.kind = 13) ∨ (e.kind ≠ 1 ∧ e.kind ≠ 13 ∧ e.key.toList.isEmpty = true) := by
            cases e.key.toList.isEmpty <;> simp <;> omega
          rcases hcases with ⟨k1, k2, k3⟩ | k1 | ⟨k1, k2⟩ | ⟨k1, k2, k3⟩
          · have q1 : (e.kind != 1) = true := by simpa using k1
            have q2 : (e.kind != 13) = true := by simpa using k2
            have HV := Lib.hid (show t2E e = true from decide_eq_true (.inl ⟨k1, k2, k3⟩))
            clear k1 k2
            go_wp2
            go_meet
            exact ⟨by rw [HV.out], by repeat (first | exact Ext.refl _ | assumption | apply Ext.xt | apply Ext.alloc | apply Ext.drew | apply Ext.drewN)⟩
          · have q1 : (e.kind != 1) = false := by simpa using k1
            have HV := Lib.hid (t2E_idle (.inl k1))
            clear k1
            go_wp2_with (first
              | (refine wpList_load_row rfl 43 _ rfl w.heap.size 0 rfl (editR e) _ (rangeAt_mono HR.out (by repeat (first | exact Ext.refl _ | assumption | apply Ext.xt | apply Ext.alloc | apply Ext.drew | apply Ext.drewN))) Tryz.underlying43 rfl (by kernel_rfl) ?_)
              | (go_at_call 146; refine (r32_idle e _ (HE.out.mono (by repeat (first | exact Ext.refl _ | assumption | apply Ext.xt | apply Ext.alloc | apply Ext.drew | apply Ext.drewN)))).mono ?_; rintro e w' ⟨rfl, hx⟩; obtain ⟨y, rfl⟩ := hx.get; clear hx))
            go_meet
            exact ⟨by rw [HV.out], by repeat (first | exact Ext.refl _ | assumption | apply Ext.xt | apply Ext.alloc | apply Ext.drew | apply Ext.drewN)⟩
          · have q1 : (e.kind != 1) = true := by simpa using k1
            have q2 : (e.kind != 13) = false := by simpa using k2
            have HV := Lib.hid (t2E_idle (.inr (.inl k2)))
            clear k1 k2
            go_wp2_with (first
              | (refine wpList_load_row rfl 43 _ rfl w.heap.size 0 rfl (editR e) _ (rangeAt_mono HR.out (by repeat (first | exact Ext.refl _ | assumption | apply Ext.xt | apply Ext.alloc | apply Ext.drew | apply Ext.drewN))) Tryz.underlying43 rfl (by kernel_rfl) ?_)
              | (go_at_call 146; refine (r32_idle e _ (HE.out.mono (by repeat (first | exact Ext.refl _ | assumption | apply Ext.xt | apply Ext.alloc | apply Ext.drew | apply Ext.drewN)))).mono ?_; rintro e w' ⟨rfl, hx⟩; obtain ⟨y, rfl⟩ := hx.get; clear hx))
            go_meet
            exact ⟨by rw [HV.out], by repeat (first | exact Ext.refl _ | assumption | apply Ext.xt | apply Ext.alloc | apply Ext.drew | apply Ext.drewN)⟩
          · have q1 : (e.kind != 1) = true := by simpa using k1
            have q2 : (e.kind != 13) = true := by simpa using k2
            have HV := Lib.hid (t2E_idle (.inr (.inr k3)))
            clear k1 k2
            go_wp2_with (first
              | (refine wpList_load_row rfl 43 _ rfl w.heap.size 0 rfl (editR e) _ (rangeAt_mono HR.out (by repeat (first | exact Ext.refl _ | assumption | apply Ext.xt | apply Ext.alloc | apply Ext.drew | apply Ext.drewN))) Tryz.underlying43 rfl (by kernel_rfl) ?_)
              | (go_at_call 146; refine (r32_idle e _ (HE.out.mono (by repeat (first | exact Ext.refl _ | assumption | apply Ext.xt | apply Ext.alloc | apply Ext.drew | apply Ext.drewN)))).mono ?_; rintro e w' ⟨rfl, hx⟩; obtain ⟨y, rfl⟩ := hx.get; clear hx))
            go_meet
            exact ⟨by rw [HV.out], by repeat (first | exact Ext.refl _ | assumption | apply Ext.xt | apply Ext.alloc | apply Ext.drew | apply Ext.drewN)⟩
        case rest =>
          obtain ⟨rfl, hx⟩ := hcut
          have HX := Lib.hid hx
          clear hx
          cases ht2 : t2E e
          · have HV := Lib.hid (show r32E e = 0 by unfold r32E; rw [if_neg HK.out, HT.out, ht2]; rfl)
            clear ht2
            go_wp2
            go_ret
            exact ⟨ret_i HV.out.symm, HX.out⟩
          · have HV := Lib.hid (show r32E e = 3 by unfold r32E; rw [if_neg HK.out, HT.out, ht2]; rfl)
            clear ht2
            go_wp2
            go_ret
            exact ⟨ret_i HV.out.symm, HX.out⟩
      · have HV := Lib.hid (show r32E e = 3 by unfold r32E; rw [if_neg HK.out, ht]; rfl)
        clear ht
        go_wp2
        go_ret
        exact ⟨ret_i HV.out.symm, by repeat (first | exact Ext.refl _ | assumption | apply Ext.xt | apply Ext.alloc | apply Ext.drew | apply Ext.drewN)⟩
theorem sameS_zero (s : Sub) : sameS s ⟨0, 0, false, ⟨[], none, 0⟩⟩ = zeroS s := by
  unfold sameS zeroS
  rw [decide_eq_decide]
  simp
theorem sameX_zero (s : Eff) : sameX s ⟨0, 0, ⟨[], none, 0⟩, 0, 0, 0⟩ = zeroX s := by
  unfold sameX zeroX
  rw [decide_eq_decide]
  simp
theorem r32E_edit (e : Edit) : r32E e = editE e := by
  unfold r32E editE
  split
  · rfl
  · rename_i hk
    have h1 : ∀ (a b : Bool), (if a = true then (3 : Int) else if b = true then 3 else 0) = if (a || b) = true then 3 else 0 := by decide
    rw [h1]
    congr 2
    have hp : ∀ n : Nat, decide ((n : Int) ≤ 0) = decide ((n : Int) = 0) := fun n => by rw [decide_eq_decide]; omega
    rw [Bool.eq_iff_iff]
    simp only [show List.range 10 = [0, 1, 2, 3, 4, 5, 6, 7, 8, 9] from rfl, List.any_cons, List.any_nil, Bool.or_false, editBad, useK, useZ, List.getD_cons_zero, List.getD_cons_succ, t1E, t2E, idleE, sameS_zero, sameX_zero, numK, zeroP, zeroG, List.mem_cons, List.not_mem_nil, or_false]
    have e1 : ((e.hues.l.length : Int) ≤ 0) = ((e.hues.l.length : Int) = 0) := propext ⟨fun h => by omega, fun h => by omega⟩
    have e2 : ((e.chans.l.length : Int) ≤ 0) = ((e.chans.l.length : Int) = 0) := propext ⟨fun h => by omega, fun h => by omega⟩
    simp only [Bool.or_eq_true, Bool.and_eq_true, decide_eq_true_eq, decide_eq_false_iff_not, Bool.not_eq_true', beq_eq_false_iff_ne, ne_eq, e1, e2, Classical.not_and_iff_not_or_not, not_or, Bool.not_eq_true, or_assoc, and_assoc]
theorem r32_Check (e : Edit) (w : World) (he : EditAt w e) : Calls Tryz.prog 99 #[.agg (editR e).toArray] w fun r w' => r = .returned (.int .i64 (editE e)) ∧ Ext w w' := by
  rw [← r32E_edit]
  exact r32_Check0 e w he
end Go.Proofs.YtlpboikonnpjbaaGreat
