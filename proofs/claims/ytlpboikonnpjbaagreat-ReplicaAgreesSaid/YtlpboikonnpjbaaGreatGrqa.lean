/-
  Chapter 54: the reference's checks of records, nodes and messages.
-/
import Derived.Test.YtlpboikonnpjbaaGreatGrpc
import Derived.Test.YtlpboikonnpjbaaGreatGarf
import Derived.Test.YtlpboikonnpjbaaGreatGfew
namespace Go.Proofs.YtlpboikonnpjbaaGreat
open Go.RowKit

set_option maxHeartbeats 400000 in
theorem r54_Own (id term : Int) (w : World) (h1 : 1 ≤ id) (h2 : id ≤ 2) (h3 : 0 ≤ term) : Calls Tryz.prog 66 #[.int .i64 id, .int .i64 term] w fun e w' => e = .returned (.bool (ownB id term)) ∧ w = w' := by
  by_cases h : 1 ≤ term
  · have hz : (term % 2 == id % 2) = ownB id term := by
      unfold ownB
      rw [Bool.eq_iff_iff, beq_iff_eq, decide_eq_true_eq]
      omega
    have HZ := Lib.hid hz
    clear hz
    go_enter Tryz.func66, Tryz.ntmps66
    go_wp2
    go_ret
    exact ⟨ret_b HZ.out, rfl⟩
  · have HV := Lib.hid (show false = ownB id term from (decide_eq_false (by omega)).symm)
    go_enter Tryz.func66, Tryz.ntmps66
    go_wp2
    go_ret
    exact ⟨ret_b HV.out, rfl⟩
/-- The least term that the record at place k may have. -/
def lowAt (low : Int) (l : List Rec) (k : Nat) : Int := match prv l k with | some r => r.term | none => low
theorem lowAt_succ {low : Int} {l : List Rec} {k : Nat} {r : Rec} (h : l[k]? = some r) : lowAt low l (k + 1) = r.term := by
  unfold lowAt; rw [prv_succ, h]
theorem recS_low {low high : Int} {l : List Rec} {k : Nat} {r : Rec} (h : withinB r.term 1 high = true) (he : acnE r.act = 0) (hl : r.term < lowAt low l k) : recS low high (prv l k) r = 9 := by
  have h1 := withinB_yes h
  unfold recS; rw [if_neg (by omega), if_neg (by simpa using he)]
  unfold lowAt at hl
  cases hp : prv l k with
  | none => rw [hp] at hl; simp only at hl ⊢; rw [if_pos hl]
  | some p => rw [hp] at hl; simp only at hl ⊢; rw [if_pos (.inl hl)]
theorem recS_early {low high : Int} {l : List Rec} {k : Nat} {p r : Rec} (h : withinB r.term 1 high = true) (he : acnE r.act = 0) (hp : prv l k = some p) (hl : r.act.at_ < p.act.at_) : recS low high (prv l k) r = 9 := by
  have h1 := withinB_yes h
  unfold recS; rw [if_neg (by omega), if_neg (by simpa using he), hp]
  simp only; rw [if_pos (.inr hl)]
theorem recS_first {low high : Int} {l : List Rec} {k : Nat} {r : Rec} (h : withinB r.term 1 high = true) (he : acnE r.act = 0) (hp : prv l k = none) (hl : ¬ r.term < lowAt low l k) : recS low high (prv l k) r = 0 := by
  have h1 := withinB_yes h
  unfold lowAt at hl
  rw [hp] at hl
  unfold recS; rw [if_neg (by omega), if_neg (by simpa using he), hp]
  simp only at hl ⊢; rw [if_neg hl]
theorem recS_next {low high : Int} {l : List Rec} {k : Nat} {p r : Rec} (h : withinB r.term 1 high = true) (he : acnE r.act = 0) (hp : prv l k = some p) (hl : ¬ r.term < lowAt low l k) (ha : ¬ r.act.at_ < p.act.at_) : recS low high (prv l k) r = 0 := by
  have h1 := withinB_yes h
  unfold lowAt at hl
  rw [hp] at hl
  unfold recS; rw [if_neg (by omega), if_neg (by simpa using he), hp]
  simp only at hl ⊢; rw [if_neg (by omega)]
set_option maxHeartbeats 6400000 in
set_option maxRecDepth 100000 in
theorem r54_records (A : Option Addr) (c : Nat) (l : List Rec) (low high : Int) (w : World) (hs : RecsAt w A c l) :
    Calls Tryz.prog 68 #[.slice A l.length c, .int .i64 low, .int .i64 high] w fun e w' => e = .returned (.int .i64 (recsE low high l)) ∧ Ext w w' := by
  have hl := hs.len
  have HS := Lib.hid hs
  have HM := Lib.hid (show recsE low high l = scan (recS low high) none l from rfl)
  clear hs
  go_enter Tryz.func68, Tryz.ntmps68
  go_wp2
  go_loopw [1, 7] (fun lo i wr => ∃ k : Nat, k ≤ l.length ∧ i = .int .i64 k ∧ lo = .int .i64 (lowAt low l k) ∧ Ext w wr ∧ Hid (recsE low high l = scan (recS low high) (prv l k) (l.drop k))) (fun _ i _ => l.length - (intOf i).toNat)
  case atStart => exact ⟨0, by omega, rfl, rfl, Ext.refl _, HM⟩
  case round =>
    obtain ⟨k, hk, rfl, rfl, hx, HE⟩ := hrel
    obtain ⟨q, hq⟩ : ∃ q, lowAt low l k = q := ⟨_, rfl⟩
    have HQ := Lib.hid hq
    rw [hq]
    clear hq HM
    obtain ⟨y0, rfl⟩ := hx.get
    clear hx
    by_cases hlt : k < l.length
    · obtain ⟨m, hm⟩ : ∃ m, l[k]? = some m := ⟨_, List.getElem?_eq_getElem hlt⟩
      obtain ⟨b, o, rfl, hrec, hat⟩ := HS.out.get hm
      have HE2 := Lib.hid (HE.out.trans (scan_at (recS low high) l k m hm))
      have hb0 : (0 : Int) ≤ (k : Int) := by omega
      have hb1 : (k : Int) < (l.length : Int) := by omega
      have hr1 := hrec.act
      have hr2 := hrec.term
      have hr3 := hrec.at_
      have HA := Lib.hid hat
      have HMM := Lib.hid hm
      clear HE hrec hat
      cases hwi : withinB m.term 1 high with
      | false =>
        have HV := Lib.hid (show (2 : Int) = recsE low high l by rw [HE2.out, recS_out hwi]; rfl)
        have hor := withinB_no hwi
        clear hwi hm
        by_cases h1 : m.term < 1
        · go_wp2
          go_ret
          exact ⟨ret_i HV.out, by repeat (first | exact Ext.refl _ | assumption | apply Ext.xt | apply Ext.alloc | apply Ext.drew | apply Ext.drewN)⟩
        · have h2 : high < m.term := by omega
          clear hor
          go_wp2
          go_ret
          exact ⟨ret_i HV.out, by repeat (first | exact Ext.refl _ | assumption | apply Ext.xt | apply Ext.alloc | apply Ext.drew | apply Ext.drewN)⟩
      | true =>
        have HW := Lib.hid hwi
        have i1 := (withinB_yes hwi).1
        have i2 := (withinB_yes hwi).2
        clear hwi
        by_cases he : acnE m.act = 0
        · have hz : (acnE m.act != 0) = false := by simpa using he
          have HZ := Lib.hid he
          clear he
          by_cases hlo : m.term < q
          · have hd : decide (m.term < q) = true := decide_eq_true hlo
            have HV := Lib.hid (show (9 : Int) = recsE low high l by rw [HE2.out, recS_low (low := low) (l := l) (k := k) HW.out HZ.out (by rw [HQ.out]; exact hlo)]; rfl)
            clear hm hlo
            go_wp2_with (go_at_call 14; refine (r33_Check m.act _ (HA.out.mono (by repeat (first | exact Ext.refl _ | assumption | apply Ext.xt | apply Ext.alloc | apply Ext.drew | apply Ext.drewN)))).mono ?_; rintro e w' ⟨rfl, hx⟩; obtain ⟨y, rfl⟩ := hx.get; clear hx)
            (refine wp_region_grows (by kernel_rfl) (by kernel_rfl) ?_; (repeat (go_big_quiet_step (fail))); refine wpQuiet_nil ?_; rintro _ ⟨y, rfl⟩)
            go_wp2
            go_ret
            exact ⟨ret_i HV.out, by repeat (first | exact Ext.refl _ | assumption | apply Ext.xt | apply Ext.alloc | apply Ext.drew | apply Ext.drewN)⟩
          · have hd : decide (m.term < q) = false := decide_eq_false hlo
            by_cases hk0 : 0 < k
            · have hd0 : decide (0 < k) = true := decide_eq_true hk0
              obtain ⟨p, hp⟩ : ∃ p, l[k - 1]? = some p := ⟨_, List.getElem?_eq_getElem (by omega)⟩
              obtain ⟨b', o', hA, hrp, -⟩ := HS.out.get hp
              injection hA with hA
              injection hA with e1 e2
              subst e1 e2
              have hp3 := hrp.at_
              have HP := Lib.hid (show prv l k = some p by unfold prv; rw [if_neg (by omega), hp])
              have hi1 : (0 : Int) ≤ (k : Int) - 1 := by omega
              have hi2 : (k : Int) - 1 < (l.length : Int) := by omega
              have hi3 : ((k : Int) - 1).toNat = k - 1 := by omega
              have hwk : IntKind.i64.wrap ((k : Int) - 1) = (k : Int) - 1 := IntWalk.i64_in _ (by omega)
              clear hm hp hrp
              by_cases hea : m.act.at_ < p.act.at_
              · have hda : decide (m.act.at_ < p.act.at_) = true := decide_eq_true hea
                have HV := Lib.hid (show (9 : Int) = recsE low high l by rw [HE2.out, recS_early HW.out HZ.out HP.out hea]; rfl)
                clear hea
                go_wp2_with (go_at_call 14; refine (r33_Check m.act _ (HA.out.mono (by repeat (first | exact Ext.refl _ | assumption | apply Ext.xt | apply Ext.alloc | apply Ext.drew | apply Ext.drewN)))).mono ?_; rintro e w' ⟨rfl, hx⟩; obtain ⟨y, rfl⟩ := hx.get; clear hx)
                (refine wp_region_grows (by kernel_rfl) (by kernel_rfl) ?_; (repeat (go_big_quiet_step (fail))); refine wpQuiet_nil ?_; rintro _ ⟨y, rfl⟩)
                go_wp2
                go_ret
                exact ⟨ret_i HV.out, by repeat (first | exact Ext.refl _ | assumption | apply Ext.xt | apply Ext.alloc | apply Ext.drew | apply Ext.drewN)⟩
              · have hda : decide (m.act.at_ < p.act.at_) = false := decide_eq_false hea
                have HV := Lib.hid (show recS low high (prv l k) m = 0 from recS_next (low := low) HW.out HZ.out HP.out (by rw [HQ.out]; exact hlo) hea)
                clear hea
                go_wp2_with (go_at_call 14; refine (r33_Check m.act _ (HA.out.mono (by repeat (first | exact Ext.refl _ | assumption | apply Ext.xt | apply Ext.alloc | apply Ext.drew | apply Ext.drewN)))).mono ?_; rintro e w' ⟨rfl, hx⟩; obtain ⟨y, rfl⟩ := hx.get; clear hx)
                (refine wp_region_grows (by kernel_rfl) (by kernel_rfl) ?_; (repeat (go_big_quiet_step (fail))); refine wpQuiet_nil ?_; rintro _ ⟨y, rfl⟩)
                go_wp2
                go_light
                refine ⟨⟨k + 1, by omega, by go_num, by rw [lowAt_succ HMM.out], by repeat (first | exact Ext.refl _ | assumption | apply Ext.xt | apply Ext.alloc | apply Ext.drew | apply Ext.drewN), Lib.hid ?_⟩, by simp [intOf]; omega⟩
                have hS := HE2.out
                rw [HV.out] at hS
                rw [hS]; rfl
            · obtain rfl : k = 0 := by omega
              have HV := Lib.hid (show recS low high (prv l 0) m = 0 from recS_first (low := low) HW.out HZ.out rfl (by rw [HQ.out]; exact hlo))
              simp only [Nat.zero_mul, Nat.add_zero] at hr1 hr2 hr3
              clear hm hk0
              go_wp2_with (go_at_call 14; refine (r33_Check m.act _ (HA.out.mono (by repeat (first | exact Ext.refl _ | assumption | apply Ext.xt | apply Ext.alloc | apply Ext.drew | apply Ext.drewN)))).mono ?_; rintro e w' ⟨rfl, hx⟩; obtain ⟨y, rfl⟩ := hx.get; clear hx)
              (refine wp_region_grows (by kernel_rfl) (by kernel_rfl) ?_; (repeat (go_big_quiet_step (fail))); refine wpQuiet_nil ?_; rintro _ ⟨y, rfl⟩)
              go_wp2
              go_light
              refine ⟨⟨1, by omega, rfl, by rw [lowAt_succ HMM.out], by repeat (first | exact Ext.refl _ | assumption | apply Ext.xt | apply Ext.alloc | apply Ext.drew | apply Ext.drewN), Lib.hid ?_⟩, by simp [intOf]; omega⟩
              have hS := HE2.out
              rw [HV.out] at hS
              rw [hS]; rfl
        · have hz : (acnE m.act != 0) = true := by simpa using he
          have HV := Lib.hid (show acnE m.act = recsE low high l by rw [HE2.out, recS_act HW.out he, if_pos he])
          clear he hm
          go_wp2_with (go_at_call 14; refine (r33_Check m.act _ (HA.out.mono (by repeat (first | exact Ext.refl _ | assumption | apply Ext.xt | apply Ext.alloc | apply Ext.drew | apply Ext.drewN)))).mono ?_; rintro e w' ⟨rfl, hx⟩; obtain ⟨y, rfl⟩ := hx.get; clear hx)
          go_ret
          exact ⟨ret_i HV.out, by repeat (first | exact Ext.refl _ | assumption | apply Ext.xt | apply Ext.alloc | apply Ext.drew | apply Ext.drewN)⟩
    · have HV := Lib.hid (HE.out.trans (scan_end (recS low high) l k _ (by omega)))
      go_wp2
      go_ret
      exact ⟨ret_i HV.out.symm, by repeat (first | exact Ext.refl _ | assumption | apply Ext.xt | apply Ext.alloc | apply Ext.drew | apply Ext.drewN)⟩

/-! ### Nodes -/
set_option maxHeartbeats 6400000 in
set_option maxRecDepth 100000 in
theorem r54_Check_go (n : Nod) (A : Option Addr) (c : Nat) (w : World) (hs : RecsAt w A c n.log) (h1 : withinB n.id 1 2 = true) (h2 : withinB n.term 0 1048576 = true) (h3 : ¬ (n.speaks = true ∧ ownB n.id n.term = false)) (b : Bool) (hb : n.speaks = b) (ho : b = true → ownB n.id n.term = true) :
    Calls Tryz.prog 27 #[.agg #[.int .i64 n.id, .int .i64 n.term, .bool b, .slice A n.log.length c, .int .i64 n.acked, .int .i64 n.next]] w fun e w' => e = .returned (.int .i64 (nodE n)) ∧ Ext w w' := by
  have hl := hs.len
  have HS := Lib.hid hs
  have H1 := Lib.hid h1
  have H2 := Lib.hid h2
  have H3 := Lib.hid h3
  have HB := Lib.hid hb
  have HO := Lib.hid ho
  have i1 := (withinB_yes h1).1; have i2 := (withinB_yes h1).2; have i3 := (withinB_yes h2).1; have i4 := (withinB_yes h2).2
  clear hs h1 h2 h3 hb ho
  by_cases h4 : 256 < n.log.length
  · have HR := Lib.hid (nodE_d H1.out H2.out H3.out h4)
    cases b with
    | false =>
      go_enter Tryz.func27, Tryz.ntmps27
      go_wp2
      go_ret
      exact ⟨ret_i HR.out.symm, by repeat (first | exact Ext.refl _ | assumption | apply Ext.xt | apply Ext.alloc | apply Ext.drew | apply Ext.drewN)⟩
    | true =>
      go_enter Tryz.func27, Tryz.ntmps27
      go_wp2_with (go_at_call 66; refine (r54_Own _ _ _ i1 i2 i3).mono ?_; rintro e w' ⟨he, rfl⟩; rw [HO.out rfl] at he; subst he)
      go_ret
      exact ⟨ret_i HR.out.symm, by repeat (first | exact Ext.refl _ | assumption | apply Ext.xt | apply Ext.alloc | apply Ext.drew | apply Ext.drewN)⟩
  · by_cases h5 : recsE 1 n.term n.log = 0
    · have HZ := Lib.hid h5
      have hz : (recsE 1 n.term n.log != 0) = false := by simpa using h5
      clear h5
      obtain ⟨v, hv⟩ : ∃ v, (if n.speaks = true then (n.log.length : Int) else 0) = v := ⟨_, rfl⟩
      have HV := Lib.hid hv
      have hvb : v = if b = true then (n.log.length : Int) else 0 := by rw [← hv, HB.out]
      clear hv
      by_cases h6 : 0 ≤ n.acked ∧ n.acked ≤ n.log.length ∧ 0 ≤ n.next ∧ n.next ≤ n.log.length
      · obtain ⟨q1, q2, q3, q4⟩ := h6
        by_cases h7 : b = false ∧ n.next ≠ 0
        · obtain ⟨rfl, h7⟩ := h7
          have hz7 : (n.next != 0) = true := by simpa using h7
          have HR := Lib.hid (nodE_f H1.out H2.out H3.out h4 HZ.out HV.out (.inr (decide_eq_false (by simp at hvb; omega))))
          clear h7 hvb
          go_enter Tryz.func27, Tryz.ntmps27
          go_wp2_with (go_at_call 68; refine (r54_records A c n.log 1 n.term _ (HS.out.mono (by repeat (first | exact Ext.refl _ | assumption | apply Ext.xt | apply Ext.alloc | apply Ext.drew | apply Ext.drewN)))).mono ?_; rintro e w' ⟨rfl, hx⟩; obtain ⟨y, rfl⟩ := hx.get; clear hx)
          go_ret
          exact ⟨ret_i HR.out.symm, by repeat (first | exact Ext.refl _ | assumption | apply Ext.xt | apply Ext.alloc | apply Ext.drew | apply Ext.drewN)⟩
        · have HR := Lib.hid (nodE_g H1.out H2.out H3.out h4 HZ.out HV.out (decide_eq_true ⟨q1, q2⟩) (decide_eq_true (by
            cases b with
            | false =>
              have : n.next = 0 := by
                by_cases hc : n.next = 0
                · exact hc
                · exact absurd ⟨rfl, hc⟩ h7
              simp at hvb; omega
            | true => simp at hvb; omega)))
          clear hvb
          cases b with
          | false =>
            have hz7 : (n.next != 0) = false := by
              by_cases hc : n.next = 0
              · simpa using hc
              · exact absurd ⟨rfl, hc⟩ h7
            clear h7
            go_enter Tryz.func27, Tryz.ntmps27
            go_wp2_with (go_at_call 68; refine (r54_records A c n.log 1 n.term _ (HS.out.mono (by repeat (first | exact Ext.refl _ | assumption | apply Ext.xt | apply Ext.alloc | apply Ext.drew | apply Ext.drewN)))).mono ?_; rintro e w' ⟨rfl, hx⟩; obtain ⟨y, rfl⟩ := hx.get; clear hx)
            go_ret
            exact ⟨ret_i HR.out.symm, by repeat (first | exact Ext.refl _ | assumption | apply Ext.xt | apply Ext.alloc | apply Ext.drew | apply Ext.drewN)⟩
          | true =>
            clear h7
            go_enter Tryz.func27, Tryz.ntmps27
            go_wp2_with (first | (go_at_call 68; refine (r54_records A c n.log 1 n.term _ (HS.out.mono (by repeat (first | exact Ext.refl _ | assumption | apply Ext.xt | apply Ext.alloc | apply Ext.drew | apply Ext.drewN)))).mono ?_; rintro e w' ⟨rfl, hx⟩; obtain ⟨y, rfl⟩ := hx.get; clear hx) | (go_at_call 66; refine (r54_Own _ _ _ i1 i2 i3).mono ?_; rintro e w' ⟨he, rfl⟩; rw [HO.out rfl] at he; subst he))
            go_ret
            exact ⟨ret_i HR.out.symm, by repeat (first | exact Ext.refl _ | assumption | apply Ext.xt | apply Ext.alloc | apply Ext.drew | apply Ext.drewN)⟩
      · have HR := Lib.hid (nodE_f H1.out H2.out H3.out h4 HZ.out HV.out (by
          by_cases hc : 0 ≤ n.acked ∧ n.acked ≤ n.log.length
          · refine .inr (decide_eq_false fun hd => h6 ⟨hc.1, hc.2, hd.1, ?_⟩)
            have := hd.2
            cases b <;> simp at hvb <;> omega
          · exact .inl (decide_eq_false hc)))
        clear hvb
        have hcase : n.acked < 0 ∨ (0 ≤ n.acked ∧ (n.log.length : Int) < n.acked) ∨ (0 ≤ n.acked ∧ n.acked ≤ n.log.length ∧ n.next < 0) ∨ (0 ≤ n.acked ∧ n.acked ≤ n.log.length ∧ 0 ≤ n.next ∧ (n.log.length : Int) < n.next) := by omega
        clear h6
        cases b with
        | false =>
          rcases hcase with q | ⟨q, q2⟩ | ⟨q, q2, q3⟩ | ⟨q, q2, q3, q4⟩
          all_goals
            go_enter Tryz.func27, Tryz.ntmps27
            go_wp2_with (go_at_call 68; refine (r54_records A c n.log 1 n.term _ (HS.out.mono (by repeat (first | exact Ext.refl _ | assumption | apply Ext.xt | apply Ext.alloc | apply Ext.drew | apply Ext.drewN)))).mono ?_; rintro e w' ⟨rfl, hx⟩; obtain ⟨y, rfl⟩ := hx.get; clear hx)
            go_ret
            exact ⟨ret_i HR.out.symm, by repeat (first | exact Ext.refl _ | assumption | apply Ext.xt | apply Ext.alloc | apply Ext.drew | apply Ext.drewN)⟩
        | true =>
          rcases hcase with q | ⟨q, q2⟩ | ⟨q, q2, q3⟩ | ⟨q, q2, q3, q4⟩
          all_goals
            go_enter Tryz.func27, Tryz.ntmps27
            go_wp2_with (first | (go_at_call 68; refine (r54_records A c n.log 1 n.term _ (HS.out.mono (by repeat (first | exact Ext.refl _ | assumption | apply Ext.xt | apply Ext.alloc | apply Ext.drew | apply Ext.drewN)))).mono ?_; rintro e w' ⟨rfl, hx⟩; obtain ⟨y, rfl⟩ := hx.get; clear hx) | (go_at_call 66; refine (r54_Own _ _ _ i1 i2 i3).mono ?_; rintro e w' ⟨he, rfl⟩; rw [HO.out rfl] at he; subst he))
            go_ret
            exact ⟨ret_i HR.out.symm, by repeat (first | exact Ext.refl _ | assumption | apply Ext.xt | apply Ext.alloc | apply Ext.drew | apply Ext.drewN)⟩
    · have hz : (recsE 1 n.term n.log != 0) = true := by simpa using h5
      have HR := Lib.hid (nodE_e H1.out H2.out H3.out h4 h5)
      clear h5
      cases b with
      | false =>
        go_enter Tryz.func27, Tryz.ntmps27
        go_wp2_with (go_at_call 68; refine (r54_records A c n.log 1 n.term _ (HS.out.mono (by repeat (first | exact Ext.refl _ | assumption | apply Ext.xt | apply Ext.alloc | apply Ext.drew | apply Ext.drewN)))).mono ?_; rintro e w' ⟨rfl, hx⟩; obtain ⟨y, rfl⟩ := hx.get; clear hx)
        go_ret
        exact ⟨ret_i HR.out.symm, by repeat (first | exact Ext.refl _ | assumption | apply Ext.xt | apply Ext.alloc | apply Ext.drew | apply Ext.drewN)⟩
      | true =>
        go_enter Tryz.func27, Tryz.ntmps27
        go_wp2_with (first | (go_at_call 68; refine (r54_records A c n.log 1 n.term _ (HS.out.mono (by repeat (first | exact Ext.refl _ | assumption | apply Ext.xt | apply Ext.alloc | apply Ext.drew | apply Ext.drewN)))).mono ?_; rintro e w' ⟨rfl, hx⟩; obtain ⟨y, rfl⟩ := hx.get; clear hx) | (go_at_call 66; refine (r54_Own _ _ _ i1 i2 i3).mono ?_; rintro e w' ⟨he, rfl⟩; rw [HO.out rfl] at he; subst he))
        go_ret
        exact ⟨ret_i HR.out.symm, by repeat (first | exact Ext.refl _ | assumption | apply Ext.xt | apply Ext.alloc | apply Ext.drew | apply Ext.drewN)⟩
set_option maxHeartbeats 3200000 in
set_option maxRecDepth 100000 in
theorem r54_Check (n : Nod) (A : Option Addr) (c : Nat) (w : World) (hs : RecsAt w A c n.log) : Calls Tryz.prog 27 #[.agg #[.int .i64 n.id, .int .i64 n.term, .bool n.speaks, .slice A n.log.length c, .int .i64 n.acked, .int .i64 n.next]] w fun e w' => e = .returned (.int .i64 (nodE n)) ∧ Ext w w' := by
  have hl := hs.len
  by_cases h12 : withinB n.id 1 2 = true ∧ withinB n.term 0 1048576 = true
  · obtain ⟨h1, h2⟩ := h12
    by_cases h3 : n.speaks = true ∧ ownB n.id n.term = false
    · have HR := Lib.hid (nodE_c h1 h2 h3.1 h3.2)
      have i1 := (withinB_yes h1).1; have i2 := (withinB_yes h1).2; have i3 := (withinB_yes h2).1; have i4 := (withinB_yes h2).2
      have HO := Lib.hid h3.2
      rw [h3.1]
      clear h1 h2 h3 hs
      go_enter Tryz.func27, Tryz.ntmps27
      go_wp2_with (go_at_call 66; refine (r54_Own _ _ _ i1 i2 i3).mono ?_; rintro e w' ⟨he, rfl⟩; rw [HO.out] at he; subst he)
      go_ret
      exact ⟨ret_i HR.out.symm, by repeat (first | exact Ext.refl _ | assumption | apply Ext.xt | apply Ext.alloc | apply Ext.drew | apply Ext.drewN)⟩
    · exact r54_Check_go n A c w hs h1 h2 h3 n.speaks rfl (fun hb => by
        cases ho : ownB n.id n.term
        · exact absurd ⟨hb, ho⟩ h3
        · rfl)
  · have hE : nodE n = 2 := by
      cases h1 : withinB n.id 1 2 with
      | false => exact nodE_a h1
      | true =>
        cases h2 : withinB n.term 0 1048576 with
        | false => exact nodE_b h2
        | true => exact absurd ⟨h1, h2⟩ h12
    have HR := Lib.hid hE
    have hcase : n.id < 1 ∨ (1 ≤ n.id ∧ 2 < n.id) ∨ (1 ≤ n.id ∧ n.id ≤ 2 ∧ n.term < 0) ∨ (1 ≤ n.id ∧ n.id ≤ 2 ∧ 0 ≤ n.term ∧ 1048576 < n.term) := by
      by_cases hc : 1 ≤ n.id ∧ n.id ≤ 2
      · have : ¬ (0 ≤ n.term ∧ n.term ≤ 1048576) := fun h => h12 ⟨decide_eq_true hc, decide_eq_true h⟩
        omega
      · omega
    clear h12 hE hs
    rcases hcase with q | ⟨q, q2⟩ | ⟨q, q2, q3⟩ | ⟨q, q2, q3, q4⟩
    all_goals
      go_enter Tryz.func27, Tryz.ntmps27
      go_wp2
      go_ret
      exact ⟨ret_i HR.out.symm, by repeat (first | exact Ext.refl _ | assumption | apply Ext.xt | apply Ext.alloc | apply Ext.drew | apply Ext.drewN)⟩
end Go.Proofs.YtlpboikonnpjbaaGreat

/-
  Chapter 54: the reference's check of messages.
-/
namespace Go.Proofs.YtlpboikonnpjbaaGreat
open Go.RowKit

/-- What is known of the field Before: its bounds as the reference tests them. -/
def BeforeOk (m : Msg) : Prop := (m.at_ = 0 ∧ m.before = 0) ∨ (0 < m.at_ ∧ 1 ≤ m.before ∧ m.before ≤ m.term)
theorem before_ok {m : Msg} (h0 : 0 ≤ m.at_) (h : withinB m.before (leastB m) (mostB m) = true) : BeforeOk m := by
  have := withinB_yes h
  unfold leastB mostB at this
  by_cases hp : 0 < m.at_
  · rw [if_pos hp, if_pos hp] at this; exact .inr ⟨hp, this.1, this.2⟩
  · rw [if_neg hp, if_neg hp] at this; exact .inl ⟨by omega, by omega⟩
theorem before_no {m : Msg} (h0 : 0 ≤ m.at_) (h : withinB m.before (leastB m) (mostB m) = false) : (m.at_ = 0 ∧ m.before ≠ 0) ∨ (0 < m.at_ ∧ m.before < 1) ∨ (0 < m.at_ ∧ 1 ≤ m.before ∧ m.term < m.before) := by
  have := withinB_no h
  unfold leastB mostB at this
  by_cases hp : 0 < m.at_
  · rw [if_pos hp, if_pos hp] at this; omega
  · rw [if_neg hp, if_neg hp] at this; exact .inl ⟨by omega, by omega⟩
set_option maxHeartbeats 6400000 in
set_option maxRecDepth 100000 in
theorem r54_appended_ok (m : Msg) (A : Option Addr) (c : Nat) (w : World) (hs : RecsAt w A c m.recs) (hw : withinB m.before (leastB m) (mostB m) = true) (z0 : Bool) (hz0 : (m.at_ == 0) = z0) (zb : z0 = true → (m.before != 0) = false) (zp : z0 = false → 0 < m.at_ ∧ 1 ≤ m.before ∧ m.before ≤ m.term) (zn : z0 = true → m.at_ ≤ 0) :
    Calls Tryz.prog 69 #[.agg #[.int .i64 m.kind, .int .i64 m.term, .int .i64 m.at_, .int .i64 m.before, .slice A m.recs.length c, .int .i64 m.acked]] w fun e w' => e = .returned (.int .i64 (appE m)) ∧ Ext w w' := by
  have hl := hs.len
  have HS := Lib.hid hs
  have HW := Lib.hid hw
  clear hs hw
  by_cases h2 : 16 < m.recs.length
  · have HR := Lib.hid (appE_b HW.out h2)
    cases z0 with
    | true =>
      have z1 := zb rfl
      have z2 := zn rfl
      clear zb zp zn
      go_enter Tryz.func69, Tryz.ntmps69
      go_wp2
      go_ret
      exact ⟨ret_i HR.out.symm, by repeat (first | exact Ext.refl _ | assumption | apply Ext.xt | apply Ext.alloc | apply Ext.drew | apply Ext.drewN)⟩
    | false =>
      obtain ⟨p1, p2, p3⟩ := zp rfl
      clear zb zp zn
      go_enter Tryz.func69, Tryz.ntmps69
      go_wp2
      go_ret
      exact ⟨ret_i HR.out.symm, by repeat (first | exact Ext.refl _ | assumption | apply Ext.xt | apply Ext.alloc | apply Ext.drew | apply Ext.drewN)⟩
  · by_cases h3 : recsE m.before m.term m.recs = 0
    · have hz : (recsE m.before m.term m.recs != 0) = false := by simpa using h3
      have HR := Lib.hid (appE_d HW.out h2 h3)
      clear h3
      have hcase : m.acked < 0 ∨ (0 ≤ m.acked ∧ 256 < m.acked) ∨ (0 ≤ m.acked ∧ m.acked ≤ 256) := by omega
      cases z0 with
      | true =>
        have z1 := zb rfl
        have z2 := zn rfl
        clear zb zp zn
        rcases hcase with q | ⟨q, q2⟩ | ⟨q, q2⟩
        · have HV := Lib.hid (HR.out.trans (if_neg (by rw [show withinB m.acked 0 256 = false from decide_eq_false (by omega)]; simp)))
          go_enter Tryz.func69, Tryz.ntmps69
          go_wp2_with (go_at_call 68; refine (r54_records A c m.recs m.before m.term _ (HS.out.mono (by repeat (first | exact Ext.refl _ | assumption | apply Ext.xt | apply Ext.alloc | apply Ext.drew | apply Ext.drewN)))).mono ?_; rintro e w' ⟨rfl, hx⟩; obtain ⟨y, rfl⟩ := hx.get; clear hx)
          go_ret
          exact ⟨ret_i HV.out.symm, by repeat (first | exact Ext.refl _ | assumption | apply Ext.xt | apply Ext.alloc | apply Ext.drew | apply Ext.drewN)⟩
        · have HV := Lib.hid (HR.out.trans (if_neg (by rw [show withinB m.acked 0 256 = false from decide_eq_false (by omega)]; simp)))
          go_enter Tryz.func69, Tryz.ntmps69
          go_wp2_with (go_at_call 68; refine (r54_records A c m.recs m.before m.term _ (HS.out.mono (by repeat (first | exact Ext.refl _ | assumption | apply Ext.xt | apply Ext.alloc | apply Ext.drew | apply Ext.drewN)))).mono ?_; rintro e w' ⟨rfl, hx⟩; obtain ⟨y, rfl⟩ := hx.get; clear hx)
          go_ret
          exact ⟨ret_i HV.out.symm, by repeat (first | exact Ext.refl _ | assumption | apply Ext.xt | apply Ext.alloc | apply Ext.drew | apply Ext.drewN)⟩
        · have HV := Lib.hid (HR.out.trans (if_pos (show withinB m.acked 0 256 = true from decide_eq_true ⟨q, q2⟩)))
          go_enter Tryz.func69, Tryz.ntmps69
          go_wp2_with (go_at_call 68; refine (r54_records A c m.recs m.before m.term _ (HS.out.mono (by repeat (first | exact Ext.refl _ | assumption | apply Ext.xt | apply Ext.alloc | apply Ext.drew | apply Ext.drewN)))).mono ?_; rintro e w' ⟨rfl, hx⟩; obtain ⟨y, rfl⟩ := hx.get; clear hx)
          go_ret
          exact ⟨ret_i HV.out.symm, by repeat (first | exact Ext.refl _ | assumption | apply Ext.xt | apply Ext.alloc | apply Ext.drew | apply Ext.drewN)⟩
      | false =>
        obtain ⟨p1, p2, p3⟩ := zp rfl
        clear zb zp zn
        rcases hcase with q | ⟨q, q2⟩ | ⟨q, q2⟩
        · have HV := Lib.hid (HR.out.trans (if_neg (by rw [show withinB m.acked 0 256 = false from decide_eq_false (by omega)]; simp)))
          go_enter Tryz.func69, Tryz.ntmps69
          go_wp2_with (go_at_call 68; refine (r54_records A c m.recs m.before m.term _ (HS.out.mono (by repeat (first | exact Ext.refl _ | assumption | apply Ext.xt | apply Ext.alloc | apply Ext.drew | apply Ext.drewN)))).mono ?_; rintro e w' ⟨rfl, hx⟩; obtain ⟨y, rfl⟩ := hx.get; clear hx)
          go_ret
          exact ⟨ret_i HV.out.symm, by repeat (first | exact Ext.refl _ | assumption | apply Ext.xt | apply Ext.alloc | apply Ext.drew | apply Ext.drewN)⟩
        · have HV := Lib.hid (HR.out.trans (if_neg (by rw [show withinB m.acked 0 256 = false from decide_eq_false (by omega)]; simp)))
          go_enter Tryz.func69, Tryz.ntmps69
          go_wp2_with (go_at_call 68; refine (r54_records A c m.recs m.before m.term _ (HS.out.mono (by repeat (first | exact Ext.refl _ | assumption | apply Ext.xt | apply Ext.alloc | apply Ext.drew | apply Ext.drewN)))).mono ?_; rintro e w' ⟨rfl, hx⟩; obtain ⟨y, rfl⟩ := hx.get; clear hx)
          go_ret
          exact ⟨ret_i HV.out.symm, by repeat (first | exact Ext.refl _ | assumption | apply Ext.xt | apply Ext.alloc | apply Ext.drew | apply Ext.drewN)⟩
        · have HV := Lib.hid (HR.out.trans (if_pos (show withinB m.acked 0 256 = true from decide_eq_true ⟨q, q2⟩)))
          go_enter Tryz.func69, Tryz.ntmps69
          go_wp2_with (go_at_call 68; refine (r54_records A c m.recs m.before m.term _ (HS.out.mono (by repeat (first | exact Ext.refl _ | assumption | apply Ext.xt | apply Ext.alloc | apply Ext.drew | apply Ext.drewN)))).mono ?_; rintro e w' ⟨rfl, hx⟩; obtain ⟨y, rfl⟩ := hx.get; clear hx)
          go_ret
          exact ⟨ret_i HV.out.symm, by repeat (first | exact Ext.refl _ | assumption | apply Ext.xt | apply Ext.alloc | apply Ext.drew | apply Ext.drewN)⟩
    · have hz : (recsE m.before m.term m.recs != 0) = true := by simpa using h3
      have HR := Lib.hid (appE_c HW.out h2 h3)
      clear h3
      cases z0 with
      | true =>
        have z1 := zb rfl
        have z2 := zn rfl
        clear zb zp zn
        go_enter Tryz.func69, Tryz.ntmps69
        go_wp2_with (go_at_call 68; refine (r54_records A c m.recs m.before m.term _ (HS.out.mono (by repeat (first | exact Ext.refl _ | assumption | apply Ext.xt | apply Ext.alloc | apply Ext.drew | apply Ext.drewN)))).mono ?_; rintro e w' ⟨rfl, hx⟩; obtain ⟨y, rfl⟩ := hx.get; clear hx)
        go_ret
        exact ⟨ret_i HR.out.symm, by repeat (first | exact Ext.refl _ | assumption | apply Ext.xt | apply Ext.alloc | apply Ext.drew | apply Ext.drewN)⟩
      | false =>
        obtain ⟨p1, p2, p3⟩ := zp rfl
        clear zb zp zn
        go_enter Tryz.func69, Tryz.ntmps69
        go_wp2_with (go_at_call 68; refine (r54_records A c m.recs m.before m.term _ (HS.out.mono (by repeat (first | exact Ext.refl _ | assumption | apply Ext.xt | apply Ext.alloc | apply Ext.drew | apply Ext.drewN)))).mono ?_; rintro e w' ⟨rfl, hx⟩; obtain ⟨y, rfl⟩ := hx.get; clear hx)
        go_ret
        exact ⟨ret_i HR.out.symm, by repeat (first | exact Ext.refl _ | assumption | apply Ext.xt | apply Ext.alloc | apply Ext.drew | apply Ext.drewN)⟩
set_option maxHeartbeats 3200000 in
set_option maxRecDepth 100000 in
theorem r54_appended (m : Msg) (A : Option Addr) (c : Nat) (w : World) (hs : RecsAt w A c m.recs) (h0 : 0 ≤ m.at_) : Calls Tryz.prog 69 #[.agg #[.int .i64 m.kind, .int .i64 m.term, .int .i64 m.at_, .int .i64 m.before, .slice A m.recs.length c, .int .i64 m.acked]] w fun e w' => e = .returned (.int .i64 (appE m)) ∧ Ext w w' := by
  cases hw : withinB m.before (leastB m) (mostB m) with
  | false =>
    have HR := Lib.hid (appE_a hw)
    have hl := hs.len
    have hno := before_no h0 hw
    clear hw hs
    rcases hno with ⟨q, q2⟩ | ⟨q, q2⟩ | ⟨q, q2, q3⟩
    · have z1 : (m.at_ == 0) = true := by simpa using q
      have z2 : (m.before != 0) = true := by simpa using q2
      have z3 : m.at_ ≤ 0 := by omega
      clear q q2
      go_enter Tryz.func69, Tryz.ntmps69
      go_wp2
      go_ret
      exact ⟨ret_i HR.out.symm, by repeat (first | exact Ext.refl _ | assumption | apply Ext.xt | apply Ext.alloc | apply Ext.drew | apply Ext.drewN)⟩
    · have z1 : (m.at_ == 0) = false := by rw [beq_eq_false_iff_ne]; omega
      go_enter Tryz.func69, Tryz.ntmps69
      go_wp2
      go_ret
      exact ⟨ret_i HR.out.symm, by repeat (first | exact Ext.refl _ | assumption | apply Ext.xt | apply Ext.alloc | apply Ext.drew | apply Ext.drewN)⟩
    · have z1 : (m.at_ == 0) = false := by rw [beq_eq_false_iff_ne]; omega
      go_enter Tryz.func69, Tryz.ntmps69
      go_wp2
      go_ret
      exact ⟨ret_i HR.out.symm, by repeat (first | exact Ext.refl _ | assumption | apply Ext.xt | apply Ext.alloc | apply Ext.drew | apply Ext.drewN)⟩
  | true =>
    have hok := before_ok h0 hw
    refine r54_appended_ok m A c w hs hw _ rfl (fun h => ?_) (fun h => ?_) (fun h => ?_)
    · have h := eq_of_beq h
      rcases hok with ⟨a, b⟩ | ⟨a, _⟩
      · simpa using b
      · omega
    · have h : m.at_ ≠ 0 := by simpa using h
      rcases hok with ⟨a, b⟩ | h1
      · exact absurd a h
      · exact h1
    · have h := eq_of_beq h; omega
set_option maxHeartbeats 3200000 in
set_option maxRecDepth 100000 in
theorem r54_Right_go (k : Int) (m : Msg) (hk : m.kind = k) (A : Option Addr) (c : Nat) (w : World) (hs : RecsAt w A c m.recs) (h1 : withinB k 0 2 = true) (h2 : withinB m.term 1 1048576 = true) (h3 : withinB m.at_ 0 256 = true) :
    Calls Tryz.prog 28 #[.agg #[.int .i64 k, .int .i64 m.term, .int .i64 m.at_, .int .i64 m.before, .slice A m.recs.length c, .int .i64 m.acked]] w fun e w' => e = .returned (.int .i64 (msgE m)) ∧ Ext w w' := by
  have hl := hs.len
  have HS := Lib.hid hs
  have HE := Lib.hid (msgE_c (by rw [hk]; exact h1) h2 h3)
  have i1 := (withinB_yes h1).1; have i2 := (withinB_yes h1).2; have i3 := (withinB_yes h2).1; have i4 := (withinB_yes h2).2; have i5 := (withinB_yes h3).1; have i6 := (withinB_yes h3).2
  clear h1 h2 h3 hs
  by_cases h0 : k = 0
  · subst h0
    have HV := Lib.hid (show msgE m = appE m by rw [HE.out, if_pos hk])
    have HC := Lib.hid (fun (w : World) (h : RecsAt w A c m.recs) => r54_appended m A c w h i5)
    rw [hk] at HC
    clear hk i1 i2
    go_enter Tryz.func28, Tryz.ntmps28
    go_wp2_with (go_at_call 69; refine (HC.out _ (HS.out.mono (by repeat (first | exact Ext.refl _ | assumption | apply Ext.xt | apply Ext.alloc | apply Ext.drew | apply Ext.drewN)))).mono ?_; rintro e w' ⟨rfl, hx⟩; obtain ⟨y, rfl⟩ := hx.get; clear hx)
    go_ret
    exact ⟨ret_i HV.out.symm, by repeat (first | exact Ext.refl _ | assumption | apply Ext.xt | apply Ext.alloc | apply Ext.drew | apply Ext.drewN)⟩
  · have hz0 : (k == 0) = false := by simpa using h0
    have HV := Lib.hid (show msgE m = ansE m by rw [HE.out, if_neg (by rw [hk]; exact h0)])
    have yes : m.before = 0 → ¬ 0 < m.recs.length → m.acked = 0 → 0 = msgE m := fun h1 h2 h3 => by
      rw [HV.out]
      unfold ansE
      rw [if_neg]
      rintro (h | h | h)
      · exact h h1
      · exact h (List.eq_nil_of_length_eq_zero (by omega))
      · exact h h3
    have no : (m.before ≠ 0 ∨ 0 < m.recs.length ∨ m.acked ≠ 0) → 3 = msgE m := fun h => by
      rw [HV.out]
      unfold ansE
      rw [if_pos]
      rcases h with h | h | h
      · exact .inl h
      · exact .inr (.inl fun hn => by rw [hn] at h; simp at h)
      · exact .inr (.inr h)
    clear h0 hk
    by_cases h1 : m.before = 0
    · have hz : (m.before != 0) = false := by simpa using h1
      by_cases h2 : 0 < m.recs.length
      · have HV := Lib.hid (no (.inr (.inl h2)))
        clear yes no h1
        go_enter Tryz.func28, Tryz.ntmps28
        go_wp2
        go_ret
        exact ⟨ret_i HV.out, by repeat (first | exact Ext.refl _ | assumption | apply Ext.xt | apply Ext.alloc | apply Ext.drew | apply Ext.drewN)⟩
      · by_cases h3 : m.acked = 0
        · have hz3 : (m.acked != 0) = false := by simpa using h3
          have HV := Lib.hid (yes h1 h2 h3)
          clear yes no h1 h3
          go_enter Tryz.func28, Tryz.ntmps28
          go_wp2
          go_ret
          exact ⟨ret_i HV.out, by repeat (first | exact Ext.refl _ | assumption | apply Ext.xt | apply Ext.alloc | apply Ext.drew | apply Ext.drewN)⟩
        · have hz3 : (m.acked != 0) = true := by simpa using h3
          have HV := Lib.hid (no (.inr (.inr h3)))
          clear yes no h1 h3
          go_enter Tryz.func28, Tryz.ntmps28
          go_wp2
          go_ret
          exact ⟨ret_i HV.out, by repeat (first | exact Ext.refl _ | assumption | apply Ext.xt | apply Ext.alloc | apply Ext.drew | apply Ext.drewN)⟩
    · have hz : (m.before != 0) = true := by simpa using h1
      have HV := Lib.hid (no (.inl h1))
      clear yes no h1
      go_enter Tryz.func28, Tryz.ntmps28
      go_wp2
      go_ret
      exact ⟨ret_i HV.out, by repeat (first | exact Ext.refl _ | assumption | apply Ext.xt | apply Ext.alloc | apply Ext.drew | apply Ext.drewN)⟩
set_option maxHeartbeats 3200000 in
set_option maxRecDepth 100000 in
theorem r54_Right (m : Msg) (A : Option Addr) (c : Nat) (w : World) (hs : RecsAt w A c m.recs) : Calls Tryz.prog 28 #[.agg #[.int .i64 m.kind, .int .i64 m.term, .int .i64 m.at_, .int .i64 m.before, .slice A m.recs.length c, .int .i64 m.acked]] w fun e w' => e = .returned (.int .i64 (msgE m)) ∧ Ext w w' := by
  have hl := hs.len
  cases h1 : withinB m.kind 0 2 with
  | false =>
    have HR := Lib.hid (msgE_a h1)
    have hor := withinB_no h1
    clear h1 hs
    by_cases hc : m.kind < 0
    · clear hor
      go_enter Tryz.func28, Tryz.ntmps28
      go_wp2
      go_ret
      exact ⟨ret_i HR.out.symm, by repeat (first | exact Ext.refl _ | assumption | apply Ext.xt | apply Ext.alloc | apply Ext.drew | apply Ext.drewN)⟩
    · have h2 : 2 < m.kind := by omega
      clear hor
      go_enter Tryz.func28, Tryz.ntmps28
      go_wp2
      go_ret
      exact ⟨ret_i HR.out.symm, by repeat (first | exact Ext.refl _ | assumption | apply Ext.xt | apply Ext.alloc | apply Ext.drew | apply Ext.drewN)⟩
  | true =>
    by_cases h23 : withinB m.term 1 1048576 = true ∧ withinB m.at_ 0 256 = true
    · exact r54_Right_go m.kind m rfl A c w hs h1 h23.1 h23.2
    · have HR := Lib.hid (msgE_b (m := m) h1 (by
        cases h2 : withinB m.term 1 1048576 with
        | false => exact .inl rfl
        | true =>
          cases h3 : withinB m.at_ 0 256 with
          | false => exact .inr rfl
          | true => exact absurd ⟨h2, h3⟩ h23))
      have i1 := (withinB_yes h1).1; have i2 := (withinB_yes h1).2
      have hcase : m.term < 1 ∨ (1 ≤ m.term ∧ 1048576 < m.term) ∨ (1 ≤ m.term ∧ m.term ≤ 1048576 ∧ m.at_ < 0) ∨ (1 ≤ m.term ∧ m.term ≤ 1048576 ∧ 0 ≤ m.at_ ∧ 256 < m.at_) := by
        by_cases hc : 1 ≤ m.term ∧ m.term ≤ 1048576
        · have : ¬ (0 ≤ m.at_ ∧ m.at_ ≤ 256) := fun h => h23 ⟨decide_eq_true hc, decide_eq_true h⟩
          omega
        · omega
      clear h1 h23 hs
      rcases hcase with q | ⟨q, q2⟩ | ⟨q, q2, q3⟩ | ⟨q, q2, q3, q4⟩
      all_goals
        go_enter Tryz.func28, Tryz.ntmps28
        go_wp2
        go_ret
        exact ⟨ret_i HR.out.symm, by repeat (first | exact Ext.refl _ | assumption | apply Ext.xt | apply Ext.alloc | apply Ext.drew | apply Ext.drewN)⟩
end Go.Proofs.YtlpboikonnpjbaaGreat
