import Derived.Test.YtgmicckeefoghaaStr
namespace Go.Proofs.Ytgmicckeefoghaa
open Go.RowKit

set_option maxHeartbeats 400000 in
theorem r15_Param (p : Param) (w : World) : Calls Try.prog 37 #[.agg (prm p).toArray] w fun e w' => e = .returned (.int .i64 (paramE p)) ∧ Ext w w' := by
  obtain ⟨ch, at_⟩ := p
  simp only [prm]
  go_enter Try.func37, Try.ntmps37
  go_wp2
  all_goals go_ret
  all_goals refine ⟨ret_i ?_, by repeat (first | exact Ext.refl _ | assumption | apply Ext.xt | apply Ext.alloc | apply Ext.drew | apply Ext.drewN)⟩
  all_goals (simp only [paramE]; split <;> omega)
set_option maxHeartbeats 400000 in
theorem cue_param (p : Param) (w : World) : Calls Try.prog 96 #[.agg (prm p).toArray] w fun e w' => e = .returned (.int .i64 (paramE p)) ∧ Ext w w' := by
  obtain ⟨ch, at_⟩ := p
  simp only [prm]
  go_enter Try.func96, Try.ntmps96
  go_wp2
  all_goals go_ret
  all_goals refine ⟨ret_i ?_, by repeat (first | exact Ext.refl _ | assumption | apply Ext.xt | apply Ext.alloc | apply Ext.drew | apply Ext.drewN)⟩
  all_goals (simp only [paramE]; split <;> omega)
set_option maxHeartbeats 400000 in
theorem r15_Value (v : Val) (w : World) : Calls Try.prog 124 #[.agg (vl v).toArray] w fun e w' => e = .returned (.int .i64 (valueE v)) ∧ Ext w w' := by
  obtain ⟨ch, at_⟩ := v
  simp only [vl]
  go_enter Try.func124, Try.ntmps124
  go_wp2
  all_goals go_ret
  all_goals refine ⟨ret_i ?_, by repeat (first | exact Ext.refl _ | assumption | apply Ext.xt | apply Ext.alloc | apply Ext.drew | apply Ext.drewN)⟩
  all_goals grind [valueE]
set_option maxHeartbeats 400000 in
theorem pal_Value (v : Val) (w : World) : Calls Try.prog 118 #[.agg (vl v).toArray] w fun e w' => e = .returned (.int .i64 (valueE v)) ∧ Ext w w' := by
  obtain ⟨ch, at_⟩ := v
  simp only [vl]
  go_enter Try.func118, Try.ntmps118
  go_wp2
  all_goals go_ret
  all_goals refine ⟨ret_i ?_, by repeat (first | exact Ext.refl _ | assumption | apply Ext.xt | apply Ext.alloc | apply Ext.drew | apply Ext.drewN)⟩
  all_goals grind [valueE]
set_option maxHeartbeats 400000 in
theorem r15_Before (p q : Param) (w : World) : Calls Try.prog 125 #[.agg (prm p).toArray, .agg (prm q).toArray] w fun e w' => e = .returned (.bool (before p q)) ∧ Ext w w' := by
  obtain ⟨ch, at_⟩ := p
  obtain ⟨ch', at'⟩ := q
  simp only [prm]
  go_enter Try.func125, Try.ntmps125
  go_wp2
  all_goals go_ret
  all_goals refine ⟨ret_b ?_, by repeat (first | exact Ext.refl _ | assumption | apply Ext.xt | apply Ext.alloc | apply Ext.drew | apply Ext.drewN)⟩
  all_goals grind [before]
set_option maxHeartbeats 400000 in
theorem cue_compare (p q : Param) (w : World) (hp : paramE p = 0) (hq : paramE q = 0) : Calls Try.prog 172 #[.agg (prm p).toArray, .agg (prm q).toArray] w fun e w' => e = .returned (.int .i64 (cmpP p q)) ∧ Ext w w' := by
  obtain ⟨ch, at_⟩ := p
  obtain ⟨ch', at'⟩ := q
  obtain ⟨h1, h2, h3, h4⟩ := paramE_ok hp
  obtain ⟨k1, k2, k3, k4⟩ := paramE_ok hq
  simp only [] at h1 h2 h3 h4 k1 k2 k3 k4
  clear hp hq
  simp only [prm]
  go_enter Try.func172, Try.ntmps172
  go_wp2
  all_goals go_ret
  all_goals refine ⟨ret_i ?_, by repeat (first | exact Ext.refl _ | assumption | apply Ext.xt | apply Ext.alloc | apply Ext.drew | apply Ext.drewN)⟩
  all_goals (simp only [cmpP]; grind)
set_option maxHeartbeats 400000 in
/-- A move behind nothing. -/
theorem cue_move0 (m : Move) (A : Option Addr) (c : Nat) (w : World) : Calls Try.prog 127 #[.agg (mv m).toArray, .slice A 0 c] w fun e w' => e = .returned (.int .i64 (moveE none m)) ∧ Ext w w' := by
  simp only [mv]
  go_enter Try.func127, Try.ntmps127
  go_wp2_with (first | (go_at_call 96; refine (cue_param m.p _).mono ?_; rintro e w' ⟨rfl, hx⟩; obtain ⟨y, rfl⟩ := hx.get; clear hx) | (go_at_call 118; refine (pal_Value m.v _).mono ?_; rintro e w' ⟨rfl, hx⟩; obtain ⟨y, rfl⟩ := hx.get; clear hx))
  all_goals try (go_ret; go_light; refine ⟨ret_i ?_, by repeat (first | exact Ext.refl _ | assumption | apply Ext.xt | apply Ext.alloc | apply Ext.drew | apply Ext.drewN)⟩; grind [moveE, moveE1])
  (refine wp_region_grows (by kernel_rfl) (by kernel_rfl) ?_; (repeat (go_big_quiet_step (fail))); refine wpQuiet_nil ?_; rintro _ ⟨y, rfl⟩)
  go_wp2
  go_ret
  go_light
  refine ⟨ret_i ?_, by repeat (first | exact Ext.refl _ | assumption | apply Ext.xt | apply Ext.alloc | apply Ext.drew | apply Ext.drewN)⟩
  grind [moveE, moveE1]
set_option maxHeartbeats 400000 in
/-- A move behind another one. -/
theorem cue_move1 (m m' : Move) (b o k c : Nat) (w : World) (hk : 0 < k) (hkm : k ≤ 1000000) (hp : paramE m'.p = 0)
    (hp0 : w.cell? ⟨b, o + (k - 1) * 5, none⟩ = some (.int .i64 m'.p.ch)) (hp1 : w.cell? ⟨b, o + (k - 1) * 5 + 1, none⟩ = some (.int .i64 m'.p.attr)) :
    Calls Try.prog 127 #[.agg (mv m).toArray, .slice (some ⟨b, o, none⟩) k c] w fun e w' => e = .returned (.int .i64 (moveE (some m') m)) ∧ Ext w w' := by
  simp only [mv]
  have HP := Lib.hid hp
  have hk1 : (0 : Int) < (k : Int) := by omega
  have hk2 : (k : Int) ≤ 1000000 := by omega
  clear hp hkm
  by_cases h0 : paramE m.p = 0
  · have C : Hid (∀ w, Calls Try.prog 172 #[.agg (prm m'.p).toArray, .agg (prm m.p).toArray] w fun e w' => e = .returned (.int .i64 (cmpP m'.p m.p)) ∧ Ext w w') := Lib.hid fun w => cue_compare m'.p m.p w HP.out h0
    have HB := Lib.hid (cmpP_before m'.p m.p)
    have H0 := Lib.hid h0
    clear h0
    go_enter Try.func127, Try.ntmps127
    go_wp2_with (first | (go_at_call 96; refine (cue_param m.p _).mono ?_; rintro e w' ⟨rfl, hx⟩; obtain ⟨y, rfl⟩ := hx.get; clear hx) | (go_at_call 118; refine (pal_Value m.v _).mono ?_; rintro e w' ⟨rfl, hx⟩; obtain ⟨y, rfl⟩ := hx.get; clear hx))
    all_goals try (go_ret; go_light; refine ⟨ret_i ?_, by repeat (first | exact Ext.refl _ | assumption | apply Ext.xt | apply Ext.alloc | apply Ext.drew | apply Ext.drewN)⟩; have hh := H0.out; grind [moveE, moveE1])
    (refine wp_region_grows (by kernel_rfl) (by kernel_rfl) ?_; (repeat (go_big_quiet_step ((go_at_call 172; exact Calls.grows (C.out _))))); refine wpQuiet_nil ?_; rintro _ ⟨y, rfl⟩)
    go_wp2
    all_goals
      go_ret
      go_light
      refine ⟨ret_i ?_, by repeat (first | exact Ext.refl _ | assumption | apply Ext.xt | apply Ext.alloc | apply Ext.drew | apply Ext.drewN)⟩
      have hh := H0.out
      have hb := HB.out
      grind [moveE, moveE1]
  · have hb : (paramE m.p != 0) = true := by simpa using h0
    have H0 := Lib.hid h0
    clear h0
    go_enter Try.func127, Try.ntmps127
    go_wp2_with (go_at_call 96; refine (cue_param m.p _).mono ?_; rintro e w' ⟨rfl, hx⟩; obtain ⟨y, rfl⟩ := hx.get; clear hx)
    go_ret
    go_light
    refine ⟨ret_i ?_, by repeat (first | exact Ext.refl _ | assumption | apply Ext.xt | apply Ext.alloc | apply Ext.drew | apply Ext.drewN)⟩
    have hh := H0.out
    grind [moveE, moveE1]

set_option maxHeartbeats 800000 in
theorem r16_Moves (A : Option Addr) (c : Nat) (l : List Move) (w : World) (hs : Sl w A 5 (l.map mv)) (hl : l.length ≤ maxLen) :
    Calls Try.prog 64 #[.slice A l.length c] w fun e w' => e = .returned (.int .i64 (movesE l)) ∧ Ext w w' := by
  unfold maxLen at hl
  by_cases h128 : 128 < l.length
  · go_enter Try.func64, Try.ntmps64
    go_wp2
    go_ret
    exact ⟨ret_i (by simp [movesE, h128]), Ext.refl _⟩
  have h0 : (0 : Int) ≤ l.length := by omega
  have HM : Hid (movesE l = scan moveE none l) := Lib.hid (by unfold movesE; rw [if_neg h128])
  go_enter Try.func64, Try.ntmps64
  go_wp2
  go_loopw [3] (fun i wr => ∃ k : Nat, k ≤ l.length ∧ i = .int .i64 k ∧ Ext w wr ∧ Hid (movesE l = scan moveE (prv l k) (l.drop k))) (fun i _ => l.length - (intOf i).toNat)
  case atStart => exact ⟨0, by omega, rfl, Ext.refl _, HM⟩
  case round =>
    obtain ⟨k, hk, rfl, hx, HE⟩ := hrel
    obtain ⟨y, rfl⟩ := hx.get
    clear hx HM
    by_cases hlt : k < l.length
    · obtain ⟨m, hm⟩ : ∃ m, l[k]? = some m := ⟨_, List.getElem?_eq_getElem hlt⟩
      obtain ⟨b, o, rfl, hc0, hc1, hc2, hc3, hc4⟩ := hs.row5 (i := k) (by rw [List.getElem?_map, hm]; rfl)
      have HS := Lib.hid (HE.out.trans (scan_at moveE l k m hm))
      clear HE
      by_cases hk0 : 0 < k
      · obtain ⟨m', hm'⟩ : ∃ m', l[k - 1]? = some m' := ⟨_, List.getElem?_eq_getElem (by omega)⟩
        obtain ⟨b', o', he, hp0, hp1, hp2, hp3, hp4⟩ := hs.row5 (i := k - 1) (by rw [List.getElem?_map, hm']; rfl)
        injection he with he
        injection he with hb ho
        subst hb ho
        have HP : Hid (prv l k = some m') := Lib.hid (by unfold prv; rw [if_neg (by omega), hm'])
        clear hm hm' hs hp2 hp3 hp4
        go_wp2_with (first | (go_at_call 37; refine (r15_Param m.p _).mono ?_; rintro e w' ⟨rfl, hx⟩; obtain ⟨y, rfl⟩ := hx.get; clear hx) | (go_at_call 124; refine (r15_Value m.v _).mono ?_; rintro e w' ⟨rfl, hx⟩; obtain ⟨y, rfl⟩ := hx.get; clear hx))
        all_goals try (go_ret; go_light; refine ⟨ret_i ?_, by repeat (first | exact Ext.refl _ | assumption | apply Ext.xt | apply Ext.alloc | apply Ext.drew | apply Ext.drewN)⟩; have hS := HS.out; have hP := HP.out; rw [hP] at hS; grind [moveE, moveE1])
        (refine wp_region_grows (by kernel_rfl) (by kernel_rfl) ?_; (repeat (go_big_quiet_step ((go_at_call 125; exact Calls.grows (r15_Before m'.p m.p _))))); refine wpQuiet_nil ?_; rintro _ ⟨y, rfl⟩)
        go_wp2
        · go_ret
          go_light
          have hS := HS.out
          have hP := HP.out
          refine ⟨ret_i ?_, by repeat (first | exact Ext.refl _ | assumption | apply Ext.xt | apply Ext.alloc | apply Ext.drew | apply Ext.drewN)⟩
          rw [hP] at hS
          grind [moveE, moveE1]
        · go_light
          have hS := HS.out
          have hP := HP.out
          refine ⟨⟨k + 1, by omega, by go_num, by repeat (first | exact Ext.refl _ | assumption | apply Ext.xt | apply Ext.alloc | apply Ext.drew | apply Ext.drewN), Lib.hid ?_⟩, by simp [intOf]; omega⟩
          rw [hP] at hS
          grind [moveE, moveE1]
      · have HP : Hid (prv l k = none) := Lib.hid (by unfold prv; rw [if_pos (by omega)])
        obtain rfl : k = 0 := by omega
        simp only [Nat.zero_mul, Nat.add_zero] at hc0 hc1 hc2 hc3 hc4
        clear hm hs hk0
        go_wp2_with (first | (go_at_call 37; refine (r15_Param m.p _).mono ?_; rintro e w' ⟨rfl, hx⟩; obtain ⟨y, rfl⟩ := hx.get; clear hx) | (go_at_call 124; refine (r15_Value m.v _).mono ?_; rintro e w' ⟨rfl, hx⟩; obtain ⟨y, rfl⟩ := hx.get; clear hx))
        all_goals try (go_ret; go_light; refine ⟨ret_i ?_, by repeat (first | exact Ext.refl _ | assumption | apply Ext.xt | apply Ext.alloc | apply Ext.drew | apply Ext.drewN)⟩; have hS := HS.out; have hP := HP.out; rw [hP] at hS; grind [moveE, moveE1])
        (refine wp_region_grows (by kernel_rfl) (by kernel_rfl) ?_; (repeat (go_big_quiet_step (fail))); refine wpQuiet_nil ?_; rintro _ ⟨y, rfl⟩)
        go_wp2
        go_light
        have hS := HS.out
        have hP := HP.out
        refine ⟨⟨1, by omega, by rfl, by repeat (first | exact Ext.refl _ | assumption | apply Ext.xt | apply Ext.alloc | apply Ext.drew | apply Ext.drewN), Lib.hid ?_⟩, by simp [intOf]; omega⟩
        rw [hP] at hS
        grind [moveE, moveE1]
    · have HS := Lib.hid (HE.out.trans (scan_end moveE l k _ (by omega)))
      go_wp2
      go_ret
      rw [HS.out]
      exact ⟨rfl, by repeat (first | exact Ext.refl _ | assumption | apply Ext.xt | apply Ext.alloc | apply Ext.drew | apply Ext.drewN)⟩

set_option maxHeartbeats 800000 in
theorem cue_Moves (A : Option Addr) (c : Nat) (l : List Move) (w : World) (hs : Sl w A 5 (l.map mv)) (hl : l.length ≤ maxLen) (hc : l.length ≤ c) (hcm : c ≤ maxLen) :
    Calls Try.prog 63 #[.slice A l.length c] w fun e w' => e = .returned (.int .i64 (movesE l)) ∧ Ext w w' := by
  unfold maxLen at hl hcm
  by_cases h128 : 128 < l.length
  · go_enter Try.func63, Try.ntmps63
    go_wp2
    go_ret
    exact ⟨ret_i (by simp [movesE, h128]), Ext.refl _⟩
  have h0 : (0 : Int) ≤ l.length := by omega
  have HM : Hid (movesE l = scan moveE none l) := Lib.hid (by unfold movesE; rw [if_neg h128])
  go_enter Try.func63, Try.ntmps63
  go_wp2
  go_loopw [11] (fun i wr => ∃ k : Nat, k ≤ l.length ∧ i = .int .i64 k ∧ Ext w wr ∧ Hid (movesE l = scan moveE (prv l k) (l.drop k)) ∧ Hid (∀ m', prv l k = some m' → paramE m'.p = 0)) (fun i _ => l.length - (intOf i).toNat)
  case atStart => exact ⟨0, by omega, rfl, Ext.refl _, HM, Lib.hid (by intro m' h; simp [prv] at h)⟩
  case round =>
    obtain ⟨k, hk, rfl, hx, HE, HQ⟩ := hrel
    obtain ⟨y, rfl⟩ := hx.get
    clear hx HM
    by_cases hlt : k < l.length
    · obtain ⟨m, hm⟩ : ∃ m, l[k]? = some m := ⟨_, List.getElem?_eq_getElem hlt⟩
      have HM := Lib.hid hm
      obtain ⟨b, o, rfl, hc0, hc1, hc2, hc3, hc4⟩ := hs.row5 (i := k) (by rw [List.getElem?_map, hm]; rfl)
      have HS := Lib.hid (HE.out.trans (scan_at moveE l k m hm))
      clear HE
      have hb0 : (0 : Int) ≤ (k : Int) := by omega
      have hb1 : (k : Int) ≤ (l.length : Int) := by omega
      have hb2 : (k : Int) ≤ (c : Int) := by omega
      by_cases hk0 : 0 < k
      · obtain ⟨m', hm'⟩ : ∃ m', l[k - 1]? = some m' := ⟨_, List.getElem?_eq_getElem (by omega)⟩
        obtain ⟨b', o', he, hp0, hp1, hp2, hp3, hp4⟩ := hs.row5 (i := k - 1) (by rw [List.getElem?_map, hm']; rfl)
        injection he with he
        injection he with hb ho
        subst hb ho
        have hP : prv l k = some m' := by unfold prv; rw [if_neg (by omega), hm']
        have HP := Lib.hid hP
        have HQ' := Lib.hid (HQ.out m' hP)
        clear hm hm' hs hp2 hp3 hp4 hP HQ
        go_wp2
        (refine wp_region_grows (by kernel_rfl) (by kernel_rfl) ?_; (repeat (go_big_quiet_step ((go_at_call 127; exact Calls.grows (cue_move1 m m' b o k _ _ (by omega) (by omega) HQ'.out (by simp [go_sem, *]) (by simp [go_sem, *])))))); refine wpQuiet_nil ?_; rintro _ ⟨y, rfl⟩)
        go_wp2
        · go_ret
          go_light
          have hS := HS.out
          have hP := HP.out
          refine ⟨ret_i ?_, by repeat (first | exact Ext.refl _ | assumption | apply Ext.xt | apply Ext.alloc | apply Ext.drew | apply Ext.drewN)⟩
          rw [hP] at hS
          grind
        · go_light
          have hS := HS.out
          have hP := HP.out
          have hM := HM.out
          refine ⟨⟨k + 1, by omega, by go_num, by repeat (first | exact Ext.refl _ | assumption | apply Ext.xt | apply Ext.alloc | apply Ext.drew | apply Ext.drewN), Lib.hid ?_, Lib.hid ?_⟩, by simp [intOf]; omega⟩
          · rw [hP] at hS
            grind
          · intro n hn
            rw [prv_succ, hM] at hn
            injection hn with hn
            subst hn
            exact moveE_param (q := some m') (by grind)
      · have HP : Hid (prv l k = none) := Lib.hid (by unfold prv; rw [if_pos (by omega)])
        obtain rfl : k = 0 := by omega
        simp only [Nat.zero_mul, Nat.add_zero] at hc0 hc1 hc2 hc3 hc4
        clear hm hs hk0 HQ
        go_wp2
        (refine wp_region_grows (by kernel_rfl) (by kernel_rfl) ?_; (repeat (go_big_quiet_step ((go_at_call 127; exact Calls.grows (cue_move0 m _ _ _))))); refine wpQuiet_nil ?_; rintro _ ⟨y, rfl⟩)
        go_wp2
        · go_ret
          go_light
          have hS := HS.out
          have hP := HP.out
          refine ⟨ret_i ?_, by repeat (first | exact Ext.refl _ | assumption | apply Ext.xt | apply Ext.alloc | apply Ext.drew | apply Ext.drewN)⟩
          rw [hP] at hS
          grind
        · go_light
          have hS := HS.out
          have hP := HP.out
          have hM := HM.out
          refine ⟨⟨1, by omega, by rfl, by repeat (first | exact Ext.refl _ | assumption | apply Ext.xt | apply Ext.alloc | apply Ext.drew | apply Ext.drewN), Lib.hid ?_, Lib.hid ?_⟩, by simp [intOf]; omega⟩
          · rw [hP] at hS
            grind
          · intro n hn
            rw [prv_succ, hM] at hn
            injection hn with hn
            subst hn
            exact moveE_param (q := none) (by grind)
    · have HS := Lib.hid (HE.out.trans (scan_end moveE l k _ (by omega)))
      go_wp2
      go_ret
      rw [HS.out]
      exact ⟨rfl, by repeat (first | exact Ext.refl _ | assumption | apply Ext.xt | apply Ext.alloc | apply Ext.drew | apply Ext.drewN)⟩
end Go.Proofs.Ytgmicckeefoghaa
