/-
  Chapter 54: what an Append does that fits.
-/
import Derived.Test.YtmhinhgflehkaaaGreatGrpg
namespace Go.Proofs.YtmhinhgflehkaaaGreat
open Go.RowKit

theorem rep_records_n (A : Option Addr) (c n : Nat) (l : List Rec) (hn : l.length = n) (low high : Int) (w : World) (hs : RecsAt w A c l) :
    Calls Tryz.prog 134 #[.slice A n c, .int .i64 low, .int .i64 high] w fun e w' => e = .returned (.int .i64 (recsE low high l)) ∧ Ext w w' := by
  subst hn
  exact rep_records A c l low high w hs
section
variable (n : Nod) (A : Option Addr) (c : Nat) (m : Msg) (p : Nat) (B : Option Addr) (d : Nat) (w : World) (y0 : Gr)
set_option maxHeartbeats 25600000 in
set_option maxRecDepth 100000 in
theorem take_main (hp : m.at_ = p) (hs : RecsAt w A c n.log) (hm : RecsAt w B d m.recs) (h256 : n.log.length ≤ 256) (hrl : m.recs.length ≤ 16) (hpl : p ≤ n.log.length) (h2 : ¬ (0 < m.at_ ∧ termAt n.log (m.at_ - 1) ≠ m.before)) (hg : (0 < p ∧ ∃ (r : Rec) (b o : Nat), A = some ⟨b, o, none⟩ ∧ w.cell? ⟨b, o + (p - 1) * 45, none⟩ = some (.int .i64 r.term) ∧ (r.term != m.before) = false) ∨ ¬ 0 < p) (h3 : ¬ (keepN (n.log.drop m.at_.toNat) m.recs < m.recs.length ∧ m.at_ + keepN (n.log.drop m.at_.toNat) m.recs < min n.acked n.log.length)) : Calls Tryz.prog 169 #[.pointer (some ⟨w.heap.size, 0, none⟩), .agg #[.int .i64 m.kind, .int .i64 m.term, .int .i64 p, .int .i64 m.before, .slice B m.recs.length d, .int .i64 m.acked]] (xt (w.alloc (.cells #[.int .i64 n.id, .int .i64 n.term, .bool n.speaks, .slice A n.log.length c, .int .i64 n.acked, .int .i64 n.next] 24)) y0) (RetBox w (xt (w.alloc (.cells #[.int .i64 n.id, .int .i64 n.term, .bool n.speaks, .slice A n.log.length c, .int .i64 n.acked, .int .i64 n.next] 24)) y0) (takeV n m)) := by
  have hl := hs.len
  have hl2 := hm.len
  have hcap := hs.le
  have hcap2 := hm.le
  have hd : decide (n.log.length < p) = false := decide_eq_false (by omega)
  obtain ⟨k, hk⟩ : ∃ k, keepN (n.log.drop p) m.recs = k := ⟨_, rfl⟩
  have hkl := keepN_le (n.log.drop p) m.recs
  rw [hk, List.length_drop] at hkl
  obtain ⟨hk1, hk2⟩ := hkl
  have hpt := hs.part p n.log.length (Nat.le_refl _) (n.log.length - p) rfl
  rw [List.take_length] at hpt
  have HD1 := Lib.hid hpt.1
  have HD2 := Lib.hid hpt.2
  have HS := Lib.hid hs
  have HM := Lib.hid hm
  have HK := Lib.hid hk
  have hpn : (0 : Int) ≤ (p : Int) := by omega
  have hpc : (p : Int) ≤ (n.log.length : Int) := by omega
  have hat : m.at_.toNat = p := by omega
  obtain ⟨L, hL⟩ : ∃ L, tookL n m = L := ⟨_, rfl⟩
  obtain ⟨N, hN⟩ : ∃ N, L.length = N := ⟨_, rfl⟩
  have htl := tookL_len (n := n) (m := m) (by omega)
  rw [hat, hk, hL] at htl
  have hdef : tookL n m = if k < m.recs.length then n.log.take (p + k) ++ m.recs.drop k else n.log := by
    unfold tookL
    simp only
    rw [hat, hk]
  rw [hL] at hdef
  have hV1 := fun h4 => takeV_many (n := n) (m := m) (by omega) h2 h3 h4
  have hV2 := fun h4 h5 => takeV_order (n := n) (m := m) (by omega) h2 h3 h4 h5
  have hV3 := fun h4 h5 => takeV_fine (n := n) (m := m) (by omega) h2 h3 h4 h5
  unfold tookN ansM at hV3
  rw [hL] at hV1 hV2 hV3
  rw [hp] at hV3
  rw [hN] at hV1 hV2 hV3
  have HV1 := Lib.hid hV1
  have HV2 := Lib.hid hV2
  have HV3 := Lib.hid hV3
  have HN := Lib.hid hN
  have HDEF := Lib.hid hdef
  have hq1 := hs.part 0 (p + k) (by omega) (p + k) (Nat.sub_zero _)
  have hq2 := hm.part k m.recs.length (Nat.le_refl _) (m.recs.length - k) rfl
  rw [List.take_length] at hq2
  rw [List.drop_zero, partA_zero, Nat.sub_zero] at hq1
  have HT1 := Lib.hid hq1.1
  have HT2 := Lib.hid hq2.1
  have HT3 := Lib.hid hq1.2
  have HT4 := Lib.hid hq2.2
  have hnl : k < m.recs.length → ¬ (p : Int) + (k : Int) < min n.acked (n.log.length : Int) := fun hc hd => h3 ⟨by rw [hat, hk]; exact hc, by rw [hat, hk, hp]; exact hd⟩
  have HNL := Lib.hid hnl
  have HTL := Lib.hid htl
  have hNI : (N : Int) ≤ 100000 := by
    rcases Nat.lt_or_ge k m.recs.length with hc | hc
    · have := htl.1 hc; omega
    · have := htl.2.1 (by omega); rw [this] at hN; omega
  clear hs hm hp hk hpt h2 h3 hL hN htl hdef hV1 hV2 hV3 hq1 hq2 hnl hat
  rcases hg with ⟨h0, r, b, o, rfl, ht, hz⟩ | h0
  · have hi1 : (0 : Int) ≤ (p : Int) - 1 := by omega
    have hi2 : (p : Int) - 1 < (n.log.length : Int) := by omega
    have hi3 : ((p : Int) - 1).toNat = p - 1 := by omega
    have hw : IntKind.i64.wrap ((p : Int) - 1) = (p : Int) - 1 := IntWalk.i64_in _ (by omega)
    go_enter Tryz.func169, Tryz.ntmps169
    go_wp2
    (refine wp_region_grows (by kernel_rfl) (by kernel_rfl) ?_; (repeat (go_big_quiet_step (fail))); refine wpQuiet_nil ?_; rintro _ ⟨y, rfl⟩)
    go_wp2
    (refine wp_region_grows (by kernel_rfl) (by kernel_rfl) ?_; (repeat (go_big_quiet_step (fail))); refine wpQuiet_nil ?_; rintro _ ⟨y, rfl⟩)
    go_wp2
    (refine wp_region_grows (by kernel_rfl) (by kernel_rfl) ?_; (repeat (go_big_quiet_step ((go_at_call 135; exact Calls.grows (common_take _ _ _ (n.log.drop p) HD2.out _ _ _ m.recs rfl _ (HD1.out.mono (ex)) (HM.out.mono (ex))))))); refine wpQuiet_nil ?_; rintro _ ⟨y, rfl⟩)
    rw [HK.out]
    go_wp2
    (refine wp_region_grows (by kernel_rfl) (by kernel_rfl) ?_; (repeat (go_big_quiet_step (fail))); refine wpQuiet_nil ?_; rintro _ ⟨y, rfl⟩)
    go_upto_if 78 with fail
    go_cut [8] (fun v8 wx => Ext (((xt (w.alloc (.cells #[.int .i64 n.id, .int .i64 n.term, .bool n.speaks, .slice (some ⟨b, o, none⟩) n.log.length c, .int .i64 n.acked, .int .i64 n.next] 24)) y0).alloc (.cells #[.int .i64 m.kind, .int .i64 m.term, .int .i64 p, .int .i64 m.before, .slice B m.recs.length d, .int .i64 m.acked] 143)).alloc (.cells #[.int .i64 0, .int .i64 0, .int .i64 0, .int .i64 0, .slice none 0 0, .int .i64 0] 143)) wx ∧ ∃ D K, v8 = .slice D N K ∧ LogIn w (((xt (w.alloc (.cells #[.int .i64 n.id, .int .i64 n.term, .bool n.speaks, .slice (some ⟨b, o, none⟩) n.log.length c, .int .i64 n.acked, .int .i64 n.next] 24)) y0).alloc (.cells #[.int .i64 m.kind, .int .i64 m.term, .int .i64 p, .int .i64 m.before, .slice B m.recs.length d, .int .i64 m.acked] 143)).alloc (.cells #[.int .i64 0, .int .i64 0, .int .i64 0, .int .i64 0, .slice none 0 0, .int .i64 0] 143)) wx D N K L)
    case first =>
      by_cases hkr : k < m.recs.length
      · have hnl := HNL.out hkr
        have hdl : decide ((p : Int) + (k : Int) < min n.acked (n.log.length : Int)) = false := decide_eq_false (by omega)
        have hle : min n.acked (n.log.length : Int) ≤ (p : Int) + (k : Int) := by omega
        have HN2 := Lib.hid (show p + k + (m.recs.length - k) = N by have := HTL.out.1 hkr; have := HN.out; omega)
        have HL2 := Lib.hid (show n.log.take (p + k) ++ m.recs.drop k = L by rw [HDEF.out, if_pos hkr])
        have hk0 : (0 : Int) ≤ (k : Int) := by omega
        have hk3 : (k : Int) ≤ (m.recs.length : Int) := by omega
        have hk4 : (0 : Int) ≤ (p : Int) + (k : Int) := by omega
        have hk5 : (p : Int) + (k : Int) ≤ (c : Int) := by omega
        have hk6 : ((p : Int) + (k : Int)).toNat = p + k := by omega
        have hwk : IntKind.i64.wrap ((p : Int) + (k : Int)) = (p : Int) + (k : Int) := IntWalk.i64_in _ (by omega)
        clear hnl
        go_wp2
        (refine wp_region_grows (by kernel_rfl) (by kernel_rfl) ?_; (repeat (go_big_quiet_step (fail))); refine wpQuiet_nil ?_; rintro _ ⟨y, rfl⟩)
        go_wp2
        go_region_law ((go_simp; go_at_call 215; refine (Concat_R _ (some ⟨b, o, none⟩) (p + k) c (n.log.take (p + k)) (partA B k d 45) (m.recs.length - k) (d - k) (m.recs.drop k) _ (by simp [go_sem]) (by simp [go_sem]) (HT1.out.sl.mono (ex)) (HT2.out.sl.mono (ex)) HT3.out HT4.out (by omega) (by omega)).mono ?_; rintro e w' ⟨D, n', rfl, hx, hown⟩; have HO := Lib.hid hown; obtain ⟨yc, rfl⟩ := hx.get; clear hx hown))
        all_goals
          go_wp2_with fail
          go_meet
          refine ⟨ex, D, n', by rw [HN2.out], .inr ⟨?_, fun r hr => ?_⟩⟩
          · have := HO.out.older (w0' := ((xt (w.alloc (.cells #[.int .i64 n.id, .int .i64 n.term, .bool n.speaks, .slice (some ⟨b, o, none⟩) n.log.length c, .int .i64 n.acked, .int .i64 n.next] 24)) y0).alloc (.cells #[.int .i64 m.kind, .int .i64 m.term, .int .i64 p, .int .i64 m.before, .slice B m.recs.length d, .int .i64 m.acked] 143)).alloc (.cells #[.int .i64 0, .int .i64 0, .int .i64 0, .int .i64 0, .slice none 0 0, .int .i64 0] 143)) (ex)
            rw [HN2.out, HL2.out] at this
            exact this.mono (ex)
          · rw [← HL2.out] at hr
            rcases List.mem_append.1 hr with hr | hr
            · exact HS.out.el r (List.mem_of_mem_take hr)
            · exact HM.out.el r (List.mem_of_mem_drop hr)
      · have HL2 := Lib.hid (show n.log = L by rw [HDEF.out, if_neg hkr])
        have HN2 := Lib.hid (show n.log.length = N by rw [HL2.out]; exact HN.out)
        go_wp2_with fail
        go_meet
        refine ⟨ex, _, c, by rw [HN2.out], .inl ?_⟩
        rw [← HL2.out]; exact HS.out
    case rest =>
      obtain ⟨hx, D, K, rfl, hlog⟩ := hcut
      obtain ⟨yx, rfl⟩ := hx.get
      have HLG := Lib.hid hlog
      clear hx hlog
      by_cases h4 : 256 < N
      · have HR := Lib.hid (HV1.out h4)
        go_wp2_with fail
        refine bodyPost_ret (v := .tuple #[.agg #[.int .i64 0, .int .i64 0, .int .i64 0, .int .i64 0, .slice none 0 0, .int .i64 0], .bool false, .int .i64 5]) (by simp [results, Tryz.results169, go_sem]) rfl ?_
        exact RetBox.of (n := n) HR.out (ex) (.inl HS.out)
      · by_cases h5 : recsE 1 n.term L = 0
        · have HR := Lib.hid (HV3.out h4 h5)
          have hz5 : (recsE 1 n.term L != 0) = false := by simpa using h5
          clear h5
          go_upto_region 15 with (go_at_call 134; refine (rep_records_n D K N L HN.out 1 n.term _ (LogIn.recs (HLG.out.mono (ex)) HN.out (ex))).mono ?_; rintro e w' ⟨rfl, hx⟩; obtain ⟨y, rfl⟩ := hx.get; clear hx)
          go_cut [] (fun wx => Ext (xt (((xt (w.alloc (.cells #[.int .i64 n.id, .int .i64 n.term, .bool n.speaks, .slice D N K, .int .i64 (max n.acked (min m.acked ((p : Int) + (m.recs.length : Int)))), .int .i64 n.next] 24)) y0).alloc (.cells #[.int .i64 m.kind, .int .i64 m.term, .int .i64 p, .int .i64 m.before, .slice B m.recs.length d, .int .i64 m.acked] 143)).alloc (.cells #[.int .i64 0, .int .i64 0, .int .i64 0, .int .i64 0, .slice none 0 0, .int .i64 0] 143)) yx) wx)
          case first =>
            go_region_law (fail)
            all_goals
              go_wp2_with fail
              go_meet
              exact ex
          case rest =>
            obtain ⟨yz, rfl⟩ := hcut.get
            clear hcut
            go_wp2_with (go_at_call 168; refine (rep_answer w.heap.size n.term _ _ _ (by simp [go_sem])).mono ?_; rintro e w' ⟨rfl, hx⟩; obtain ⟨y, rfl⟩ := hx.get; clear hx)
            refine bodyPost_ret (v := .tuple #[.agg #[.int .i64 1, .int .i64 n.term, .int .i64 ((p : Int) + (m.recs.length : Int)), .int .i64 0, .slice none 0 0, .int .i64 0], .bool true, .int .i64 0]) (by simp [results, Tryz.results169, go_sem]) rfl ?_
            refine RetBox.of (A := D) (c := K) (n := ⟨n.id, n.term, n.speaks, L, max n.acked (min m.acked ((p : Int) + (m.recs.length : Int))), n.next⟩) HR.out ?_ ?_
            · show Ext (xt (w.alloc (.cells #[.int .i64 n.id, .int .i64 n.term, .bool n.speaks, .slice D L.length K, .int .i64 (max n.acked (min m.acked ((p : Int) + (m.recs.length : Int)))), .int .i64 n.next] 24)) y0) _
              rw [HN.out]
              exact ex
            · show LogIn _ _ _ _ L.length _ L
              rw [HN.out]
              exact LogIn.base (LogIn.along HLG.out (ex) (by simp [go_sem])) (by simp [go_sem] <;> omega)
        · have HR := Lib.hid (HV2.out h4 h5)
          have hz5 : (recsE 1 n.term L != 0) = true := by simpa using h5
          clear h5
          go_wp2_with (go_at_call 134; refine (rep_records_n D K N L HN.out 1 n.term _ (LogIn.recs (HLG.out.mono (ex)) HN.out (ex))).mono ?_; rintro e w' ⟨rfl, hx⟩; obtain ⟨y, rfl⟩ := hx.get; clear hx)
          refine bodyPost_ret (v := .tuple #[.agg #[.int .i64 0, .int .i64 0, .int .i64 0, .int .i64 0, .slice none 0 0, .int .i64 0], .bool false, .int .i64 9]) (by simp [results, Tryz.results169, go_sem]) rfl ?_
          exact RetBox.of (n := n) HR.out (ex) (.inl HS.out)
  · go_enter Tryz.func169, Tryz.ntmps169
    go_wp2
    (refine wp_region_grows (by kernel_rfl) (by kernel_rfl) ?_; (repeat (go_big_quiet_step (fail))); refine wpQuiet_nil ?_; rintro _ ⟨y, rfl⟩)
    go_wp2
    (refine wp_region_grows (by kernel_rfl) (by kernel_rfl) ?_; (repeat (go_big_quiet_step (fail))); refine wpQuiet_nil ?_; rintro _ ⟨y, rfl⟩)
    go_wp2
    (refine wp_region_grows (by kernel_rfl) (by kernel_rfl) ?_; (repeat (go_big_quiet_step ((go_at_call 135; exact Calls.grows (common_take _ _ _ (n.log.drop p) HD2.out _ _ _ m.recs rfl _ (HD1.out.mono (ex)) (HM.out.mono (ex))))))); refine wpQuiet_nil ?_; rintro _ ⟨y, rfl⟩)
    rw [HK.out]
    go_wp2
    (refine wp_region_grows (by kernel_rfl) (by kernel_rfl) ?_; (repeat (go_big_quiet_step (fail))); refine wpQuiet_nil ?_; rintro _ ⟨y, rfl⟩)
    go_upto_if 78 with fail
    go_cut [8] (fun v8 wx => Ext (((xt (w.alloc (.cells #[.int .i64 n.id, .int .i64 n.term, .bool n.speaks, .slice A n.log.length c, .int .i64 n.acked, .int .i64 n.next] 24)) y0).alloc (.cells #[.int .i64 m.kind, .int .i64 m.term, .int .i64 p, .int .i64 m.before, .slice B m.recs.length d, .int .i64 m.acked] 143)).alloc (.cells #[.int .i64 0, .int .i64 0, .int .i64 0, .int .i64 0, .slice none 0 0, .int .i64 0] 143)) wx ∧ ∃ D K, v8 = .slice D N K ∧ LogIn w (((xt (w.alloc (.cells #[.int .i64 n.id, .int .i64 n.term, .bool n.speaks, .slice A n.log.length c, .int .i64 n.acked, .int .i64 n.next] 24)) y0).alloc (.cells #[.int .i64 m.kind, .int .i64 m.term, .int .i64 p, .int .i64 m.before, .slice B m.recs.length d, .int .i64 m.acked] 143)).alloc (.cells #[.int .i64 0, .int .i64 0, .int .i64 0, .int .i64 0, .slice none 0 0, .int .i64 0] 143)) wx D N K L)
    case first =>
      by_cases hkr : k < m.recs.length
      · have hnl := HNL.out hkr
        have hdl : decide ((p : Int) + (k : Int) < min n.acked (n.log.length : Int)) = false := decide_eq_false (by omega)
        have hle : min n.acked (n.log.length : Int) ≤ (p : Int) + (k : Int) := by omega
        have HN2 := Lib.hid (show p + k + (m.recs.length - k) = N by have := HTL.out.1 hkr; have := HN.out; omega)
        have HL2 := Lib.hid (show n.log.take (p + k) ++ m.recs.drop k = L by rw [HDEF.out, if_pos hkr])
        have hk0 : (0 : Int) ≤ (k : Int) := by omega
        have hk3 : (k : Int) ≤ (m.recs.length : Int) := by omega
        have hk4 : (0 : Int) ≤ (p : Int) + (k : Int) := by omega
        have hk5 : (p : Int) + (k : Int) ≤ (c : Int) := by omega
        have hk6 : ((p : Int) + (k : Int)).toNat = p + k := by omega
        have hwk : IntKind.i64.wrap ((p : Int) + (k : Int)) = (p : Int) + (k : Int) := IntWalk.i64_in _ (by omega)
        clear hnl
        go_wp2
        (refine wp_region_grows (by kernel_rfl) (by kernel_rfl) ?_; (repeat (go_big_quiet_step (fail))); refine wpQuiet_nil ?_; rintro _ ⟨y, rfl⟩)
        go_wp2
        go_region_law ((go_simp; go_at_call 215; refine (Concat_R _ A (p + k) c (n.log.take (p + k)) (partA B k d 45) (m.recs.length - k) (d - k) (m.recs.drop k) _ (by simp [go_sem]) (by simp [go_sem]) (HT1.out.sl.mono (ex)) (HT2.out.sl.mono (ex)) HT3.out HT4.out (by omega) (by omega)).mono ?_; rintro e w' ⟨D, n', rfl, hx, hown⟩; have HO := Lib.hid hown; obtain ⟨yc, rfl⟩ := hx.get; clear hx hown))
        all_goals
          go_wp2_with fail
          go_meet
          refine ⟨ex, D, n', by rw [HN2.out], .inr ⟨?_, fun r hr => ?_⟩⟩
          · have := HO.out.older (w0' := ((xt (w.alloc (.cells #[.int .i64 n.id, .int .i64 n.term, .bool n.speaks, .slice A n.log.length c, .int .i64 n.acked, .int .i64 n.next] 24)) y0).alloc (.cells #[.int .i64 m.kind, .int .i64 m.term, .int .i64 p, .int .i64 m.before, .slice B m.recs.length d, .int .i64 m.acked] 143)).alloc (.cells #[.int .i64 0, .int .i64 0, .int .i64 0, .int .i64 0, .slice none 0 0, .int .i64 0] 143)) (ex)
            rw [HN2.out, HL2.out] at this
            exact this.mono (ex)
          · rw [← HL2.out] at hr
            rcases List.mem_append.1 hr with hr | hr
            · exact HS.out.el r (List.mem_of_mem_take hr)
            · exact HM.out.el r (List.mem_of_mem_drop hr)
      · have HL2 := Lib.hid (show n.log = L by rw [HDEF.out, if_neg hkr])
        have HN2 := Lib.hid (show n.log.length = N by rw [HL2.out]; exact HN.out)
        go_wp2_with fail
        go_meet
        refine ⟨ex, _, c, by rw [HN2.out], .inl ?_⟩
        rw [← HL2.out]; exact HS.out
    case rest =>
      obtain ⟨hx, D, K, rfl, hlog⟩ := hcut
      obtain ⟨yx, rfl⟩ := hx.get
      have HLG := Lib.hid hlog
      clear hx hlog
      by_cases h4 : 256 < N
      · have HR := Lib.hid (HV1.out h4)
        go_wp2_with fail
        refine bodyPost_ret (v := .tuple #[.agg #[.int .i64 0, .int .i64 0, .int .i64 0, .int .i64 0, .slice none 0 0, .int .i64 0], .bool false, .int .i64 5]) (by simp [results, Tryz.results169, go_sem]) rfl ?_
        exact RetBox.of (n := n) HR.out (ex) (.inl HS.out)
      · by_cases h5 : recsE 1 n.term L = 0
        · have HR := Lib.hid (HV3.out h4 h5)
          have hz5 : (recsE 1 n.term L != 0) = false := by simpa using h5
          clear h5
          go_upto_region 15 with (go_at_call 134; refine (rep_records_n D K N L HN.out 1 n.term _ (LogIn.recs (HLG.out.mono (ex)) HN.out (ex))).mono ?_; rintro e w' ⟨rfl, hx⟩; obtain ⟨y, rfl⟩ := hx.get; clear hx)
          go_cut [] (fun wx => Ext (xt (((xt (w.alloc (.cells #[.int .i64 n.id, .int .i64 n.term, .bool n.speaks, .slice D N K, .int .i64 (max n.acked (min m.acked ((p : Int) + (m.recs.length : Int)))), .int .i64 n.next] 24)) y0).alloc (.cells #[.int .i64 m.kind, .int .i64 m.term, .int .i64 p, .int .i64 m.before, .slice B m.recs.length d, .int .i64 m.acked] 143)).alloc (.cells #[.int .i64 0, .int .i64 0, .int .i64 0, .int .i64 0, .slice none 0 0, .int .i64 0] 143)) yx) wx)
          case first =>
            go_region_law (fail)
            all_goals
              go_wp2_with fail
              go_meet
              exact ex
          case rest =>
            obtain ⟨yz, rfl⟩ := hcut.get
            clear hcut
            go_wp2_with (go_at_call 168; refine (rep_answer w.heap.size n.term _ _ _ (by simp [go_sem])).mono ?_; rintro e w' ⟨rfl, hx⟩; obtain ⟨y, rfl⟩ := hx.get; clear hx)
            refine bodyPost_ret (v := .tuple #[.agg #[.int .i64 1, .int .i64 n.term, .int .i64 ((p : Int) + (m.recs.length : Int)), .int .i64 0, .slice none 0 0, .int .i64 0], .bool true, .int .i64 0]) (by simp [results, Tryz.results169, go_sem]) rfl ?_
            refine RetBox.of (A := D) (c := K) (n := ⟨n.id, n.term, n.speaks, L, max n.acked (min m.acked ((p : Int) + (m.recs.length : Int))), n.next⟩) HR.out ?_ ?_
            · show Ext (xt (w.alloc (.cells #[.int .i64 n.id, .int .i64 n.term, .bool n.speaks, .slice D L.length K, .int .i64 (max n.acked (min m.acked ((p : Int) + (m.recs.length : Int)))), .int .i64 n.next] 24)) y0) _
              rw [HN.out]
              exact ex
            · show LogIn _ _ _ _ L.length _ L
              rw [HN.out]
              exact LogIn.base (LogIn.along HLG.out (ex) (by simp [go_sem])) (by simp [go_sem] <;> omega)
        · have HR := Lib.hid (HV2.out h4 h5)
          have hz5 : (recsE 1 n.term L != 0) = true := by simpa using h5
          clear h5
          go_wp2_with (go_at_call 134; refine (rep_records_n D K N L HN.out 1 n.term _ (LogIn.recs (HLG.out.mono (ex)) HN.out (ex))).mono ?_; rintro e w' ⟨rfl, hx⟩; obtain ⟨y, rfl⟩ := hx.get; clear hx)
          refine bodyPost_ret (v := .tuple #[.agg #[.int .i64 0, .int .i64 0, .int .i64 0, .int .i64 0, .slice none 0 0, .int .i64 0], .bool false, .int .i64 9]) (by simp [results, Tryz.results169, go_sem]) rfl ?_
          exact RetBox.of (n := n) HR.out (ex) (.inl HS.out)
end
end Go.Proofs.YtmhinhgflehkaaaGreat
