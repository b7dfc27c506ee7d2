/-
  Logs of actions: a list is the same as itself, wherever it lies.
-/
import Derived.Test.YtlpboikonnpjbaaGreatGarf
import Derived.Test.YtlpboikonnpjbaaGreatGlog
import Derived.Test.YtlpboikonnpjbaaGreatGwl
import Derived.Test.YtlpboikonnpjbaaGreatGrqe
import Derived.Test.YtlpboikonnpjbaaGreatRep12
import Derived.Test.YtlpboikonnpjbaaGreatRepA
import Derived.Test.YtlpboikonnpjbaaGreatGstb
import Derived.Test.YtlpboikonnpjbaaGreatGopq
import Derived.Test.YtlpboikonnpjbaaGreatParts
import Derived.Test.YtlpboikonnpjbaaGreatRq4
namespace Go.Proofs.YtlpboikonnpjbaaGreat
open Go.RowKit

theorem r33_Same_self (a : Acn) (w : World) (ha : AcnAt w a) : Calls Tryz.prog 79 #[.agg (acnR a).toArray, .agg (acnR a).toArray] w fun r w' => r = .returned (.bool true) ∧ Ext w w' := by
  rw [← sameA_refl a]
  exact r33_Same a a w ha ha
set_option maxHeartbeats 1600000 in
set_option maxRecDepth 100000 in
theorem r33_SameLog1 (A B : Option Addr) (c d : Nat) (l : List Acn) (w : World) (ha : LogAt w A c l) (hb : LogAt w B d l) :
    Calls Tryz.prog 40 #[.slice A l.length c, .slice B l.length d] w fun e w' => e = .returned (.bool true) ∧ Ext w w' := by
  have hl := Nat.le_trans ha.le ha.cap
  unfold maxLen at hl
  have H1 := Lib.hid ha
  have H2 := Lib.hid hb
  clear ha hb
  go_enter Tryz.func40, Tryz.ntmps40
  go_wp2
  go_loopw [5] (fun i wr => ∃ k : Nat, k ≤ l.length ∧ i = .int .i64 k ∧ Ext w wr) (fun i _ => l.length - (intOf i).toNat)
  case atStart => exact ⟨0, by omega, rfl, Ext.refl _⟩
  case round =>
    obtain ⟨k, hk, rfl, hx⟩ := hrel
    obtain ⟨y, rfl⟩ := hx.get
    clear hx
    by_cases hlt : k < l.length
    · obtain ⟨m, hm⟩ : ∃ m, l[k]? = some m := ⟨_, List.getElem?_eq_getElem hlt⟩
      obtain ⟨⟨b, o, rfl, hr⟩, hat⟩ := H1.out.get hm
      obtain ⟨⟨b2, o2, rfl, hr2⟩, -⟩ := H2.out.get hm
      have hb0 : (0 : Int) ≤ (k : Int) := by omega
      have hb1 : (k : Int) < (l.length : Int) := by omega
      have HR := Lib.hid hr
      have HR2 := Lib.hid hr2
      have HA := Lib.hid hat
      clear hr hr2 hat hm
      go_wp2
      refine wp_region_grows (by kernel_rfl) (by kernel_rfl) ?_
      repeat (first
        | (go_big_quiet_want; refine quiet_load_row 45 (.tmp 19) rfl b (o + k * 44) rfl (acnR m) _ Tryz.underlying45 rfl (by kernel_rfl) (fun wx hwx => by obtain ⟨yy, rfl⟩ := hwx; exact rangeAt_mono HR.out (by repeat (first | exact Ext.refl _ | assumption | apply Ext.xt | apply Ext.alloc | apply Ext.drew | apply Ext.drewN))) (by simp [Act.put]; rfl) ?_; go_big_quiet_on)
        | (go_big_quiet_want; refine quiet_load_row 45 (.tmp 23) rfl b2 (o2 + k * 44) rfl (acnR m) _ Tryz.underlying45 rfl (by kernel_rfl) (fun wx hwx => by obtain ⟨yy, rfl⟩ := hwx; exact rangeAt_mono HR2.out (by repeat (first | exact Ext.refl _ | assumption | apply Ext.xt | apply Ext.alloc | apply Ext.drew | apply Ext.drewN))) (by simp [Act.put]; rfl) ?_; go_big_quiet_on)
        | go_big_quiet_step ((go_at_call 79; exact Calls.grows (r33_Same_self m _ (HA.out.mono (by repeat (first | exact Ext.refl _ | assumption | apply Ext.xt | apply Ext.alloc | apply Ext.drew | apply Ext.drewN)))))))
      refine wpQuiet_nil ?_
      rintro _ ⟨y2, rfl⟩
      go_wp2
      go_light
      exact ⟨⟨k + 1, by omega, by go_num, by repeat (first | exact Ext.refl _ | assumption | apply Ext.xt | apply Ext.alloc | apply Ext.drew | apply Ext.drewN)⟩, by simp [intOf]; omega⟩
    · go_wp2
      go_ret
      exact ⟨rfl, by repeat (first | exact Ext.refl _ | assumption | apply Ext.xt | apply Ext.alloc | apply Ext.drew | apply Ext.drewN)⟩
end Go.Proofs.YtlpboikonnpjbaaGreat

/-
  Chapter 54, the reference: a speaker's own action.
-/
namespace Go.Proofs.YtlpboikonnpjbaaGreat
open Go.RowKit

section
variable (n : Nod) (A : Option Addr) (c : Nat) (a : Acn) (w : World) (hs : RecsAt w A c n.log) (ha : AcnAt w a)
include hs
set_option maxHeartbeats 3200000 in
set_option maxRecDepth 100000 in
theorem r54_Act_a (h : nodE n ≠ 0) : Calls Tryz.prog 35 #[.agg #[.int .i64 n.id, .int .i64 n.term, .bool n.speaks, .slice A n.log.length c, .int .i64 n.acked, .int .i64 n.next], .agg (acnR a).toArray] w (RetNod w (actV n a)) := by
  have HS := Lib.hid hs
  have hz : (nodE n != 0) = true := by simpa using h
  have HR := Lib.hid (actV_a (a := a) h)
  clear h hs
  go_enter Tryz.func35, Tryz.ntmps35
  go_wp2_with (go_at_call 27; refine (r54_Check n A c _ (HS.out.mono (by repeat (first | exact Ext.refl _ | assumption | apply Ext.xt | apply Ext.alloc | apply Ext.drew | apply Ext.drewN)))).mono ?_; rintro e w' ⟨rfl, hx⟩; obtain ⟨y, rfl⟩ := hx.get; clear hx)
  exact bodyPost_ret (v := .tuple #[.agg #[.int .i64 0, .int .i64 0, .bool false, .slice none 0 0, .int .i64 0, .int .i64 0], .int .i64 (nodE n)]) (by simp [results, Tryz.results35, go_sem]) rfl (RetNod.err HR.out (by repeat (first | exact Ext.refl _ | assumption | apply Ext.xt | apply Ext.alloc | apply Ext.drew | apply Ext.drewN)))
set_option maxHeartbeats 3200000 in
set_option maxRecDepth 100000 in
theorem r54_Act_b (h : nodE n = 0) (h1 : n.speaks = false) : Calls Tryz.prog 35 #[.agg #[.int .i64 n.id, .int .i64 n.term, .bool n.speaks, .slice A n.log.length c, .int .i64 n.acked, .int .i64 n.next], .agg (acnR a).toArray] w (RetNod w (actV n a)) := by
  have HS := Lib.hid hs
  have hz : (nodE n != 0) = false := by simpa using h
  have HR := Lib.hid (actV_b (a := a) h h1)
  have HC := Lib.hid (fun W (hx : Ext w W) => r54_Check n A c W (hs.mono hx))
  rw [h1] at HC ⊢
  clear h hs h1
  go_enter Tryz.func35, Tryz.ntmps35
  go_wp2_with (go_at_call 27; refine (HC.out _ (by repeat (first | exact Ext.refl _ | assumption | apply Ext.xt | apply Ext.alloc | apply Ext.drew | apply Ext.drewN))).mono ?_; rintro e w' ⟨rfl, hx⟩; obtain ⟨y, rfl⟩ := hx.get; clear hx)
  exact bodyPost_ret (v := .tuple #[.agg #[.int .i64 0, .int .i64 0, .bool false, .slice none 0 0, .int .i64 0, .int .i64 0], .int .i64 16]) (by simp [results, Tryz.results35, go_sem]) rfl (RetNod.err HR.out (by repeat (first | exact Ext.refl _ | assumption | apply Ext.xt | apply Ext.alloc | apply Ext.drew | apply Ext.drewN)))
include ha
set_option maxHeartbeats 3200000 in
set_option maxRecDepth 100000 in
theorem r54_Act_c (h : nodE n = 0) (h1 : n.speaks = true) (h2 : acnE a ≠ 0) : Calls Tryz.prog 35 #[.agg #[.int .i64 n.id, .int .i64 n.term, .bool n.speaks, .slice A n.log.length c, .int .i64 n.acked, .int .i64 n.next], .agg (acnR a).toArray] w (RetNod w (actV n a)) := by
  have HS := Lib.hid hs
  have HA := Lib.hid ha
  have hz : (nodE n != 0) = false := by simpa using h
  have hz2 : (acnE a != 0) = true := by simpa using h2
  have HR := Lib.hid (actV_c (a := a) h h1 h2)
  have HC := Lib.hid (fun W (hx : Ext w W) => r54_Check n A c W (hs.mono hx))
  rw [h1] at HC ⊢
  clear h hs h1 h2 ha
  go_enter Tryz.func35, Tryz.ntmps35
  go_wp2_with (first | (go_at_call 27; refine (HC.out _ (by repeat (first | exact Ext.refl _ | assumption | apply Ext.xt | apply Ext.alloc | apply Ext.drew | apply Ext.drewN))).mono ?_; rintro e w' ⟨rfl, hx⟩; obtain ⟨y, rfl⟩ := hx.get; clear hx) | (go_at_call 14; refine (r33_Check a _ (HA.out.mono (by repeat (first | exact Ext.refl _ | assumption | apply Ext.xt | apply Ext.alloc | apply Ext.drew | apply Ext.drewN)))).mono ?_; rintro e w' ⟨rfl, hx⟩; obtain ⟨y, rfl⟩ := hx.get; clear hx))
  exact bodyPost_ret (v := .tuple #[.agg #[.int .i64 0, .int .i64 0, .bool false, .slice none 0 0, .int .i64 0, .int .i64 0], .int .i64 (acnE a)]) (by simp [results, Tryz.results35, go_sem]) rfl (RetNod.err HR.out (by repeat (first | exact Ext.refl _ | assumption | apply Ext.xt | apply Ext.alloc | apply Ext.drew | apply Ext.drewN)))
set_option maxHeartbeats 3200000 in
set_option maxRecDepth 100000 in
theorem r54_Act_d (h : nodE n = 0) (h1 : n.speaks = true) (h2 : acnE a = 0) (h3 : early n.log a = true) : Calls Tryz.prog 35 #[.agg #[.int .i64 n.id, .int .i64 n.term, .bool n.speaks, .slice A n.log.length c, .int .i64 n.acked, .int .i64 n.next], .agg (acnR a).toArray] w (RetNod w (actV n a)) := by
  have HS := Lib.hid hs
  have HA := Lib.hid ha
  have hl := hs.len
  have hz : (nodE n != 0) = false := by simpa using h
  have hz2 : (acnE a != 0) = false := by simpa using h2
  have HR := Lib.hid (actV_d (a := a) h h1 h2 h3)
  have hpos : 0 < n.log.length := by
    by_cases h0 : 0 < n.log.length
    · exact h0
    · rw [early_nil h0] at h3; cases h3
  obtain ⟨r, hr⟩ : ∃ r, n.log[n.log.length - 1]? = some r := ⟨_, List.getElem?_eq_getElem (by omega)⟩
  rw [early_last hr] at h3
  have HC := Lib.hid (fun W (hx : Ext w W) => r54_Check n A c W (hs.mono hx))
  obtain ⟨b, o, rfl, hrec, -⟩ := hs.get hr
  have hr1 := hrec.act
  have hat : w.cell? ⟨b, o + (n.log.length - 1) * 45 + 1, none⟩ = some (.int .i64 r.act.at_) := hrec.at_
  have hd : decide (0 < (n.log.length : Int)) = true := decide_eq_true (by omega)
  have hi1 : (0 : Int) ≤ (n.log.length : Int) - 1 := by omega
  have hi2 : (n.log.length : Int) - 1 < (n.log.length : Int) := by omega
  have hi3 : ((n.log.length : Int) - 1).toNat = n.log.length - 1 := by omega
  have hw : IntKind.i64.wrap ((n.log.length : Int) - 1) = (n.log.length : Int) - 1 := IntWalk.i64_in _ (by omega)
  rw [h1] at HC ⊢
  clear h hs h1 h2 ha hr hrec
  go_enter Tryz.func35, Tryz.ntmps35
  go_wp2_with (first | (go_at_call 27; refine (HC.out _ (by repeat (first | exact Ext.refl _ | assumption | apply Ext.xt | apply Ext.alloc | apply Ext.drew | apply Ext.drewN))).mono ?_; rintro e w' ⟨rfl, hx⟩; obtain ⟨y, rfl⟩ := hx.get; clear hx) | (go_at_call 14; refine (r33_Check a _ (HA.out.mono (by repeat (first | exact Ext.refl _ | assumption | apply Ext.xt | apply Ext.alloc | apply Ext.drew | apply Ext.drewN)))).mono ?_; rintro e w' ⟨rfl, hx⟩; obtain ⟨y, rfl⟩ := hx.get; clear hx))
  (refine wp_region_grows (by kernel_rfl) (by kernel_rfl) ?_; (repeat (go_big_quiet_step (fail))); refine wpQuiet_nil ?_; rintro _ ⟨y, rfl⟩)
  go_wp2
  exact bodyPost_ret (v := .tuple #[.agg #[.int .i64 0, .int .i64 0, .bool false, .slice none 0 0, .int .i64 0, .int .i64 0], .int .i64 9]) (by simp [results, Tryz.results35, go_sem]) rfl (RetNod.err HR.out (by repeat (first | exact Ext.refl _ | assumption | apply Ext.xt | apply Ext.alloc | apply Ext.drew | apply Ext.drewN)))
set_option maxHeartbeats 6400000 in
set_option maxRecDepth 100000 in
theorem r54_Act_f1 (h : nodE n = 0) (h1 : n.speaks = true) (h2 : acnE a = 0) (h3 : early n.log a = false) (hpos : 0 < n.log.length) : Calls Tryz.prog 35 #[.agg #[.int .i64 n.id, .int .i64 n.term, .bool n.speaks, .slice A n.log.length c, .int .i64 n.acked, .int .i64 n.next], .agg (acnR a).toArray] w (RetNod w (actV n a)) := by
  have HS := Lib.hid hs
  have HA := Lib.hid ha
  have hl := hs.len
  have hz : (nodE n != 0) = false := by simpa using h
  have hz2 : (acnE a != 0) = false := by simpa using h2
  have H5 := Lib.hid (fun h4 : n.log.length = 256 => actV_e (a := a) h h1 h2 h3 h4)
  have H6 := Lib.hid (fun h4 : ¬ n.log.length = 256 => actV_f (a := a) h h1 h2 h3 h4)
  have h256 := ((nodE_iff n).1 h).len
  have HEl := Lib.hid (show ∀ r ∈ n.log ++ [⟨n.term, a⟩], AcnAt w r.act from fun r hr => by
    rcases List.mem_append.1 hr with hr | hr
    · exact hs.el r hr
    · rw [List.mem_singleton.1 hr]; exact ha)
  obtain ⟨r, hr⟩ : ∃ r, n.log[n.log.length - 1]? = some r := ⟨_, List.getElem?_eq_getElem (by omega)⟩
  rw [early_last hr] at h3
  have HC := Lib.hid (fun W (hx : Ext w W) => r54_Check n A c W (hs.mono hx))
  obtain ⟨b, o, rfl, hrec, -⟩ := hs.get hr
  have hr1 := hrec.act
  have hat : w.cell? ⟨b, o + (n.log.length - 1) * 45 + 1, none⟩ = some (.int .i64 r.act.at_) := hrec.at_
  have hd : decide (0 < (n.log.length : Int)) = true := decide_eq_true (by omega)
  have hi1 : (0 : Int) ≤ (n.log.length : Int) - 1 := by omega
  have hi2 : (n.log.length : Int) - 1 < (n.log.length : Int) := by omega
  have hi3 : ((n.log.length : Int) - 1).toNat = n.log.length - 1 := by omega
  have hw : IntKind.i64.wrap ((n.log.length : Int) - 1) = (n.log.length : Int) - 1 := IntWalk.i64_in _ (by omega)
  have HSp := Lib.hid h1
  rw [h1] at HC ⊢
  clear h hs h1 h2 ha hr hrec
  go_enter Tryz.func35, Tryz.ntmps35
  go_wp2_with (first | (go_at_call 27; refine (HC.out _ (by repeat (first | exact Ext.refl _ | assumption | apply Ext.xt | apply Ext.alloc | apply Ext.drew | apply Ext.drewN))).mono ?_; rintro e w' ⟨rfl, hx⟩; obtain ⟨y, rfl⟩ := hx.get; clear hx) | (go_at_call 14; refine (r33_Check a _ (HA.out.mono (by repeat (first | exact Ext.refl _ | assumption | apply Ext.xt | apply Ext.alloc | apply Ext.drew | apply Ext.drewN)))).mono ?_; rintro e w' ⟨rfl, hx⟩; obtain ⟨y, rfl⟩ := hx.get; clear hx) | (go_at_call 76; refine (r54_joined _ c n.log.length n.log rfl _ 1 1 [⟨n.term, a⟩] rfl _ (HS.out.sl.mono (by repeat (first | exact Ext.refl _ | assumption | apply Ext.xt | apply Ext.alloc | apply Ext.drew | apply Ext.drewN))) (Sl.alloc' (by simp [go_sem]) (by simp) (by simp [recR_len])) (by omega)).mono ?_; rintro e w' ⟨D, K, rfl, hx, hown⟩; have HO := Lib.hid hown; obtain ⟨yj, rfl⟩ := hx.get; clear hx hown))
  (refine wp_region_grows (by kernel_rfl) (by kernel_rfl) ?_; (repeat (go_big_quiet_step (fail))); refine wpQuiet_nil ?_; rintro _ ⟨y, rfl⟩)
  go_wp2_with (first | (go_at_call 27; refine (HC.out _ (by repeat (first | exact Ext.refl _ | assumption | apply Ext.xt | apply Ext.alloc | apply Ext.drew | apply Ext.drewN))).mono ?_; rintro e w' ⟨rfl, hx⟩; obtain ⟨y, rfl⟩ := hx.get; clear hx) | (go_at_call 14; refine (r33_Check a _ (HA.out.mono (by repeat (first | exact Ext.refl _ | assumption | apply Ext.xt | apply Ext.alloc | apply Ext.drew | apply Ext.drewN)))).mono ?_; rintro e w' ⟨rfl, hx⟩; obtain ⟨y, rfl⟩ := hx.get; clear hx) | (go_at_call 76; refine (r54_joined _ c n.log.length n.log rfl _ 1 1 [⟨n.term, a⟩] rfl _ (HS.out.sl.mono (by repeat (first | exact Ext.refl _ | assumption | apply Ext.xt | apply Ext.alloc | apply Ext.drew | apply Ext.drewN))) (Sl.alloc' (by simp [go_sem]) (by simp) (by simp [recR_len])) (by omega)).mono ?_; rintro e w' ⟨D, K, rfl, hx, hown⟩; have HO := Lib.hid hown; obtain ⟨yj, rfl⟩ := hx.get; clear hx hown))
  · exact bodyPost_ret (v := .tuple #[.agg #[.int .i64 0, .int .i64 0, .bool false, .slice none 0 0, .int .i64 0, .int .i64 0], .int .i64 5]) (by simp [results, Tryz.results35, go_sem]) rfl (RetNod.err (H5.out (by first | omega | (simp_all; omega))) (by repeat (first | exact Ext.refl _ | assumption | apply Ext.xt | apply Ext.alloc | apply Ext.drew | apply Ext.drewN)))
  · refine bodyPost_ret (v := .tuple #[.agg #[.int .i64 n.id, .int .i64 n.term, .bool true, .slice D (n.log.length + 1) K, .int .i64 n.acked, .int .i64 n.next], .int .i64 0]) (by simp [results, Tryz.results35, go_sem]) rfl ?_
    rw [H6.out (by first | omega | (simp_all; omega))]
    have HO9 := HO.out
    rw [show n.log ++ [⟨n.term, a⟩] = (actN n a).log from rfl] at HO9
    exact ⟨D, K, by (first | (simp [actN]; done) | simp [actN, HSp.out]), by repeat (first | exact Ext.refl _ | assumption | apply Ext.xt | apply Ext.alloc | apply Ext.drew | apply Ext.drewN), Own.recs (Own.along HO9 (by repeat (first | exact Ext.refl _ | assumption | apply Ext.xt | apply Ext.alloc | apply Ext.drew | apply Ext.drewN)) (by simp [go_sem])) (by simp [actN]) (fun r hr => (HEl.out r hr).mono (by repeat (first | exact Ext.refl _ | assumption | apply Ext.xt | apply Ext.alloc | apply Ext.drew | apply Ext.drewN)))⟩
set_option maxHeartbeats 6400000 in
set_option maxRecDepth 100000 in
theorem r54_Act_f0 (h : nodE n = 0) (h1 : n.speaks = true) (h2 : acnE a = 0) (h3 : early n.log a = false) (hpos : ¬ 0 < n.log.length) : Calls Tryz.prog 35 #[.agg #[.int .i64 n.id, .int .i64 n.term, .bool n.speaks, .slice A n.log.length c, .int .i64 n.acked, .int .i64 n.next], .agg (acnR a).toArray] w (RetNod w (actV n a)) := by
  obtain ⟨id, t, sp, l, ak, nx⟩ := n
  obtain rfl : l = [] := List.eq_nil_of_length_eq_zero (by simpa using hpos)
  obtain rfl : sp = true := h1
  have h1 : (⟨id, t, true, [], ak, nx⟩ : Nod).speaks = true := rfl
  have HSp := Lib.hid (show true = true from rfl)
  clear hpos
  have HS := Lib.hid hs
  have HA := Lib.hid ha
  have hz : (nodE (⟨id, t, true, [], ak, nx⟩ : Nod) != 0) = false := by simpa using h
  have hz2 : (acnE a != 0) = false := by simpa using h2
  have H4 := Lib.hid (actV_f (a := a) h h1 h2 h3 (by simp))
  have HEl := Lib.hid (show ∀ r ∈ ([] : List Rec) ++ [(⟨t, a⟩ : Rec)], AcnAt w r.act from fun r hr => by
    rcases List.mem_append.1 hr with hr | hr
    · exact hs.el r hr
    · rw [List.mem_singleton.1 hr]; exact ha)
  have HC := Lib.hid (fun W (hx : Ext w W) => r54_Check (⟨id, t, true, [], ak, nx⟩ : Nod) A c W (hs.mono hx))
  clear h hs h1 h2 ha h3
  go_enter Tryz.func35, Tryz.ntmps35
  go_wp2_with (first | (go_at_call 27; refine (HC.out _ (by repeat (first | exact Ext.refl _ | assumption | apply Ext.xt | apply Ext.alloc | apply Ext.drew | apply Ext.drewN))).mono ?_; rintro e w' ⟨rfl, hx⟩; obtain ⟨y, rfl⟩ := hx.get; clear hx) | (go_at_call 14; refine (r33_Check a _ (HA.out.mono (by repeat (first | exact Ext.refl _ | assumption | apply Ext.xt | apply Ext.alloc | apply Ext.drew | apply Ext.drewN)))).mono ?_; rintro e w' ⟨rfl, hx⟩; obtain ⟨y, rfl⟩ := hx.get; clear hx) | (go_at_call 76; refine (r54_joined A c 0 [] rfl _ 1 1 [⟨t, a⟩] rfl _ (Sl.nil _ _ _) (Sl.alloc' (by simp [go_sem]) (by simp) (by simp [recR_len])) (by omega)).mono ?_; rintro e w' ⟨D, K, rfl, hx, hown⟩; rw [Nat.zero_add] at hown; simp only [Nat.zero_add]; have HO := Lib.hid hown; obtain ⟨yj, rfl⟩ := hx.get; clear hx hown))
  (refine wp_region_grows (by kernel_rfl) (by kernel_rfl) ?_; (repeat (go_big_quiet_step (fail))); refine wpQuiet_nil ?_; rintro _ ⟨y, rfl⟩)
  go_wp2_with (first | (go_at_call 27; refine (HC.out _ (by repeat (first | exact Ext.refl _ | assumption | apply Ext.xt | apply Ext.alloc | apply Ext.drew | apply Ext.drewN))).mono ?_; rintro e w' ⟨rfl, hx⟩; obtain ⟨y, rfl⟩ := hx.get; clear hx) | (go_at_call 14; refine (r33_Check a _ (HA.out.mono (by repeat (first | exact Ext.refl _ | assumption | apply Ext.xt | apply Ext.alloc | apply Ext.drew | apply Ext.drewN)))).mono ?_; rintro e w' ⟨rfl, hx⟩; obtain ⟨y, rfl⟩ := hx.get; clear hx) | (go_at_call 76; refine (r54_joined A c 0 [] rfl _ 1 1 [⟨t, a⟩] rfl _ (Sl.nil _ _ _) (Sl.alloc' (by simp [go_sem]) (by simp) (by simp [recR_len])) (by omega)).mono ?_; rintro e w' ⟨D, K, rfl, hx, hown⟩; rw [Nat.zero_add] at hown; simp only [Nat.zero_add]; have HO := Lib.hid hown; obtain ⟨yj, rfl⟩ := hx.get; clear hx hown))
  refine bodyPost_ret (v := .tuple #[.agg #[.int .i64 id, .int .i64 t, .bool true, .slice D 1 K, .int .i64 ak, .int .i64 nx], .int .i64 0]) (by simp [results, Tryz.results35, go_sem]) rfl ?_
  rw [H4.out]
  have HO9 := HO.out
  rw [show [] ++ [(⟨t, a⟩ : Rec)] = (actN ⟨id, t, true, [], ak, nx⟩ a).log from rfl] at HO9
  exact ⟨D, K, by simp [actN], by repeat (first | exact Ext.refl _ | assumption | apply Ext.xt | apply Ext.alloc | apply Ext.drew | apply Ext.drewN), Own.recs (Own.along HO9 (by repeat (first | exact Ext.refl _ | assumption | apply Ext.xt | apply Ext.alloc | apply Ext.drew | apply Ext.drewN)) (by simp [go_sem])) (by simp [actN]) (fun r hr => (HEl.out r hr).mono (by repeat (first | exact Ext.refl _ | assumption | apply Ext.xt | apply Ext.alloc | apply Ext.drew | apply Ext.drewN)))⟩
theorem r54_Act : Calls Tryz.prog 35 #[.agg #[.int .i64 n.id, .int .i64 n.term, .bool n.speaks, .slice A n.log.length c, .int .i64 n.acked, .int .i64 n.next], .agg (acnR a).toArray] w (RetNod w (actV n a)) := by
  by_cases h : nodE n = 0
  · cases h1 : n.speaks with
    | false =>
      have := r54_Act_b n A c a w hs h h1
      rwa [h1] at this
    | true =>
      rw [← h1]
      by_cases h2 : acnE a = 0
      · cases h3 : early n.log a with
        | true => exact r54_Act_d n A c a w hs ha h h1 h2 h3
        | false =>
          by_cases hpos : 0 < n.log.length
          · exact r54_Act_f1 n A c a w hs ha h h1 h2 h3 hpos
          · exact r54_Act_f0 n A c a w hs ha h h1 h2 h3 hpos
      · exact r54_Act_c n A c a w hs ha h h1 h2
  · exact r54_Act_a n A c a w hs h
end
end Go.Proofs.YtlpboikonnpjbaaGreat

/-
  ReplicaActs: what Lead, Act, Send and Actions leave, by its parts.
-/
namespace Go.Proofs.YtlpboikonnpjbaaGreat
open Go.RowKit

theorem RetMsgEQ.parts {w w' : World} {v : Msg × Int} {m : Msg} {er : Int} {e : Ending} (h : RetMsgEQ w v e w') (hv : v = (m, er)) : GotSE w m er e w' := by
  subst hv
  obtain ⟨A, c, he, hx, ho, hr⟩ := h
  exact ⟨A, c, he, hx, Own.recs ho rfl fun r h1 => (hr r h1).mono hx⟩
/-- What Actions leaves. -/
def GotAC (w : World) (l : List Acn) (er : Int) (e : Ending) (W : World) : Prop := ∃ A k, e = .returned (.tuple #[.slice A l.length k, .int .i64 er]) ∧ Ext w W ∧ LogAt W A k l
theorem RetActs.parts {w w' : World} {v : List Acn × Int} {l : List Acn} {er : Int} {e : Ending} (h : RetActs w v e w') (hv : v = (l, er)) : GotAC w l er e w' := by
  subst hv
  obtain ⟨A, c, he, hx, ho, hr⟩ := h
  exact ⟨A, c, he, hx, ⟨ho.sl, ho.le, ho.cap, fun a h1 => (hr a h1).mono hx⟩⟩
theorem r54_SameMessage_self (m : Msg) (A : Option Addr) (c : Nat) (B : Option Addr) (d : Nat) (w : World) (ha : RecsAt w A c m.recs) (hb : RecsAt w B d m.recs) : Calls Tryz.prog 26 #[.agg #[.int .i64 m.kind, .int .i64 m.term, .int .i64 m.at_, .int .i64 m.before, .slice A m.recs.length c, .int .i64 m.acked], .agg #[.int .i64 m.kind, .int .i64 m.term, .int .i64 m.at_, .int .i64 m.before, .slice B m.recs.length d, .int .i64 m.acked]] w fun e w' => e = .returned (.bool true) ∧ Ext w w' := by
  have := r54_SameMessage m m A c B d w ha hb
  rwa [sameM_refl] at this
/-- A node of the reference in memory. -/
def Stab.nodS (n : Nod) : Stab := ⟨fun x W => ∃ D K, x = .agg #[.int .i64 n.id, .int .i64 n.term, .bool n.speaks, .slice D n.log.length K, .int .i64 n.acked, .int .i64 n.next] ∧ RecsAt W D K n.log, fun _ _ _ hx ⟨D, K, e, h⟩ => ⟨D, K, e, h.mono hx⟩⟩
theorem r54_Same_me (a : Nod) (A : Option Addr) (c : Nat) (B : Option Addr) (d : Nat) (w : World) (ha : RecsAt w A c a.log) (hb : RecsAt w B d a.log) : Calls Tryz.prog 25 #[.agg #[.int .i64 a.id, .int .i64 a.term, .bool a.speaks, .slice A a.log.length c, .int .i64 a.acked, .int .i64 a.next], .agg #[.int .i64 a.id, .int .i64 a.term, .bool a.speaks, .slice B a.log.length d, .int .i64 a.acked, .int .i64 a.next]] w fun e w' => e = .returned (.bool true) ∧ Ext w w' := by
  have := r54_Same a a A c B d w ha hb
  rwa [sameN_refl] at this
end Go.Proofs.YtlpboikonnpjbaaGreat
