/-
  The reference's Place and Find.
-/
import Derived.Test.YtgmicckeefoghaaDrop
import Derived.Test.YtgmicckeefoghaaTim7
namespace Go.Proofs.Ytgmicckeefoghaa
open Go.RowKit

theorem place_hit {l : List Move} (h : scan moveE none l = 0) {j : Nat} {m : Move} (hm : l[j]? = some m) {p : Param} (hp : m.p = p) : posP l p = j ∧ foundP l p = true := by
  subst hp
  have h1 : ¬ j < posP l m.p := fun hlt => by
    have := (posP_iff h m.p hm).2 hlt
    rw [before_irrefl] at this; cases this
  have h2 : posP l m.p = j := by
    rcases Nat.lt_or_ge (posP l m.p) j with h3 | h3
    · obtain ⟨hil, _⟩ := List.getElem?_eq_some_iff.1 hm
      obtain ⟨x, hx⟩ : ∃ x, l[posP l m.p]? = some x := ⟨_, List.getElem?_eq_getElem (by omega)⟩
      have h4 := movesOk_lt h (j - posP l m.p - 1) (posP l m.p) _ m hx (by rw [show posP l m.p + (j - posP l m.p - 1) + 1 = j by omega]; exact hm)
      have h5 := (posP_iff h m.p hx).1 h4
      omega
    · omega
  refine ⟨h2, ?_⟩
  unfold foundP
  rw [h2, hm]
  simp
theorem place_miss {l : List Move} {p : Param} (h : l.all (fun m => !decide (m.p = p)) = true) : foundP l p = false := by
  unfold foundP
  split
  · rename_i m hm
    have := (List.all_eq_true.1 h) m (List.mem_of_getElem? hm)
    simpa using this
  · rfl
def placeI (l : List Move) (p : Param) : Int := if foundP l p then (posP l p : Int) else -1

set_option maxHeartbeats 800000 in
set_option maxRecDepth 100000 in
theorem r16_PlaceI (A : Option Addr) (k : Nat) (l : List Move) (p : Param) (w : World) (hs : Sl w A 5 (l.map mv)) (hl : l.length ≤ 1000000) (hok : scan moveE none l = 0) :
    Calls Try.prog 129 #[.slice A l.length k, .agg (prm p).toArray] w fun e w' => e = .returned (.int .i64 (placeI l p)) ∧ Ext w w' := by
  have HOK := Lib.hid hok
  clear hok
  simp only [prm]
  go_enter Try.func129, Try.ntmps129
  go_wp2
  go_loopw [5] (fun i wr => ∃ j : Nat, j ≤ l.length ∧ i = .int .i64 j ∧ Ext (w.alloc (.cells #[.int .i64 p.ch, .int .i64 p.attr] 40)) wr ∧ Hid ((l.take j).all (fun m => !decide (m.p = p)) = true)) (fun i _ => l.length - (intOf i).toNat)
  case atStart => exact ⟨0, by omega, rfl, Ext.refl _, Lib.hid (by simp)⟩
  case round =>
    obtain ⟨j, hj, rfl, hx, HN⟩ := hrel
    obtain ⟨y, rfl⟩ := hx.get
    clear hx
    by_cases hlt : j < l.length
    · obtain ⟨q, hq⟩ : ∃ q, l[j]? = some q := ⟨_, List.getElem?_eq_getElem hlt⟩
      have HQ := Lib.hid hq
      obtain ⟨b', o, rfl, hc0, hc1, hc2, hc3, hc4⟩ := hs.row5 (i := j) (by rw [List.getElem?_map, hq]; rfl)
      have hb0 : (0 : Int) ≤ (j : Int) := by omega
      have hb1 : (j : Int) < (l.length : Int) := by omega
      clear hq hs
      go_wp2
      (refine wp_region_grows (by kernel_rfl) (by kernel_rfl) ?_; (repeat (go_big_quiet_step (fail))); refine wpQuiet_nil ?_; rintro _ ⟨y, rfl⟩)
      by_cases he : q.p = p
      · have hz : eqP q.p.ch q.p.attr p.ch p.attr = true := by rw [eqP_def]; simpa using he
        rw [hz]
        have HE := Lib.hid he
        clear he
        go_wp2
        go_ret
        refine ⟨?_, by repeat (first | exact Ext.refl _ | assumption | apply Ext.xt | apply Ext.alloc | apply Ext.drew | apply Ext.drewN)⟩
        have h := place_hit HOK.out HQ.out HE.out
        have h2 : placeI l p = (j : Int) := by unfold placeI; rw [h.2, h.1]; rfl
        rw [h2]; rfl
      · have hz : eqP q.p.ch q.p.attr p.ch p.attr = false := by rw [eqP_def]; simpa using he
        rw [hz]
        have HE := Lib.hid he
        clear he
        go_wp2
        go_light
        exact ⟨⟨j + 1, by omega, by go_num, by repeat (first | exact Ext.refl _ | assumption | apply Ext.xt | apply Ext.alloc | apply Ext.drew | apply Ext.drewN), Lib.hid (all_step HQ.out (by simpa using HE.out) HN.out)⟩, by simp [intOf]; omega⟩
    · have HA := Lib.hid (all_full (l := l) (k := j) (by omega) HN.out)
      go_wp2
      go_ret
      refine ⟨?_, by repeat (first | exact Ext.refl _ | assumption | apply Ext.xt | apply Ext.alloc | apply Ext.drew | apply Ext.drewN)⟩
      have h2 : placeI l p = -1 := by unfold placeI; rw [place_miss HA.out]; rfl
      rw [h2]; rfl

set_option maxHeartbeats 800000 in
theorem r16_Find (c : Cue) (A : Option Addr) (k : Nat) (B : Option Addr) (m : Nat) (p : Param) (w : World) (hc : CueAt w c A k B m) :
    Calls Try.prog 66 #[.agg (cueV c A k B m).toArray, .agg (prm p).toArray] w
      fun e w' => e = .returned (.tuple #[.int .i64 (findV c p).1, .bool (findV c p).2.1, .int .i64 (findV c p).2.2]) ∧ Ext w w' := by
  have HC := Lib.hid hc
  have hmv := hc.mv
  clear hc
  simp only [cueV, prm]
  by_cases hE : cueE c = 0
  · have HM := Lib.hid (movesE_scan (cueE_ok hE).2.2.1)
    by_cases hp : paramE p = 0
    · have HF : Hid (findV c p = if foundP c.moves p then ((posP c.moves p : Int), true, 0) else (0, false, 0)) := Lib.hid (by unfold findV; rw [if_neg (by omega), if_neg (by omega)])
      have hE' : (cueE c != 0) = false := by simpa using hE
      have hp' : (paramE p != 0) = false := by simpa using hp
      clear hE hp
      cases hf : foundP c.moves p
      · have hpl : placeI c.moves p = -1 := by unfold placeI; rw [hf]; rfl
        have HG := Lib.hid hf
        clear hf
        go_enter Try.func66, Try.ntmps66
        go_wp2_with (first | (go_at_call 53; refine (r16_Check c A k B m _ (HC.out.mono (by repeat (first | exact Ext.refl _ | assumption | apply Ext.xt | apply Ext.alloc | apply Ext.drew | apply Ext.drewN)))).mono ?_; rintro e w' ⟨rfl, hx⟩; obtain ⟨y, rfl⟩ := hx.get; clear hx) | (go_at_call 37; refine (r15_Param p _).mono ?_; rintro e w' ⟨rfl, hx⟩; obtain ⟨y, rfl⟩ := hx.get; clear hx) | (go_at_call 129; refine (r16_PlaceI A k c.moves p _ (hmv.mono (by repeat (first | exact Ext.refl _ | assumption | apply Ext.xt | apply Ext.alloc | apply Ext.drew | apply Ext.drewN))) (Nat.le_trans HM.out.1 (by omega)) HM.out.2).mono ?_; rintro e w' ⟨he, hx⟩; simp only [hpl] at he; subst he; obtain ⟨y, rfl⟩ := hx.get; clear hx))
        go_ret3
        go_light
        refine ⟨ret_ibi ?_, by repeat (first | exact Ext.refl _ | assumption | apply Ext.xt | apply Ext.alloc | apply Ext.drew | apply Ext.drewN)⟩
        rw [HF.out, HG.out]
        simp
        rfl
      · have hpl : placeI c.moves p = (posP c.moves p : Int) := by unfold placeI; rw [hf]; rfl
        have HG := Lib.hid hf
        clear hf
        go_enter Try.func66, Try.ntmps66
        go_wp2_with (first | (go_at_call 53; refine (r16_Check c A k B m _ (HC.out.mono (by repeat (first | exact Ext.refl _ | assumption | apply Ext.xt | apply Ext.alloc | apply Ext.drew | apply Ext.drewN)))).mono ?_; rintro e w' ⟨rfl, hx⟩; obtain ⟨y, rfl⟩ := hx.get; clear hx) | (go_at_call 37; refine (r15_Param p _).mono ?_; rintro e w' ⟨rfl, hx⟩; obtain ⟨y, rfl⟩ := hx.get; clear hx) | (go_at_call 129; refine (r16_PlaceI A k c.moves p _ (hmv.mono (by repeat (first | exact Ext.refl _ | assumption | apply Ext.xt | apply Ext.alloc | apply Ext.drew | apply Ext.drewN))) (Nat.le_trans HM.out.1 (by omega)) HM.out.2).mono ?_; rintro e w' ⟨he, hx⟩; simp only [hpl] at he; subst he; obtain ⟨y, rfl⟩ := hx.get; clear hx))
        go_ret3
        go_light
        refine ⟨ret_ibi ?_, by repeat (first | exact Ext.refl _ | assumption | apply Ext.xt | apply Ext.alloc | apply Ext.drew | apply Ext.drewN)⟩
        rw [HF.out, HG.out]
        simp
    · have HF : Hid (findV c p = (0, false, paramE p)) := Lib.hid (by unfold findV; rw [if_neg (by omega), if_pos (by omega)])
      have hE' : (cueE c != 0) = false := by simpa using hE
      have hp' : (paramE p != 0) = true := by simpa using hp
      clear hE hp
      go_enter Try.func66, Try.ntmps66
      go_wp2_with (first | (go_at_call 53; refine (r16_Check c A k B m _ (HC.out.mono (by repeat (first | exact Ext.refl _ | assumption | apply Ext.xt | apply Ext.alloc | apply Ext.drew | apply Ext.drewN)))).mono ?_; rintro e w' ⟨rfl, hx⟩; obtain ⟨y, rfl⟩ := hx.get; clear hx) | (go_at_call 37; refine (r15_Param p _).mono ?_; rintro e w' ⟨rfl, hx⟩; obtain ⟨y, rfl⟩ := hx.get; clear hx))
      go_ret3
      go_light
      refine ⟨ret_ibi ?_, by repeat (first | exact Ext.refl _ | assumption | apply Ext.xt | apply Ext.alloc | apply Ext.drew | apply Ext.drewN)⟩
      rw [HF.out]
  · have HF : Hid (findV c p = (0, false, cueE c)) := Lib.hid (by unfold findV; rw [if_pos (by omega)])
    have hE' : (cueE c != 0) = true := by simpa using hE
    clear hE
    go_enter Try.func66, Try.ntmps66
    go_wp2_with (go_at_call 53; refine (r16_Check c A k B m _ (HC.out.mono (by repeat (first | exact Ext.refl _ | assumption | apply Ext.xt | apply Ext.alloc | apply Ext.drew | apply Ext.drewN)))).mono ?_; rintro e w' ⟨rfl, hx⟩; obtain ⟨y, rfl⟩ := hx.get; clear hx)
    go_ret3
    go_light
    refine ⟨ret_ibi ?_, by repeat (first | exact Ext.refl _ | assumption | apply Ext.xt | apply Ext.alloc | apply Ext.drew | apply Ext.drewN)⟩
    rw [HF.out]
end Go.Proofs.Ytgmicckeefoghaa
