/-
  Lists of palettes: the program's check.
-/
import Derived.Test.YtgmicckeefoghaaPal1
namespace Go.Proofs.Ytgmicckeefoghaa
open Go.RowKit

/-- A palette, and where its hues lie. -/
structure Pal where
  number : Int
  hues : List Hue
  at_ : Option Addr
  cap : Nat
def palR (p : Pal) : List Value := [.int .i64 p.number, .slice p.at_ p.hues.length p.cap]
structure Pals (w : World) (A : Option Addr) (l : List Pal) : Prop where
  sl : Sl w A 2 (l.map palR)
  hu : ∀ p ∈ l, Sl w p.at_ 3 (p.hues.map hueR) ∧ p.hues.length ≤ maxLen
theorem Pals.mono {w w' : World} {A : Option Addr} {l : List Pal} (h : Pals w A l) (hx : Ext w w') : Pals w' A l := ⟨h.sl.mono hx, fun p hp => ⟨(h.hu p hp).1.mono hx, (h.hu p hp).2⟩⟩
def palE (q : Option Pal) (p : Pal) : Int := if p.number < 1 ∨ 1048576 < p.number then 2 else if (match q with | some n => decide (p.number ≤ n.number) | none => false) then 9 else huesE p.hues
def palsE (l : List Pal) : Int := if 32 < l.length then 5 else scan palE none l

set_option maxHeartbeats 1600000 in
set_option maxRecDepth 100000 in
theorem pal_Check (A : Option Addr) (c : Nat) (l : List Pal) (w : World) (hp : Pals w A l) (hl : l.length ≤ maxLen) :
    Calls Try.prog 117 #[.slice A l.length c] w fun e w' => e = .returned (.int .i64 (palsE l)) ∧ Ext w w' := by
  unfold maxLen at hl
  by_cases h128 : 32 < l.length
  · go_enter Try.func117, Try.ntmps117
    go_wp2
    go_ret
    exact ⟨ret_i (by simp [palsE, h128]), Ext.refl _⟩
  have hs := hp.sl
  have HU := Lib.hid hp.hu
  clear hp
  have h0 : (0 : Int) ≤ l.length := by omega
  have HM : Hid (palsE l = scan palE none l) := Lib.hid (by unfold palsE; rw [if_neg h128])
  go_enter Try.func117, Try.ntmps117
  go_wp2
  go_loopw [11] (fun i wr => ∃ k : Nat, k ≤ l.length ∧ i = .int .i64 k ∧ Ext w wr ∧ Hid (palsE l = scan palE (prv l k) (l.drop k))) (fun i _ => l.length - (intOf i).toNat)
  case atStart => exact ⟨0, by omega, rfl, Ext.refl _, HM⟩
  case round =>
    obtain ⟨k, hk, rfl, hx, HE⟩ := hrel
    obtain ⟨y, rfl⟩ := hx.get
    clear hx HM
    by_cases hlt : k < l.length
    · obtain ⟨m, hm⟩ : ∃ m, l[k]? = some m := ⟨_, List.getElem?_eq_getElem hlt⟩
      have HMU := Lib.hid (HU.out m (List.mem_of_getElem? hm))
      obtain ⟨b, o, rfl, hc0, hc1⟩ := hs.row2 (i := k) (by rw [List.getElem?_map, hm]; rfl)
      have HS := Lib.hid (HE.out.trans (scan_at palE l k m hm))
      have hb0 : (0 : Int) ≤ (k : Int) := by omega
      have hb1 : (k : Int) < (l.length : Int) := by omega
      clear HE
      by_cases hk0 : 0 < k
      · obtain ⟨m', hm'⟩ : ∃ m', l[k - 1]? = some m' := ⟨_, List.getElem?_eq_getElem (by omega)⟩
        obtain ⟨b', o', he, hp0, hp1⟩ := hs.row2 (i := k - 1) (by rw [List.getElem?_map, hm']; rfl)
        injection he with he
        injection he with hb ho
        subst hb ho
        have HP := Lib.hid (show prv l k = some m' by unfold prv; rw [if_neg (by omega), hm'])
        clear hm hm' hs hp1
        go_wp2
        all_goals try (go_ret; go_light; refine ⟨ret_i ?_, by repeat (first | exact Ext.refl _ | assumption | apply Ext.xt | apply Ext.alloc | apply Ext.drew | apply Ext.drewN)⟩; have hS := HS.out; rw [HP.out] at hS; grind [palE])
        (refine wp_region_grows (by kernel_rfl) (by kernel_rfl) ?_; (repeat (go_big_quiet_step (fail))); refine wpQuiet_nil ?_; rintro _ ⟨y, rfl⟩)
        go_wp2_with (go_at_call 164; refine (pal_hues m.at_ m.cap m.hues _ (HMU.out.1.mono (by repeat (first | exact Ext.refl _ | assumption | apply Ext.xt | apply Ext.alloc | apply Ext.drew | apply Ext.drewN))) HMU.out.2).mono ?_; rintro e w' ⟨rfl, hx⟩; obtain ⟨y, rfl⟩ := hx.get; clear hx)
        all_goals first
          | (go_ret; go_light; refine ⟨ret_i ?_, by repeat (first | exact Ext.refl _ | assumption | apply Ext.xt | apply Ext.alloc | apply Ext.drew | apply Ext.drewN)⟩; have hS := HS.out; rw [HP.out] at hS; grind [palE])
          | (go_light
             have hS := HS.out
             refine ⟨⟨k + 1, by omega, by go_num, by repeat (first | exact Ext.refl _ | assumption | apply Ext.xt | apply Ext.alloc | apply Ext.drew | apply Ext.drewN), Lib.hid ?_⟩, by simp [intOf]; omega⟩
             rw [HP.out] at hS
             grind [palE])
      · have HP : Hid (prv l k = none) := Lib.hid (by unfold prv; rw [if_pos (by omega)])
        obtain rfl : k = 0 := by omega
        simp only [Nat.zero_mul, Nat.add_zero] at hc0 hc1
        clear hm hs hk0
        go_wp2
        all_goals try (go_ret; go_light; refine ⟨ret_i ?_, by repeat (first | exact Ext.refl _ | assumption | apply Ext.xt | apply Ext.alloc | apply Ext.drew | apply Ext.drewN)⟩; have hS := HS.out; rw [HP.out] at hS; grind [palE])
        (refine wp_region_grows (by kernel_rfl) (by kernel_rfl) ?_; (repeat (go_big_quiet_step (fail))); refine wpQuiet_nil ?_; rintro _ ⟨y, rfl⟩)
        go_wp2_with (go_at_call 164; refine (pal_hues m.at_ m.cap m.hues _ (HMU.out.1.mono (by repeat (first | exact Ext.refl _ | assumption | apply Ext.xt | apply Ext.alloc | apply Ext.drew | apply Ext.drewN))) HMU.out.2).mono ?_; rintro e w' ⟨rfl, hx⟩; obtain ⟨y, rfl⟩ := hx.get; clear hx)
        all_goals first
          | (go_ret; go_light; refine ⟨ret_i ?_, by repeat (first | exact Ext.refl _ | assumption | apply Ext.xt | apply Ext.alloc | apply Ext.drew | apply Ext.drewN)⟩; have hS := HS.out; rw [HP.out] at hS; grind [palE])
          | (go_light
             have hS := HS.out
             refine ⟨⟨1, by omega, by rfl, by repeat (first | exact Ext.refl _ | assumption | apply Ext.xt | apply Ext.alloc | apply Ext.drew | apply Ext.drewN), Lib.hid ?_⟩, by simp [intOf]; omega⟩
             rw [HP.out] at hS
             grind [palE])
    · have HS := Lib.hid (HE.out.trans (scan_end palE l k _ (by omega)))
      go_wp2
      go_ret
      rw [HS.out]
      exact ⟨rfl, by repeat (first | exact Ext.refl _ | assumption | apply Ext.xt | apply Ext.alloc | apply Ext.drew | apply Ext.drewN)⟩
end Go.Proofs.Ytgmicckeefoghaa
