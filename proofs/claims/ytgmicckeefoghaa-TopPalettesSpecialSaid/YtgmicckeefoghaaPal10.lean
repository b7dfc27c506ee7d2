/-
  The law on special hues.
-/
import Derived.Test.YtgmicckeefoghaaPal9
namespace Go.Proofs.Ytgmicckeefoghaa
open Go.RowKit

theorem Sl.one3 {w : World} {b : Nat} {v0 v1 v2 : Value} (h0 : w.cell? ⟨b, 0, none⟩ = some v0) (h1 : w.cell? ⟨b, 1, none⟩ = some v1) (h2 : w.cell? ⟨b, 2, none⟩ = some v2) : Sl w (some ⟨b, 0, none⟩) 3 [[v0, v1, v2]] := ⟨fun i row hr => by
  match i with
  | 0 =>
    simp at hr
    subst hr
    refine ⟨rfl, b, 0, rfl, fun j v hv => ?_⟩
    match j with
    | 0 => simp at hv; subst hv; exact h0
    | 1 => simp at hv; subst hv; exact h1
    | 2 => simp at hv; subst hv; exact h2
    | j + 3 => simp at hv
  | i + 1 => simp at hr⟩
theorem Sl.two3 {w : World} {b : Nat} {v0 v1 v2 v3 v4 v5 : Value} (h0 : w.cell? ⟨b, 0, none⟩ = some v0) (h1 : w.cell? ⟨b, 1, none⟩ = some v1) (h2 : w.cell? ⟨b, 2, none⟩ = some v2) (h3 : w.cell? ⟨b, 3, none⟩ = some v3) (h4 : w.cell? ⟨b, 4, none⟩ = some v4) (h5 : w.cell? ⟨b, 5, none⟩ = some v5) :
    Sl w (some ⟨b, 0, none⟩) 3 [[v0, v1, v2], [v3, v4, v5]] := ⟨fun i row hr => by
  match i with
  | 0 =>
    simp at hr
    subst hr
    refine ⟨rfl, b, 0, rfl, fun j v hv => ?_⟩
    match j with
    | 0 => simp at hv; subst hv; exact h0
    | 1 => simp at hv; subst hv; exact h1
    | 2 => simp at hv; subst hv; exact h2
    | j + 3 => simp at hv
  | 1 =>
    simp at hr
    subst hr
    refine ⟨rfl, b, 0, rfl, fun j v hv => ?_⟩
    match j with
    | 0 => simp at hv; subst hv; exact h3
    | 1 => simp at hv; subst hv; exact h4
    | 2 => simp at hv; subst hv; exact h5
    | j + 3 => simp at hv
  | i + 2 => simp at hr⟩

theorem Level9 {hs : List Hue} {A : Option Addr} {k : Nat} {q : Param} {home x : Int} (hl : levelV [⟨9, hs, A, k⟩] ⟨9, 0⟩ q home = (x, 0)) (D : Option Addr) (c : Nat) (w : World) (hp : Pals w D [⟨9, hs, A, k⟩]) :
    Calls Try.prog 57 #[.slice D 1 c, .agg #[.int .i64 9, .int .i64 0], .agg #[.int .i64 q.ch, .int .i64 q.attr], .int .i64 home] w fun e w' => e = .returned (.tuple #[.int .i64 x, .int .i64 0]) ∧ Ext w w' :=
  (pal_Level D c [⟨9, hs, A, k⟩] ⟨9, 0⟩ q home w hp (by exact (by decide : 1 ≤ maxLen))).mono fun e w' ⟨h3, h4⟩ => by
    rw [hl] at h3
    exact ⟨h3, h4⟩

set_option maxHeartbeats 3200000 in
set_option maxRecDepth 100000 in
theorem l_Special (p : Param) (home v : Int) (w : World) (hh : 0 ≤ home ∧ home ≤ 65535) (hv : 0 ≤ v ∧ v ≤ 65535) :
    Calls Try.prog 14 #[.agg (prm p).toArray, .int .u16 home, .int .u16 v] w fun e w' => e = .returned (.bool true) ∧ Ext w w' := by
  obtain ⟨hh1, hh2⟩ := hh
  obtain ⟨hv1, hv2⟩ := hv
  simp only [prm]
  by_cases hp : paramE p = 0
  · have hp' : (paramE p != 0) = false := by simpa using hp
    obtain ⟨g1, g2, g3, g4⟩ := paramE_ok hp
    have hL : levB home = true := by simp [levB]; omega
    have HA := Lib.hid (lev_both_own hp hv1 hv2 hL)
    have HB := Lib.hid (lev_both_other hp hv1 hv2 hL)
    have HC := Lib.hid (fun A k => lev_all hp hv1 hv2 hL A k p hp rfl)
    have HD := Lib.hid (fun A k => lev_all hp hv1 hv2 hL A k (otherP p) (otherP_ok hp) rfl)
    have HE := Lib.hid (lev_own_own hp hv1 hv2 hL)
    have HF := Lib.hid (lev_own_other hp hv1 hv2 hL)
    have HG := Lib.hid (fun A k => lev_no hp hL A k)
    have HH := Lib.hid (fun A k => lev_no (otherP_ok hp) hL A k)
    clear hp hL
    go_enter Try.func14, Try.ntmps14
    go_wp2_with (go_at_call 37; refine (r15_Param p _).mono ?_; rintro e w' ⟨rfl, hx⟩; obtain ⟨y0, rfl⟩ := hx.get; clear hx)
    generalize hW : World.alloc _ _ = W
    have hx0 : Ext w W := by rw [← hW]; exact (by repeat (first | exact Ext.refl _ | assumption | apply Ext.xt | apply Ext.alloc | apply Ext.drew | apply Ext.drewN))
    have c0 : W.cell? ⟨w.heap.size, 0, none⟩ = some (.int .i64 p.ch) := by rw [← hW]; simp [go_sem]
    have c1 : W.cell? ⟨w.heap.size, 1, none⟩ = some (.int .i64 p.attr) := by rw [← hW]; simp [go_sem]
    have d0 : W.cell? ⟨w.heap.size + 1 + y0.n + 1 + 1, 0, none⟩ = some (.int .i64 (otherP p).ch) := by rw [← hW]; simp [go_sem, otherP]
    have d1 : W.cell? ⟨w.heap.size + 1 + y0.n + 1 + 1, 1, none⟩ = some (.int .i64 (otherP p).attr) := by rw [← hW]; simp [go_sem, otherP]
    have S1 := Lib.hid (show Sl W (some ⟨w.heap.size + 1 + y0.n + 1 + 1 + 1, 0, none⟩) 3 ([allH p v, ownH p v].map hueR) from Sl.two3 (by rw [← hW]; simp [go_sem, allH]) (by rw [← hW]; simp [go_sem, allH]) (by rw [← hW]; simp [go_sem, allH]) (by rw [← hW]; simp [go_sem, ownH]) (by rw [← hW]; simp [go_sem, ownH]) (by rw [← hW]; simp [go_sem, ownH]))
    have S2 := Lib.hid (show Sl W (some ⟨w.heap.size + 1 + y0.n + 1 + 1 + 1 + 1, 0, none⟩) 3 ([allH p v].map hueR) from Sl.one3 (by rw [← hW]; simp [go_sem, allH]) (by rw [← hW]; simp [go_sem, allH]) (by rw [← hW]; simp [go_sem, allH]))
    have S3 := Lib.hid (show Sl W (some ⟨w.heap.size + 1 + y0.n + 1 + 1 + 1 + 1 + 1, 0, none⟩) 3 ([ownH p v].map hueR) from Sl.one3 (by rw [← hW]; simp [go_sem, ownH]) (by rw [← hW]; simp [go_sem, ownH]) (by rw [← hW]; simp [go_sem, ownH]))
    have S4 := Lib.hid (Sl.nil W none 3)
    have e0 : W.cell? ⟨w.heap.size + 1 + y0.n + 1 + 1 + 1 + 1 + 1 + 1, 0, none⟩ = some (.slice (some ⟨w.heap.size + 1 + y0.n + 1 + 1 + 1, 0, none⟩) 2 2) := by rw [← hW]; simp [go_sem]
    have e1 : W.cell? ⟨w.heap.size + 1 + y0.n + 1 + 1 + 1 + 1 + 1 + 1, 1, none⟩ = some (.int .i64 (65535 - v)) := by rw [← hW]; simp [go_sem]
    have e2 : W.cell? ⟨w.heap.size + 1 + y0.n + 1 + 1 + 1 + 1 + 1 + 1, 2, none⟩ = some (.int .i64 (v)) := by rw [← hW]; simp [go_sem]
    have e3 : W.cell? ⟨w.heap.size + 1 + y0.n + 1 + 1 + 1 + 1 + 1 + 1, 3, none⟩ = some (.slice (some ⟨w.heap.size + 1 + y0.n + 1 + 1 + 1 + 1, 0, none⟩) 1 1) := by rw [← hW]; simp [go_sem]
    have e4 : W.cell? ⟨w.heap.size + 1 + y0.n + 1 + 1 + 1 + 1 + 1 + 1, 4, none⟩ = some (.int .i64 (v)) := by rw [← hW]; simp [go_sem]
    have e5 : W.cell? ⟨w.heap.size + 1 + y0.n + 1 + 1 + 1 + 1 + 1 + 1, 5, none⟩ = some (.int .i64 (v)) := by rw [← hW]; simp [go_sem]
    have e6 : W.cell? ⟨w.heap.size + 1 + y0.n + 1 + 1 + 1 + 1 + 1 + 1, 6, none⟩ = some (.slice (some ⟨w.heap.size + 1 + y0.n + 1 + 1 + 1 + 1 + 1, 0, none⟩) 1 1) := by rw [← hW]; simp [go_sem]
    have e7 : W.cell? ⟨w.heap.size + 1 + y0.n + 1 + 1 + 1 + 1 + 1 + 1, 7, none⟩ = some (.int .i64 (65535 - v)) := by rw [← hW]; simp [go_sem]
    have e8 : W.cell? ⟨w.heap.size + 1 + y0.n + 1 + 1 + 1 + 1 + 1 + 1, 8, none⟩ = some (.int .i64 (home)) := by rw [← hW]; simp [go_sem]
    have e9 : W.cell? ⟨w.heap.size + 1 + y0.n + 1 + 1 + 1 + 1 + 1 + 1, 9, none⟩ = some (.slice none 0 0) := by rw [← hW]; simp [go_sem]
    have e10 : W.cell? ⟨w.heap.size + 1 + y0.n + 1 + 1 + 1 + 1 + 1 + 1, 10, none⟩ = some (.int .i64 (home)) := by rw [← hW]; simp [go_sem]
    have e11 : W.cell? ⟨w.heap.size + 1 + y0.n + 1 + 1 + 1 + 1 + 1 + 1, 11, none⟩ = some (.int .i64 (home)) := by rw [← hW]; simp [go_sem]
    have hWs : w.heap.size + 1 + y0.n + 1 + 1 + 1 + 1 + 1 + 1 < W.heap.size := by rw [← hW]; simp [go_sem]
    clear hW
    generalize (w.heap.size + 1 + y0.n + 1 + 1 + 1 + 1 + 1 + 1) = n6 at *
    refine wp_loop_rounds 5 ?_
    rw [rounds_succ]
    go_wp2
    generalize hW1 : World.alloc _ _ = W1
    have g1 : Ext W W1 := by rw [← hW1]; exact (by repeat (first | exact Ext.refl _ | assumption | apply Ext.xt | apply Ext.alloc | apply Ext.drew | apply Ext.drewN))
    have P1 := Lib.hid (show Pals W1 (some ⟨W.heap.size + 1, 0, none⟩) [⟨9, [allH p v, ownH p v], (some ⟨w.heap.size + 1 + y0.n + 1 + 1 + 1, 0, none⟩), 2⟩] from pals_one (by rw [← hW1]; exact Sl.alloc' (by simp [go_sem]) rfl (by simp [palR])) (S1.out.mono g1) (by exact (by decide : 2 ≤ maxLen)))
    have f0 : W1.cell? ⟨W.heap.size, 0, none⟩ = some (.slice (some ⟨w.heap.size + 1 + y0.n + 1 + 1 + 1, 0, none⟩) 2 2) := by rw [← hW1]; simp [go_sem]
    have f1 : W1.cell? ⟨W.heap.size, 1, none⟩ = some (.int .i64 (65535 - v)) := by rw [← hW1]; simp [go_sem]
    have f2 : W1.cell? ⟨W.heap.size, 2, none⟩ = some (.int .i64 (v)) := by rw [← hW1]; simp [go_sem]
    replace c0 := g1.cell c0
    replace c1 := g1.cell c1
    replace d0 := g1.cell d0
    replace d1 := g1.cell d1
    replace e0 := g1.cell e0
    replace e1 := g1.cell e1
    replace e2 := g1.cell e2
    replace e3 := g1.cell e3
    replace e4 := g1.cell e4
    replace e5 := g1.cell e5
    replace e6 := g1.cell e6
    replace e7 := g1.cell e7
    replace e8 := g1.cell e8
    replace e9 := g1.cell e9
    replace e10 := g1.cell e10
    replace e11 := g1.cell e11
    replace hx0 := hx0.trans g1
    replace S1 := Lib.hid (S1.out.mono g1)
    replace S2 := Lib.hid (S2.out.mono g1)
    replace S3 := Lib.hid (S3.out.mono g1)
    replace S4 := Lib.hid (S4.out.mono g1)
    clear hW1 g1
    (refine wp_region_grows (by kernel_rfl) (by kernel_rfl) ?_; (repeat (go_big_quiet_step (first | (go_at_call 58; exact Calls.grows (r15_Of4 9 _)) | (go_at_call 57; exact Calls.grows (Level9 (HA.out _ _) _ _ _ (P1.out.mono (by repeat (first | exact Ext.refl _ | assumption | apply Ext.xt | apply Ext.alloc | apply Ext.drew | apply Ext.drewN)))))))); refine wpQuiet_nil ?_; rintro _ ⟨y, rfl⟩)
    go_wp2
    (refine wp_region_grows (by kernel_rfl) (by kernel_rfl) ?_; (repeat (go_big_quiet_step (first | (go_at_call 58; exact Calls.grows (r15_Of4 9 _)) | (go_at_call 57; exact Calls.grows (Level9 (HB.out _ _) _ _ _ (P1.out.mono (by repeat (first | exact Ext.refl _ | assumption | apply Ext.xt | apply Ext.alloc | apply Ext.drew | apply Ext.drewN)))))))); refine wpQuiet_nil ?_; rintro _ ⟨y, rfl⟩)
    go_wp2
    generalize hV : xt _ _ = V1
    have g : Ext W1 V1 := by rw [← hV]; exact (by repeat (first | exact Ext.refl _ | assumption | apply Ext.xt | apply Ext.alloc | apply Ext.drew | apply Ext.drewN))
    replace c0 := g.cell c0
    replace c1 := g.cell c1
    replace d0 := g.cell d0
    replace d1 := g.cell d1
    replace e0 := g.cell e0
    replace e1 := g.cell e1
    replace e2 := g.cell e2
    replace e3 := g.cell e3
    replace e4 := g.cell e4
    replace e5 := g.cell e5
    replace e6 := g.cell e6
    replace e7 := g.cell e7
    replace e8 := g.cell e8
    replace e9 := g.cell e9
    replace e10 := g.cell e10
    replace e11 := g.cell e11
    replace hx0 := hx0.trans g
    replace S1 := Lib.hid (S1.out.mono g)
    replace S2 := Lib.hid (S2.out.mono g)
    replace S3 := Lib.hid (S3.out.mono g)
    replace S4 := Lib.hid (S4.out.mono g)
    clear hV g f0 f1 f2 P1
    rw [rounds_succ]
    go_wp2
    generalize hW2 : World.alloc _ _ = W2
    have g2 : Ext V1 W2 := by rw [← hW2]; exact (by repeat (first | exact Ext.refl _ | assumption | apply Ext.xt | apply Ext.alloc | apply Ext.drew | apply Ext.drewN))
    have P2 := Lib.hid (show Pals W2 (some ⟨V1.heap.size + 1, 0, none⟩) [⟨9, [allH p v], (some ⟨w.heap.size + 1 + y0.n + 1 + 1 + 1 + 1, 0, none⟩), 1⟩] from pals_one (by rw [← hW2]; exact Sl.alloc' (by simp [go_sem]) rfl (by simp [palR])) (S2.out.mono g2) (by exact (by decide : 1 ≤ maxLen)))
    have f0 : W2.cell? ⟨V1.heap.size, 0, none⟩ = some (.slice (some ⟨w.heap.size + 1 + y0.n + 1 + 1 + 1 + 1, 0, none⟩) 1 1) := by rw [← hW2]; simp [go_sem]
    have f1 : W2.cell? ⟨V1.heap.size, 1, none⟩ = some (.int .i64 (v)) := by rw [← hW2]; simp [go_sem]
    have f2 : W2.cell? ⟨V1.heap.size, 2, none⟩ = some (.int .i64 (v)) := by rw [← hW2]; simp [go_sem]
    replace c0 := g2.cell c0
    replace c1 := g2.cell c1
    replace d0 := g2.cell d0
    replace d1 := g2.cell d1
    replace e0 := g2.cell e0
    replace e1 := g2.cell e1
    replace e2 := g2.cell e2
    replace e3 := g2.cell e3
    replace e4 := g2.cell e4
    replace e5 := g2.cell e5
    replace e6 := g2.cell e6
    replace e7 := g2.cell e7
    replace e8 := g2.cell e8
    replace e9 := g2.cell e9
    replace e10 := g2.cell e10
    replace e11 := g2.cell e11
    replace hx0 := hx0.trans g2
    replace S1 := Lib.hid (S1.out.mono g2)
    replace S2 := Lib.hid (S2.out.mono g2)
    replace S3 := Lib.hid (S3.out.mono g2)
    replace S4 := Lib.hid (S4.out.mono g2)
    clear hW2 g2
    (refine wp_region_grows (by kernel_rfl) (by kernel_rfl) ?_; (repeat (go_big_quiet_step (first | (go_at_call 58; exact Calls.grows (r15_Of4 9 _)) | (go_at_call 57; exact Calls.grows (Level9 (HC.out _ _) _ _ _ (P2.out.mono (by repeat (first | exact Ext.refl _ | assumption | apply Ext.xt | apply Ext.alloc | apply Ext.drew | apply Ext.drewN)))))))); refine wpQuiet_nil ?_; rintro _ ⟨y, rfl⟩)
    go_wp2
    (refine wp_region_grows (by kernel_rfl) (by kernel_rfl) ?_; (repeat (go_big_quiet_step (first | (go_at_call 58; exact Calls.grows (r15_Of4 9 _)) | (go_at_call 57; exact Calls.grows (Level9 (HD.out _ _) _ _ _ (P2.out.mono (by repeat (first | exact Ext.refl _ | assumption | apply Ext.xt | apply Ext.alloc | apply Ext.drew | apply Ext.drewN)))))))); refine wpQuiet_nil ?_; rintro _ ⟨y, rfl⟩)
    go_wp2
    generalize hV : xt _ _ = V2
    have g : Ext W2 V2 := by rw [← hV]; exact (by repeat (first | exact Ext.refl _ | assumption | apply Ext.xt | apply Ext.alloc | apply Ext.drew | apply Ext.drewN))
    replace c0 := g.cell c0
    replace c1 := g.cell c1
    replace d0 := g.cell d0
    replace d1 := g.cell d1
    replace e0 := g.cell e0
    replace e1 := g.cell e1
    replace e2 := g.cell e2
    replace e3 := g.cell e3
    replace e4 := g.cell e4
    replace e5 := g.cell e5
    replace e6 := g.cell e6
    replace e7 := g.cell e7
    replace e8 := g.cell e8
    replace e9 := g.cell e9
    replace e10 := g.cell e10
    replace e11 := g.cell e11
    replace hx0 := hx0.trans g
    replace S1 := Lib.hid (S1.out.mono g)
    replace S2 := Lib.hid (S2.out.mono g)
    replace S3 := Lib.hid (S3.out.mono g)
    replace S4 := Lib.hid (S4.out.mono g)
    clear hV g f0 f1 f2 P2
    rw [rounds_succ]
    go_wp2
    generalize hW3 : World.alloc _ _ = W3
    have g3 : Ext V2 W3 := by rw [← hW3]; exact (by repeat (first | exact Ext.refl _ | assumption | apply Ext.xt | apply Ext.alloc | apply Ext.drew | apply Ext.drewN))
    have P3 := Lib.hid (show Pals W3 (some ⟨V2.heap.size + 1, 0, none⟩) [⟨9, [ownH p v], (some ⟨w.heap.size + 1 + y0.n + 1 + 1 + 1 + 1 + 1, 0, none⟩), 1⟩] from pals_one (by rw [← hW3]; exact Sl.alloc' (by simp [go_sem]) rfl (by simp [palR])) (S3.out.mono g3) (by exact (by decide : 1 ≤ maxLen)))
    have f0 : W3.cell? ⟨V2.heap.size, 0, none⟩ = some (.slice (some ⟨w.heap.size + 1 + y0.n + 1 + 1 + 1 + 1 + 1, 0, none⟩) 1 1) := by rw [← hW3]; simp [go_sem]
    have f1 : W3.cell? ⟨V2.heap.size, 1, none⟩ = some (.int .i64 (65535 - v)) := by rw [← hW3]; simp [go_sem]
    have f2 : W3.cell? ⟨V2.heap.size, 2, none⟩ = some (.int .i64 (home)) := by rw [← hW3]; simp [go_sem]
    replace c0 := g3.cell c0
    replace c1 := g3.cell c1
    replace d0 := g3.cell d0
    replace d1 := g3.cell d1
    replace e0 := g3.cell e0
    replace e1 := g3.cell e1
    replace e2 := g3.cell e2
    replace e3 := g3.cell e3
    replace e4 := g3.cell e4
    replace e5 := g3.cell e5
    replace e6 := g3.cell e6
    replace e7 := g3.cell e7
    replace e8 := g3.cell e8
    replace e9 := g3.cell e9
    replace e10 := g3.cell e10
    replace e11 := g3.cell e11
    replace hx0 := hx0.trans g3
    replace S1 := Lib.hid (S1.out.mono g3)
    replace S2 := Lib.hid (S2.out.mono g3)
    replace S3 := Lib.hid (S3.out.mono g3)
    replace S4 := Lib.hid (S4.out.mono g3)
    clear hW3 g3
    (refine wp_region_grows (by kernel_rfl) (by kernel_rfl) ?_; (repeat (go_big_quiet_step (first | (go_at_call 58; exact Calls.grows (r15_Of4 9 _)) | (go_at_call 57; exact Calls.grows (Level9 (HE.out _ _) _ _ _ (P3.out.mono (by repeat (first | exact Ext.refl _ | assumption | apply Ext.xt | apply Ext.alloc | apply Ext.drew | apply Ext.drewN)))))))); refine wpQuiet_nil ?_; rintro _ ⟨y, rfl⟩)
    go_wp2
    (refine wp_region_grows (by kernel_rfl) (by kernel_rfl) ?_; (repeat (go_big_quiet_step (first | (go_at_call 58; exact Calls.grows (r15_Of4 9 _)) | (go_at_call 57; exact Calls.grows (Level9 (HF.out _ _) _ _ _ (P3.out.mono (by repeat (first | exact Ext.refl _ | assumption | apply Ext.xt | apply Ext.alloc | apply Ext.drew | apply Ext.drewN)))))))); refine wpQuiet_nil ?_; rintro _ ⟨y, rfl⟩)
    go_wp2
    generalize hV : xt _ _ = V3
    have g : Ext W3 V3 := by rw [← hV]; exact (by repeat (first | exact Ext.refl _ | assumption | apply Ext.xt | apply Ext.alloc | apply Ext.drew | apply Ext.drewN))
    replace c0 := g.cell c0
    replace c1 := g.cell c1
    replace d0 := g.cell d0
    replace d1 := g.cell d1
    replace e0 := g.cell e0
    replace e1 := g.cell e1
    replace e2 := g.cell e2
    replace e3 := g.cell e3
    replace e4 := g.cell e4
    replace e5 := g.cell e5
    replace e6 := g.cell e6
    replace e7 := g.cell e7
    replace e8 := g.cell e8
    replace e9 := g.cell e9
    replace e10 := g.cell e10
    replace e11 := g.cell e11
    replace hx0 := hx0.trans g
    replace S1 := Lib.hid (S1.out.mono g)
    replace S2 := Lib.hid (S2.out.mono g)
    replace S3 := Lib.hid (S3.out.mono g)
    replace S4 := Lib.hid (S4.out.mono g)
    clear hV g f0 f1 f2 P3
    rw [rounds_succ]
    go_wp2
    generalize hW4 : World.alloc _ _ = W4
    have g4 : Ext V3 W4 := by rw [← hW4]; exact (by repeat (first | exact Ext.refl _ | assumption | apply Ext.xt | apply Ext.alloc | apply Ext.drew | apply Ext.drewN))
    have P4 := Lib.hid (show Pals W4 (some ⟨V3.heap.size + 1, 0, none⟩) [⟨9, [], none, 0⟩] from pals_one (by rw [← hW4]; exact Sl.alloc' (by simp [go_sem]) rfl (by simp [palR])) (S4.out.mono g4) (by exact (by decide : 0 ≤ maxLen)))
    have f0 : W4.cell? ⟨V3.heap.size, 0, none⟩ = some (.slice none 0 0) := by rw [← hW4]; simp [go_sem]
    have f1 : W4.cell? ⟨V3.heap.size, 1, none⟩ = some (.int .i64 (home)) := by rw [← hW4]; simp [go_sem]
    have f2 : W4.cell? ⟨V3.heap.size, 2, none⟩ = some (.int .i64 (home)) := by rw [← hW4]; simp [go_sem]
    replace c0 := g4.cell c0
    replace c1 := g4.cell c1
    replace d0 := g4.cell d0
    replace d1 := g4.cell d1
    replace e0 := g4.cell e0
    replace e1 := g4.cell e1
    replace e2 := g4.cell e2
    replace e3 := g4.cell e3
    replace e4 := g4.cell e4
    replace e5 := g4.cell e5
    replace e6 := g4.cell e6
    replace e7 := g4.cell e7
    replace e8 := g4.cell e8
    replace e9 := g4.cell e9
    replace e10 := g4.cell e10
    replace e11 := g4.cell e11
    replace hx0 := hx0.trans g4
    replace S1 := Lib.hid (S1.out.mono g4)
    replace S2 := Lib.hid (S2.out.mono g4)
    replace S3 := Lib.hid (S3.out.mono g4)
    replace S4 := Lib.hid (S4.out.mono g4)
    clear hW4 g4
    (refine wp_region_grows (by kernel_rfl) (by kernel_rfl) ?_; (repeat (go_big_quiet_step (first | (go_at_call 58; exact Calls.grows (r15_Of4 9 _)) | (go_at_call 57; exact Calls.grows (Level9 (HG.out _ _) _ _ _ (P4.out.mono (by repeat (first | exact Ext.refl _ | assumption | apply Ext.xt | apply Ext.alloc | apply Ext.drew | apply Ext.drewN)))))))); refine wpQuiet_nil ?_; rintro _ ⟨y, rfl⟩)
    go_wp2
    (refine wp_region_grows (by kernel_rfl) (by kernel_rfl) ?_; (repeat (go_big_quiet_step (first | (go_at_call 58; exact Calls.grows (r15_Of4 9 _)) | (go_at_call 57; exact Calls.grows (Level9 (HH.out _ _) _ _ _ (P4.out.mono (by repeat (first | exact Ext.refl _ | assumption | apply Ext.xt | apply Ext.alloc | apply Ext.drew | apply Ext.drewN)))))))); refine wpQuiet_nil ?_; rintro _ ⟨y, rfl⟩)
    go_wp2
    generalize hV : xt _ _ = V4
    have g : Ext W4 V4 := by rw [← hV]; exact (by repeat (first | exact Ext.refl _ | assumption | apply Ext.xt | apply Ext.alloc | apply Ext.drew | apply Ext.drewN))
    replace c0 := g.cell c0
    replace c1 := g.cell c1
    replace d0 := g.cell d0
    replace d1 := g.cell d1
    replace e0 := g.cell e0
    replace e1 := g.cell e1
    replace e2 := g.cell e2
    replace e3 := g.cell e3
    replace e4 := g.cell e4
    replace e5 := g.cell e5
    replace e6 := g.cell e6
    replace e7 := g.cell e7
    replace e8 := g.cell e8
    replace e9 := g.cell e9
    replace e10 := g.cell e10
    replace e11 := g.cell e11
    replace hx0 := hx0.trans g
    replace S1 := Lib.hid (S1.out.mono g)
    replace S2 := Lib.hid (S2.out.mono g)
    replace S3 := Lib.hid (S3.out.mono g)
    replace S4 := Lib.hid (S4.out.mono g)
    clear hV g f0 f1 f2 P4
    rw [rounds_succ]
    go_wp2_with (go_at_call 56; refine (top_casePalette _).mono ?_; rintro e w' ⟨rfl, hx⟩; obtain ⟨y, rfl⟩ := hx.get; clear hx)
    go_ret
    exact ⟨rfl, by repeat (first | exact Ext.refl _ | assumption | apply Ext.xt | apply Ext.alloc | apply Ext.drew | apply Ext.drewN)⟩
  · have hp' : (paramE p != 0) = true := by simpa using hp
    clear hp
    go_enter Try.func14, Try.ntmps14
    go_wp2_with (first | (go_at_call 37; refine (r15_Param p _).mono ?_; rintro e w' ⟨rfl, hx⟩; obtain ⟨y, rfl⟩ := hx.get; clear hx) | (go_at_call 56; refine (top_casePalette _).mono ?_; rintro e w' ⟨rfl, hx⟩; obtain ⟨y, rfl⟩ := hx.get; clear hx))
    go_ret
    exact ⟨rfl, by repeat (first | exact Ext.refl _ | assumption | apply Ext.xt | apply Ext.alloc | apply Ext.drew | apply Ext.drewN)⟩
end Go.Proofs.Ytgmicckeefoghaa
