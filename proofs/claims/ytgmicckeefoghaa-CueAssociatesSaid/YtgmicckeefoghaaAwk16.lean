/-
  The examples of the chapter on cues, and that all its answers are right.
-/
import Derived.Test.YtgmicckeefoghaaPack
import Derived.Test.YtgmicckeefoghaaCSet
namespace Go.Proofs.Ytgmicckeefoghaa
open Go.RowKit

def allT (n : Int) : Timing := ⟨n, n, n, n, n, 0⟩
def mA : Move := ⟨⟨1, 0⟩, ⟨0, 65535⟩, 1⟩
def mB : Move := ⟨⟨1, 1⟩, ⟨0, 100⟩, 2⟩
def mPan : Move := ⟨⟨1, 1⟩, ⟨0, 200⟩, 1⟩
def eRed : Entry := ⟨⟨2, 3⟩, ⟨4, 0⟩⟩
def twoWith (l : List Move) (p : List Timing) : Cue := ⟨⟨#[50]⟩, ⟨#[]⟩, l, p, false, false, -1, ⟨#[]⟩, 0⟩
def twoC : Cue := twoWith [mA, mB] [allT 1000, allT 3000]
theorem dot_two : dotAt ⟨#[50]⟩ = -1 := by decide
theorem numE_two : numE ⟨#[50]⟩ = 0 := by
  have h1 : whole ⟨#[50]⟩ = ⟨#[50]⟩ := by unfold whole; rw [dot_two]; rfl
  have h2 : rest ⟨#[50]⟩ = ByteArray.empty := by unfold rest; rw [dot_two]; rfl
  have h3 : point ⟨#[50]⟩ = false := by unfold point; rw [dot_two]; rfl
  unfold numE digs
  rw [h1, h2, h3, Lib.toList_data]
  decide
theorem two_ok (l : List Move) (p : List Timing) (h1 : movesE l = 0) (h2 : partsE (twoWith l p) = 0) : cueE (twoWith l p) = 0 := by
  have e1 : numE (twoWith l p).number = 0 := numE_two
  have e2 : labelE (twoWith l p).label = 0 := by show labelE ⟨#[]⟩ = 0; decide
  have e3 : movesE (twoWith l p).moves = 0 := h1
  have e5 := nextE_none (twoWith l p) rfl rfl rfl
  unfold cueE
  simp [e1, e2, e3, h2, e5]
theorem two_merge : mergeV twoC.moves [mPan] = ([mA, mPan], 0) := by decide
theorem two_pack : packV (twoWith [mA, mPan] [allT 1000, allT 3000]) = (twoWith [mA, mPan] [allT 1000], 0) := by
  unfold packV; rw [two_ok _ _ (by decide) (by decide)]; decide
theorem two_set : csetV twoC [eRed] 2 = (twoWith [mA, mB, ⟨eRed.p, eRed.v, 2⟩] [allT 1000, allT 3000], 0) := by
  unfold csetV twoC; rw [two_ok _ _ (by decide) (by decide)]; decide
theorem two_set3 : csetV twoC [eRed] 3 = (emptyC, 6) := by
  unfold csetV twoC; rw [two_ok _ _ (by decide) (by decide)]; decide
theorem two_drop : dropV twoC [⟨1, 0⟩] = (twoWith [mB] [allT 1000, allT 3000], 0) := by
  unfold dropV twoC; rw [two_ok _ _ (by decide) (by decide)]; decide
theorem two_pack2 : packV (twoWith [mB] [allT 1000, allT 3000]) = (twoWith [mB] [allT 1000, allT 3000], 0) := by
  unfold packV; rw [two_ok _ _ (by decide) (by decide)]; decide

set_option maxHeartbeats 400000 in
theorem l16_All (n : Int) (w : World) : Calls Try.prog 144 #[.int .i64 n] w fun e w' => e = .returned (.agg #[.int .i64 n, .int .i64 n, .int .i64 n, .int .i64 n, .int .i64 n, .int .i64 0]) ∧ Ext w w' := by
  go_enter Try.func144, Try.ntmps144
  go_wp2
  exact bodyPost_ret (v := .agg #[.int .i64 n, .int .i64 n, .int .i64 n, .int .i64 n, .int .i64 n, .int .i64 0]) (by simp [results, Try.results144, go_sem]) rfl ⟨rfl, by repeat (first | exact Ext.refl _ | assumption | apply Ext.xt | apply Ext.alloc | apply Ext.drew | apply Ext.drewN)⟩
set_option maxHeartbeats 400000 in
theorem r15_Of (n : Int) (w : World) : Calls Try.prog 58 #[.int .i64 n] w fun e w' => e = .returned (.agg #[.int .i64 n, .int .i64 0]) ∧ Ext w w' := by
  go_enter Try.func58, Try.ntmps58
  go_wp2
  exact bodyPost_ret (v := .agg #[.int .i64 n, .int .i64 0]) (by simp [results, Try.results58, go_sem]) rfl ⟨rfl, by repeat (first | exact Ext.refl _ | assumption | apply Ext.xt | apply Ext.alloc | apply Ext.drew | apply Ext.drewN)⟩
set_option maxHeartbeats 1600000 in
set_option maxRecDepth 100000 in
theorem l16_Two (w : World) : Calls Try.prog 89 #[] w fun e w' => ∃ A B, e = .returned (.agg (cueV twoC A 2 B 2).toArray) ∧ Ext w w' ∧ CueAt w' twoC A 2 B 2 := by
  go_enter Try.func89, Try.ntmps89
  go_wp2_with (first | (go_at_call 90; refine (r15_At _ _).mono ?_; rintro e w' ⟨rfl, hx⟩; obtain ⟨ya, rfl⟩ := hx.get; clear hx) | (go_at_call 144; refine (l16_All _ _).mono ?_; rintro e w' ⟨rfl, hx⟩; obtain ⟨yb, rfl⟩ := hx.get; clear hx))
  rename_i y1 y2
  refine bodyPost_ret (v := .agg (cueV twoC (some ⟨w.heap.size + 1 + y1.n + ya.n, 0, none⟩) 2 (some ⟨w.heap.size + 1 + y1.n + ya.n + 1 + y2.n + yb.n, 0, none⟩) 2).toArray) (by simp [results, Try.results89, go_sem, cueV, twoC, twoWith]) rfl ⟨_, _, rfl, by repeat (first | exact Ext.refl _ | assumption | apply Ext.xt | apply Ext.alloc | apply Ext.drew | apply Ext.drewN), ?_⟩
  refine ⟨?_, ?_, by decide, by decide, by decide, by decide, by decide, by decide, by decide⟩
  · refine Sl.upon (w1 := (xt (xt (w.alloc (.cells #[.string twoC.number, .string twoC.label, .slice (some ⟨w.heap.size + 1 + y1.n + ya.n, 0, none⟩) twoC.moves.length 2, .slice (some ⟨w.heap.size + 1 + y1.n + ya.n + 1 + y2.n + yb.n, 0, none⟩) twoC.parts.length 2, .bool twoC.block, .bool twoC.mark, .int .i64 twoC.follow, .string twoC.link, .int .i64 twoC.loops] 38)) y1) ya).alloc (.cells #[.int .i64 1, .int .i64 0, .int .i64 0, .int .i64 65535, .int .i64 1, .int .i64 1, .int .i64 1, .int .i64 0, .int .i64 100, .int .i64 2] 90)) (by repeat (first | exact Ext.refl _ | assumption | apply Ext.xt | apply Ext.alloc | apply Ext.drew | apply Ext.drewN)) ?_
    exact Sl.alloc' (by simp [go_sem]) rfl (by simp [twoC, twoWith, mA, mB, mv])
  · exact Sl.alloc' (by simp [go_sem]) rfl (by simp [twoC, twoWith, allT, tmg])

theorem two_Set (A B C : Option Addr) (n : Nat) (part : Int) (R : Cue × Int) (hR : csetV twoC [eRed] part = R) (w : World) (hc : CueAt w twoC A 2 B 2) (hs : Sl w C 4 ([eRed].map en)) :
    Calls Try.prog 47 #[.agg (cueV twoC A 2 B 2).toArray, .slice C 1 n, .int .i64 part] w fun e w' => (∃ A k B m, e = .returned (.tuple #[.agg (cueV R.1 A k B m).toArray, .int .i64 R.2]) ∧ CueAt w' R.1 A k B m) ∧ Ext w w' ∧ Sl w' C 4 ([eRed].map en) := by
  subst hR
  exact (cue_Set twoC A 2 B 2 C n [eRed] part w hc hs (by decide)).mono fun e w' ⟨A, k, B, m, h1, h2, h3⟩ => ⟨⟨A, k, B, m, h1, h3⟩, h2, hs.mono h2⟩

set_option maxHeartbeats 3200000 in
set_option maxRecDepth 100000 in
theorem l16_awake (w : World) : Calls Try.prog 42 #[] w fun e w' => e = .returned (.bool true) ∧ Ext w w' := by
  have hz : eqM ⟨⟨1, 1⟩, ⟨0, 200⟩, 1⟩ ⟨⟨1, 1⟩, ⟨0, 200⟩, 1⟩ = true := by decide
  go_enter Try.func42, Try.ntmps42
  go_wp2_with (first
    | (go_at_call 89; refine (l16_Two _).mono ?_; rintro e w' ⟨A, B, he, hx, hC⟩; obtain ⟨y0, rfl⟩ := hx.get; clear hx; have HC := Lib.hid hC; clear hC; simp only [cueV, twoC, twoWith] at he; subst he)
    | (go_at_call 90; refine (r15_At _ _).mono ?_; rintro e w' ⟨rfl, hx⟩; obtain ⟨yat, rfl⟩ := hx.get; clear hx)
    | (go_at_call 43; refine (cue_Merge A 2 twoC.moves _ 1 [mPan] _ (HC.out.mv.mono (by repeat (first | exact Ext.refl _ | assumption | apply Ext.xt | apply Ext.alloc | apply Ext.drew | apply Ext.drewN))) (by decide) (by decide) (Sl.alloc' (by simp [go_sem]) rfl (by simp [mPan, mv])) (by decide) (by decide)).mono ?_; rintro e w' ⟨A1, k1, he, hx, hs1, h1, h2⟩; rw [two_merge] at he hs1 h1; simp only [] at he; subst he; have q0 : w'.cell? ⟨w.heap.size + y0.n, 0, none⟩ = some (.string ⟨#[50]⟩) := hx.cell (by simp [go_sem]); have q1 : w'.cell? ⟨w.heap.size + y0.n, 1, none⟩ = some (.string ⟨#[]⟩) := hx.cell (by simp [go_sem]); have q2 : w'.cell? ⟨w.heap.size + y0.n, 2, none⟩ = some (.slice A 2 2) := hx.cell (by simp [go_sem]); have q3 : w'.cell? ⟨w.heap.size + y0.n, 3, none⟩ = some (.slice B 2 2) := hx.cell (by simp [go_sem]); have q4 : w'.cell? ⟨w.heap.size + y0.n, 4, none⟩ = some (.bool false) := hx.cell (by simp [go_sem]); have q5 : w'.cell? ⟨w.heap.size + y0.n, 5, none⟩ = some (.bool false) := hx.cell (by simp [go_sem]); have q6 : w'.cell? ⟨w.heap.size + y0.n, 6, none⟩ = some (.int .i64 (-1)) := hx.cell (by simp [go_sem]); have q7 : w'.cell? ⟨w.heap.size + y0.n, 7, none⟩ = some (.string ⟨#[]⟩) := hx.cell (by simp [go_sem]); have q8 : w'.cell? ⟨w.heap.size + y0.n, 8, none⟩ = some (.int .i64 0) := hx.cell (by simp [go_sem]); have u0 : w'.cell? ⟨w.heap.size + y0.n + 1 + yat.n, 0, none⟩ = some (.int .i64 1) := hx.cell (by simp [go_sem]); have u1 : w'.cell? ⟨w.heap.size + y0.n + 1 + yat.n, 1, none⟩ = some (.int .i64 1) := hx.cell (by simp [go_sem]); have u2 : w'.cell? ⟨w.heap.size + y0.n + 1 + yat.n, 2, none⟩ = some (.int .i64 0) := hx.cell (by simp [go_sem]); have u3 : w'.cell? ⟨w.heap.size + y0.n + 1 + yat.n, 3, none⟩ = some (.int .i64 200) := hx.cell (by simp [go_sem]); have u4 : w'.cell? ⟨w.heap.size + y0.n + 1 + yat.n, 4, none⟩ = some (.int .i64 1) := hx.cell (by simp [go_sem]); have HC2 := Lib.hid (HC.out.mono (Ext.trans (by repeat (first | exact Ext.refl _ | assumption | apply Ext.xt | apply Ext.alloc | apply Ext.drew | apply Ext.drewN)) hx)); have hxw : Ext w _ := Ext.trans (by repeat (first | exact Ext.refl _ | assumption | apply Ext.xt | apply Ext.alloc | apply Ext.drew | apply Ext.drewN)) hx; have HM := Lib.hid (And.intro hs1 (And.intro h1 h2)); obtain ⟨b1, o1, rfl, hm0, hm1, hm2, hm3, hm4⟩ := hs1.row5 (i := 1) rfl; simp [mPan] at hm0 hm1 hm2 hm3 hm4; clear hs1 h1 h2 hx)
    | (go_at_call 51; refine (cue_Pack (twoWith [mA, mPan] [allT 1000, allT 3000]) (some ⟨b1, o1, none⟩) k1 B 2 _ ⟨HM.out.1.mono (by repeat (first | exact Ext.refl _ | assumption | apply Ext.xt | apply Ext.alloc | apply Ext.drew | apply Ext.drewN)), HC2.out.pt.mono (by repeat (first | exact Ext.refl _ | assumption | apply Ext.xt | apply Ext.alloc | apply Ext.drew | apply Ext.drewN)), HM.out.2.1, by decide, HM.out.2.2, by decide, by decide, by decide, by decide⟩).mono ?_; rintro e w' ⟨A2, k2, B2, m2, he, hx, h2⟩; rw [two_pack] at he; simp only [cueV, twoWith] at he; subst he; obtain ⟨yp, rfl⟩ := hx.get; clear hx h2))
  (refine wp_region_grows (by kernel_rfl) (by kernel_rfl) ?_; (repeat (go_big_quiet_step (fail))); refine wpQuiet_nil ?_; rintro _ ⟨y, rfl⟩)
  generalize hW : xt _ _ = W
  have hxv : Ext w W := by rw [← hW]; exact (by repeat (first | exact Ext.refl _ | assumption | apply Ext.xt | apply Ext.alloc | apply Ext.drew | apply Ext.drewN))
  have HC4 := Lib.hid (show CueAt W twoC A 2 B 2 by rw [← hW]; exact HC2.out.mono (by repeat (first | exact Ext.refl _ | assumption | apply Ext.xt | apply Ext.alloc | apply Ext.drew | apply Ext.drewN)))
  have t0 : W.cell? ⟨w.heap.size + y0.n, 0, none⟩ = some (.string ⟨#[50]⟩) := by rw [← hW]; simp [go_sem, q0]
  have t1 : W.cell? ⟨w.heap.size + y0.n, 1, none⟩ = some (.string ⟨#[]⟩) := by rw [← hW]; simp [go_sem, q1]
  have t2 : W.cell? ⟨w.heap.size + y0.n, 2, none⟩ = some (.slice A 2 2) := by rw [← hW]; simp [go_sem, q2]
  have t3 : W.cell? ⟨w.heap.size + y0.n, 3, none⟩ = some (.slice B 2 2) := by rw [← hW]; simp [go_sem, q3]
  have t4 : W.cell? ⟨w.heap.size + y0.n, 4, none⟩ = some (.bool false) := by rw [← hW]; simp [go_sem, q4]
  have t5 : W.cell? ⟨w.heap.size + y0.n, 5, none⟩ = some (.bool false) := by rw [← hW]; simp [go_sem, q5]
  have t6 : W.cell? ⟨w.heap.size + y0.n, 6, none⟩ = some (.int .i64 (-1)) := by rw [← hW]; simp [go_sem, q6]
  have t7 : W.cell? ⟨w.heap.size + y0.n, 7, none⟩ = some (.string ⟨#[]⟩) := by rw [← hW]; simp [go_sem, q7]
  have t8 : W.cell? ⟨w.heap.size + y0.n, 8, none⟩ = some (.int .i64 0) := by rw [← hW]; simp [go_sem, q8]
  clear hW HM HC2 HC q0 q1 q2 q3 q4 q5 q6 q7 q8 u0 u1 u2 u3 u4 hm0 hm1 hm2 hm3 hm4 hxw hz
  go_wp2_with (first
    | (go_at_call 58; refine (r15_Of _ _).mono ?_; rintro e w' ⟨rfl, hx⟩; obtain ⟨y, rfl⟩ := hx.get; clear hx)
    | (go_at_call 47; refine (two_Set A B _ _ _ _ (by first | exact two_set | exact two_set3) _ (by first | exact HC4.out.mono (by repeat (first | exact Ext.refl _ | assumption | apply Ext.xt | apply Ext.alloc | apply Ext.drew | apply Ext.drewN)) | exact HC3.out.mono (by repeat (first | exact Ext.refl _ | assumption | apply Ext.xt | apply Ext.alloc | apply Ext.drew | apply Ext.drewN))) (by first | exact HS.out.mono (by repeat (first | exact Ext.refl _ | assumption | apply Ext.xt | apply Ext.alloc | apply Ext.drew | apply Ext.drewN)) | exact Sl.alloc' (by simp [go_sem]) rfl (by simp [eRed, en]))).mono ?_; rintro e w' ⟨⟨A3, k3, B3, m3, he, h3⟩, hx, hs⟩; simp only [cueV, twoWith, emptyC] at he; subst he; first | (obtain ⟨b3, o3, rfl, hn0, hn1, hn2, hn3, hn4⟩ := h3.mv.row5 (i := 2) rfl; have r0 : w'.cell? ⟨w.heap.size + y0.n, 0, none⟩ = some (.string ⟨#[50]⟩) := hx.cell (by simp [go_sem, t0]); have r1 : w'.cell? ⟨w.heap.size + y0.n, 1, none⟩ = some (.string ⟨#[]⟩) := hx.cell (by simp [go_sem, t1]); have r2 : w'.cell? ⟨w.heap.size + y0.n, 2, none⟩ = some (.slice A 2 2) := hx.cell (by simp [go_sem, t2]); have r3 : w'.cell? ⟨w.heap.size + y0.n, 3, none⟩ = some (.slice B 2 2) := hx.cell (by simp [go_sem, t3]); have r4 : w'.cell? ⟨w.heap.size + y0.n, 4, none⟩ = some (.bool false) := hx.cell (by simp [go_sem, t4]); have r5 : w'.cell? ⟨w.heap.size + y0.n, 5, none⟩ = some (.bool false) := hx.cell (by simp [go_sem, t5]); have r6 : w'.cell? ⟨w.heap.size + y0.n, 6, none⟩ = some (.int .i64 (-1)) := hx.cell (by simp [go_sem, t6]); have r7 : w'.cell? ⟨w.heap.size + y0.n, 7, none⟩ = some (.string ⟨#[]⟩) := hx.cell (by simp [go_sem, t7]); have r8 : w'.cell? ⟨w.heap.size + y0.n, 8, none⟩ = some (.int .i64 0) := hx.cell (by simp [go_sem, t8]); have HC3 := Lib.hid (HC4.out.mono (Ext.trans (by repeat (first | exact Ext.refl _ | assumption | apply Ext.xt | apply Ext.alloc | apply Ext.drew | apply Ext.drewN)) hx)); have hxw3 : Ext w _ := Ext.trans (by repeat (first | exact Ext.refl _ | assumption | apply Ext.xt | apply Ext.alloc | apply Ext.drew | apply Ext.drewN)) hx; have HS := Lib.hid hs; simp [eRed] at hn0 hn1 hn2 hn3 hn4; clear hx h3 hs HC4 hxv t0 t1 t2 t3 t4 t5 t6 t7 t8) | (obtain ⟨y4, rfl⟩ := hx.get; clear hx h3 hs))
    | (go_at_call 49; refine (cue_Drop twoC A 2 B 2 _ 1 [⟨1, 0⟩] _ (HC3.out.mono (by repeat (first | exact Ext.refl _ | assumption | apply Ext.xt | apply Ext.alloc | apply Ext.drew | apply Ext.drewN))) (Sl.alloc' (by simp [go_sem]) rfl (by simp [prm])) (by decide)).mono ?_; rintro e w' ⟨A5, k5, B5, m5, he, hx, h5⟩; rw [two_drop] at he h5; simp only [cueV, twoWith] at he; subst he; obtain ⟨y5, rfl⟩ := hx.get; have H5 := Lib.hid h5; clear hx h5)
    | (go_at_call 51; refine (cue_Pack (twoWith [mB] [allT 1000, allT 3000]) A5 k5 B5 m5 _ (H5.out.mono (by repeat (first | exact Ext.refl _ | assumption | apply Ext.xt | apply Ext.alloc | apply Ext.drew | apply Ext.drewN)))).mono ?_; rintro e w' ⟨A6, k6, B6, m6, he, hx, h6⟩; rw [two_pack2] at he; simp only [cueV, twoWith] at he; subst he; obtain ⟨y6, rfl⟩ := hx.get; clear hx h6))
  go_ret
  exact ⟨rfl, by repeat (first | exact Ext.refl _ | assumption | apply Ext.xt | apply Ext.alloc | apply Ext.drew | apply Ext.drewN)⟩
end Go.Proofs.Ytgmicckeefoghaa
