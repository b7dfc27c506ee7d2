/-
  Chapter 33's examples.
-/
import Derived.Test.YtlpboikonnpjbaaGreatFour
import Derived.Test.YtlpboikonnpjbaaGreatSameLg
import Derived.Test.YtlpboikonnpjbaaGreatWant
import Derived.Test.YtlpboikonnpjbaaGreatLoad
namespace Go.Proofs.YtlpboikonnpjbaaGreat
open Go.RowKit

theorem act_Check_to (a : Acn) (v : Int) (hv : acnE a = v) (w : World) (ha : AcnAt w a) : Calls Tryz.prog 16 #[.agg (acnR a).toArray] w fun e w' => e = .returned (.int .i64 v) ∧ Ext w w' := by
  subst hv
  exact act_Check a w ha
theorem act_Until_to (A : Option Addr) (c n : Nat) (l : List Acn) (t : Int) (k : Nat) (w : World) (hn : l.length = n) (hl : logE l = 0) (hk : untilL l t = k) (hs : LogAt w A c l) :
    Calls Tryz.prog 56 #[.slice A n c, .int .i64 t] w fun e w' => e = .returned (.tuple #[.int .i64 k, .int .i64 0]) ∧ Ext w w' := by
  subst hn hk
  have := act_Until A c l t w hs
  unfold untilV at this
  rw [if_neg (by simpa using hl)] at this
  exact this
theorem act_Between_to (A : Option Addr) (c n : Nat) (l : List Acn) (t u : Int) (v : List Acn × Int) (w : World) (hn : l.length = n) (hv : betweenV l t u = v) (hs : LogAt w A c l) : Calls Tryz.prog 57 #[.slice A n c, .int .i64 t, .int .i64 u] w (RetLog w v) := by
  subst hn hv
  exact act_Between A c l t u w hs
theorem act_Insert_to (A : Option Addr) (c n : Nat) (l : List Acn) (a : Acn) (v : List Acn × Int) (w : World) (hn : l.length = n) (hv : insertV l a = v) (hs : LogAt w A c l) (ha : AcnAt w a) : Calls Tryz.prog 58 #[.slice A n c, .agg (acnR a).toArray] w (RetLog w v) := by
  subst hn hv
  exact act_Insert A c l a w hs ha
theorem act_Shift_to (A : Option Addr) (c n : Nat) (l : List Acn) (t : Int) (v : List Acn × Int) (w : World) (hn : l.length = n) (hv : shiftV l t = v) (hs : LogAt w A c l) : Calls Tryz.prog 59 #[.slice A n c, .int .i64 t] w (RetLog w v) := by
  subst hn hv
  exact act_Shift A c l t w hs
theorem RetLog.as {w w' : World} {v : List Acn × Int} {e : Ending} {n : Nat} {x : Int} (h : RetLog w v e w') (hn : v.1.length = n) (hx : v.2 = x) : ∃ A k, e = .returned (.tuple #[.slice A n k, .int .i64 x]) ∧ Ext w w' ∧ Sl w' A 44 (v.1.map acnR) := by
  subst hn hx
  obtain ⟨A, k, he, hx, ho, -⟩ := h
  exact ⟨A, k, he, hx, ho.sl⟩
theorem rangeAt_as {w w' : World} {b : Nat} {cs cs' : List Value} {T : TypeId} (hb : w.heap.size = b) (hc : cs' = cs) (hx : Ext (w.alloc (.cells cs.toArray T)) w') : w'.rangeAt b 0 cs' := by
  subst hb hc
  exact rangeAt_mono (rangeAt_new w rfl _ T) hx

set_option maxHeartbeats 3200000 in
set_option maxRecDepth 100000 in
theorem l33_awake (w : World) : Calls Tryz.prog 15 #[] w fun e w' => e = .returned (.bool true) ∧ Ext w w' := by
  obtain ⟨F⟩ := four
  obtain ⟨bl, hbl, hbn⟩ := F.bw
  obtain ⟨il, ia, hil, hin, hi3, hik⟩ := F.ins
  obtain ⟨sl, sa, hsl, hsn, hs0, hsa⟩ := F.sh
  have HBL := Lib.hid hbl
  have HBN := Lib.hid hbn
  have HIL := Lib.hid hil
  have HIN := Lib.hid hin
  have HI3 := Lib.hid hi3
  have HSL := Lib.hid hsl
  have HSN := Lib.hid hsn
  have HS0 := Lib.hid hs0
  have hk0 : (ia.kind == 0) = true := by simpa using hik
  have ha0 : (sa.at_ == 100) = true := by simpa using hsa
  clear hbl hbn hil hin hi3 hik hsl hsn hs0 hsa
  have HG := Lib.hid F.bg
  have HN := Lib.hid F.bn
  have HX := Lib.hid F.bx
  go_enter Tryz.func15, Tryz.ntmps15
  go_wp2_with (first
    | (refine wpList_built rfl 45 _ rfl [(0, .int .i64 500), (1, .int .i64 0), (2, .int .i64 2)] rfl (acnR F.g).toArray HG.out ?_)
    | (refine wpList_built_want rfl 45 _ rfl [(0, .int .i64 500)] rfl (acnR F.n).toArray HN.out ?_)
    | (refine wpList_built_want rfl 45 _ rfl [(1, .int .i64 20)] rfl (acnR F.x).toArray HX.out ?_)
    | (refine wpList_store_top rfl 45 (.tmp 1) (.tmp 14) rfl rfl (by simp [go_sem]) (acnR F.g) rfl rfl (by kernel_rfl) (acnR_one F.g) ?_)
    | (refine wpList_store_top rfl 45 (.tmp 2) (.tmp 15) rfl rfl (by simp [go_sem]) (acnR F.g) rfl rfl (by kernel_rfl) (acnR_one F.g) ?_)
    | (refine wpList_load_row rfl 45 (.tmp 1) rfl w.heap.size 0 rfl (acnR F.g) _ (rangeAt_mono (rangeAt_new w rfl (acnR F.g) 45) (by repeat (first | exact Ext.refl _ | assumption | apply Ext.xt | apply Ext.alloc | apply Ext.drew | apply Ext.drewN))) Tryz.underlying45 rfl (by kernel_rfl) ?_)
    | (refine wpList_load_row rfl 45 (.tmp 2) rfl (w.heap.size + 1) 0 rfl (acnR F.b) _ (rangeAt_as (w := w.alloc (.cells (acnR F.g).toArray 45)) (T := 45) (by simp [go_sem]) F.bb (by repeat (first | exact Ext.refl _ | assumption | apply Ext.xt | apply Ext.alloc | apply Ext.drew | apply Ext.drewN))) Tryz.underlying45 rfl (by kernel_rfl) ?_)
    | (go_at_call 16; refine (act_Check_to _ _ (by first | exact F.eg | exact F.eb | exact F.en | exact F.ex) _ (by first | exact F.ag _ | exact F.ab _ | exact F.an _ | exact F.ax _)).mono ?_; rintro e w' ⟨rfl, hx⟩; obtain ⟨y, rfl⟩ := hx.get; clear hx)
    | (go_at_call 55; refine (l33_Four F _).mono ?_; rintro e w' ⟨A, rfl, hx, hl⟩; have HL := Lib.hid hl; obtain ⟨y5, rfl⟩ := hx.get; clear hx hl)
    | (go_at_call 56; refine (act_Until_to A 4 4 [F.p, F.q, F.r, F.s] 500 3 _ rfl F.log F.tl (HL.out.mono (by repeat (first | exact Ext.refl _ | assumption | apply Ext.xt | apply Ext.alloc | apply Ext.drew | apply Ext.drewN)))).mono ?_; rintro e w' ⟨rfl, hx⟩; obtain ⟨y, rfl⟩ := hx.get; clear hx)
    | (go_at_call 57; refine ((act_Between_to A 4 4 [F.p, F.q, F.r, F.s] 0 500 _ _ rfl HBL.out (HL.out.mono (by repeat (first | exact Ext.refl _ | assumption | apply Ext.xt | apply Ext.alloc | apply Ext.drew | apply Ext.drewN)))).mono (fun _ _ h => h.as HBN.out rfl)).mono ?_; rintro e w' ⟨A1, k1, rfl, hx, -⟩; obtain ⟨y6, rfl⟩ := hx.get; clear hx)
    | (go_at_call 58; refine ((act_Insert_to A 4 4 [F.p, F.q, F.r, F.s] F.g _ _ rfl HIL.out (HL.out.mono (by repeat (first | exact Ext.refl _ | assumption | apply Ext.xt | apply Ext.alloc | apply Ext.drew | apply Ext.drewN))) (F.ag _)).mono (fun _ _ h => h.as HIN.out rfl)).mono ?_; rintro e w' ⟨A2, k2, rfl, hx, hs⟩; obtain ⟨bi, oi, rfl, hri⟩ := hs.range (i := 3) (row := acnR ia) (by rw [List.getElem?_map, HI3.out]; rfl); have hci : w'.cell? ⟨bi, oi + 132 + 1, none⟩ = some (.int .i64 ia.kind) := acn_cell1 hri; obtain ⟨y7, rfl⟩ := hx.get; clear hx hs hri)
    | (have hh := tok1; clear hh; go_at_call 59; refine ((act_Shift_to A 4 4 [F.p, F.q, F.r, F.s] (-1) _ _ rfl F.no (HL.out.mono (by repeat (first | exact Ext.refl _ | assumption | apply Ext.xt | apply Ext.alloc | apply Ext.drew | apply Ext.drewN)))).mono (fun _ _ h => h.as (n := 0) rfl rfl)).mono ?_; rintro e w' ⟨A4, k4, rfl, hx, -⟩; obtain ⟨y9, rfl⟩ := hx.get; clear hx)
    | (go_at_call 59; refine ((act_Shift_to A 4 4 [F.p, F.q, F.r, F.s] 100 _ _ rfl HSL.out (HL.out.mono (by repeat (first | exact Ext.refl _ | assumption | apply Ext.xt | apply Ext.alloc | apply Ext.drew | apply Ext.drewN)))).mono (fun _ _ h => h.as HSN.out rfl)).mono ?_; rintro e w' ⟨A3, k3, rfl, hx, hs⟩; obtain ⟨bs, os, rfl, hrs⟩ := hs.range (i := 0) (row := acnR sa) (by rw [List.getElem?_map, HS0.out]; rfl); have hcs : w'.cell? ⟨bs, os, none⟩ = some (.int .i64 sa.at_) := acn_cell0 (by simpa using hrs); obtain ⟨y8, rfl⟩ := hx.get; clear hx hs hrs; have tok1 : True := trivial))
  go_ret
  exact ⟨rfl, by repeat (first | exact Ext.refl _ | assumption | apply Ext.xt | apply Ext.alloc | apply Ext.drew | apply Ext.drewN)⟩
end Go.Proofs.YtlpboikonnpjbaaGreat
