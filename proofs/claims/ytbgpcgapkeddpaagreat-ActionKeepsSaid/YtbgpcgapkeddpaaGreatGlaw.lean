/-
  Chapter 33: the laws ActionChecks, ActionParts, ActionInserts.
-/
import Derived.Test.YtbgpcgapkeddpaaGreatAwk33
import Derived.Test.YtbgpcgapkeddpaaGreatGfew
import Derived.Test.YtbgpcgapkeddpaaGreatARefA
import Derived.Test.YtbgpcgapkeddpaaGreatWant
namespace Go.Proofs.YtbgpcgapkeddpaaGreat
open Go.RowKit

/-- A log, and an error's number. -/
def RetAt (w : World) (l : List Acn) (x : Int) (e : Ending) (w' : World) : Prop := ∃ A k, e = .returned (.tuple #[.slice A l.length k, .int .i64 x]) ∧ Ext w w' ∧ LogAt w' A k l
theorem RetLog.at_ {w : World} {l : List Acn} {x : Int} {e : Ending} {w' : World} (h : RetLog w (l, x) e w') : RetAt w l x e w' := by
  obtain ⟨A, k, rfl, hx, ho, he⟩ := h
  exact ⟨A, k, rfl, hx, ho.sl, ho.le, ho.cap, he⟩
section
variable (A : Option Addr) (c : Nat) (l : List Acn) (w : World) (hs : LogAt w A c l)
include hs
theorem act_Between_at (t u : Int) (v : List Acn) (x : Int) (hv : betweenV l t u = (v, x)) : Calls Tryz.prog 20 #[.slice A l.length c, .int .i64 t, .int .i64 u] w (RetAt w v x) :=
  (act_Between_to A c _ l t u _ w rfl hv hs).mono fun _ _ h => h.at_
theorem r33_Between_at (t u : Int) (v : List Acn) (x : Int) (hv : betweenV l t u = (v, x)) : Calls Tryz.prog 29 #[.slice A l.length c, .int .i64 t, .int .i64 u] w (RetAt w v x) := by
  have := r33_Between A c l t u w hs
  rw [hv] at this
  exact this.mono fun _ _ h => h.at_
theorem act_Insert_at (a : Acn) (v : List Acn) (x : Int) (hv : insertV l a = (v, x)) (ha : AcnAt w a) : Calls Tryz.prog 13 #[.slice A l.length c, .agg (acnR a).toArray] w (RetAt w v x) :=
  (act_Insert_to A c _ l a _ w rfl hv hs ha).mono fun _ _ h => h.at_
theorem r33_Insert_at (a : Acn) (v : List Acn) (x : Int) (hv : insertV l a = (v, x)) (ha : AcnAt w a) : Calls Tryz.prog 14 #[.slice A l.length c, .agg (acnR a).toArray] w (RetAt w v x) := by
  have := r33_Insert A c l a w hs ha
  rw [hv] at this
  exact this.mono fun _ _ h => h.at_
theorem act_Shift_at (t : Int) (v : List Acn) (x : Int) (hv : shiftV l t = (v, x)) : Calls Tryz.prog 15 #[.slice A l.length c, .int .i64 t] w (RetAt w v x) :=
  (act_Shift_to A c _ l t _ w rfl hv hs).mono fun _ _ h => h.at_
theorem r33_Shift_at (t : Int) (v : List Acn) (x : Int) (hv : shiftV l t = (v, x)) : Calls Tryz.prog 16 #[.slice A l.length c, .int .i64 t] w (RetAt w v x) := by
  have := r33_Shift A c l t w hs
  rw [hv] at this
  exact this.mono fun _ _ h => h.at_
theorem act_Until_as (t : Int) (n x : Int) (hv : untilV l t = (n, x)) : Calls Tryz.prog 19 #[.slice A l.length c, .int .i64 t] w fun e w' => e = .returned (.tuple #[.int .i64 n, .int .i64 x]) ∧ Ext w w' := by
  have := act_Until A c l t w hs
  rw [hv] at this
  exact this
theorem r33_Until_as (t : Int) (n x : Int) (hv : untilV l t = (n, x)) : Calls Tryz.prog 28 #[.slice A l.length c, .int .i64 t] w fun e w' => e = .returned (.tuple #[.int .i64 n, .int .i64 x]) ∧ Ext w w' := by
  have := r33_Until A c l t w hs
  rw [hv] at this
  exact this
def RetIs (w0 : World) (l : List Int) (x : Int) (e : Ending) (w' : World) : Prop := ∃ A k, e = .returned (.tuple #[.slice A l.length k, .int .i64 x]) ∧ Ext w0 w' ∧ Sl w' A 1 (l.map intR) ∧ l.length ≤ maxLen
theorem act_Edits_as (v : List Int) (x : Int) (hv : editsV l = (v, x)) : Calls Tryz.prog 30 #[.slice A l.length c] w (RetIs w v x) := by
  have := act_Edits A c l w hs
  rw [hv] at this
  refine this.mono fun _ _ h => ?_
  obtain ⟨D, k, rfl, hx, ho⟩ := h
  exact ⟨D, k, rfl, hx, ho.sl, Nat.le_trans ho.le ho.cap⟩
theorem r33_Edits_as (v : List Int) (x : Int) (hv : editsV l = (v, x)) : Calls Tryz.prog 31 #[.slice A l.length c] w (RetIs w v x) := by
  have := r33_Edits A c l w hs
  rw [hv] at this
  refine this.mono fun _ _ h => ?_
  obtain ⟨D, k, rfl, hx, ho⟩ := h
  exact ⟨D, k, rfl, hx, ho.sl, Nat.le_trans ho.le ho.cap⟩
end
theorem Equal_int_self (A B : Option Addr) (c d : Nat) (l : List Int) (w : World) (h1 : Sl w A 1 (l.map intR)) (h2 : Sl w B 1 (l.map intR)) (hl : l.length ≤ maxLen) : Calls Tryz.prog 32 #[.slice A l.length c, .slice B l.length d] w fun e w' => e = .returned (.bool true) ∧ Ext w w' := by
  have := Equal_I A c l B d l w h1 hl h2 hl
  simpa using this
theorem act_Same_self (a : Acn) (w : World) (ha : AcnAt w a) : Calls Tryz.prog 26 #[.agg (acnR a).toArray, .agg (acnR a).toArray] w fun r w' => r = .returned (.bool true) ∧ Ext w w' := by
  rw [← sameA_refl a]
  exact act_Same a a w ha ha

set_option maxHeartbeats 3200000 in
set_option maxRecDepth 100000 in
theorem l33_ActionParts (A : Option Addr) (c : Nat) (l : List Acn) (t u : Int) (w : World) (hs : LogAt w A c l) :
    Calls Tryz.prog 8 #[.slice A l.length c, .int .i64 t, .int .i64 u] w fun e w' => e = .returned (.bool true) ∧ Ext w w' := by
  have HS := Lib.hid hs
  obtain ⟨n, x, h1⟩ : ∃ n x, untilV l u = (n, x) := ⟨_, _, rfl⟩
  obtain ⟨v, z, h2⟩ : ∃ v z, betweenV l t u = (v, z) := ⟨_, _, rfl⟩
  obtain ⟨p, q, h3⟩ : ∃ p q, editsV l = (p, q) := ⟨_, _, rfl⟩
  have H1 := Lib.hid h1
  have H2 := Lib.hid h2
  have H3 := Lib.hid h3
  clear hs h1 h2 h3
  go_enter Tryz.func8, Tryz.ntmps8
  go_wp2_with (first
    | (go_at_call 10; refine (r33_FewLog A c l _ (HS.out.mono (by repeat (first | exact Ext.refl _ | assumption | apply Ext.xt | apply Ext.alloc | apply Ext.drew | apply Ext.drewN)))).mono ?_; rintro e w' ⟨⟨fl, rfl⟩, hx⟩; obtain ⟨y0, rfl⟩ := hx.get; clear hx; cases fl)
    | (go_at_call 12; refine (l33_awake _).mono ?_; rintro e w' ⟨rfl, hx⟩; obtain ⟨y, rfl⟩ := hx.get; clear hx)
    | (go_at_call 19; refine (act_Until_as A c l _ (HS.out.mono (by repeat (first | exact Ext.refl _ | assumption | apply Ext.xt | apply Ext.alloc | apply Ext.drew | apply Ext.drewN))) u n x H1.out).mono ?_; rintro e w' ⟨rfl, hx⟩; obtain ⟨y, rfl⟩ := hx.get; clear hx)
    | (go_at_call 28; refine (r33_Until_as A c l _ (HS.out.mono (by repeat (first | exact Ext.refl _ | assumption | apply Ext.xt | apply Ext.alloc | apply Ext.drew | apply Ext.drewN))) u n x H1.out).mono ?_; rintro e w' ⟨rfl, hx⟩; obtain ⟨y, rfl⟩ := hx.get; clear hx)
    | (go_at_call 20; refine (act_Between_at A c l _ (HS.out.mono (by repeat (first | exact Ext.refl _ | assumption | apply Ext.xt | apply Ext.alloc | apply Ext.drew | apply Ext.drewN))) t u v z H2.out).mono ?_; rintro e w' ⟨D, k, rfl, hx, hl⟩; have HD := Lib.hid hl; obtain ⟨y1, rfl⟩ := hx.get; clear hx hl)
    | (go_at_call 29; refine (r33_Between_at A c l _ (HS.out.mono (by repeat (first | exact Ext.refl _ | assumption | apply Ext.xt | apply Ext.alloc | apply Ext.drew | apply Ext.drewN))) t u v z H2.out).mono ?_; rintro e w' ⟨D2, k2, rfl, hx, hl⟩; have HE := Lib.hid hl; obtain ⟨y2, rfl⟩ := hx.get; clear hx hl)
    | (go_at_call 30; refine (act_Edits_as A c l _ (HS.out.mono (by repeat (first | exact Ext.refl _ | assumption | apply Ext.xt | apply Ext.alloc | apply Ext.drew | apply Ext.drewN))) p q H3.out).mono ?_; rintro e w' ⟨D3, k3, rfl, hx, hl, hpl⟩; have HI := Lib.hid hl; have HPL := Lib.hid hpl; obtain ⟨y3, rfl⟩ := hx.get; clear hx hl hpl)
    | (go_at_call 31; refine (r33_Edits_as A c l _ (HS.out.mono (by repeat (first | exact Ext.refl _ | assumption | apply Ext.xt | apply Ext.alloc | apply Ext.drew | apply Ext.drewN))) p q H3.out).mono ?_; rintro e w' ⟨D4, k4, rfl, hx, hl, -⟩; have HJ := Lib.hid hl; obtain ⟨y4, rfl⟩ := hx.get; clear hx hl)
    | (go_at_call 17; refine (r33_SameLog1 D D2 k k2 v _ (HD.out.mono (by repeat (first | exact Ext.refl _ | assumption | apply Ext.xt | apply Ext.alloc | apply Ext.drew | apply Ext.drewN))) (HE.out.mono (by repeat (first | exact Ext.refl _ | assumption | apply Ext.xt | apply Ext.alloc | apply Ext.drew | apply Ext.drewN)))).mono ?_; rintro e w' ⟨rfl, hx⟩; obtain ⟨y, rfl⟩ := hx.get; clear hx)
    | (go_at_call 32; refine (Equal_int_self D3 D4 k3 k4 p _ (HI.out.mono (by repeat (first | exact Ext.refl _ | assumption | apply Ext.xt | apply Ext.alloc | apply Ext.drew | apply Ext.drewN))) (HJ.out.mono (by repeat (first | exact Ext.refl _ | assumption | apply Ext.xt | apply Ext.alloc | apply Ext.drew | apply Ext.drewN))) HPL.out).mono ?_; rintro e w' ⟨rfl, hx⟩; obtain ⟨y5, rfl⟩ := hx.get; clear hx))
  all_goals (go_ret; exact ⟨rfl, by repeat (first | exact Ext.refl _ | assumption | apply Ext.xt | apply Ext.alloc | apply Ext.drew | apply Ext.drewN)⟩)

set_option maxHeartbeats 3200000 in
set_option maxRecDepth 100000 in
theorem l33_ActionInserts (A : Option Addr) (c : Nat) (l : List Acn) (a : Acn) (t : Int) (w : World) (hs : LogAt w A c l) (ha : AcnAt w a) :
    Calls Tryz.prog 3 #[.slice A l.length c, .agg (acnR a).toArray, .int .i64 t] w fun e w' => e = .returned (.bool true) ∧ Ext w w' := by
  have HS := Lib.hid hs
  have HA := Lib.hid ha
  have HR := Lib.hid (rangeAt_new w rfl (acnR a) 46)
  obtain ⟨v, z, h2⟩ : ∃ v z, insertV l a = (v, z) := ⟨_, _, rfl⟩
  obtain ⟨p, q, h3⟩ : ∃ p q, shiftV l t = (p, q) := ⟨_, _, rfl⟩
  have H2 := Lib.hid h2
  have H3 := Lib.hid h3
  clear hs ha h2 h3
  go_enter Tryz.func3, Tryz.ntmps3
  go_wp2_with (first
    | (refine wpList_load_row rfl 46 _ rfl w.heap.size 0 rfl (acnR a) _ (rangeAt_mono HR.out (by repeat (first | exact Ext.refl _ | assumption | apply Ext.xt | apply Ext.alloc | apply Ext.drew | apply Ext.drewN))) Tryz.underlying46 rfl (by kernel_rfl) ?_)
    | (go_at_call 10; refine (r33_FewLog A c l _ (HS.out.mono (by repeat (first | exact Ext.refl _ | assumption | apply Ext.xt | apply Ext.alloc | apply Ext.drew | apply Ext.drewN)))).mono ?_; rintro e w' ⟨⟨fl, rfl⟩, hx⟩; obtain ⟨y0, rfl⟩ := hx.get; clear hx; cases fl)
    | (go_at_call 11; refine (r33_Few a _).mono ?_; rintro e w' ⟨⟨fa, rfl⟩, hx⟩; obtain ⟨ya, rfl⟩ := hx.get; clear hx; cases fa)
    | (go_at_call 12; refine (l33_awake _).mono ?_; rintro e w' ⟨rfl, hx⟩; obtain ⟨y, rfl⟩ := hx.get; clear hx)
    | (go_at_call 13; refine (act_Insert_at A c l _ (HS.out.mono (by repeat (first | exact Ext.refl _ | assumption | apply Ext.xt | apply Ext.alloc | apply Ext.drew | apply Ext.drewN))) a v z H2.out (HA.out.mono (by repeat (first | exact Ext.refl _ | assumption | apply Ext.xt | apply Ext.alloc | apply Ext.drew | apply Ext.drewN)))).mono ?_; rintro e w' ⟨D, k, rfl, hx, hl⟩; have HD := Lib.hid hl; obtain ⟨y1, rfl⟩ := hx.get; clear hx hl)
    | (go_at_call 14; refine (r33_Insert_at A c l _ (HS.out.mono (by repeat (first | exact Ext.refl _ | assumption | apply Ext.xt | apply Ext.alloc | apply Ext.drew | apply Ext.drewN))) a v z H2.out (HA.out.mono (by repeat (first | exact Ext.refl _ | assumption | apply Ext.xt | apply Ext.alloc | apply Ext.drew | apply Ext.drewN)))).mono ?_; rintro e w' ⟨D2, k2, rfl, hx, hl⟩; have HE := Lib.hid hl; obtain ⟨y2, rfl⟩ := hx.get; clear hx hl)
    | (go_at_call 15; refine (act_Shift_at A c l _ (HS.out.mono (by repeat (first | exact Ext.refl _ | assumption | apply Ext.xt | apply Ext.alloc | apply Ext.drew | apply Ext.drewN))) t p q H3.out).mono ?_; rintro e w' ⟨D3, k3, rfl, hx, hl⟩; have HI := Lib.hid hl; obtain ⟨y3, rfl⟩ := hx.get; clear hx hl)
    | (go_at_call 16; refine (r33_Shift_at A c l _ (HS.out.mono (by repeat (first | exact Ext.refl _ | assumption | apply Ext.xt | apply Ext.alloc | apply Ext.drew | apply Ext.drewN))) t p q H3.out).mono ?_; rintro e w' ⟨D4, k4, rfl, hx, hl⟩; have HJ := Lib.hid hl; obtain ⟨y4, rfl⟩ := hx.get; clear hx hl)
    | (go_at_call 17; refine (r33_SameLog1 _ _ _ _ _ _ (by first | exact HD.out.mono (by repeat (first | exact Ext.refl _ | assumption | apply Ext.xt | apply Ext.alloc | apply Ext.drew | apply Ext.drewN)) | exact HI.out.mono (by repeat (first | exact Ext.refl _ | assumption | apply Ext.xt | apply Ext.alloc | apply Ext.drew | apply Ext.drewN))) (by first | exact HE.out.mono (by repeat (first | exact Ext.refl _ | assumption | apply Ext.xt | apply Ext.alloc | apply Ext.drew | apply Ext.drewN)) | exact HJ.out.mono (by repeat (first | exact Ext.refl _ | assumption | apply Ext.xt | apply Ext.alloc | apply Ext.drew | apply Ext.drewN)))).mono ?_; rintro e w' ⟨rfl, hx⟩; obtain ⟨y5, rfl⟩ := hx.get; clear hx))
  all_goals (go_ret; exact ⟨rfl, by repeat (first | exact Ext.refl _ | assumption | apply Ext.xt | apply Ext.alloc | apply Ext.drew | apply Ext.drewN)⟩)

set_option maxHeartbeats 3200000 in
set_option maxRecDepth 100000 in
theorem l33_ActionChecks (a b : Acn) (A : Option Addr) (c : Nat) (l : List Acn) (w : World) (ha : AcnAt w a) (hb : AcnAt w b) (hs : LogAt w A c l) :
    Calls Tryz.prog 7 #[.agg (acnR a).toArray, .agg (acnR b).toArray, .slice A l.length c] w fun e w' => e = .returned (.bool true) ∧ Ext w w' := by
  have HS := Lib.hid hs
  have HA := Lib.hid ha
  have HB := Lib.hid hb
  have hsa := sameA_refl a
  have HR := Lib.hid (rangeAt_new w rfl (acnR a) 46)
  have HR2 := Lib.hid (rangeAt_new (w.alloc (.cells (acnR a).toArray 46)) (b := w.heap.size + 1) (by simp [go_sem]) (acnR b) 46)
  clear hs ha hb
  go_enter Tryz.func7, Tryz.ntmps7
  go_upto_region 3 with (first
    | (refine wpList_load_row rfl 46 _ rfl w.heap.size 0 rfl (acnR a) _ (rangeAt_mono HR.out (by repeat (first | exact Ext.refl _ | assumption | apply Ext.xt | apply Ext.alloc | apply Ext.drew | apply Ext.drewN))) Tryz.underlying46 rfl (by kernel_rfl) ?_)
    | (refine wpList_load_row rfl 46 _ rfl (w.heap.size + 1) 0 rfl (acnR b) _ (rangeAt_mono HR2.out (by repeat (first | exact Ext.refl _ | assumption | apply Ext.xt | apply Ext.alloc | apply Ext.drew | apply Ext.drewN))) Tryz.underlying46 rfl (by kernel_rfl) ?_)
    | (go_at_call 10; refine (r33_FewLog A c l _ (HS.out.mono (by repeat (first | exact Ext.refl _ | assumption | apply Ext.xt | apply Ext.alloc | apply Ext.drew | apply Ext.drewN)))).mono ?_; rintro e w' ⟨⟨fl, rfl⟩, hx⟩; obtain ⟨y0, rfl⟩ := hx.get; clear hx; cases fl)
    | (go_at_call 11; refine (r33_Few _ _).mono ?_; rintro e w' ⟨⟨fa, rfl⟩, hx⟩; obtain ⟨ya, rfl⟩ := hx.get; clear hx; cases fa)
    | (go_at_call 12; refine (l33_awake _).mono ?_; rintro e w' ⟨rfl, hx⟩; obtain ⟨y, rfl⟩ := hx.get; clear hx))
  all_goals first
    | (go_ret; exact ⟨rfl, by repeat (first | exact Ext.refl _ | assumption | apply Ext.xt | apply Ext.alloc | apply Ext.drew | apply Ext.drewN)⟩)
    | (refine wp_region_grows (by kernel_rfl) (by kernel_rfl) ?_
       repeat (first
        | (go_big_quiet_want; refine quiet_load_row 46 _ rfl w.heap.size 0 rfl (acnR a) _ Tryz.underlying46 rfl (by kernel_rfl) (fun wx hwx => by obtain ⟨yy, rfl⟩ := hwx; exact rangeAt_mono HR.out (by repeat (first | exact Ext.refl _ | assumption | apply Ext.xt | apply Ext.alloc | apply Ext.drew | apply Ext.drewN))) (by simp [Act.put]; rfl) ?_; go_big_quiet_on)
        | (go_big_quiet_want; refine quiet_load_row 46 _ rfl (w.heap.size + 1) 0 rfl (acnR b) _ Tryz.underlying46 rfl (by kernel_rfl) (fun wx hwx => by obtain ⟨yy, rfl⟩ := hwx; exact rangeAt_mono HR2.out (by repeat (first | exact Ext.refl _ | assumption | apply Ext.xt | apply Ext.alloc | apply Ext.drew | apply Ext.drewN))) (by simp [Act.put]; rfl) ?_; go_big_quiet_on)
        | go_big_quiet_step (first
          | (go_at_call 24; exact Calls.grows (act_Check a _ (HA.out.mono (by repeat (first | exact Ext.refl _ | assumption | apply Ext.xt | apply Ext.alloc | apply Ext.drew | apply Ext.drewN)))))
          | (go_at_call 23; exact Calls.grows (r33_Check a _ (HA.out.mono (by repeat (first | exact Ext.refl _ | assumption | apply Ext.xt | apply Ext.alloc | apply Ext.drew | apply Ext.drewN)))))
          | (go_at_call 22; exact Calls.grows (act_Log A c l _ (HS.out.mono (by repeat (first | exact Ext.refl _ | assumption | apply Ext.xt | apply Ext.alloc | apply Ext.drew | apply Ext.drewN)))))
          | (go_at_call 25; exact Calls.grows (r33_Log A c l _ (HS.out.mono (by repeat (first | exact Ext.refl _ | assumption | apply Ext.xt | apply Ext.alloc | apply Ext.drew | apply Ext.drewN)))))
          | (go_at_call 26; exact Calls.grows (act_Same _ _ _ (HA.out.mono (by repeat (first | exact Ext.refl _ | assumption | apply Ext.xt | apply Ext.alloc | apply Ext.drew | apply Ext.drewN))) (by first | exact HB.out.mono (by repeat (first | exact Ext.refl _ | assumption | apply Ext.xt | apply Ext.alloc | apply Ext.drew | apply Ext.drewN)) | exact HA.out.mono (by repeat (first | exact Ext.refl _ | assumption | apply Ext.xt | apply Ext.alloc | apply Ext.drew | apply Ext.drewN)))))
          | (go_at_call 27; exact Calls.grows (r33_Same _ _ _ (HA.out.mono (by repeat (first | exact Ext.refl _ | assumption | apply Ext.xt | apply Ext.alloc | apply Ext.drew | apply Ext.drewN))) (HB.out.mono (by repeat (first | exact Ext.refl _ | assumption | apply Ext.xt | apply Ext.alloc | apply Ext.drew | apply Ext.drewN)))))
          | (go_at_call 12; exact Calls.grows (l33_awake _))))
       refine wpQuiet_nil ?_
       rintro _ ⟨y2, rfl⟩
       go_wp2
       go_ret
       exact ⟨rfl, by repeat (first | exact Ext.refl _ | assumption | apply Ext.xt | apply Ext.alloc | apply Ext.drew | apply Ext.drewN)⟩)
end Go.Proofs.YtbgpcgapkeddpaaGreat

/-
  Chapter 33: the laws ActionSplits, ActionReturns.
-/
namespace Go.Proofs.YtbgpcgapkeddpaaGreat
open Go.RowKit

/-! ### Plain -/
theorem split_log {l : List Acn} (h : logE l = 0) (t : Int) : ∃ v1 v2, betweenV l (-1) t = (v1, 0) ∧ betweenV l (max t (-1)) 10000000 = (v2, 0) ∧ v1.length = untilL l t ∧ v1 ++ v2 = l := by
  have hasc := ((logE_iff l).1 h).2.2
  have e1 : btwL l (-1) t = l.take (untilL l t) := by
    rw [← le_filter hasc]
    unfold btwL
    refine List.filter_congr fun a ha => ?_
    have := logE_at h ha
    rw [decide_eq_decide]; omega
  have e2 : btwL l (max t (-1)) 10000000 = l.drop (untilL l t) := by
    rw [← gt_filter hasc]
    unfold btwL
    refine List.filter_congr fun a ha => ?_
    have := logE_at h ha
    rw [decide_eq_decide]; omega
  refine ⟨_, _, betweenV_ok h _ _, betweenV_ok h _ _, ?_, ?_⟩
  · rw [e1, List.length_take, Nat.min_eq_left (untilL_le l t)]
  · rw [e1, e2, List.take_append_drop]
theorem shift_by {l : List Acn} {n : Int} (h : logE l = 0) (h0 : l.all (shOk n) = true) (hl : l ≠ []) : -10000000 ≤ n ∧ n ≤ 10000000 := by
  obtain ⟨a, ha⟩ := List.exists_mem_of_ne_nil l hl
  have h1 := logE_at h ha
  have h2 := of_decide_eq_true (List.all_eq_true.1 h0 a ha)
  omega
section
variable (A : Option Addr) (c : Nat) (l : List Acn) (w : World) (hs : LogAt w A c l)
include hs
theorem l33_good_no (h : ¬ (l.length ≤ 40 ∧ logE l = 0)) : Calls Tryz.prog 18 #[.slice A l.length c] w fun e w' => e = .returned (.bool false) ∧ Ext w w' := by
  refine (l33_good A c l w hs).mono fun e w' ⟨⟨b, hb, hg⟩, hx⟩ => ⟨?_, hx⟩
  cases b
  · exact hb
  · exact absurd (hg rfl) h
end

set_option maxHeartbeats 3200000 in
set_option maxRecDepth 100000 in
theorem l33_ActionSplits (A : Option Addr) (c : Nat) (l : List Acn) (t : Int) (w : World) (hs : LogAt w A c l) :
    Calls Tryz.prog 4 #[.slice A l.length c, .int .i64 t] w fun e w' => e = .returned (.bool true) ∧ Ext w w' := by
  have HS := Lib.hid hs
  have hc := Nat.le_trans hs.le hs.cap
  unfold maxLen at hc
  clear hs
  by_cases hg : l.length ≤ 40 ∧ logE l = 0
  · obtain ⟨h40, h0⟩ := hg
    have HG := Lib.hid h0
    obtain ⟨v1, v2, h1, h2, h3, h4⟩ := split_log h0 t
    have hl1 : v1.length ≤ 40 := by rw [h3]; have := untilL_le l t; omega
    have hl2 : v1.length + v2.length ≤ 40 := by rw [← List.length_append, h4]; exact h40
    have HU := Lib.hid h3.symm
    have H1 := Lib.hid h1
    have H2 := Lib.hid h2
    have H4 := Lib.hid h4
    have HL := Lib.hid (show v1.length + v2.length = l.length by rw [← List.length_append, h4])
    clear h0 h1 h2 h3 h4
    go_enter Tryz.func4, Tryz.ntmps4
    go_wp2_with (first
      | (go_at_call 18; refine (l33_good A c l _ (HS.out.mono (by repeat (first | exact Ext.refl _ | assumption | apply Ext.xt | apply Ext.alloc | apply Ext.drew | apply Ext.drewN)))).mono ?_; rintro e w' ⟨⟨gb, rfl, -⟩, hx⟩; obtain ⟨y0, rfl⟩ := hx.get; clear hx; cases gb)
      | (go_at_call 12; refine (l33_awake _).mono ?_; rintro e w' ⟨rfl, hx⟩; obtain ⟨y, rfl⟩ := hx.get; clear hx)
      | (go_at_call 19; refine (act_Until_to A c _ l t v1.length _ rfl HG.out HU.out (HS.out.mono (by repeat (first | exact Ext.refl _ | assumption | apply Ext.xt | apply Ext.alloc | apply Ext.drew | apply Ext.drewN)))).mono ?_; rintro e w' ⟨rfl, hx⟩; obtain ⟨y, rfl⟩ := hx.get; clear hx)
      | (have hh := HD; clear hh; go_at_call 20; refine (act_Between_at A c l _ (HS.out.mono (by repeat (first | exact Ext.refl _ | assumption | apply Ext.xt | apply Ext.alloc | apply Ext.drew | apply Ext.drewN))) _ _ _ 0 H2.out).mono ?_; rintro e w' ⟨D2, q2, rfl, hx, hl⟩; have HE := Lib.hid hl; obtain ⟨y2, rfl⟩ := hx.get; clear hx hl)
      | (go_at_call 20; refine (act_Between_at A c l _ (HS.out.mono (by repeat (first | exact Ext.refl _ | assumption | apply Ext.xt | apply Ext.alloc | apply Ext.drew | apply Ext.drewN))) _ _ _ 0 H1.out).mono ?_; rintro e w' ⟨D, q, rfl, hx, hl⟩; have HD := Lib.hid hl; obtain ⟨y1, rfl⟩ := hx.get; clear hx hl)
      | (go_at_call 21; refine (Clone_A D q v1 _ (HD.out.sl.mono (by repeat (first | exact Ext.refl _ | assumption | apply Ext.xt | apply Ext.alloc | apply Ext.drew | apply Ext.drewN))) (by omega)).mono ?_; rintro e w' ⟨D3, q3, rfl, hx, hown⟩; have HO := Lib.hid (hown.older (show Ext w _ by repeat (first | exact Ext.refl _ | assumption | apply Ext.xt | apply Ext.alloc | apply Ext.drew | apply Ext.drewN))); obtain ⟨yc, rfl⟩ := hx.get; clear hx hown)
      | (at_builtin; refine wpList_append_want (w0 := w) rfl (.tmp 48) (.tmp 49) 22 22 rfl 46 46 44 544 Tryz.underlying22 Tryz.underlying22 info_A (by decide) (by repeat (first | exact Ext.refl _ | assumption | apply Ext.xt | apply Ext.alloc | apply Ext.drew | apply Ext.drewN)) D3 v1.length q3 (v1.map acnR) rfl (HO.out.mono (by repeat (first | exact Ext.refl _ | assumption | apply Ext.xt | apply Ext.alloc | apply Ext.drew | apply Ext.drewN))) D2 v2.length q2 (v2.map acnR) rfl (HE.out.sl.mono (by repeat (first | exact Ext.refl _ | assumption | apply Ext.xt | apply Ext.alloc | apply Ext.drew | apply Ext.drewN))) (by simp) (acnR_ones v2) (by unfold maxLen; omega) (by omega) l.length HL.out (l.map acnR) (by rw [← List.map_append, H4.out]) ?_; intro D4 q4 w1 hx1 hown hg hA; have HO4 := Lib.hid hown; obtain ⟨y4, rfl⟩ := hx1.get; clear hown hx1 hg hA)
      | (go_at_call 17; refine (r33_SameLog1 D4 A q4 c l _ ⟨HO4.out.sl.mono (by repeat (first | exact Ext.refl _ | assumption | apply Ext.xt | apply Ext.alloc | apply Ext.drew | apply Ext.drewN)), HO4.out.le, HO4.out.cap, fun a ha => (HS.out.el a ha).mono (by repeat (first | exact Ext.refl _ | assumption | apply Ext.xt | apply Ext.alloc | apply Ext.drew | apply Ext.drewN))⟩ (HS.out.mono (by repeat (first | exact Ext.refl _ | assumption | apply Ext.xt | apply Ext.alloc | apply Ext.drew | apply Ext.drewN)))).mono ?_; rintro e w' ⟨rfl, hx⟩; obtain ⟨y, rfl⟩ := hx.get; clear hx))
    all_goals (go_ret; exact ⟨rfl, by repeat (first | exact Ext.refl _ | assumption | apply Ext.xt | apply Ext.alloc | apply Ext.drew | apply Ext.drewN)⟩)
  · go_enter Tryz.func4, Tryz.ntmps4
    go_wp2_with (first
      | (go_at_call 18; refine (l33_good_no A c l _ (HS.out.mono (by repeat (first | exact Ext.refl _ | assumption | apply Ext.xt | apply Ext.alloc | apply Ext.drew | apply Ext.drewN))) hg).mono ?_; rintro e w' ⟨rfl, hx⟩; obtain ⟨y, rfl⟩ := hx.get; clear hx)
      | (go_at_call 12; refine (l33_awake _).mono ?_; rintro e w' ⟨rfl, hx⟩; obtain ⟨y, rfl⟩ := hx.get; clear hx))
    go_ret
    exact ⟨rfl, by repeat (first | exact Ext.refl _ | assumption | apply Ext.xt | apply Ext.alloc | apply Ext.drew | apply Ext.drewN)⟩

theorem act_Log_to (A : Option Addr) (c : Nat) (l : List Acn) (v : Int) (hv : logE l = v) (w : World) (hs : LogAt w A c l) : Calls Tryz.prog 22 #[.slice A l.length c] w fun e w' => e = .returned (.int .i64 v) ∧ Ext w w' := by
  subst hv
  exact act_Log A c l w hs
theorem shift_ok {l : List Acn} {n : Int} (h : logE l = 0) (h0 : l.all (shOk n) = true) : shiftV l n = (l.map (shA n), 0) := by
  unfold shiftV; rw [if_neg (by simpa using h), if_pos h0]
theorem shift_no {l : List Acn} {n : Int} (h : logE l = 0) (h0 : ¬ l.all (shOk n) = true) : shiftV l n = ([], 2) := by
  unfold shiftV; rw [if_neg (by simpa using h), if_neg h0]

section
variable (A : Option Addr) (c : Nat) (l : List Acn) (n t : Int) (w : World) (hs : LogAt w A c l)
include hs
set_option maxHeartbeats 1600000 in
set_option maxRecDepth 100000 in
theorem Returns_bad (hg : ¬ (l.length ≤ 40 ∧ logE l = 0)) :
    Calls Tryz.prog 5 #[.slice A l.length c, .int .i64 n, .int .i64 t] w fun e w' => e = .returned (.bool true) ∧ Ext w w' := by
  have HS := Lib.hid hs
  clear hs
  go_enter Tryz.func5, Tryz.ntmps5
  go_wp2_with (first
    | (go_at_call 18; refine (l33_good_no A c l _ (HS.out.mono (by repeat (first | exact Ext.refl _ | assumption | apply Ext.xt | apply Ext.alloc | apply Ext.drew | apply Ext.drewN))) hg).mono ?_; rintro e w' ⟨rfl, hx⟩; obtain ⟨y, rfl⟩ := hx.get; clear hx)
    | (go_at_call 12; refine (l33_awake _).mono ?_; rintro e w' ⟨rfl, hx⟩; obtain ⟨y, rfl⟩ := hx.get; clear hx))
  go_ret
  exact ⟨rfl, by repeat (first | exact Ext.refl _ | assumption | apply Ext.xt | apply Ext.alloc | apply Ext.drew | apply Ext.drewN)⟩
set_option maxHeartbeats 1600000 in
set_option maxRecDepth 100000 in
theorem Returns_far (ht : t < -10000000 ∨ 10000000 < t) :
    Calls Tryz.prog 5 #[.slice A l.length c, .int .i64 n, .int .i64 t] w fun e w' => e = .returned (.bool true) ∧ Ext w w' := by
  have HS := Lib.hid hs
  clear hs
  rcases ht with ht | ht
  · go_enter Tryz.func5, Tryz.ntmps5
    go_wp2_with (first
      | (go_at_call 18; refine (l33_good A c l _ (HS.out.mono (by repeat (first | exact Ext.refl _ | assumption | apply Ext.xt | apply Ext.alloc | apply Ext.drew | apply Ext.drewN)))).mono ?_; rintro e w' ⟨⟨gb, rfl, -⟩, hx⟩; obtain ⟨y0, rfl⟩ := hx.get; clear hx; cases gb)
      | (go_at_call 12; refine (l33_awake _).mono ?_; rintro e w' ⟨rfl, hx⟩; obtain ⟨y, rfl⟩ := hx.get; clear hx))
    all_goals (go_ret; exact ⟨rfl, by repeat (first | exact Ext.refl _ | assumption | apply Ext.xt | apply Ext.alloc | apply Ext.drew | apply Ext.drewN)⟩)
  · have ht2 : ¬ t < -10000000 := by omega
    go_enter Tryz.func5, Tryz.ntmps5
    go_wp2_with (first
      | (go_at_call 18; refine (l33_good A c l _ (HS.out.mono (by repeat (first | exact Ext.refl _ | assumption | apply Ext.xt | apply Ext.alloc | apply Ext.drew | apply Ext.drewN)))).mono ?_; rintro e w' ⟨⟨gb, rfl, -⟩, hx⟩; obtain ⟨y0, rfl⟩ := hx.get; clear hx; cases gb)
      | (go_at_call 12; refine (l33_awake _).mono ?_; rintro e w' ⟨rfl, hx⟩; obtain ⟨y, rfl⟩ := hx.get; clear hx))
    all_goals (go_ret; exact ⟨rfl, by repeat (first | exact Ext.refl _ | assumption | apply Ext.xt | apply Ext.alloc | apply Ext.drew | apply Ext.drewN)⟩)
set_option maxHeartbeats 1600000 in
set_option maxRecDepth 100000 in
theorem Returns_no (h0 : logE l = 0) (ht1 : ¬ t < -10000000) (ht2 : ¬ 10000000 < t) (hk : ¬ l.all (shOk n) = true) :
    Calls Tryz.prog 5 #[.slice A l.length c, .int .i64 n, .int .i64 t] w fun e w' => e = .returned (.bool true) ∧ Ext w w' := by
  have HS := Lib.hid hs
  have H2 := Lib.hid (shift_no h0 hk)
  clear hs h0 hk
  go_enter Tryz.func5, Tryz.ntmps5
  go_wp2_with (first
    | (go_at_call 18; refine (l33_good A c l _ (HS.out.mono (by repeat (first | exact Ext.refl _ | assumption | apply Ext.xt | apply Ext.alloc | apply Ext.drew | apply Ext.drewN)))).mono ?_; rintro e w' ⟨⟨gb, rfl, -⟩, hx⟩; obtain ⟨y0, rfl⟩ := hx.get; clear hx; cases gb)
    | (go_at_call 12; refine (l33_awake _).mono ?_; rintro e w' ⟨rfl, hx⟩; obtain ⟨y, rfl⟩ := hx.get; clear hx)
    | (go_at_call 15; refine (act_Shift_at A c l _ (HS.out.mono (by repeat (first | exact Ext.refl _ | assumption | apply Ext.xt | apply Ext.alloc | apply Ext.drew | apply Ext.drewN))) n _ _ H2.out).mono ?_; rintro e w' ⟨D, q, rfl, hx, hl⟩; obtain ⟨y1, rfl⟩ := hx.get; clear hx hl))
  all_goals (go_ret; exact ⟨rfl, by repeat (first | exact Ext.refl _ | assumption | apply Ext.xt | apply Ext.alloc | apply Ext.drew | apply Ext.drewN)⟩)
end
set_option maxHeartbeats 1600000 in
set_option maxRecDepth 100000 in
theorem Returns_nil (A : Option Addr) (c : Nat) (n t : Int) (w : World) (hs : LogAt w A c []) (ht1 : ¬ t < -10000000) (ht2 : ¬ 10000000 < t) :
    Calls Tryz.prog 5 #[.slice A 0 c, .int .i64 n, .int .i64 t] w fun e w' => e = .returned (.bool true) ∧ Ext w w' := by
  have HS := Lib.hid hs
  have H2 := Lib.hid (shift_ok (l := []) (n := n) (by decide +kernel) rfl)
  clear hs
  go_enter Tryz.func5, Tryz.ntmps5
  go_wp2_with (first
    | (go_at_call 18; refine (l33_good A c [] _ (HS.out.mono (by repeat (first | exact Ext.refl _ | assumption | apply Ext.xt | apply Ext.alloc | apply Ext.drew | apply Ext.drewN)))).mono ?_; rintro e w' ⟨⟨gb, rfl, -⟩, hx⟩; obtain ⟨y0, rfl⟩ := hx.get; clear hx; cases gb)
    | (go_at_call 12; refine (l33_awake _).mono ?_; rintro e w' ⟨rfl, hx⟩; obtain ⟨y, rfl⟩ := hx.get; clear hx)
    | (go_at_call 15; refine (act_Shift_at A c [] _ (HS.out.mono (by repeat (first | exact Ext.refl _ | assumption | apply Ext.xt | apply Ext.alloc | apply Ext.drew | apply Ext.drewN))) n _ _ H2.out).mono ?_; rintro e w' ⟨D, q, rfl, hx, hl⟩; obtain ⟨y1, rfl⟩ := hx.get; clear hx hl))
  all_goals (go_ret; exact ⟨rfl, by repeat (first | exact Ext.refl _ | assumption | apply Ext.xt | apply Ext.alloc | apply Ext.drew | apply Ext.drewN)⟩)
section
variable (A : Option Addr) (c : Nat) (l : List Acn) (n t : Int) (w : World) (hs : LogAt w A c l)
include hs
set_option maxHeartbeats 3200000 in
set_option maxRecDepth 100000 in
theorem Returns_yes (h0 : logE l = 0) (ht1 : ¬ t < -10000000) (ht2 : ¬ 10000000 < t) (hk : l.all (shOk n) = true) (hn : l ≠ []) :
    Calls Tryz.prog 5 #[.slice A l.length c, .int .i64 n, .int .i64 t] w fun e w' => e = .returned (.bool true) ∧ Ext w w' := by
  have HS := Lib.hid hs
  obtain ⟨hb1, hb2⟩ := shift_by h0 hk hn
  have hlen : l.length ≠ 0 := fun e => hn (List.length_eq_zero_iff.1 e)
  have HG := Lib.hid h0
  have H1 := Lib.hid (shift_ok h0 hk)
  have HL := Lib.hid (shift_log h0 hk)
  have H2 := Lib.hid (show shiftV (l.map (shA n)) (-n) = (l, 0) by rw [shift_ok HL.out (shift_back_ok h0), shift_back])
  have HU := Lib.hid (shift_until l n t)
  have hz : ((l.length : Int) == 0) = false := by simp; exact hn
  obtain ⟨m, hm⟩ : ∃ m, l.map (shA n) = m := ⟨_, rfl⟩
  rw [hm] at H1 HL H2 HU
  obtain ⟨u, hu⟩ : ∃ u, untilL l t = u := ⟨_, rfl⟩
  have HV := Lib.hid hu
  have HU2 := Lib.hid (HU.out.trans hu)
  clear hs h0 hk hm hu HU hlen hn
  go_enter Tryz.func5, Tryz.ntmps5
  go_wp2_with (first
    | (go_at_call 18; refine (l33_good A c l _ (HS.out.mono (by repeat (first | exact Ext.refl _ | assumption | apply Ext.xt | apply Ext.alloc | apply Ext.drew | apply Ext.drewN)))).mono ?_; rintro e w' ⟨⟨gb, rfl, -⟩, hx⟩; obtain ⟨y0, rfl⟩ := hx.get; clear hx; cases gb)
    | (go_at_call 12; refine (l33_awake _).mono ?_; rintro e w' ⟨rfl, hx⟩; obtain ⟨y, rfl⟩ := hx.get; clear hx)
    | (have hh := HD; clear hh; go_at_call 15; refine (act_Shift_at D q m _ (HD.out.mono (by repeat (first | exact Ext.refl _ | assumption | apply Ext.xt | apply Ext.alloc | apply Ext.drew | apply Ext.drewN))) (-n) l 0 H2.out).mono ?_; rintro e w' ⟨D2, q2, rfl, hx, hl⟩; have HE := Lib.hid hl; obtain ⟨y2, rfl⟩ := hx.get; clear hx hl)
    | (go_at_call 15; refine (act_Shift_at A c l _ (HS.out.mono (by repeat (first | exact Ext.refl _ | assumption | apply Ext.xt | apply Ext.alloc | apply Ext.drew | apply Ext.drewN))) n m 0 H1.out).mono ?_; rintro e w' ⟨D, q, rfl, hx, hl⟩; have HD := Lib.hid hl; obtain ⟨y1, rfl⟩ := hx.get; clear hx hl)
    | (have hh := tok1; clear hh; go_at_call 19; refine (act_Until_to D q _ m (t + n) u _ rfl HL.out HU2.out (HD.out.mono (by repeat (first | exact Ext.refl _ | assumption | apply Ext.xt | apply Ext.alloc | apply Ext.drew | apply Ext.drewN)))).mono ?_; rintro e w' ⟨rfl, hx⟩; obtain ⟨y, rfl⟩ := hx.get; clear hx)
    | (go_at_call 19; refine (act_Until_to A c _ l t u _ rfl HG.out HV.out (HS.out.mono (by repeat (first | exact Ext.refl _ | assumption | apply Ext.xt | apply Ext.alloc | apply Ext.drew | apply Ext.drewN)))).mono ?_; rintro e w' ⟨rfl, hx⟩; obtain ⟨y3, rfl⟩ := hx.get; clear hx; have tok1 : True := trivial)
    | (go_at_call 17; refine (r33_SameLog1 D2 A q2 c l _ (HE.out.mono (by repeat (first | exact Ext.refl _ | assumption | apply Ext.xt | apply Ext.alloc | apply Ext.drew | apply Ext.drewN))) (HS.out.mono (by repeat (first | exact Ext.refl _ | assumption | apply Ext.xt | apply Ext.alloc | apply Ext.drew | apply Ext.drewN)))).mono ?_; rintro e w' ⟨rfl, hx⟩; obtain ⟨y, rfl⟩ := hx.get; clear hx)
    | (go_at_call 22; refine (act_Log_to D q m 0 HL.out _ (HD.out.mono (by repeat (first | exact Ext.refl _ | assumption | apply Ext.xt | apply Ext.alloc | apply Ext.drew | apply Ext.drewN)))).mono ?_; rintro e w' ⟨rfl, hx⟩; obtain ⟨y, rfl⟩ := hx.get; clear hx))
  all_goals (go_ret; exact ⟨rfl, by repeat (first | exact Ext.refl _ | assumption | apply Ext.xt | apply Ext.alloc | apply Ext.drew | apply Ext.drewN)⟩)
theorem l33_ActionReturns : Calls Tryz.prog 5 #[.slice A l.length c, .int .i64 n, .int .i64 t] w fun e w' => e = .returned (.bool true) ∧ Ext w w' := by
  by_cases hg : l.length ≤ 40 ∧ logE l = 0
  · by_cases ht : t < -10000000 ∨ 10000000 < t
    · exact Returns_far A c l n t w hs ht
    · by_cases hk : l.all (shOk n) = true
      · by_cases hn : l = []
        · subst hn; exact Returns_nil A c n t w hs (by omega) (by omega)
        · exact Returns_yes A c l n t w hs hg.2 (by omega) (by omega) hk hn
      · exact Returns_no A c l n t w hs hg.2 (by omega) (by omega) hk
  · exact Returns_bad A c l n t w hs hg
end
end Go.Proofs.YtbgpcgapkeddpaaGreat
