/-
  Chapter 33: the laws ActionChecks, ActionParts, ActionInserts.
-/
import Derived.Test.YtlpboikonnpjbaaGreatAwk33
import Derived.Test.YtlpboikonnpjbaaGreatGfew
import Derived.Test.YtlpboikonnpjbaaGreatARefA
import Derived.Test.YtlpboikonnpjbaaGreatWant
namespace Go.Proofs.YtlpboikonnpjbaaGreat
open Go.RowKit

/-- A log, and an error's number. -/
def RetAt (w : World) (l : List Acn) (x : Int) (e : Ending) (w' : World) : Prop := ∃ A k, e = .returned (.tuple #[.slice A l.length k, .int .i64 x]) ∧ Ext w w' ∧ LogAt w' A k l
theorem RetLog.at_ {w : World} {l : List Acn} {x : Int} {e : Ending} {w' : World} (h : RetLog w (l, x) e w') : RetAt w l x e w' := by
  obtain ⟨A, k, rfl, hx, ho, he⟩ := h
  exact ⟨A, k, rfl, hx, ho.sl, ho.le, ho.cap, he⟩
section
variable (A : Option Addr) (c : Nat) (l : List Acn) (w : World) (hs : LogAt w A c l)
include hs
theorem act_Between_at (t u : Int) (v : List Acn) (x : Int) (hv : betweenV l t u = (v, x)) : Calls Tryz.prog 57 #[.slice A l.length c, .int .i64 t, .int .i64 u] w (RetAt w v x) :=
  (act_Between_to A c _ l t u _ w rfl hv hs).mono fun _ _ h => h.at_
theorem act_Insert_at (a : Acn) (v : List Acn) (x : Int) (hv : insertV l a = (v, x)) (ha : AcnAt w a) : Calls Tryz.prog 58 #[.slice A l.length c, .agg (acnR a).toArray] w (RetAt w v x) :=
  (act_Insert_to A c _ l a _ w rfl hv hs ha).mono fun _ _ h => h.at_
theorem act_Shift_at (t : Int) (v : List Acn) (x : Int) (hv : shiftV l t = (v, x)) : Calls Tryz.prog 59 #[.slice A l.length c, .int .i64 t] w (RetAt w v x) :=
  (act_Shift_to A c _ l t _ w rfl hv hs).mono fun _ _ h => h.at_
theorem act_Until_as (t : Int) (n x : Int) (hv : untilV l t = (n, x)) : Calls Tryz.prog 56 #[.slice A l.length c, .int .i64 t] w fun e w' => e = .returned (.tuple #[.int .i64 n, .int .i64 x]) ∧ Ext w w' := by
  have := act_Until A c l t w hs
  rw [hv] at this
  exact this
def RetIs (w0 : World) (l : List Int) (x : Int) (e : Ending) (w' : World) : Prop := ∃ A k, e = .returned (.tuple #[.slice A l.length k, .int .i64 x]) ∧ Ext w0 w' ∧ Sl w' A 1 (l.map intR) ∧ l.length ≤ maxLen
end
theorem Equal_int_self (A B : Option Addr) (c d : Nat) (l : List Int) (w : World) (h1 : Sl w A 1 (l.map intR)) (h2 : Sl w B 1 (l.map intR)) (hl : l.length ≤ maxLen) : Calls Tryz.prog 168 #[.slice A l.length c, .slice B l.length d] w fun e w' => e = .returned (.bool true) ∧ Ext w w' := by
  have := Equal_I A c l B d l w h1 hl h2 hl
  simpa using this
theorem act_Same_self (a : Acn) (w : World) (ha : AcnAt w a) : Calls Tryz.prog 134 #[.agg (acnR a).toArray, .agg (acnR a).toArray] w fun r w' => r = .returned (.bool true) ∧ Ext w w' := by
  rw [← sameA_refl a]
  exact act_Same a a w ha ha

end Go.Proofs.YtlpboikonnpjbaaGreat

/-
  Chapter 33: the laws ActionSplits, ActionReturns.
-/
namespace Go.Proofs.YtlpboikonnpjbaaGreat
open Go.RowKit

/-! ### Plain -/
theorem split_log {l : List Acn} (h : logE l = 0) (t : Int) : ∃ v1 v2, betweenV l (-1) t = (v1, 0) ∧ betweenV l (max t (-1)) 10000000 = (v2, 0) ∧ v1.length = untilL l t ∧ v1 ++ v2 = l := by
  have hasc := ((logE_iff l).1 h).2.2
  have e1 : btwL l (-1) t = l.take (untilL l t) := by
    rw [← le_filter hasc]
    unfold btwL
    refine List.filter_congr fun a ha => ?_
    have := logE_at h ha
    rw [decide_eq_decide]; omega
  have e2 : btwL l (max t (-1)) 10000000 = l.drop (untilL l t) := by
    rw [← gt_filter hasc]
    unfold btwL
    refine List.filter_congr fun a ha => ?_
    have := logE_at h ha
    rw [decide_eq_decide]; omega
  refine ⟨_, _, betweenV_ok h _ _, betweenV_ok h _ _, ?_, ?_⟩
  · rw [e1, List.length_take, Nat.min_eq_left (untilL_le l t)]
  · rw [e1, e2, List.take_append_drop]
theorem shift_by {l : List Acn} {n : Int} (h : logE l = 0) (h0 : l.all (shOk n) = true) (hl : l ≠ []) : -10000000 ≤ n ∧ n ≤ 10000000 := by
  obtain ⟨a, ha⟩ := List.exists_mem_of_ne_nil l hl
  have h1 := logE_at h ha
  have h2 := of_decide_eq_true (List.all_eq_true.1 h0 a ha)
  omega
section
variable (A : Option Addr) (c : Nat) (l : List Acn) (w : World) (hs : LogAt w A c l)
include hs
end

theorem act_Log_to (A : Option Addr) (c : Nat) (l : List Acn) (v : Int) (hv : logE l = v) (w : World) (hs : LogAt w A c l) : Calls Tryz.prog 101 #[.slice A l.length c] w fun e w' => e = .returned (.int .i64 v) ∧ Ext w w' := by
  subst hv
  exact act_Log A c l w hs
theorem shift_ok {l : List Acn} {n : Int} (h : logE l = 0) (h0 : l.all (shOk n) = true) : shiftV l n = (l.map (shA n), 0) := by
  unfold shiftV; rw [if_neg (by simpa using h), if_pos h0]
theorem shift_no {l : List Acn} {n : Int} (h : logE l = 0) (h0 : ¬ l.all (shOk n) = true) : shiftV l n = ([], 2) := by
  unfold shiftV; rw [if_neg (by simpa using h), if_neg h0]

section
variable (A : Option Addr) (c : Nat) (l : List Acn) (n t : Int) (w : World) (hs : LogAt w A c l)
include hs
end
section
variable (A : Option Addr) (c : Nat) (l : List Acn) (n t : Int) (w : World) (hs : LogAt w A c l)
include hs
end
end Go.Proofs.YtlpboikonnpjbaaGreat
