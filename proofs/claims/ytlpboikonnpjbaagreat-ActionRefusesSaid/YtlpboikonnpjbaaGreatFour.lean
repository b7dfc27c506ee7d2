/-
  The examples' log, and what the functions make of it.
-/
import Derived.Test.YtlpboikonnpjbaaGreatFourE
import Derived.Test.YtlpboikonnpjbaaGreatGshf
import Derived.Test.YtlpboikonnpjbaaGreatAct16
import Derived.Great.CaseRows
namespace Go.Proofs.YtlpboikonnpjbaaGreat
open Go.RowKit

noncomputable def built (t : List (Nat × Value)) : Option (Array Value) := Tryz.prog.built 45 t
/-- The examples' actions and logs: all that is wanted of them. -/
structure Four where
  g : Acn
  b : Acn
  n : Acn
  x : Acn
  p : Acn
  q : Acn
  r : Acn
  s : Acn
  bg : built [(0, .int .i64 500), (1, .int .i64 0), (2, .int .i64 2)] = some (acnR g).toArray
  bn : built [(0, .int .i64 500)] = some (acnR n).toArray
  bx : built [(1, .int .i64 20)] = some (acnR x).toArray
  bp : built [(1, .int .i64 0), (2, .int .i64 2)] = some (acnR p).toArray
  bq : built [(0, .int .i64 500), (1, .int .i64 18)] = some (acnR q).toArray
  br : built [(0, .int .i64 500), (1, .int .i64 13)] = some (acnR r).toArray
  bs : built [(0, .int .i64 900), (1, .int .i64 2), (2, .int .i64 2)] = some (acnR s).toArray
  bb : (acnR b) = (acnR g).set 4 (.int .i64 1)
  eg : acnE g = 0
  eb : acnE b = 3
  en : acnE n = 2
  ex : acnE x = 1
  ag : ∀ w, AcnAt w g
  ab : ∀ w, AcnAt w b
  an : ∀ w, AcnAt w n
  ax : ∀ w, AcnAt w x
  al : ∀ w, ∀ a ∈ [p, q, r, s], AcnAt w a
  log : logE [p, q, r, s] = 0
  tl : untilL [p, q, r, s] 500 = 3
  bw : ∃ l, betweenV [p, q, r, s] 0 500 = (l, 0) ∧ l.length = 2
  ins : ∃ l a, insertV [p, q, r, s] g = (l, 0) ∧ l.length = 5 ∧ l[3]? = some a ∧ a.kind = 0
  sh : ∃ l a, shiftV [p, q, r, s] 100 = (l, 0) ∧ l.length = 4 ∧ l[0]? = some a ∧ a.at_ = 100
  no : shiftV [p, q, r, s] (-1) = ([], 2)
theorem four_log : logE [mkA 0 0 2 0, mkA 500 18 0 0, mkA 500 13 0 0, mkA 900 2 2 0] = 0 := by
  refine (logE_iff _).2 ⟨by decide, fun a ha => ?_, ?_⟩
  · simp only [List.mem_cons, List.not_mem_nil, or_false] at ha
    rcases ha with rfl | rfl | rfl | rfl
    · exact acnE_go
    · exact acnE_undo
    · exact acnE_clear
    · exact acnE_back
  · simp [Asc, mkA]
theorem four_until : untilL [mkA 0 0 2 0, mkA 500 18 0 0, mkA 500 13 0 0, mkA 900 2 2 0] 500 = 3 := by simp [untilL, mkA, List.takeWhile]
theorem four : Nonempty Four := by
  refine ⟨⟨mkA 500 0 2 0, mkA 500 0 2 1, mkA 500 0 0 0, mkA 0 20 0 0, mkA 0 0 2 0, mkA 500 18 0 0, mkA 500 13 0 0, mkA 900 2 2 0, by kernel_rfl, by kernel_rfl, by kernel_rfl, by kernel_rfl, by kernel_rfl, by kernel_rfl, by kernel_rfl, rfl, acnE_good, acnE_bad, acnE_none, acnE_20, mkA_at _ _ _ _, mkA_at _ _ _ _, mkA_at _ _ _ _, mkA_at _ _ _ _, fun w a ha => ?_, four_log, four_until, ?_, ?_, ?_, ?_⟩⟩
  · simp only [List.mem_cons, List.not_mem_nil, or_false] at ha
    rcases ha with rfl | rfl | rfl | rfl <;> exact mkA_at _ _ _ _ _
  · refine ⟨_, betweenV_ok four_log 0 500, ?_⟩
    simp [btwL, mkA]
  · refine ⟨insL [mkA 0 0 2 0, mkA 500 18 0 0, mkA 500 13 0 0, mkA 900 2 2 0] (mkA 500 0 2 0), mkA 500 0 2 0, ?_, ?_, ?_, rfl⟩
    · unfold insertV
      rw [if_neg (by simpa using four_log), if_neg (by simpa using acnE_good), if_neg (by decide)]
    · rw [ins_len]; rfl
    · show (insL _ (mkA 500 0 2 0))[3]? = _
      unfold insL
      rw [show (mkA 500 0 2 0).at_ = 500 from rfl, four_until]
      rfl
  · refine ⟨[mkA 0 0 2 0, mkA 500 18 0 0, mkA 500 13 0 0, mkA 900 2 2 0].map (shA 100), shA 100 (mkA 0 0 2 0), ?_, rfl, rfl, rfl⟩
    unfold shiftV
    rw [if_neg (by simpa using four_log), if_pos (by decide)]
  · unfold shiftV
    rw [if_neg (by simpa using four_log), if_neg (by decide)]
theorem four_cells (F : Four) : ∀ v ∈ [Value.agg (acnR F.p).toArray, .agg (acnR F.q).toArray, .agg (acnR F.r).toArray, .agg (acnR F.s).toArray], v.cells.size = 44 := by
  intro v hv
  simp only [List.mem_cons, List.not_mem_nil, or_false] at hv
  rcases hv with rfl | rfl | rfl | rfl <;> rfl
theorem four_evals (F : Four) (a : Act) (h1 : a.eval (.tmp 1) = .agg (acnR F.p).toArray) (h2 : a.eval (.tmp 2) = .agg (acnR F.q).toArray) (h3 : a.eval (.tmp 3) = .agg (acnR F.r).toArray) (h4 : a.eval (.tmp 4) = .agg (acnR F.s).toArray) :
    ∀ i (h : i < [Value.agg (acnR F.p).toArray, .agg (acnR F.q).toArray, .agg (acnR F.r).toArray, .agg (acnR F.s).toArray].length), a.eval (.tmp (i + 1)) = [Value.agg (acnR F.p).toArray, .agg (acnR F.q).toArray, .agg (acnR F.r).toArray, .agg (acnR F.s).toArray][i] := by
  intro i h
  match i, h with
  | 0, _ => exact h1
  | 1, _ => exact h2
  | 2, _ => exact h3
  | 3, _ => exact h4
theorem wp_four (F : Four) {ops : Array Oper} {rest : List Oper} {o : Oper} {a : Act} {w : World} {Q : Exit → Act → World → Prop} (hg : o.guard = none) (ho : o.op = .buildSlice 90 4 #[(0, .tmp 1), (1, .tmp 2), (2, .tmp 3), (3, .tmp 4)]) (hd : o.dst = some 5)
    (h1 : a.eval (.tmp 1) = .agg (acnR F.p).toArray) (h2 : a.eval (.tmp 2) = .agg (acnR F.q).toArray) (h3 : a.eval (.tmp 3) = .agg (acnR F.r).toArray) (h4 : a.eval (.tmp 4) = .agg (acnR F.s).toArray)
    (h : wpList Tryz.prog ops Q rest (a.put (some 5) (.slice (some ⟨w.heap.size, 0, none⟩) 4 4)) (w.alloc (.cells ([F.p, F.q, F.r, F.s].map acnR).flatten.toArray 45))) : wpList Tryz.prog ops Q (o :: rest) a w := by
  refine Great.wpList_buildRows hg 90 45 _ 44 [.agg (acnR F.p).toArray, .agg (acnR F.q).toArray, .agg (acnR F.r).toArray, .agg (acnR F.s).toArray] ho (fun i => i + 1) w.heap.size rfl (some 5) hd Tryz.underlying90 (by kernel_rfl) (by kernel_rfl) (by decide) (Nat.zero_lt_succ _) ?_ rfl (four_cells F) (four_evals F a h1 h2 h3 h4) ?_
  · show 4 * 44 ≤ 2 ^ 24
    decide
  · have : ([Value.agg (acnR F.p).toArray, .agg (acnR F.q).toArray, .agg (acnR F.r).toArray, .agg (acnR F.s).toArray].flatMap fun v => v.cells.toList) = ([F.p, F.q, F.r, F.s].map acnR).flatten := by simp [Value.cells]
    rw [this]
    exact h
set_option maxHeartbeats 1600000 in
set_option maxRecDepth 100000 in
theorem l33_Four (F : Four) (w : World) : Calls Tryz.prog 55 #[] w fun e w' => ∃ A, e = .returned (.slice A 4 4) ∧ Ext w w' ∧ LogAt w' A 4 [F.p, F.q, F.r, F.s] := by
  have H1 := Lib.hid F.bp
  have H2 := Lib.hid F.bq
  have H3 := Lib.hid F.br
  have H4 := Lib.hid F.bs
  go_enter Tryz.func55, Tryz.ntmps55
  go_wp2_with (first
    | (refine wpList_built rfl 45 _ rfl [(1, .int .i64 0), (2, .int .i64 2)] rfl (acnR F.p).toArray H1.out ?_)
    | (refine wpList_built rfl 45 _ rfl [(0, .int .i64 500), (1, .int .i64 18)] rfl (acnR F.q).toArray H2.out ?_)
    | (refine wpList_built rfl 45 _ rfl [(0, .int .i64 500), (1, .int .i64 13)] rfl (acnR F.r).toArray H3.out ?_)
    | (refine wpList_built rfl 45 _ rfl [(0, .int .i64 900), (1, .int .i64 2), (2, .int .i64 2)] rfl (acnR F.s).toArray H4.out ?_)
    | (refine wp_four F rfl rfl rfl rfl rfl rfl rfl ?_))
  go_ret
  exact ⟨_, rfl, (Ext.refl _).alloc _, ⟨Sl.alloc' rfl rfl (acnR_rows [F.p, F.q, F.r, F.s]), Nat.le_refl _, by decide, F.al _⟩⟩
end Go.Proofs.YtlpboikonnpjbaaGreat
