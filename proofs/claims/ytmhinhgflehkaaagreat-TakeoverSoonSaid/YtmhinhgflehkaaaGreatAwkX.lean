/-
 Chapter 55's examples: builds of events, lists of two events, down, equal lists of integers.
-/
import Derived.Test.YtmhinhgflehkaaaGreatGwkg
import Derived.Test.YtmhinhgflehkaaaGreatGwka
import Derived.Test.YtmhinhgflehkaaaGreatGtkf
import Derived.Test.YtmhinhgflehkaaaGreatEqs
namespace Go.Proofs.YtmhinhgflehkaaaGreat
open Go.RowKit

/-! ### Builds of events -/
def bldE (ps : Array (Nat × Value)) : Sem Value := Instr.build 89 ps
@[go_sem ↓ high] theorem bldE_at (ps : Array (Nat × Value)) : Instr.build 89 ps = bldE ps := rfl
set_option maxRecDepth 100000 in
@[go_sem] theorem bldE_3 (w : World) (t k s : Int) : (bldE #[(0, .int .i64 t), (1, .int .i64 k), (2, .int .i64 s)]).run Tryz.prog w = .ok (.agg (evtR ⟨t, k, s, acnN, 0⟩).toArray) w := run_build w _ _ _ (by kernel_rfl)
set_option maxRecDepth 100000 in
@[go_sem] theorem bldE_2 (w : World) (t k : Int) : (bldE #[(0, .int .i64 t), (1, .int .i64 k)]).run Tryz.prog w = .ok (.agg (evtR ⟨t, k, 0, acnN, 0⟩).toArray) w := run_build w _ _ _ (by kernel_rfl)
theorem run_buildTwo {P : Program} (w : World) (t e : TypeId) (l1 l2 : List Value) (n : Nat) (hu : P.underlying t = some (.slice e)) (hsz : (P.info? e).map (·.size) = some n) (hz : ((P.info? e).bind (·.zero)).isSome = true) (h1 : l1.length = n) (h2 : l2.length = n) (hpos : 0 < n) (hsmall : 2 * n ≤ 2 ^ 24) :
  (Instr.buildSlice t 2 #[(0, .agg l1.toArray), (1, .agg l2.toArray)]).run P w = .ok (.slice (some ⟨w.heap.size, 0, none⟩) 2 2) (w.alloc (.cells (l1 ++ l2).toArray e)) := by
 subst h1
 cases hie : P.info? e with
 | none => simp [hie] at hsz
 | some ie =>
  simp only [hie, Option.map_some, Option.some.injEq, Option.bind_some] at hsz hz
  obtain ⟨z, hzz⟩ := Option.isSome_iff_exists.1 hz
  refine run_buildSlice w t e 2 #[(0, .agg l1.toArray), (1, .agg l2.toArray)] (l1 ++ l2).toArray ie z hu hie hzz (by rw [hsz]; omega) (by rw [hsz]; omega) ?_
  have := Great.fill_whole hpos [Value.agg l1.toArray, Value.agg l2.toArray] ((Array.range (2 * l1.length)).map (z.cells[· % z.cells.size]!)) (by simp [Value.cells, h2]) (by simp)
  rw [hsz]
  simpa [Value.cells] using this
def bldL (ps : Array (Nat × Value)) : Sem Value := Instr.buildSlice 31 2 ps
@[go_sem ↓ high] theorem bldL_at (ps : Array (Nat × Value)) : Instr.buildSlice 31 2 ps = bldL ps := rfl
@[go_sem] theorem bldL_run (w : World) (x y : Evt) : (bldL #[(0, .agg (evtR x).toArray), (1, .agg (evtR y).toArray)]).run Tryz.prog w = .ok (.slice (some ⟨w.heap.size, 0, none⟩) 2 2) (w.alloc (.cells (evtR x ++ evtR y).toArray 89)) :=
 run_buildTwo w _ _ (evtR x) (evtR y) 48 Tryz.underlying31 (by kernel_rfl) (by kernel_rfl) (evtR_len x) (evtR_len y) (by decide) (by decide)
theorem sl_two {w : World} {n : Nat} {x y : Evt} {T : TypeId} (hs : w.heap.size = n) : Sl (w.alloc (.cells (evtR x ++ evtR y).toArray T)) (some ⟨n, 0, none⟩) 48 ([x, y].map evtR) :=
 Sl.alloc' hs (by simp) (by intro r hr; simp only [List.map_cons, List.map_nil, List.mem_cons, List.not_mem_nil, or_false] at hr; rcases hr with rfl | rfl <;> exact evtR_len _)
theorem results_evt {fn : Func} {tmps : Array Value} {w : World} {i b : Nat} {x : Evt} (hf : fn.results = #[.cell i 89]) (ht : tmps.getD i undef = .pointer (some ⟨b, 0, none⟩)) (hr : w.rangeAt b 0 (evtR x)) : (results fn tmps).run Tryz.prog w = .ok (.agg (evtR x).toArray) w := by
 have hl := run_loadVar_mid w b 0 89 (evtR x) _ hr Tryz.underlying89 rfl (by kernel_rfl)
 have ha : (asAddr (tmps.getD i undef)).run Tryz.prog w = .ok ⟨b, 0, none⟩ w := by rw [ht]; rfl
 generalize hq : evtR x = cs at *
 unfold results
 rw [hf]
 simp only [List.mapM_toArray, List.mapM_cons, List.mapM_nil, Sem.run_bind, Sem.run_map, Sem.run_pure, bind_pure_comp, ha, hl, Result.andThen]
 rfl
set_option maxHeartbeats 1600000 in
set_option maxRecDepth 100000 in
theorem l55_down (t i : Int) (w : World) : Calls Tryz.prog 29 #[.int .i64 t, .int .i64 i] w fun e w' => e = .returned (.agg (evtR (downE t i)).toArray) ∧ Ext w w' := by
 go_enter Tryz.func29, Tryz.ntmps29
 go_wp2_with (refine wpList_store_top rfl 89 _ _ rfl rfl (by simp [go_sem]) (evtR (downE t i)) rfl rfl (by kernel_rfl) (evtR_one _) ?_)
 refine bodyPost_ret (v := .agg (evtR (downE t i)).toArray) (results_evt (i := 4) (by simp [Tryz.results29]) rfl (rangeAt_new w rfl (evtR (downE t i)) _)) rfl ?_
 exact ⟨rfl, ex⟩
/-! ### Lists of integers -/
theorem Equal_I_refl (A : Option Addr) (c : Nat) (B : Option Addr) (d n : Nat) (l : List Int) (hn : l.length = n) (w : World) (hs : Sl w A 1 (l.map intRw)) (hs' : Sl w B 1 (l.map intRw)) (hl : n ≤ maxLen) :
  Calls Tryz.prog 38 #[.slice A n c, .slice B n d] w fun e w' => e = .returned (.bool true) ∧ Ext w w' := by
 subst hn
 have h := Equal_I A c l B d l w hs hl hs' hl
 rwa [decide_eq_true rfl] at h
theorem wpAnyL_nm {P : Program} {md : Region.Mode} {ops : Array Oper} {Q : Exit → Act → World → Prop} {S : Array Bool → World → Prop} {f : Nat} {L : Array Bool} {a : Act} {W : World} (h : ∀ W', W' = W → wpAnyL P md ops Q S f L a W') : wpAnyL P md ops Q S f L a W := h W rfl
theorem wpList_nm {P : Program} {ops : Array Oper} {rest : List Oper} {Q : Exit → Act → World → Prop} {a : Act} {W : World} (h : ∀ W', W' = W → wpList P ops Q rest a W') : wpList P ops Q rest a W := h W rfl
theorem evtsE_nil : evtsE [] = 0 := by unfold evtsE; rw [if_neg (by simp)]; rfl
theorem evtsAt_nil (w : World) : EvtsAt w none 0 [] := ⟨Sl.nil _ _ _, Nat.le_refl _, Nat.zero_le _, by intro x hx; cases hx⟩
theorem evtsAt_two {w : World} {E : Option Addr} {x y : Evt} (h : Sl w E 48 ([x, y].map evtR)) (hx : AcnAt w x.act) (hy : AcnAt w y.act) : EvtsAt w E 2 [x, y] :=
 ⟨h, Nat.le_refl _, by unfold maxLen; decide, by intro z hz; simp only [List.mem_cons, List.not_mem_nil, or_false] at hz; rcases hz with rfl | rfl; exact hx; exact hy⟩
end Go.Proofs.YtmhinhgflehkaaaGreat
