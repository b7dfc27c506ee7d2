import Derived.Test.YtlpboikonnpjbaaGreatGfind
import Derived.RangeFuncNested
import Derived.RangeFuncBound
import Derived.RangeFuncCalls
import Derived.RangeFuncLeaves
import Derived.Shelf.Abstract
import Derived.Shelf.RegionOpen
import Derived.OwnWalkIn
import Derived.TacticsInMore
import Derived.LoopNIn
import Derived.LoopIn
import Derived.Laws.EntriesVeiled
namespace Go.Proofs.YtlpboikonnpjbaaGreat
open Go.RowKit

/-- The class of an attribute. -/
def kind (a : Int) : Int := if a = 0 then 0 else if a = 1 ∨ a = 2 then 1 else if 3 ≤ a ∧ a ≤ 10 then 2 else 3
def attrE (a : Int) : Int := if a < 0 ∨ 15 ≤ a then 2 else 0
def classV (a : Int) : Int × Int := if attrE a ≠ 0 then (0, attrE a) else (kind a, 0)
theorem ret_ii {a b x y : Int} (h : (a, x) = (b, y)) : Ending.returned (.tuple #[.int .i64 a, .int .i64 x]) = .returned (.tuple #[.int .i64 b, .int .i64 y]) := by
  injection h with h1 h2; rw [h1, h2]
/-- The time of an attribute in a part. -/
def taken (t : Timing) (a : Int) (r : Bool) : Int := if kind a = 0 then (if r then t.up else t.down) else if kind a = 1 then t.pos else if kind a = 2 then t.col else t.beam
def timingE (t : Timing) : Int := if timingOk t then 0 else 2
def timeV (t : Timing) (a : Int) (r : Bool) : Int × Int := if timingE t ≠ 0 then (0, timingE t) else if attrE a ≠ 0 then (0, attrE a) else (taken t a r, 0)

/-! ### The selectors -/
/-! ### taken -/
end Go.Proofs.YtlpboikonnpjbaaGreat

namespace Go.Proofs.YtlpboikonnpjbaaGreat
open Go.RowKit

/-- The cell of the captured variable is kept. -/
def KeepT (T : Nat) (A B : World) : Prop := ∀ v, A.cell? ⟨T, 0, none⟩ = some v → B.cell? ⟨T, 0, none⟩ = some v
theorem abides_ext {β : Type} {B : Nat} {J : β → World → Prop} (h : AbidesFrom B J) {s : β} {W W' : World} (hj : J s W) (hx : Ext W W') : J s W' :=
  h s W W' none hj ⟨hx.os, hx.tape, hx.output, hx.size, fun k hk _ => hx.block k hk⟩ (fun r e => by cases e)
def seq6 : List (Fin 6) := [0, 2, 3, 4, 1, 5]

end Go.Proofs.YtlpboikonnpjbaaGreat

namespace Go.Proofs.YtlpboikonnpjbaaGreat
open Go.RowKit
attribute [local go_sem] Oper.semAt_some

theorem timing_nth (b : Nat) (t : Timing) (w : World) (h0 : w.cell? ⟨b, 0, none⟩ = some (.int .i64 t.up)) (h1 : w.cell? ⟨b, 1, none⟩ = some (.int .i64 t.down)) (h2 : w.cell? ⟨b, 2, none⟩ = some (.int .i64 t.pos)) (h3 : w.cell? ⟨b, 3, none⟩ = some (.int .i64 t.col)) (h4 : w.cell? ⟨b, 4, none⟩ = some (.int .i64 t.beam)) (h5 : w.cell? ⟨b, 5, none⟩ = some (.int .i64 t.del))
    (k : Nat) (hk : k < 6) : w.cell? ⟨b, k, none⟩ = some (.int .i64 (tnth t k)) := by
  rcases (by omega : k = 0 ∨ k = 1 ∨ k = 2 ∨ k = 3 ∨ k = 4 ∨ k = 5) with rfl | rfl | rfl | rfl | rfl | rfl
  all_goals assumption
/-- What is said of grown worlds stands behind a turn of the loop's own blocks. -/
theorem ownFrom_ext {β : Type} {B : Nat} (w0 : World) (hB : w0.heap.size ≤ B) (p : β → Prop) : OwnFrom B (fun s W => Ext w0 W ∧ p s) :=
  fun _ _ _ _ hs hg hr => ⟨hs.1.trans_own hg (fun k e => Nat.le_trans hB (hr k e).1), hs.2⟩
theorem seq6_all (t : Timing) (h : ∀ x ∈ seq6, isTime (tnth t x.val) = true) : timingOk t = true := by
  rw [timingOk_nth]
  intro k hk
  exact h ⟨k, hk⟩ (by
    have hall : ∀ x : Fin 6, x ∈ seq6 := by decide
    exact hall _)

end Go.Proofs.YtlpboikonnpjbaaGreat

/-
  Two parameters are equal when both their numbers are.
-/
namespace Go.Proofs.YtlpboikonnpjbaaGreat
open Go.RowKit

/-- Two parameters, by their four numbers. -/
def eqP (a b c d : Int) : Bool := decide ((⟨a, b⟩ : Param) = ⟨c, d⟩)
@[go_sem high] theorem eq_prm (a b c d : Int) (w : World) : (binOp .eql 50 (.agg #[.int .i64 a, .int .i64 b]) (.agg #[.int .i64 c, .int .i64 d])).run Tryz.prog w = .ok (.bool (eqP a b c d)) w := by
  have hS : Tryz.prog.underlying 50 = some (.struct (Tryz.prog.fieldsOf 50)) := by kernel_rfl
  have hp : Tryz.prog.stoodInHeld 50 = false := by kernel_rfl
  rw [run_eql_struct, show (10000 : Nat) = 9999 + 1 from rfl, run_equalIn_agg w 9999 50 _ _ hS hp]
  simp only [Program.fieldsOf, Tryz.underlying50]
  go_simp
  unfold eqP
  by_cases h1 : a = c <;> by_cases h2 : b = d <;> simp [h1, h2]
@[go_sem] theorem guard_prm (op : BinOp) (x y : Operand) (xs ys : Array Value) (w : World) : (eqGuard op 50 x y (.agg xs) (.agg ys)).run Tryz.prog w = .ok () w := run_eqGuard_agg w op _ x y xs ys (by kernel_rfl)
/-- The test of two parameters, read. -/
theorem eqP_def (p q : Param) : eqP p.ch p.attr q.ch q.attr = decide (p = q) := rfl
/-- A call that leaves the world alone, in a class of grown worlds. -/
theorem Calls.grows_same {P : Program} {f : FuncId} {args : Array Value} {w : World} {y : Gr} {v : Value} (h : Calls P f args (xt w y) fun e w' => e = .returned v ∧ xt w y = w') :
    Calls P f args (xt w y) fun e w'' => e = .returned v ∧ ∃ z, w'' = xt w z :=
  h.mono fun _ _ ⟨he, hx⟩ => ⟨he, y, hx.symm⟩
end Go.Proofs.YtlpboikonnpjbaaGreat

/-
  Structs of numbers are equal when all their numbers are.
-/
namespace Go.Proofs.YtlpboikonnpjbaaGreat
open Go.RowKit

def eqT (s t : Timing) : Bool := decide (s = t)
def eqV (s t : Val) : Bool := decide (s = t)
def eqM (s t : Move) : Bool := decide (s = t)
theorem eqT_self (s : Timing) : eqT s s = true := by simp [eqT]
theorem eqM_self (s : Move) : eqM s s = true := by simp [eqM]
section
variable (w : World)
@[go_sem high] theorem eqIn_tmg (a b c d e f a' b' c' d' e' f' : Int) : (Op.equalIn 10000 258 (.agg #[.int .i64 a, .int .i64 b, .int .i64 c, .int .i64 d, .int .i64 e, .int .i64 f]) (.agg #[.int .i64 a', .int .i64 b', .int .i64 c', .int .i64 d', .int .i64 e', .int .i64 f'])).run Tryz.prog w = .ok (eqT ⟨a, b, c, d, e, f⟩ ⟨a', b', c', d', e', f'⟩) w := by
  have hS : Tryz.prog.underlying 258 = some (.struct (Tryz.prog.fieldsOf 258)) := by kernel_rfl
  have hp : Tryz.prog.stoodInHeld 258 = false := by kernel_rfl
  rw [show (10000 : Nat) = 9999 + 1 from rfl, run_equalIn_agg w 9999 258 _ _ hS hp]
  simp only [Program.fieldsOf, Tryz.underlying258]
  go_simp
  unfold eqT
  simp only [Timing.mk.injEq]
  by_cases h1 : a = a'
  · by_cases h2 : b = b'
    · by_cases h3 : c = c'
      · by_cases h4 : d = d'
        · by_cases h5 : e = e'
          · by_cases h6 : f = f' <;> simp [h1, h2, h3, h4, h5, h6]
          · simp [h1, h2, h3, h4, h5]
        · simp [h1, h2, h3, h4]
      · simp [h1, h2, h3]
    · simp [h1, h2]
  · simp [h1]
theorem eqIn_prm (a b a' b' : Int) : (Op.equalIn 9999 50 (.agg #[.int .i64 a, .int .i64 b]) (.agg #[.int .i64 a', .int .i64 b'])).run Tryz.prog w = .ok (decide (a = a') && decide (b = b')) w := by
  have hS : Tryz.prog.underlying 50 = some (.struct (Tryz.prog.fieldsOf 50)) := by kernel_rfl
  have hp : Tryz.prog.stoodInHeld 50 = false := by kernel_rfl
  rw [show (9999 : Nat) = 9998 + 1 from rfl, run_equalIn_agg w 9998 50 _ _ hS hp]
  simp only [Program.fieldsOf, Tryz.underlying50]
  go_simp
  by_cases h1 : a = a' <;> by_cases h2 : b = b' <;> simp [h1, h2]
theorem eqIn_val (a b a' b' : Int) : (Op.equalIn 9999 210 (.agg #[.int .i64 a, .int .i64 b]) (.agg #[.int .i64 a', .int .i64 b'])).run Tryz.prog w = .ok (decide (a = a') && decide (b = b')) w := by
  have hS : Tryz.prog.underlying 210 = some (.struct (Tryz.prog.fieldsOf 210)) := by kernel_rfl
  have hp : Tryz.prog.stoodInHeld 210 = false := by kernel_rfl
  rw [show (9999 : Nat) = 9998 + 1 from rfl, run_equalIn_agg w 9998 210 _ _ hS hp]
  simp only [Program.fieldsOf, Tryz.underlying210]
  go_simp
  by_cases h1 : a = a' <;> by_cases h2 : b = b' <;> simp [h1, h2]
@[go_sem high] theorem eqIn_mv (a b c d e a' b' c' d' e' : Int) : (Op.equalIn 10000 269 (.agg #[.int .i64 a, .int .i64 b, .int .i64 c, .int .i64 d, .int .i64 e]) (.agg #[.int .i64 a', .int .i64 b', .int .i64 c', .int .i64 d', .int .i64 e'])).run Tryz.prog w = .ok (eqM ⟨⟨a, b⟩, ⟨c, d⟩, e⟩ ⟨⟨a', b'⟩, ⟨c', d'⟩, e'⟩) w := by
  have hS : Tryz.prog.underlying 269 = some (.struct (Tryz.prog.fieldsOf 269)) := by kernel_rfl
  have hp : Tryz.prog.stoodInHeld 269 = false := by kernel_rfl
  have e1 := fun w => eqIn_prm w a b a' b'
  have e2 := fun w => eqIn_val w c d c' d'
  rw [show (10000 : Nat) = 9999 + 1 from rfl, run_equalIn_agg w 9999 269 _ _ hS hp]
  simp only [Program.fieldsOf, Tryz.underlying269]
  go_simp
  unfold eqM
  simp only [Move.mk.injEq, Param.mk.injEq, Val.mk.injEq]
  by_cases h1 : a = a'
  · by_cases h2 : b = b'
    · by_cases h3 : c = c'
      · by_cases h4 : d = d'
        · by_cases h5 : e = e' <;> simp [h1, h2, h3, h4, h5]
        · simp [h1, h2, h3, h4]
      · simp [h1, h2, h3]
    · simp [h1, h2]
  · simp [h1]
@[go_sem] theorem guard_tmg (op : BinOp) (x y : Operand) (xs ys : Array Value) : (eqGuard op 258 x y (.agg xs) (.agg ys)).run Tryz.prog w = .ok () w := run_eqGuard_agg w op _ x y xs ys (by kernel_rfl)
@[go_sem] theorem guard_mv (op : BinOp) (x y : Operand) (xs ys : Array Value) : (eqGuard op 269 x y (.agg xs) (.agg ys)).run Tryz.prog w = .ok () w := run_eqGuard_agg w op _ x y xs ys (by kernel_rfl)
end
end Go.Proofs.YtlpboikonnpjbaaGreat

namespace Go.Proofs.YtlpboikonnpjbaaGreat
open Go.RowKit

/-! ### The part of a parameter -/
def inV (l : List Move) (p : Param) : Int := match l.find? (fun m => decide (m.p = p)) with | some m => m.part | none => 1
def placeV (l : List Move) (p : Param) : Int := match l.findIdx? (fun m => decide (m.p = p)) with | some i => i | none => -1
def givenE (c : Cue) (p : Param) : Int := if cueE c ≠ 0 then cueE c else paramE p
def partV (c : Cue) (p : Param) : Int × Int := if givenE c p ≠ 0 then (0, givenE c p) else (inV c.moves p, 0)
def emptyT : Timing := ⟨0, 0, 0, 0, 0, 0⟩
/-- The times of a parameter in a right cue. -/
def partOf (c : Cue) (p : Param) : Timing := (c.parts[(inV c.moves p).toNat - 1]?).getD emptyT
def ofV (c : Cue) (p : Param) (r : Bool) : Int × Int × Int := if givenE c p ≠ 0 then (0, 0, givenE c p) else ((partOf c p).del, taken (partOf c p) p.attr r, 0)

theorem found_iff {l : List Move} (h : scan moveE none l = 0) (p : Param) : (foundP l p = true → ∃ m, l[posP l p]? = some m ∧ m.p = p ∧ l.find? (fun m => decide (m.p = p)) = some m) ∧ (foundP l p = false → l.find? (fun m => decide (m.p = p)) = none) := by
  constructor
  · intro hf
    unfold foundP at hf
    split at hf
    · rename_i m hm
      have hmp : m.p = p := by simpa using hf
      refine ⟨m, hm, hmp, ?_⟩
      rw [List.find?_eq_some_iff_getElem]
      obtain ⟨hlt, hx⟩ := List.getElem?_eq_some_iff.1 hm
      refine ⟨by simpa using hmp, posP l p, hlt, hx, fun j hj => ?_⟩
      have hb := (posP_iff h p (List.getElem?_eq_getElem (by omega : j < l.length))).2 hj
      simp only [Bool.not_eq_true', decide_eq_false_iff_not]
      intro he
      rw [he, before_irrefl] at hb; cases hb
    · cases hf
  · intro hf
    rw [List.find?_eq_none]
    intro a ha
    obtain ⟨i, hi, rfl⟩ := List.getElem_of_mem ha
    simp only [decide_eq_true_eq]
    intro he
    have h1 : ¬ i < posP l p := fun h2 => by
      have := (posP_iff h p (List.getElem?_eq_getElem hi)).2 h2
      rw [he, before_irrefl] at this; cases this
    obtain ⟨x, hx⟩ : ∃ x, l[posP l p]? = some x := ⟨_, List.getElem?_eq_getElem (by omega)⟩
    unfold foundP at hf
    rw [hx] at hf
    simp only [decide_eq_false_iff_not] at hf
    rcases Nat.lt_or_ge (posP l p) i with h2 | h2
    · have h3 := movesOk_lt h (i - posP l p - 1) (posP l p) x l[i] hx (by rw [show posP l p + (i - posP l p - 1) + 1 = i by omega]; exact List.getElem?_eq_getElem hi)
      rw [he] at h3
      exact absurd ((posP_iff h p hx).1 h3) (by omega)
    · have h4 : posP l p = i := by omega
      rw [h4, List.getElem?_eq_getElem hi] at hx
      injection hx with hx
      exact hf (by rw [← hx]; exact he)
theorem part_range {c : Cue} (h : cueE c = 0) (p : Param) : 1 ≤ inV c.moves p ∧ inV c.moves p ≤ c.parts.length ∧ c.parts.length ≤ 4 ∧ 1 ≤ c.parts.length := by
  obtain ⟨_, _, hm, hp, _⟩ := cueE_ok h
  have hs := (movesE_scan hm).2
  unfold partsE timesE at hp
  have h1 : c.parts.length ≠ 0 ∧ ¬ 4 < c.parts.length ∧ (c.moves.any fun m => decide ((c.parts.length : Int) < m.part)) = false := by grind
  obtain ⟨h2, h3, h4⟩ := h1
  unfold inV
  split
  · rename_i m hmf
    have hmem := List.mem_of_find?_eq_some hmf
    obtain ⟨i, hi, hx⟩ := List.getElem_of_mem hmem
    have h5 := scan_ok moveE c.moves hs i m (by rw [List.getElem?_eq_getElem hi, hx])
    have h6 : 1 ≤ m.part := by unfold moveE moveE1 at h5; grind
    have h7 := List.any_eq_false.1 h4 m hmem
    simp at h7
    omega
  · omega

end Go.Proofs.YtlpboikonnpjbaaGreat

/-
  The part of a parameter in a cue, and its delay and time: the reference's and the program's.
-/
namespace Go.Proofs.YtlpboikonnpjbaaGreat
open Go.RowKit

theorem place_in (l : List Move) (p : Param) : (placeV l p = -1 ∧ inV l p = 1) ∨ ∃ (i : Nat) (m : Move), placeV l p = (i : Int) ∧ l[i]? = some m ∧ inV l p = m.part := by
  unfold placeV inV
  cases h : l.findIdx? (fun m => decide (m.p = p)) with
  | none =>
    left
    rw [List.findIdx?_eq_none_iff] at h
    rw [List.find?_eq_none.2 (fun m hm => by simpa using h m hm)]
    exact ⟨rfl, rfl⟩
  | some i =>
    right
    obtain ⟨hlt, hp, hj⟩ := List.findIdx?_eq_some_iff_getElem.1 h
    refine ⟨i, l[i], rfl, List.getElem?_eq_getElem hlt, ?_⟩
    rw [show l.find? (fun m => decide (m.p = p)) = some l[i] from List.find?_eq_some_iff_getElem.2 ⟨hp, i, hlt, rfl, fun j hj' => by simpa using hj j hj'⟩]

section
variable (c : Cue) (A : Option Addr) (k : Nat) (B : Option Addr) (m : Nat) (p : Param) (w : World) (hc : CueAt w c A k B m)
include hc
end

end Go.Proofs.YtlpboikonnpjbaaGreat

/-
  The delay and the time of a parameter in a cue.
-/
namespace Go.Proofs.YtlpboikonnpjbaaGreat
open Go.RowKit

theorem ret_iii {a b x y u v : Int} (h : (a, x, u) = (b, y, v)) : Ending.returned (.tuple #[.int .i64 a, .int .i64 x, .int .i64 u]) = .returned (.tuple #[.int .i64 b, .int .i64 y, .int .i64 v]) := by
  injection h with h1 h2; injection h2 with h2 h3; rw [h1, h2, h3]
theorem timesE_ok {l : List Timing} (h : timesE l = 0) (t : Timing) (ht : t ∈ l) : timingE t = 0 := by
  unfold timesE at h
  unfold timingE
  grind
theorem partsE_ok {c : Cue} (h : cueE c = 0) : timesE c.parts = 0 := by
  have := (cueE_ok h).2.2.2.1
  unfold partsE at this
  grind
/-- Where the times of a parameter lie. -/
theorem part_at {c : Cue} (h : cueE c = 0) (p : Param) : ∃ (j : Nat) (t : Timing), inV c.moves p = (j : Int) + 1 ∧ c.parts[j]? = some t ∧ partOf c p = t ∧ timingE t = 0 := by
  obtain ⟨h1, h2, _, _⟩ := part_range h p
  obtain ⟨j, hj⟩ : ∃ j : Nat, inV c.moves p = (j : Int) + 1 := ⟨(inV c.moves p - 1).toNat, by omega⟩
  have hlt : j < c.parts.length := by omega
  refine ⟨j, c.parts[j], hj, List.getElem?_eq_getElem hlt, ?_, timesE_ok (partsE_ok h) _ (List.getElem_mem hlt)⟩
  unfold partOf
  rw [hj, show ((j : Int) + 1).toNat - 1 = j by omega, List.getElem?_eq_getElem hlt]
  rfl
theorem givenE_ok {c : Cue} {p : Param} (h : givenE c p = 0) : cueE c = 0 ∧ paramE p = 0 := by unfold givenE at h; grind
theorem paramE_attr {p : Param} (h : paramE p = 0) : attrE p.attr = 0 := by unfold paramE at h; unfold attrE; grind

theorem kept {W w' : World} (h : Ext W w') : (∀ q, (W.cell? q).isSome = true → w'.cell? q = W.cell? q) ∧ Ext W w' := ⟨fun q hq => by
  obtain ⟨v, hv⟩ := Option.isSome_iff_exists.1 hq
  rw [hv, h.cell hv], h⟩

section
variable (c : Cue) (A : Option Addr) (k : Nat) (B : Option Addr) (m : Nat) (p : Param) (r : Bool) (w : World) (hc : CueAt w c A k B m)
include hc
end
end Go.Proofs.YtlpboikonnpjbaaGreat
