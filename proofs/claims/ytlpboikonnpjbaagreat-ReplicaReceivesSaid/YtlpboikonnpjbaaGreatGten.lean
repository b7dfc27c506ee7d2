/-
  The total of a cue: the reference's and the program's.
-/
import Derived.Test.YtlpboikonnpjbaaGreatGtim
import Derived.Test.YtlpboikonnpjbaaGreatGtail
namespace Go.Proofs.YtlpboikonnpjbaaGreat
open Go.RowKit

@[go_sem high] theorem max_2 {P : Program} (ts : Array TypeId) (t : TypeId) (k k' : IntKind) (x y : Int) (w : World) : (Builtin.max_ ts t #[.int k x, .int k' y]).run P w = .ok (.int k (max x y)) w := by
  rw [run_max_int2]; congr 2; grind
@[go_sem high] theorem min_2 {P : Program} (ts : Array TypeId) (t : TypeId) (k k' : IntKind) (x y : Int) (w : World) : (Builtin.min_ ts t #[.int k x, .int k' y]).run P w = .ok (.int k (min x y)) w := by
  rw [run_min_int2]; congr 2; grind
@[go_sem high] theorem max_5 {P : Program} (ts : Array TypeId) (t : TypeId) (k : IntKind) (a b c d e : Int) (w : World) : (Builtin.max_ ts t #[.int k a, .int k b, .int k c, .int k d, .int k e]).run P w = .ok (.int k (max (max (max (max a b) c) d) e)) w := by
  simp [Builtin.max_, Builtin.max2]
  grind
theorem val_i {k : IntKind} {a b : Int} (h : a = b) : Value.int k a = Value.int k b := by rw [h]
/-- The greatest time of a part. -/
def most (t : Timing) : Int := max (max (max (max t.up t.down) t.pos) t.col) t.beam
/-- The greatest time of parts with their delays. -/
def total (l : List Timing) : Int := l.foldl (fun m t => max m (t.del + most t)) 0
def totalV (c : Cue) : Int × Int := if cueE c ≠ 0 then (0, cueE c) else (total c.parts, 0)

theorem total_step {l : List Timing} {k : Nat} {t : Timing} (h : l[k]? = some t) : total (l.take (k + 1)) = max (total (l.take k)) (t.del + most t) := by
  unfold total
  rw [List.take_add_one, h, List.foldl_append]
  rfl
theorem timing_in {t : Timing} (h : timingE t = 0) : (0 ≤ t.up ∧ t.up ≤ 10000000) ∧ (0 ≤ t.down ∧ t.down ≤ 10000000) ∧ (0 ≤ t.pos ∧ t.pos ≤ 10000000) ∧ (0 ≤ t.col ∧ t.col ≤ 10000000) ∧ (0 ≤ t.beam ∧ t.beam ≤ 10000000) ∧ (0 ≤ t.del ∧ t.del ≤ 10000000) := by
  have h1 : timingOk t = true := by
    unfold timingE at h
    split at h
    · assumption
    · omega
  simp only [timingOk, isTime, Bool.and_eq_true, decide_eq_true_eq] at h1
  omega
theorem total_in (l : List Timing) (h : ∀ t ∈ l, timingE t = 0) : 0 ≤ total l ∧ total l ≤ 20000000 := by
  unfold total
  suffices H : ∀ (l : List Timing) (a : Int), (∀ t ∈ l, timingE t = 0) → 0 ≤ a → a ≤ 20000000 → 0 ≤ l.foldl (fun m t => max m (t.del + most t)) a ∧ l.foldl (fun m t => max m (t.del + most t)) a ≤ 20000000 from H l 0 h (by omega) (by omega)
  intro l
  induction l with
  | nil => intro a _ h1 h2; exact ⟨h1, h2⟩
  | cons t l ih =>
    intro a hl h1 h2
    have ht := timing_in (hl t (by simp))
    unfold most at ih
    simp only [List.foldl_cons, most]
    exact ih _ (fun x hx => hl x (by simp [hx])) (by omega) (by omega)

section
variable (c : Cue) (A : Option Addr) (k : Nat) (B : Option Addr) (m : Nat) (w : World) (hc : CueAt w c A k B m)
include hc
end
end Go.Proofs.YtlpboikonnpjbaaGreat

/-
  A part at a percentage: the reference's.
-/
namespace Go.Proofs.YtlpboikonnpjbaaGreat
open Go.RowKit

/-- A time at a percentage. -/
def scl (v p : Int) : Int := min ((200 * v + p) / (2 * p)) 10000000
def scaleT (t : Timing) (p : Int) : Timing := ⟨scl t.up p, scl t.down p, scl t.pos p, scl t.col p, scl t.beam p, scl t.del p⟩
def scaleV (t : Timing) (p : Int) : Timing × Int := if timingE t ≠ 0 then (emptyT, timingE t) else if p < 1 ∨ 400 < p then (emptyT, 2) else (scaleT t p, 0)

end Go.Proofs.YtlpboikonnpjbaaGreat

/-
  A part at a percentage: the program's, by a range over the iterator of its times, each written anew.
-/
namespace Go.Proofs.YtlpboikonnpjbaaGreat
open Go.RowKit
attribute [local go_sem] Oper.semAt_some

/-- A part with another number at a place. -/
def putT (t : Timing) (k : Nat) (v : Int) : Timing :=
  match k with
  | 0 => { t with up := v }
  | 1 => { t with down := v }
  | 2 => { t with pos := v }
  | 3 => { t with col := v }
  | 4 => { t with beam := v }
  | _ => { t with del := v }
/-- A part of which some times are at the percentage. -/
def stT (t : Timing) (p : Int) (pre : List (Fin 6)) : Timing := pre.foldl (fun s x => putT s x.val (scl (tnth s x.val) p)) t
theorem stT_snoc (t : Timing) (p : Int) (pre : List (Fin 6)) (x : Fin 6) : stT t p (pre ++ [x]) = putT (stT t p pre) x.val (scl (tnth (stT t p pre) x.val) p) := by
  unfold stT; rw [List.foldl_append]; rfl
theorem stT_all (t : Timing) (p : Int) : stT t p seq6 = scaleT t p := rfl
theorem scl_in {v p : Int} (h1 : 0 ≤ v) (h2 : v ≤ 10000000) (h3 : 1 ≤ p) (h4 : p ≤ 400) : 0 ≤ scl v p ∧ scl v p ≤ 10000000 := by
  unfold scl
  have : 0 ≤ (200 * v + p) / (2 * p) := Int.ediv_nonneg (by omega) (by omega)
  omega
theorem scl_wraps {v p : Int} (h1 : 0 ≤ v) (h2 : v ≤ 10000000) (h3 : 1 ≤ p) (h4 : p ≤ 400) : IntKind.i64.wrap (200 * v) = 200 * v ∧ IntKind.i64.wrap (200 * v + p) = 200 * v + p ∧ IntKind.i64.wrap (2 * p) = 2 * p ∧ IntKind.i64.wrap ((200 * v + p).tdiv (2 * p)) = (200 * v + p) / (2 * p) ∧ ¬ p = 0 :=
  ⟨IntWalk.i64_in _ (by omega), IntWalk.i64_in _ (by omega), IntWalk.i64_in _ (by omega), IntWalk.i64_quo _ _ (by omega), by omega⟩
theorem tnth_in {t : Timing} (h : timingE t = 0) (k : Nat) (hk : k < 6) : 0 ≤ tnth t k ∧ tnth t k ≤ 10000000 := by
  have := timing_in h
  rcases (by omega : k = 0 ∨ k = 1 ∨ k = 2 ∨ k = 3 ∨ k = 4 ∨ k = 5) with rfl | rfl | rfl | rfl | rfl | rfl
  all_goals (simp only [tnth]; omega)
theorem putT_ok {t : Timing} (h : timingE t = 0) (k : Nat) (v : Int) (h1 : 0 ≤ v) (h2 : v ≤ 10000000) : timingE (putT t k v) = 0 := by
  have := timing_in h
  have h3 : timingOk (putT t k v) = true := by
    unfold putT timingOk isTime
    split
    all_goals (simp only [Bool.and_eq_true, decide_eq_true_eq]; omega)
  unfold timingE; rw [h3]; rfl
theorem stT_ok {t : Timing} (h : timingE t = 0) {p : Int} (h3 : 1 ≤ p) (h4 : p ≤ 400) (pre : List (Fin 6)) : timingE (stT t p pre) = 0 := by
  unfold stT
  induction pre generalizing t with
  | nil => exact h
  | cons x l ih =>
    have hx := tnth_in h x.val x.isLt
    have hs := scl_in hx.1 hx.2 h3 h4
    exact ih (putT_ok h _ _ hs.1 hs.2)
theorem keeps_xt (w : World) (y : Gr) : KeepsOthers w (xt w y) := ⟨by simp [xt_size], fun k o hk _ => by
  show (w.heap ++ y.objs)[k]? = some o
  rw [Array.getElem?_append_left (Array.getElem?_eq_some_iff.1 hk).1]; exact hk⟩
theorem xt_high (w1 w2 : World) (z : Gr) (D : Nat) (h : w1.heap.size = w2.heap.size) (hD : w1.heap.size ≤ D) : (xt w1 z).heap[D]? = (xt w2 z).heap[D]? := by
  unfold xt
  simp only []
  rw [Array.getElem?_append_right hD, Array.getElem?_append_right (by omega), h]
theorem ownFrom_ext' {β : Type} {B : Nat} (w0 : β → World) (q : Prop) (hB : ∀ s, (w0 s).heap.size ≤ B) : OwnFrom B (fun s W => Ext (w0 s) W ∧ q) :=
  fun s _ _ _ hs hg hr => ⟨hs.1.trans_own hg (fun k e => Nat.le_trans (hB s) (hr k e).1), hs.2⟩

end Go.Proofs.YtlpboikonnpjbaaGreat

/-
  The examples of the chapter on timing: the cue, and that all its answers are right.
-/
namespace Go.Proofs.YtlpboikonnpjbaaGreat
open Go.RowKit

def at9 : Val := ⟨0, 9⟩
def slowC : Cue := ⟨⟨#[49]⟩, ⟨#[]⟩, [⟨⟨1, 0⟩, at9, 1⟩, ⟨⟨1, 1⟩, at9, 2⟩], [⟨1000, 2000, 500, 0, 0, 0⟩, ⟨3000, 3000, 3000, 3000, 3000, 100⟩], false, false, -1, ⟨#[]⟩, 0⟩
theorem dot_one : dotAt ⟨#[49]⟩ = -1 := by decide
theorem numE_one : numE ⟨#[49]⟩ = 0 := by
  have h1 : whole ⟨#[49]⟩ = ⟨#[49]⟩ := by unfold whole; rw [dot_one]; rfl
  have h2 : rest ⟨#[49]⟩ = ByteArray.empty := by unfold rest; rw [dot_one]; rfl
  have h3 : point ⟨#[49]⟩ = false := by unfold point; rw [dot_one]; rfl
  unfold numE digs
  rw [h1, h2, h3, Lib.toList_data]
  decide
theorem nextE_none (c : Cue) (h1 : c.follow = -1) (h2 : c.link = ⟨#[]⟩) (h3 : c.loops = 0) : nextE c = 0 := by
  unfold nextE
  rw [h1, h2, h3, Lib.toList_data]
  simp
theorem slow_ok : cueE slowC = 0 := by
  unfold cueE
  rw [show numE slowC.number = 0 from numE_one, nextE_none slowC rfl rfl rfl]
  decide
theorem slow_of1 : ofV slowC ⟨1, 0⟩ true = (0, 1000, 0) := by
  unfold ofV givenE; rw [slow_ok]; decide
theorem slow_of2 : ofV slowC ⟨1, 0⟩ false = (0, 2000, 0) := by
  unfold ofV givenE; rw [slow_ok]; decide
theorem slow_of3 : ofV slowC ⟨1, 1⟩ true = (100, 3000, 0) := by
  unfold ofV givenE; rw [slow_ok]; decide
theorem slow_of4 : ofV slowC ⟨2, 2⟩ true = (0, 500, 0) := by
  unfold ofV givenE; rw [slow_ok]; decide
theorem slow_total : totalV slowC = (3100, 0) := by
  unfold totalV; rw [slow_ok]; decide
theorem slow_scale : scaleV ⟨3000, 3000, 3000, 3000, 3000, 100⟩ 200 = (⟨1500, 1500, 1500, 1500, 1500, 50⟩, 0) := by decide

theorem flat_at {α : Type} {size : Nat} : ∀ (rows : List (List α)) (_ : ∀ r ∈ rows, r.length = size) (i : Nat) (row : List α), rows[i]? = some row → ∀ j, j < size → rows.flatten[i * size + j]? = row[j]?
  | [], _, _, _, h, _, _ => by simp at h
  | r :: rs, hr, 0, row, h, j, hj => by
    have h0 : r = row := by simpa using h
    subst h0
    rw [List.flatten_cons, Nat.zero_mul, Nat.zero_add, List.getElem?_append_left (by rw [hr r (by simp)]; exact hj)]
  | r :: rs, hr, i + 1, row, h, j, hj => by
    have hl := hr r (by simp)
    rw [List.flatten_cons, List.getElem?_append_right (by rw [hl, Nat.succ_mul]; omega), hl, show (i + 1) * size + j - size = i * size + j by rw [Nat.succ_mul]; omega]
    exact flat_at rs (fun x hx => hr x (by simp [hx])) i row (by simpa using h) j hj
/-- A new block that is filled with rows. -/
theorem Sl.alloc {w : World} {size : Nat} {rows : List (List Value)} {T : TypeId} (h : ∀ r ∈ rows, r.length = size) : Sl (w.alloc (.cells rows.flatten.toArray T)) (some ⟨w.heap.size, 0, none⟩) size rows :=
  ⟨fun i row hr => ⟨h row (List.mem_of_getElem? hr), w.heap.size, 0, rfl, fun j v hv => by
    have hj : j < size := by rw [← h row (List.mem_of_getElem? hr)]; exact (List.getElem?_eq_some_iff.1 hv).1
    have := flat_at rows h i row hr j hj
    simp only [Nat.zero_add]
    unfold World.cell?
    rw [World.alloc_heap_new]
    simp [this, hv]⟩⟩
theorem Sl.alloc' {w : World} {n size : Nat} {cells : Array Value} {rows : List (List Value)} {T : TypeId} (hs : w.heap.size = n) (hc : cells = rows.flatten.toArray) (h : ∀ r ∈ rows, r.length = size) : Sl (w.alloc (.cells cells T)) (some ⟨n, 0, none⟩) size rows := by
  subst hs hc; exact Sl.alloc h

end Go.Proofs.YtlpboikonnpjbaaGreat

/-
  Small cues, and the first laws of the chapter of times.
-/
namespace Go.Proofs.YtlpboikonnpjbaaGreat
open Go.RowKit

def few (c : Cue) : Bool := decide (c.number.size ≤ 40) && decide (c.label.size ≤ 100) && decide (c.link.size ≤ 40) && decide (c.parts.length ≤ 10) && decide (c.moves.length ≤ 300)

set_option maxHeartbeats 400000 in
theorem r16_FewMoves (A : Option Addr) (c : Nat) (l : List Move) (w : World) : Calls Tryz.prog 139 #[.slice A l.length c] w fun e w' => e = .returned (.bool (decide (l.length ≤ 300))) ∧ w = w' := by
  go_enter Tryz.func139, Tryz.ntmps139
  go_wp2
  go_ret
  exact ⟨ret_b (by simp; try omega), rfl⟩
set_option maxHeartbeats 400000 in
theorem r16_Few (c : Cue) (A : Option Addr) (k : Nat) (B : Option Addr) (m : Nat) (w : World) : Calls Tryz.prog 86 #[.agg (cueV c A k B m).toArray] w fun e w' => e = .returned (.bool (few c)) ∧ Ext w w' := by
  simp only [cueV]
  go_enter Tryz.func86, Tryz.ntmps86
  go_wp2_with (go_at_call 139; refine (r16_FewMoves _ _ _ _).mono ?_; rintro e w' ⟨rfl, rfl⟩)
  all_goals
    go_ret
    go_light
    refine ⟨ret_b ?_, by repeat (first | exact Ext.refl _ | assumption | apply Ext.xt | apply Ext.alloc | apply Ext.drew | apply Ext.drewN)⟩
    first | grind [few] | (simp [few]; omega)

end Go.Proofs.YtlpboikonnpjbaaGreat
