/-
  The examples of the chapter on timing: the cue, and that all its answers are right.
-/
import Derived.Test.YtgmicckeefoghaaTim9
namespace Go.Proofs.Ytgmicckeefoghaa
open Go.RowKit

def at9 : Val := ⟨0, 9⟩
def slowC : Cue := ⟨⟨#[49]⟩, ⟨#[]⟩, [⟨⟨1, 0⟩, at9, 1⟩, ⟨⟨1, 1⟩, at9, 2⟩], [⟨1000, 2000, 500, 0, 0, 0⟩, ⟨3000, 3000, 3000, 3000, 3000, 100⟩], false, false, -1, ⟨#[]⟩, 0⟩
theorem dot_one : dotAt ⟨#[49]⟩ = -1 := by decide
theorem numE_one : numE ⟨#[49]⟩ = 0 := by
  have h1 : whole ⟨#[49]⟩ = ⟨#[49]⟩ := by unfold whole; rw [dot_one]; rfl
  have h2 : rest ⟨#[49]⟩ = ByteArray.empty := by unfold rest; rw [dot_one]; rfl
  have h3 : point ⟨#[49]⟩ = false := by unfold point; rw [dot_one]; rfl
  unfold numE digs
  rw [h1, h2, h3, Lib.toList_data]
  decide
theorem nextE_none (c : Cue) (h1 : c.follow = -1) (h2 : c.link = ⟨#[]⟩) (h3 : c.loops = 0) : nextE c = 0 := by
  unfold nextE
  rw [h1, h2, h3, Lib.toList_data]
  simp
theorem slow_ok : cueE slowC = 0 := by
  unfold cueE
  rw [show numE slowC.number = 0 from numE_one, nextE_none slowC rfl rfl rfl]
  decide
theorem slow_of1 : ofV slowC ⟨1, 0⟩ true = (0, 1000, 0) := by
  unfold ofV givenE; rw [slow_ok]; decide
theorem slow_of2 : ofV slowC ⟨1, 0⟩ false = (0, 2000, 0) := by
  unfold ofV givenE; rw [slow_ok]; decide
theorem slow_of3 : ofV slowC ⟨1, 1⟩ true = (100, 3000, 0) := by
  unfold ofV givenE; rw [slow_ok]; decide
theorem slow_of4 : ofV slowC ⟨2, 2⟩ true = (0, 500, 0) := by
  unfold ofV givenE; rw [slow_ok]; decide
theorem slow_total : totalV slowC = (3100, 0) := by
  unfold totalV; rw [slow_ok]; decide
theorem slow_scale : scaleV ⟨3000, 3000, 3000, 3000, 3000, 100⟩ 200 = (⟨1500, 1500, 1500, 1500, 1500, 50⟩, 0) := by decide

theorem flat_at {α : Type} {size : Nat} : ∀ (rows : List (List α)) (_ : ∀ r ∈ rows, r.length = size) (i : Nat) (row : List α), rows[i]? = some row → ∀ j, j < size → rows.flatten[i * size + j]? = row[j]?
  | [], _, _, _, h, _, _ => by simp at h
  | r :: rs, hr, 0, row, h, j, hj => by
    have h0 : r = row := by simpa using h
    subst h0
    rw [List.flatten_cons, Nat.zero_mul, Nat.zero_add, List.getElem?_append_left (by rw [hr r (by simp)]; exact hj)]
  | r :: rs, hr, i + 1, row, h, j, hj => by
    have hl := hr r (by simp)
    rw [List.flatten_cons, List.getElem?_append_right (by rw [hl, Nat.succ_mul]; omega), hl, show (i + 1) * size + j - size = i * size + j by rw [Nat.succ_mul]; omega]
    exact flat_at rs (fun x hx => hr x (by simp [hx])) i row (by simpa using h) j hj
/-- A new block that is filled with rows. -/
theorem Sl.alloc {w : World} {size : Nat} {rows : List (List Value)} {T : TypeId} (h : ∀ r ∈ rows, r.length = size) : Sl (w.alloc (.cells rows.flatten.toArray T)) (some ⟨w.heap.size, 0, none⟩) size rows :=
  ⟨fun i row hr => ⟨h row (List.mem_of_getElem? hr), w.heap.size, 0, rfl, fun j v hv => by
    have hj : j < size := by rw [← h row (List.mem_of_getElem? hr)]; exact (List.getElem?_eq_some_iff.1 hv).1
    have := flat_at rows h i row hr j hj
    simp only [Nat.zero_add]
    unfold World.cell?
    rw [World.alloc_heap_new]
    simp [this, hv]⟩⟩
theorem Sl.alloc' {w : World} {n size : Nat} {cells : Array Value} {rows : List (List Value)} {T : TypeId} (hs : w.heap.size = n) (hc : cells = rows.flatten.toArray) (h : ∀ r ∈ rows, r.length = size) : Sl (w.alloc (.cells cells T)) (some ⟨n, 0, none⟩) size rows := by
  subst hs hc; exact Sl.alloc h

set_option maxHeartbeats 400000 in
theorem r15_At (n : Int) (w : World) : Calls Try.prog 90 #[.int .i64 n] w fun e w' => e = .returned (.agg #[.int .i64 0, .int .i64 n]) ∧ Ext w w' := by
  go_enter Try.func90, Try.ntmps90
  go_wp2
  exact bodyPost_ret (v := .agg #[.int .i64 0, .int .i64 n]) (by simp [results, Try.results90, go_sem]) rfl ⟨rfl, by repeat (first | exact Ext.refl _ | assumption | apply Ext.xt | apply Ext.alloc | apply Ext.drew | apply Ext.drewN)⟩
set_option maxHeartbeats 1600000 in
set_option maxRecDepth 100000 in
theorem l21_Slow (w : World) : Calls Try.prog 80 #[] w fun e w' => ∃ A B, e = .returned (.agg (cueV slowC A 2 B 2).toArray) ∧ Ext w w' ∧ CueAt w' slowC A 2 B 2 := by
  go_enter Try.func80, Try.ntmps80
  go_wp2_with (go_at_call 90; refine (r15_At _ _).mono ?_; rintro e w' ⟨rfl, hx⟩; obtain ⟨y, rfl⟩ := hx.get; clear hx)
  rename_i y1
  refine bodyPost_ret (v := .agg (cueV slowC (some ⟨w.heap.size + 1 + y1.n + y.n, 0, none⟩) 2 (some ⟨w.heap.size + 1 + y1.n + y.n + 1, 0, none⟩) 2).toArray) (by simp [results, Try.results80, go_sem, cueV, slowC]) rfl ⟨_, _, rfl, by repeat (first | exact Ext.refl _ | assumption | apply Ext.xt | apply Ext.alloc | apply Ext.drew | apply Ext.drewN), ?_⟩
  refine ⟨?_, ?_, by decide, by decide, by decide, by decide, by decide, by decide, by decide⟩
  · refine Sl.mono ?_ (Ext.alloc (Ext.refl _) _)
    exact Sl.alloc' (by simp [go_sem]) rfl (by simp [slowC, mv])
  · exact Sl.alloc' (by simp [go_sem]) rfl (by simp [slowC, tmg])
set_option maxHeartbeats 3200000 in
set_option maxRecDepth 100000 in
theorem l21_awake (w : World) : Calls Try.prog 26 #[] w fun e w' => e = .returned (.bool true) ∧ Ext w w' := by
  have p1 : (ofV slowC ⟨1, 0⟩ true).1 = 0 ∧ (ofV slowC ⟨1, 0⟩ true).2.1 = 1000 ∧ (ofV slowC ⟨1, 0⟩ true).2.2 = 0 := by rw [slow_of1]; decide
  have p2 : (ofV slowC ⟨1, 0⟩ false).1 = 0 ∧ (ofV slowC ⟨1, 0⟩ false).2.1 = 2000 ∧ (ofV slowC ⟨1, 0⟩ false).2.2 = 0 := by rw [slow_of2]; decide
  have p3 : (ofV slowC ⟨1, 1⟩ true).1 = 100 ∧ (ofV slowC ⟨1, 1⟩ true).2.1 = 3000 ∧ (ofV slowC ⟨1, 1⟩ true).2.2 = 0 := by rw [slow_of3]; decide
  have p4 : (ofV slowC ⟨2, 2⟩ true).1 = 0 ∧ (ofV slowC ⟨2, 2⟩ true).2.1 = 500 ∧ (ofV slowC ⟨2, 2⟩ true).2.2 = 0 := by rw [slow_of4]; decide
  have p5 : (totalV slowC).1 = 3100 ∧ (totalV slowC).2 = 0 := by rw [slow_total]; decide
  have p6 := slow_scale
  have p7 : slowC.parts.length = 2 := rfl
  go_enter Try.func26, Try.ntmps26
  go_wp2_with (first
    | (go_at_call 80; refine (l21_Slow _).mono ?_; rintro e w' ⟨A, B, he, hx, hC⟩; obtain ⟨y, rfl⟩ := hx.get; clear hx; have HC := Lib.hid hC; obtain ⟨b, o, rfl, hc0, hc1, hc2, hc3, hc4, hc5⟩ := hC.pt.row6 (i := 1) rfl; clear hC; simp only [cueV] at he; subst he)
    | (go_at_call 30; refine (tim_Of slowC _ 2 _ 2 ⟨_, _⟩ _ _ (HC.out.mono (by repeat (first | exact Ext.refl _ | assumption | apply Ext.xt | apply Ext.alloc | apply Ext.drew | apply Ext.drewN)))).mono ?_; rintro e w' ⟨rfl, hx⟩; obtain ⟨y, rfl⟩ := hx.get; clear hx)
    | (go_at_call 32; refine (tim_Total slowC _ 2 _ 2 _ (HC.out.mono (by repeat (first | exact Ext.refl _ | assumption | apply Ext.xt | apply Ext.alloc | apply Ext.drew | apply Ext.drewN)))).mono ?_; rintro e w' ⟨rfl, hx⟩; obtain ⟨y, rfl⟩ := hx.get; clear hx)
    | (go_at_call 34; refine (tim_Scale ⟨_, _, _, _, _, _⟩ _ _).mono ?_; rintro e w' ⟨he, hx⟩; simp only [p6, tmg] at he; subst he; obtain ⟨y, rfl⟩ := hx.get; clear hx))
  go_ret
  exact ⟨rfl, by repeat (first | exact Ext.refl _ | assumption | apply Ext.xt | apply Ext.alloc | apply Ext.drew | apply Ext.drewN)⟩
end Go.Proofs.Ytgmicckeefoghaa
