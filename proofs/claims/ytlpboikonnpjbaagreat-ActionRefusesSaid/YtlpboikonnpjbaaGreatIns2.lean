/-
  slices.Insert at moves, of one element, into a slice that the call made itself.
-/
import Derived.Test.YtlpboikonnpjbaaGreatIns
import Derived.Test.YtlpboikonnpjbaaGreatSet
import Derived.Lib.Overlaps
import Derived.Laws.Externs
namespace Go.Proofs.YtlpboikonnpjbaaGreat
open Go.RowKit
attribute [local go_sem ↓] Go.wp_at_zero Go.wp_at_succ

theorem Sl.dropped {w : World} {b o size : Nat} {rows : List (List Value)} (h : Sl w (some ⟨b, o, none⟩) size rows) (i : Nat) : Sl w (some ⟨b, o + i * size, none⟩) size (rows.drop i) :=
  ⟨fun j row hr => by
    rw [List.getElem?_drop] at hr
    obtain ⟨h1, b', o', h2, h3⟩ := h.at_ (i + j) row hr
    injection h2 with h2
    injection h2 with h2 h4
    subst h2 h4
    refine ⟨h1, b, o + i * size, rfl, fun q v hv => ?_⟩
    have := h3 q v hv
    rwa [show o + (i + j) * size + q = o + i * size + j * size + q by rw [Nat.add_mul]; omega] at this⟩
theorem Sl.block {w : World} {b : Nat} {E : TypeId} {size : Nat} {row : List Value} (hb : w.heap[b]? = some (.cells row.toArray E (0, 0))) (h : row.length = size) : Sl w (some ⟨b, 0, none⟩) size [row] :=
  ⟨fun i r hr => by
    cases i with
    | zero =>
      simp at hr
      subst hr
      exact ⟨h, b, 0, rfl, fun j v hv => by simp [World.cell?, hb, hv]⟩
    | succ i => simp at hr⟩
/-- Where an insertion lies. -/
def insAt (l : List Move) (i : Nat) (x : Move) : List Move := l.take i ++ x :: l.drop i
theorem insAt_len (l : List Move) (i : Nat) (x : Move) : (insAt l i x).length = l.length + 1 := by
  simp [insAt]; omega
def RetIns (w0 w : World) (A : Option Addr) (rows : List (List Value)) (n : Nat) (e : Ending) (w' : World) : Prop :=
  ∃ A' k', e = .returned (.slice A' n k') ∧ Ext w0 w' ∧ Own w0 w' 269 5 A' n k' rows ∧ w.grownBy w' (A.map (·.block))

theorem mid_splice {α : Type} (cur : List α) (a b x : List α) (i n s : Nat) (_ha : a.length = i) (hb : b.length = n) (hx : x.length = s) (hc : cur.take i = a) (hl : i + n + s ≤ cur.length) :
    ((cur.take (i + s) ++ b ++ cur.drop (i + s + n)).take i ++ x ++ (cur.take (i + s) ++ b ++ cur.drop (i + s + n)).drop (i + s)) = a ++ x ++ b ++ cur.drop (i + s + n) := by
  have h1 : (cur.take (i + s)).length = i + s := by rw [List.length_take]; omega
  rw [List.append_assoc (cur.take (i + s)) b, List.take_append_of_le_length (by omega), List.take_take, Nat.min_eq_left (by omega), hc, List.drop_append_of_le_length (by omega), List.drop_of_length_le (by omega)]
  simp [List.append_assoc]

theorem mid_splice2 {α : Type} (cur : List α) (a b x : List α) (i n s : Nat) (ha : a.length = i) (hx : x.length = s) (hc : cur.take i = a) (_hl : i + n + s ≤ cur.length) :
    ((cur.take i ++ x ++ cur.drop (i + s)).take (i + s) ++ b ++ (cur.take i ++ x ++ cur.drop (i + s)).drop (i + s + n)) = a ++ x ++ b ++ cur.drop (i + s + n) := by
  have h1 : (a ++ x).length = i + s := by rw [List.length_append]; omega
  rw [hc, List.take_append_of_le_length (by omega), List.take_of_length_le (by omega), List.drop_append, List.drop_eq_nil_of_le (by omega), List.nil_append, h1, List.drop_drop]
  congr 2
  omega
theorem mv_len (l : List Move) : ∀ r ∈ l.map mv, r.length = 5 := fun r hr => by
  obtain ⟨m, _, rfl⟩ := List.mem_map.1 hr; rfl
theorem flat_take {α : Type} {size : Nat} : ∀ (rows : List (List α)) (_ : ∀ r ∈ rows, r.length = size) (i : Nat), rows.flatten.take (i * size) = (rows.take i).flatten
  | [], _, i => by simp
  | r :: rs, h, 0 => by simp
  | r :: rs, h, i + 1 => by
    have hl := h r (by simp)
    rw [List.flatten_cons, List.take_succ_cons, List.flatten_cons, ← flat_take rs (fun x hx => h x (by simp [hx])) i, Nat.succ_mul, List.take_append, hl, List.take_of_length_le (by omega)]
    congr 2
    omega
theorem ins_take (cur : List Value) (l : List Move) (i n : Nat) (_hn : l.length = n) (ht : cur.take (n * 5) = (l.map mv).flatten) (hi : i ≤ n) : cur.take (i * 5) = ((l.take i).map mv).flatten := by
  have := congrArg (List.take (i * 5)) ht
  rw [List.take_take, Nat.min_eq_left (Nat.mul_le_mul_right 5 hi), flat_take _ (mv_len l)] at this
  rw [this, List.map_take]
theorem ins_all (l : List Move) (i : Nat) (x : Move) : ((insAt l i x).map mv).flatten = ((l.take i).map mv).flatten ++ mv x ++ ((l.map mv).drop i).flatten := by
  unfold insAt
  rw [List.map_append, List.flatten_append, List.map_cons, List.flatten_cons, List.map_drop]
  simp [List.append_assoc]
theorem ins_fin (fin cur : List Value) (l : List Move) (i k : Nat) (x : Move) (hi : i ≤ l.length) (hk : l.length + 1 ≤ k) (hc : cur.length = k * 5) (hf : fin = ((l.take i).map mv).flatten ++ mv x ++ ((l.map mv).drop i).flatten ++ cur.drop (i * 5 + 5 + (l.length - i) * 5)) :
    fin.length = k * 5 ∧ fin.take ((l.length + 1) * 5) = ((insAt l i x).map mv).flatten := by
  have h1 : (((l.take i).map mv).flatten ++ mv x ++ ((l.map mv).drop i).flatten).length = (l.length + 1) * 5 := by
    rw [← ins_all, flat_len _ (mv_len _), List.length_map, insAt_len]
  subst hf
  constructor
  · rw [List.length_append, h1, List.length_drop, hc]
    have : (l.length + 1) * 5 ≤ k * 5 := Nat.mul_le_mul_right 5 hk
    omega
  · rw [List.take_append_of_le_length (by omega), List.take_of_length_le (by omega), ins_all]
theorem grown_trans' {a b c : World} {row : Option Nat} (h : a.grownBy b row) (k : b.grownBy c row) : a.grownBy c row :=
  ⟨k.os.trans h.os, k.tape.trans h.tape, k.output.trans h.output, Nat.le_trans h.size k.size, fun j hj hne => (k.block j (Nat.lt_of_lt_of_le hj h.size) hne).trans (h.block j hj hne)⟩

end Go.Proofs.YtlpboikonnpjbaaGreat

/-
  slices.Insert at moves where there is no room; both together.
-/
namespace Go.Proofs.YtlpboikonnpjbaaGreat
open Go.RowKit
attribute [local go_sem ↓] Go.wp_at_zero Go.wp_at_succ

theorem Sl.kept {w w' : World} {A : Option Addr} {size : Nat} {rows : List (List Value)} {row : Option Nat} (h : Sl w A size rows) (hg : w.grownBy w' row) (hne : ∀ a, A = some a → some a.block ≠ row) : Sl w' A size rows :=
  ⟨fun i r hr => by
    obtain ⟨h1, b, o, h2, h3⟩ := h.at_ i r hr
    exact ⟨h1, b, o, h2, fun j v hv => hg.cell (h3 j v hv) (show some b ≠ row from hne _ h2)⟩⟩

end Go.Proofs.YtlpboikonnpjbaaGreat
