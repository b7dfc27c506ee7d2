/-
  Copying within a block that the call made itself; slices of such blocks.
-/
import Derived.Test.YtlpboikonnpjbaaGreatGown
import Derived.Lib.AppendZeros
import Derived.Test.YtlpboikonnpjbaaGreatSet
import Derived.Lib.Overlaps
import Derived.Laws.Externs
namespace Go.Proofs.YtlpboikonnpjbaaGreat
open Go.RowKit

section
variable {P : Program} {W : World}
/-- copy, of elements of any size. -/
theorem run_copy_blk (dT sT ty E : TypeId) (i : TypeInfo) (size : Nat) (hu : P.underlying dT = some (.slice E)) (hi : P.info? E = some i) (hsize : i.size = size) (g off dLen dCap sLen sCap : Nat) (cur : Array Value) (T : TypeId)
    (hg : W.heap[g]? = some (.cells cur T (0, 0))) (a : Addr) (cs : List Value) (cnt : Nat) (hcl : cs.length = cnt * size) (hle : Nat.min sLen dLen = cnt) (hsrc : ∀ j v, cs[j]? = some v → W.cell? (a.add j) = some v) (hfit : off + cs.length ≤ cur.size) (h1 : ∀ v ∈ cs, v.oneCell' = true) :
    (Builtin.copy_ #[dT, sT] ty #[.slice (some ⟨g, off, none⟩) dLen dCap, .slice (some a) sLen sCap]).run P W =
      .ok (goInt cnt) (W.setRow g (cur.toList.take off ++ cs ++ cur.toList.drop (off + cs.length)).toArray) := by
  subst hsize
  have hl := run_firstCells_some (P := P) W i.size cnt a sLen sCap cs hcl hsrc
  have hst := run_storeCells_at P g off T cs 0 cur W hg (by simpa using hfit) h1
  simp only [Nat.add_zero] at hst
  simp [Builtin.copy_, run_underlying hu, Builtin.lenOf, sizeOf, typeInfo, hi, hle, hl, hst]

theorem wp_copy_blk {o : Oper} {a : Act} {K : Act → World → Prop} {Q : Exit → Act → World → Prop} (d s : Operand) (dT sT : TypeId) (ho : o.op = .call { callee := .builtin .copy, args := #[d, s], argTypes := #[dT, sT] })
    (E : TypeId) (size bytes : Nat) (hu : P.underlying dT = some (.slice E)) (hI : infoOk P E size bytes = true) (hpos : 0 < size) (g off dLen dCap sLen sCap : Nat) (S : Option Addr) (hd : a.eval d = .slice (some ⟨g, off, none⟩) dLen dCap) (hs : a.eval s = .slice S sLen sCap)
    (cur : Array Value) (T : TypeId) (hg : W.heap[g]? = some (.cells cur T (0, 0))) (rows : List (List Value)) (hsl : Sl W S size rows) (cnt : Nat) (hlen : rows.length = cnt) (hs0 : 0 < cnt) (h1 : ∀ r ∈ rows, ∀ u ∈ r, u.oneCell' = true) (hle : Nat.min sLen dLen = cnt) (hfit : off + cnt * size ≤ cur.size)
    {w0 : World} (hx : Ext w0 W) (hg0 : w0.heap.size ≤ g) (h : ∀ w', Ext w0 w' → Hid (w'.heap[g]? = some (.cells (cur.toList.take off ++ rows.flatten ++ cur.toList.drop (off + cnt * size)).toArray T (0, 0))) → W.grownBy w' (some g) → K (a.put o.dst (goInt cnt)) w') : o.wp P a W K Q := by
  obtain ⟨i, z, e1, _, e3, _, _⟩ := infoOk_get hI
  have hfl := flat_len rows (sl_row hsl)
  rw [hlen] at hfl
  have hsrc := src_rows (P := P) (tx := dT) (c := sCap) hu hsl hlen h1 hpos
  cases S with
  | none =>
    have := hsl.at_ 0 _ (List.getElem?_eq_getElem (show 0 < rows.length by omega))
    obtain ⟨_, _, _, h2, _⟩ := this
    cases h2
  | some ad =>
    have hcell : ∀ j v, rows.flatten[j]? = some v → W.cell? (ad.add j) = some v := by
      intro j v hv
      have hj : j < cnt * size := by rw [← hfl]; exact (List.getElem?_eq_some_iff.1 hv).1
      have hdm : j / size * size + j % size = j := by rw [Nat.mul_comm]; exact Nat.div_add_mod j size
      have hi : j / size < rows.length := by rw [hlen]; exact (Nat.div_lt_iff_lt_mul hpos).2 hj
      have hrr := List.getElem?_eq_getElem hi
      obtain ⟨hl, b, o, ha, hc⟩ := hsl.at_ (j / size) _ hrr
      injection ha with ha
      subst ha
      have hf := flat_get rows (sl_row hsl) (j / size) _ hrr (j % size) (Nat.mod_lt _ hpos)
      rw [hdm, hv] at hf
      have := hc (j % size) v hf.symm
      rw [Nat.add_assoc, hdm] at this
      unfold Addr.add
      split
      · subst_vars; simpa using this
      · exact this
    have hr := run_copy_blk (P := P) (W := W) dT sT o.type E i size hu e1 e3 g off dLen dCap sLen sCap cur T hg ad rows.flatten cnt hfl hle hcell (by rw [hfl]; exact hfit) hsrc.one
    unfold Oper.wp execOp
    simp only [ho, resolve, invoke, builtin, Sem.run_bind, Sem.run_pure, Result.andThen_ok, List.map_toArray, List.map_cons, List.map_nil, hd, hs, hr]
    rw [hfl]
    exact h _ (below_setRow hx hg0 _) (Lib.hid (setRow_heap W g cur _ T _ hg)) ⟨rfl, rfl, rfl, by simp [World.setRow], fun j _ hne => setRow_other W g j _ (fun e => hne (by rw [e]))⟩
theorem wpList_copy_blk {ops : Array Oper} {rest : List Oper} {o : Oper} {a : Act} {Q : Exit → Act → World → Prop} (hgd : o.guard = none) (d s : Operand) (dT sT : TypeId) (ho : o.op = .call { callee := .builtin .copy, args := #[d, s], argTypes := #[dT, sT] })
    (E : TypeId) (size bytes : Nat) (hu : P.underlying dT = some (.slice E)) (hI : infoOk P E size bytes = true) (hpos : 0 < size) (g off dLen dCap sLen sCap : Nat) (S : Option Addr) (hd : a.eval d = .slice (some ⟨g, off, none⟩) dLen dCap) (hs : a.eval s = .slice S sLen sCap)
    (cur : Array Value) (T : TypeId) (hg : W.heap[g]? = some (.cells cur T (0, 0))) (rows : List (List Value)) (hsl : Sl W S size rows) (cnt : Nat) (hlen : rows.length = cnt) (hs0 : 0 < cnt) (h1 : ∀ r ∈ rows, ∀ u ∈ r, u.oneCell' = true) (hle : Nat.min sLen dLen = cnt) (hfit : off + cnt * size ≤ cur.size)
    {w0 : World} (hx : Ext w0 W) (hg0 : w0.heap.size ≤ g) (h : ∀ w', Ext w0 w' → Hid (w'.heap[g]? = some (.cells (cur.toList.take off ++ rows.flatten ++ cur.toList.drop (off + cnt * size)).toArray T (0, 0))) → W.grownBy w' (some g) → wpList P ops Q rest (a.put o.dst (goInt cnt)) w') : wpList P ops Q (o :: rest) a W :=
  wpList_plain hgd fun _ hK => wp_copy_blk d s dT sT ho E size bytes hu hI hpos g off dLen dCap sLen sCap S hd hs cur T hg rows hsl cnt hlen hs0 h1 hle hfit hx hg0 fun w' a1 a2 a3 => hK _ _ (h w' a1 a2 a3)

theorem step_copy_blk {ops : Array Oper} {o : Oper} {a : Act} {K : Act → World → Prop} {Q : Exit → Act → World → Prop} {F : Prop} (hgd : o.guard = none) (d s : Operand) (dT sT : TypeId) (ho : o.op = .call { callee := .builtin .copy, args := #[d, s], argTypes := #[dT, sT] })
    (E : TypeId) (size bytes : Nat) (hu : P.underlying dT = some (.slice E)) (hI : infoOk P E size bytes = true) (hpos : 0 < size) (g off dLen dCap sLen sCap : Nat) (S : Option Addr) (hd : a.eval d = .slice (some ⟨g, off, none⟩) dLen dCap) (hs : a.eval s = .slice S sLen sCap)
    (cur : Array Value) (T : TypeId) (hg : W.heap[g]? = some (.cells cur T (0, 0))) (rows : List (List Value)) (hsl : Sl W S size rows) (cnt : Nat) (hlen : rows.length = cnt) (hs0 : 0 < cnt) (h1 : ∀ r ∈ rows, ∀ u ∈ r, u.oneCell' = true) (hle : Nat.min sLen dLen = cnt) (hfit : off + cnt * size ≤ cur.size)
    {w0 : World} (hx : Ext w0 W) (hg0 : w0.heap.size ≤ g) (h : ∀ w', Ext w0 w' → Hid (w'.heap[g]? = some (.cells (cur.toList.take off ++ rows.flatten ++ cur.toList.drop (off + cnt * size)).toArray T (0, 0))) → W.grownBy w' (some g) → K (a.put o.dst (goInt cnt)) w') :
    if Region.wanted o (yielded ops a.tmps) = true then Oper.wp P o a W K Q else F := by
  have hw : Region.wanted o (yielded ops a.tmps) = true := by simp [Region.wanted, hgd]
  rw [if_pos hw]
  exact wp_copy_blk d s dT sT ho E size bytes hu hI hpos g off dLen dCap sLen sCap S hd hs cur T hg rows hsl cnt hlen hs0 h1 hle hfit hx hg0 h

/-- append(s[:i], make([]E, m)...), where there is no room: a new block. -/
theorem run_append_zeros (t tn ty E : TypeId) (i : TypeInfo) (z : Value) (kn : IntKind) (ht : P.underlying t = some (.slice E)) (htn : P.underlying tn = some (.int kn)) (hi : P.info? E = some i) (hz : i.zero = some z) (hs : 0 < i.size)
    (b : Addr) (n k m : Nat) (olds : List Value) (hlo : olds.length = n * i.size) (holds : ∀ j v, olds[j]? = some v → W.cell? (b.add j) = some v) (hm : 0 < m) (hk : k < n + m) (h63 : (n + m : Int) ≤ 9223372036854775807) (h48 : (n + m) * i.bytes ≤ 140737488355328) :
    (Builtin.append_ #[t, tn] ty #[.slice (some b) n k, .int .i64 (m : Int)]).run P W =
      .ok (.slice (some ⟨W.heap.size, 0, none⟩) (n + m) (grownCap W (n + m) k E)) (W.drew.alloc (.cells (olds.toArray ++ Builtin.zeroCells z.cells m ++ Builtin.zeroCells z.cells (grownCap W (n + m) k E - (n + m))) E)) := by
  have hw : IntKind.i64.wrap (m : Int) = m := by rw [IntKind.wrap_i64]; omega
  have hn : ¬ (n + m ≤ k) := by omega
  have h63' : ¬ (9223372036854775807 < ((n : Int) + (m : Int))) := by omega
  have hfit : Builtin.nextslicecap (n + m) k * i.bytes ≤ 281474976710656 := growslice_fits (by omega) h48
  have h48' : ¬ (281474976710656 < Builtin.nextslicecap (n + m) k * i.bytes) := by omega
  have hmb : m * i.bytes ≤ (n + m) * i.bytes := Nat.mul_le_mul_right _ (by omega)
  have h48i : ¬ (281474976710656 < (m : Int) * (i.bytes : Int)) := by
    have : ((m * i.bytes : Nat) : Int) ≤ 140737488355328 := by omega
    rw [Int.natCast_mul] at this; omega
  have hms : ¬ (m * i.size = 0) := by
    intro h; rcases Nat.mul_eq_zero.1 h with h | h <;> omega
  have hm0 : ¬ (m = 0) := by omega
  have hs0 : ¬ (i.size = 0) := by omega
  have hneg : ¬ ((m : Int) < 0) := by omega
  have hfo := run_firstCells_some (P := P) W.drew i.size n b n k olds hlo (by simpa using holds)
  simp [Builtin.append_, run_underlying ht, run_underlying htn, sizeOf, typeInfo, zeroValue, hi, hz, asInt, asIntOf, hw, hn, h63', h48', h48i, hneg, hms, Question.forced, hfo, newRow, grownCap]
end
end Go.Proofs.YtlpboikonnpjbaaGreat

/-
  slices.Insert at moves, of one element, into a slice that the call made itself.
-/
namespace Go.Proofs.YtlpboikonnpjbaaGreat
open Go.RowKit
attribute [local go_sem ↓] Go.wp_at_zero Go.wp_at_succ

theorem Sl.dropped {w : World} {b o size : Nat} {rows : List (List Value)} (h : Sl w (some ⟨b, o, none⟩) size rows) (i : Nat) : Sl w (some ⟨b, o + i * size, none⟩) size (rows.drop i) :=
  ⟨fun j row hr => by
    rw [List.getElem?_drop] at hr
    obtain ⟨h1, b', o', h2, h3⟩ := h.at_ (i + j) row hr
    injection h2 with h2
    injection h2 with h2 h4
    subst h2 h4
    refine ⟨h1, b, o + i * size, rfl, fun q v hv => ?_⟩
    have := h3 q v hv
    rwa [show o + (i + j) * size + q = o + i * size + j * size + q by rw [Nat.add_mul]; omega] at this⟩
theorem Sl.block {w : World} {b : Nat} {E : TypeId} {size : Nat} {row : List Value} (hb : w.heap[b]? = some (.cells row.toArray E (0, 0))) (h : row.length = size) : Sl w (some ⟨b, 0, none⟩) size [row] :=
  ⟨fun i r hr => by
    cases i with
    | zero =>
      simp at hr
      subst hr
      exact ⟨h, b, 0, rfl, fun j v hv => by simp [World.cell?, hb, hv]⟩
    | succ i => simp at hr⟩
/-- Where an insertion lies. -/
def insAt (l : List Move) (i : Nat) (x : Move) : List Move := l.take i ++ x :: l.drop i
theorem insAt_len (l : List Move) (i : Nat) (x : Move) : (insAt l i x).length = l.length + 1 := by
  simp [insAt]; omega
def RetIns (w0 w : World) (A : Option Addr) (rows : List (List Value)) (n : Nat) (e : Ending) (w' : World) : Prop :=
  ∃ A' k', e = .returned (.slice A' n k') ∧ Ext w0 w' ∧ Own w0 w' 269 5 A' n k' rows ∧ w.grownBy w' (A.map (·.block))

theorem mid_splice {α : Type} (cur : List α) (a b x : List α) (i n s : Nat) (_ha : a.length = i) (hb : b.length = n) (hx : x.length = s) (hc : cur.take i = a) (hl : i + n + s ≤ cur.length) :
    ((cur.take (i + s) ++ b ++ cur.drop (i + s + n)).take i ++ x ++ (cur.take (i + s) ++ b ++ cur.drop (i + s + n)).drop (i + s)) = a ++ x ++ b ++ cur.drop (i + s + n) := by
  have h1 : (cur.take (i + s)).length = i + s := by rw [List.length_take]; omega
  rw [List.append_assoc (cur.take (i + s)) b, List.take_append_of_le_length (by omega), List.take_take, Nat.min_eq_left (by omega), hc, List.drop_append_of_le_length (by omega), List.drop_of_length_le (by omega)]
  simp [List.append_assoc]

theorem mid_splice2 {α : Type} (cur : List α) (a b x : List α) (i n s : Nat) (ha : a.length = i) (hx : x.length = s) (hc : cur.take i = a) (_hl : i + n + s ≤ cur.length) :
    ((cur.take i ++ x ++ cur.drop (i + s)).take (i + s) ++ b ++ (cur.take i ++ x ++ cur.drop (i + s)).drop (i + s + n)) = a ++ x ++ b ++ cur.drop (i + s + n) := by
  have h1 : (a ++ x).length = i + s := by rw [List.length_append]; omega
  rw [hc, List.take_append_of_le_length (by omega), List.take_of_length_le (by omega), List.drop_append, List.drop_eq_nil_of_le (by omega), List.nil_append, h1, List.drop_drop]
  congr 2
  omega
theorem mv_len (l : List Move) : ∀ r ∈ l.map mv, r.length = 5 := fun r hr => by
  obtain ⟨m, _, rfl⟩ := List.mem_map.1 hr; rfl
theorem flat_take {α : Type} {size : Nat} : ∀ (rows : List (List α)) (_ : ∀ r ∈ rows, r.length = size) (i : Nat), rows.flatten.take (i * size) = (rows.take i).flatten
  | [], _, i => by simp
  | r :: rs, h, 0 => by simp
  | r :: rs, h, i + 1 => by
    have hl := h r (by simp)
    rw [List.flatten_cons, List.take_succ_cons, List.flatten_cons, ← flat_take rs (fun x hx => h x (by simp [hx])) i, Nat.succ_mul, List.take_append, hl, List.take_of_length_le (by omega)]
    congr 2
    omega
theorem ins_take (cur : List Value) (l : List Move) (i n : Nat) (_hn : l.length = n) (ht : cur.take (n * 5) = (l.map mv).flatten) (hi : i ≤ n) : cur.take (i * 5) = ((l.take i).map mv).flatten := by
  have := congrArg (List.take (i * 5)) ht
  rw [List.take_take, Nat.min_eq_left (Nat.mul_le_mul_right 5 hi), flat_take _ (mv_len l)] at this
  rw [this, List.map_take]
theorem ins_all (l : List Move) (i : Nat) (x : Move) : ((insAt l i x).map mv).flatten = ((l.take i).map mv).flatten ++ mv x ++ ((l.map mv).drop i).flatten := by
  unfold insAt
  rw [List.map_append, List.flatten_append, List.map_cons, List.flatten_cons, List.map_drop]
  simp [List.append_assoc]
theorem ins_fin (fin cur : List Value) (l : List Move) (i k : Nat) (x : Move) (hi : i ≤ l.length) (hk : l.length + 1 ≤ k) (hc : cur.length = k * 5) (hf : fin = ((l.take i).map mv).flatten ++ mv x ++ ((l.map mv).drop i).flatten ++ cur.drop (i * 5 + 5 + (l.length - i) * 5)) :
    fin.length = k * 5 ∧ fin.take ((l.length + 1) * 5) = ((insAt l i x).map mv).flatten := by
  have h1 : (((l.take i).map mv).flatten ++ mv x ++ ((l.map mv).drop i).flatten).length = (l.length + 1) * 5 := by
    rw [← ins_all, flat_len _ (mv_len _), List.length_map, insAt_len]
  subst hf
  constructor
  · rw [List.length_append, h1, List.length_drop, hc]
    have : (l.length + 1) * 5 ≤ k * 5 := Nat.mul_le_mul_right 5 hk
    omega
  · rw [List.take_append_of_le_length (by omega), List.take_of_length_le (by omega), ins_all]
theorem grown_trans' {a b c : World} {row : Option Nat} (h : a.grownBy b row) (k : b.grownBy c row) : a.grownBy c row :=
  ⟨k.os.trans h.os, k.tape.trans h.tape, k.output.trans h.output, Nat.le_trans h.size k.size, fun j hj hne => (k.block j (Nat.lt_of_lt_of_le hj h.size) hne).trans (h.block j hj hne)⟩

end Go.Proofs.YtlpboikonnpjbaaGreat

/-
  slices.Insert at moves where there is no room; both together.
-/
namespace Go.Proofs.YtlpboikonnpjbaaGreat
open Go.RowKit
attribute [local go_sem ↓] Go.wp_at_zero Go.wp_at_succ

theorem Sl.kept {w w' : World} {A : Option Addr} {size : Nat} {rows : List (List Value)} {row : Option Nat} (h : Sl w A size rows) (hg : w.grownBy w' row) (hne : ∀ a, A = some a → some a.block ≠ row) : Sl w' A size rows :=
  ⟨fun i r hr => by
    obtain ⟨h1, b, o, h2, h3⟩ := h.at_ i r hr
    exact ⟨h1, b, o, h2, fun j v hv => hg.cell (h3 j v hv) (show some b ≠ row from hne _ h2)⟩⟩

end Go.Proofs.YtlpboikonnpjbaaGreat
