/-
  Copying within a block that the call made itself; slices of such blocks.
-/
import Derived.Test.YtlpboikonnpjbaaGreatOwn
import Derived.Lib.AppendZeros
namespace Go.Proofs.YtlpboikonnpjbaaGreat
open Go.RowKit

section
variable {P : Program} {W : World}
/-- copy, of elements of any size. -/
theorem run_copy_blk (dT sT ty E : TypeId) (i : TypeInfo) (size : Nat) (hu : P.underlying dT = some (.slice E)) (hi : P.info? E = some i) (hsize : i.size = size) (g off dLen dCap sLen sCap : Nat) (cur : Array Value) (T : TypeId)
    (hg : W.heap[g]? = some (.cells cur T (0, 0))) (a : Addr) (cs : List Value) (cnt : Nat) (hcl : cs.length = cnt * size) (hle : Nat.min sLen dLen = cnt) (hsrc : ∀ j v, cs[j]? = some v → W.cell? (a.add j) = some v) (hfit : off + cs.length ≤ cur.size) (h1 : ∀ v ∈ cs, v.oneCell' = true) :
    (Builtin.copy_ #[dT, sT] ty #[.slice (some ⟨g, off, none⟩) dLen dCap, .slice (some a) sLen sCap]).run P W =
      .ok (goInt cnt) (W.setRow g (cur.toList.take off ++ cs ++ cur.toList.drop (off + cs.length)).toArray) := by
  subst hsize
  have hl := run_firstCells_some (P := P) W i.size cnt a sLen sCap cs hcl hsrc
  have hst := run_storeCells_at P g off T cs 0 cur W hg (by simpa using hfit) h1
  simp only [Nat.add_zero] at hst
  simp [Builtin.copy_, run_underlying hu, Builtin.lenOf, sizeOf, typeInfo, hi, hle, hl, hst]

theorem wp_copy_blk {o : Oper} {a : Act} {K : Act → World → Prop} {Q : Exit → Act → World → Prop} (d s : Operand) (dT sT : TypeId) (ho : o.op = .call { callee := .builtin .copy, args := #[d, s], argTypes := #[dT, sT] })
    (E : TypeId) (size bytes : Nat) (hu : P.underlying dT = some (.slice E)) (hI : infoOk P E size bytes = true) (hpos : 0 < size) (g off dLen dCap sLen sCap : Nat) (S : Option Addr) (hd : a.eval d = .slice (some ⟨g, off, none⟩) dLen dCap) (hs : a.eval s = .slice S sLen sCap)
    (cur : Array Value) (T : TypeId) (hg : W.heap[g]? = some (.cells cur T (0, 0))) (rows : List (List Value)) (hsl : Sl W S size rows) (cnt : Nat) (hlen : rows.length = cnt) (hs0 : 0 < cnt) (h1 : ∀ r ∈ rows, ∀ u ∈ r, u.oneCell' = true) (hle : Nat.min sLen dLen = cnt) (hfit : off + cnt * size ≤ cur.size)
    {w0 : World} (hx : Ext w0 W) (hg0 : w0.heap.size ≤ g) (h : ∀ w', Ext w0 w' → Hid (w'.heap[g]? = some (.cells (cur.toList.take off ++ rows.flatten ++ cur.toList.drop (off + cnt * size)).toArray T (0, 0))) → W.grownBy w' (some g) → K (a.put o.dst (goInt cnt)) w') : o.wp P a W K Q := by
  obtain ⟨i, z, e1, _, e3, _, _⟩ := infoOk_get hI
  have hfl := flat_len rows (sl_row hsl)
  rw [hlen] at hfl
  have hsrc := src_rows (P := P) (tx := dT) (c := sCap) hu hsl hlen h1 hpos
  cases S with
  | none =>
    have := hsl.at_ 0 _ (List.getElem?_eq_getElem (show 0 < rows.length by omega))
    obtain ⟨_, _, _, h2, _⟩ := this
    cases h2
  | some ad =>
    have hcell : ∀ j v, rows.flatten[j]? = some v → W.cell? (ad.add j) = some v := by
      intro j v hv
      have hj : j < cnt * size := by rw [← hfl]; exact (List.getElem?_eq_some_iff.1 hv).1
      have hdm : j / size * size + j % size = j := by rw [Nat.mul_comm]; exact Nat.div_add_mod j size
      have hi : j / size < rows.length := by rw [hlen]; exact (Nat.div_lt_iff_lt_mul hpos).2 hj
      have hrr := List.getElem?_eq_getElem hi
      obtain ⟨hl, b, o, ha, hc⟩ := hsl.at_ (j / size) _ hrr
      injection ha with ha
      subst ha
      have hf := flat_get rows (sl_row hsl) (j / size) _ hrr (j % size) (Nat.mod_lt _ hpos)
      rw [hdm, hv] at hf
      have := hc (j % size) v hf.symm
      rw [Nat.add_assoc, hdm] at this
      unfold Addr.add
      split
      · subst_vars; simpa using this
      · exact this
    have hr := run_copy_blk (P := P) (W := W) dT sT o.type E i size hu e1 e3 g off dLen dCap sLen sCap cur T hg ad rows.flatten cnt hfl hle hcell (by rw [hfl]; exact hfit) hsrc.one
    unfold Oper.wp execOp
    simp only [ho, resolve, invoke, builtin, Sem.run_bind, Sem.run_pure, Result.andThen_ok, List.map_toArray, List.map_cons, List.map_nil, hd, hs, hr]
    rw [hfl]
    exact h _ (below_setRow hx hg0 _) (Lib.hid (setRow_heap W g cur _ T _ hg)) ⟨rfl, rfl, rfl, by simp [World.setRow], fun j _ hne => setRow_other W g j _ (fun e => hne (by rw [e]))⟩
theorem wpList_copy_blk {ops : Array Oper} {rest : List Oper} {o : Oper} {a : Act} {Q : Exit → Act → World → Prop} (hgd : o.guard = none) (d s : Operand) (dT sT : TypeId) (ho : o.op = .call { callee := .builtin .copy, args := #[d, s], argTypes := #[dT, sT] })
    (E : TypeId) (size bytes : Nat) (hu : P.underlying dT = some (.slice E)) (hI : infoOk P E size bytes = true) (hpos : 0 < size) (g off dLen dCap sLen sCap : Nat) (S : Option Addr) (hd : a.eval d = .slice (some ⟨g, off, none⟩) dLen dCap) (hs : a.eval s = .slice S sLen sCap)
    (cur : Array Value) (T : TypeId) (hg : W.heap[g]? = some (.cells cur T (0, 0))) (rows : List (List Value)) (hsl : Sl W S size rows) (cnt : Nat) (hlen : rows.length = cnt) (hs0 : 0 < cnt) (h1 : ∀ r ∈ rows, ∀ u ∈ r, u.oneCell' = true) (hle : Nat.min sLen dLen = cnt) (hfit : off + cnt * size ≤ cur.size)
    {w0 : World} (hx : Ext w0 W) (hg0 : w0.heap.size ≤ g) (h : ∀ w', Ext w0 w' → Hid (w'.heap[g]? = some (.cells (cur.toList.take off ++ rows.flatten ++ cur.toList.drop (off + cnt * size)).toArray T (0, 0))) → W.grownBy w' (some g) → wpList P ops Q rest (a.put o.dst (goInt cnt)) w') : wpList P ops Q (o :: rest) a W :=
  wpList_plain hgd fun _ hK => wp_copy_blk d s dT sT ho E size bytes hu hI hpos g off dLen dCap sLen sCap S hd hs cur T hg rows hsl cnt hlen hs0 h1 hle hfit hx hg0 fun w' a1 a2 a3 => hK _ _ (h w' a1 a2 a3)

theorem step_copy_blk {ops : Array Oper} {o : Oper} {a : Act} {K : Act → World → Prop} {Q : Exit → Act → World → Prop} {F : Prop} (hgd : o.guard = none) (d s : Operand) (dT sT : TypeId) (ho : o.op = .call { callee := .builtin .copy, args := #[d, s], argTypes := #[dT, sT] })
    (E : TypeId) (size bytes : Nat) (hu : P.underlying dT = some (.slice E)) (hI : infoOk P E size bytes = true) (hpos : 0 < size) (g off dLen dCap sLen sCap : Nat) (S : Option Addr) (hd : a.eval d = .slice (some ⟨g, off, none⟩) dLen dCap) (hs : a.eval s = .slice S sLen sCap)
    (cur : Array Value) (T : TypeId) (hg : W.heap[g]? = some (.cells cur T (0, 0))) (rows : List (List Value)) (hsl : Sl W S size rows) (cnt : Nat) (hlen : rows.length = cnt) (hs0 : 0 < cnt) (h1 : ∀ r ∈ rows, ∀ u ∈ r, u.oneCell' = true) (hle : Nat.min sLen dLen = cnt) (hfit : off + cnt * size ≤ cur.size)
    {w0 : World} (hx : Ext w0 W) (hg0 : w0.heap.size ≤ g) (h : ∀ w', Ext w0 w' → Hid (w'.heap[g]? = some (.cells (cur.toList.take off ++ rows.flatten ++ cur.toList.drop (off + cnt * size)).toArray T (0, 0))) → W.grownBy w' (some g) → K (a.put o.dst (goInt cnt)) w') :
    if Region.wanted o (yielded ops a.tmps) = true then Oper.wp P o a W K Q else F := by
  have hw : Region.wanted o (yielded ops a.tmps) = true := by simp [Region.wanted, hgd]
  rw [if_pos hw]
  exact wp_copy_blk d s dT sT ho E size bytes hu hI hpos g off dLen dCap sLen sCap S hd hs cur T hg rows hsl cnt hlen hs0 h1 hle hfit hx hg0 h

/-- append(s[:i], make([]E, m)...), where there is no room: a new block. -/
theorem run_append_zeros (t tn ty E : TypeId) (i : TypeInfo) (z : Value) (kn : IntKind) (ht : P.underlying t = some (.slice E)) (htn : P.underlying tn = some (.int kn)) (hi : P.info? E = some i) (hz : i.zero = some z) (hs : 0 < i.size)
    (b : Addr) (n k m : Nat) (olds : List Value) (hlo : olds.length = n * i.size) (holds : ∀ j v, olds[j]? = some v → W.cell? (b.add j) = some v) (hm : 0 < m) (hk : k < n + m) (h63 : (n + m : Int) ≤ 9223372036854775807) (h48 : (n + m) * i.bytes ≤ 140737488355328) :
    (Builtin.append_ #[t, tn] ty #[.slice (some b) n k, .int .i64 (m : Int)]).run P W =
      .ok (.slice (some ⟨W.heap.size, 0, none⟩) (n + m) (grownCap W (n + m) k E)) (W.drew.alloc (.cells (olds.toArray ++ Builtin.zeroCells z.cells m ++ Builtin.zeroCells z.cells (grownCap W (n + m) k E - (n + m))) E)) := by
  have hw : IntKind.i64.wrap (m : Int) = m := by rw [IntKind.wrap_i64]; omega
  have hn : ¬ (n + m ≤ k) := by omega
  have h63' : ¬ (9223372036854775807 < ((n : Int) + (m : Int))) := by omega
  have hfit : Builtin.nextslicecap (n + m) k * i.bytes ≤ 281474976710656 := growslice_fits (by omega) h48
  have h48' : ¬ (281474976710656 < Builtin.nextslicecap (n + m) k * i.bytes) := by omega
  have hmb : m * i.bytes ≤ (n + m) * i.bytes := Nat.mul_le_mul_right _ (by omega)
  have h48i : ¬ (281474976710656 < (m : Int) * (i.bytes : Int)) := by
    have : ((m * i.bytes : Nat) : Int) ≤ 140737488355328 := by omega
    rw [Int.natCast_mul] at this; omega
  have hms : ¬ (m * i.size = 0) := by
    intro h; rcases Nat.mul_eq_zero.1 h with h | h <;> omega
  have hm0 : ¬ (m = 0) := by omega
  have hs0 : ¬ (i.size = 0) := by omega
  have hneg : ¬ ((m : Int) < 0) := by omega
  have hfo := run_firstCells_some (P := P) W.drew i.size n b n k olds hlo (by simpa using holds)
  simp [Builtin.append_, run_underlying ht, run_underlying htn, sizeOf, typeInfo, zeroValue, hi, hz, asInt, asIntOf, hw, hn, h63', h48', h48i, hneg, hms, Question.forced, hfo, newRow, grownCap]
end
end Go.Proofs.YtlpboikonnpjbaaGreat
