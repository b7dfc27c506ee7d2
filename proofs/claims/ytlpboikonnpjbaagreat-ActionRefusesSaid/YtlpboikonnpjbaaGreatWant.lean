/-
  Appends and builds under a guard that says yes.
-/
import Derived.Test.YtlpboikonnpjbaaGreatBig
import Derived.Great.CaseRows
namespace Go.Proofs.YtlpboikonnpjbaaGreat
open Go.RowKit

section
variable {P : Program} {ops : Array Oper} {rest : List Oper} {o : Oper} {a : Act} {Q : Exit → Act → World → Prop} {W w0 : World}
theorem wpList_append_want (hw : Region.wanted o (yielded ops a.tmps) = true) (s x : Operand) (t tx : TypeId) (ho : o.op = .call { callee := .builtin .append, args := #[s, x], argTypes := #[t, tx] }) (E e' : TypeId) (size bytes : Nat) (ht : P.underlying t = some (.slice E)) (htx : P.underlying tx = some (.slice e'))
    (hI : infoOk P E size bytes = true) (hpos : 0 < size) (hx : Ext w0 W) (A : Option Addr) (n k : Nat) (rows : List (List Value)) (hs : a.eval s = .slice A n k) (hown : Own w0 W E size A n k rows)
    (B : Option Addr) (m c : Nat) (news : List (List Value)) (hxv : a.eval x = .slice B m c) (hsl : Sl W B size news) (hm : news.length = m) (hn1 : ∀ r ∈ news, ∀ u ∈ r, u.oneCell' = true) (h63 : n + m ≤ maxLen) (hbytes : (n + m) * bytes ≤ 140737488355328) (N : Nat) (hN : n + m = N) (all : List (List Value)) (hall : rows ++ news = all)
    (h : ∀ A' k' w', Ext w0 w' → Own w0 w' E size A' N k' all → W.grownBy w' (A.map (·.block)) → (A' = A ∨ A' = some ⟨W.heap.size, 0, none⟩) → wpList P ops Q rest (a.put o.dst (.slice A' N k')) w') : wpList P ops Q (o :: rest) a W :=
  BigFrame.wpList_want hw fun _ hK => wp_append_mine s x t tx ho E e' size bytes ht htx hI hpos hx A n k rows hs hown B m c news hxv hsl hm hn1 h63 hbytes N hN all hall fun A' k' w' h1 h2 h3 h4 => hK _ _ (h A' k' w' h1 h2 h3 h4)
theorem wpList_built_want (hw : Region.wanted o (yielded ops a.tmps) = true) {w : World} (t : TypeId) (ps : List (Nat × Operand)) (ho : o.op = .build t ps.toArray) (vals : List (Nat × Value)) (hv : ps.map (fun p => (p.1, a.eval p.2)) = vals) (cells : Array Value) (hc : P.built t vals = some cells)
    (h : wpList P ops Q rest (a.put o.dst (.agg cells)) w) : wpList P ops Q (o :: rest) a w := by
  have hv' : ((ps.toArray).map fun (i, x) => (i, a.eval x)).toList = vals := by rw [← hv]; simp
  exact BigFrame.wpList_want hw fun _ hK => wp_build t ps.toArray ho (by rw [hv', hc]; rfl) (by rw [hv', hc]; exact hK _ _ h)
theorem step_load_row {K : Act → World → Prop} {F : Prop} {w : World} (hgd : o.guard = none) (ty : TypeId) (x : Operand) (ho : o.op = .load ty x) (b n : Nat) (hx : a.eval x = .pointer (some ⟨b, n, none⟩)) (cs : List Value) (d : TypeDesc) (hc : w.rangeAt b n cs)
    (hu : P.underlying ty = some d) (hd : d.isRow = true) (hi : (P.info? ty).map (·.size) = some cs.length) (h : K (a.put o.dst (.agg cs.toArray)) w) :
    if Region.wanted o (yielded ops a.tmps) = true then Oper.wp P o a w K Q else F := by
  have hw : Region.wanted o (yielded ops a.tmps) = true := by simp [Region.wanted, hgd]
  rw [if_pos hw]
  exact wp_load_mid ty x ho b n hx cs d hc hu hd hi h
/-- A slice of one struct is built. -/
theorem wp_buildOne {K : Act → World → Prop} {w : World} (t e : TypeId) (x : Operand) (ho : o.op = .buildSlice t 1 #[(0, x)]) (cs : List Value) (hx : a.eval x = .agg cs.toArray) (hu : P.underlying t = some (.slice e)) (hsz : (P.info? e).map (·.size) = some cs.length)
    (hz : ((P.info? e).bind (·.zero)).isSome = true) (hpos : 0 < cs.length) (hsmall : cs.length ≤ 2 ^ 24) (N : Nat) (hN : w.heap.size = N)
    (h : K (a.put o.dst (.slice (some ⟨N, 0, none⟩) 1 1)) (w.alloc (.cells cs.toArray e))) : Oper.wp P o a w K Q := by
  subst hN
  cases hie : P.info? e with
  | none => simp [hie] at hsz
  | some ie =>
    simp only [hie, Option.map_some, Option.some.injEq, Option.bind_some] at hsz hz
    obtain ⟨z, hzz⟩ := Option.isSome_iff_exists.1 hz
    refine wp_buildSlice t e 1 #[(0, x)] ho cs.toArray ie z hu hie hzz (by rw [hsz]; omega) (by rw [hsz]; omega) ?_ h
    have := Great.fill_whole hpos [Value.agg cs.toArray] ((Array.range (1 * cs.length)).map (z.cells[· % z.cells.size]!)) (by simp [Value.cells]) (by simp)
    rw [hsz]
    simp only [List.map_toArray, List.map_cons, List.map_nil, hx]
    simpa [Value.cells] using this
theorem step_buildOne {K : Act → World → Prop} {F : Prop} {w : World} (hgd : o.guard = none) (t e : TypeId) (x : Operand) (ho : o.op = .buildSlice t 1 #[(0, x)]) (cs : List Value) (hx : a.eval x = .agg cs.toArray) (hu : P.underlying t = some (.slice e)) (hsz : (P.info? e).map (·.size) = some cs.length)
    (hz : ((P.info? e).bind (·.zero)).isSome = true) (hpos : 0 < cs.length) (hsmall : cs.length ≤ 2 ^ 24) (N : Nat) (hN : w.heap.size = N)
    (h : K (a.put o.dst (.slice (some ⟨N, 0, none⟩) 1 1)) (w.alloc (.cells cs.toArray e))) : if Region.wanted o (yielded ops a.tmps) = true then Oper.wp P o a w K Q else F := by
  have hw : Region.wanted o (yielded ops a.tmps) = true := by simp [Region.wanted, hgd]
  rw [if_pos hw]
  exact wp_buildOne t e x ho cs hx hu hsz hz hpos hsmall N hN h
/-- The same, the world told by what it is good for. -/
theorem step_buildOne' {K : Act → World → Prop} {F : Prop} {w : World} (hgd : o.guard = none) (t e : TypeId) (x : Operand) (ho : o.op = .buildSlice t 1 #[(0, x)]) (cs : List Value) (hx : a.eval x = .agg cs.toArray) (hu : P.underlying t = some (.slice e)) (hsz : (P.info? e).map (·.size) = some cs.length)
    (hz : ((P.info? e).bind (·.zero)).isSome = true) (hpos : 0 < cs.length) (hsmall : cs.length ≤ 2 ^ 24)
    (h : ∀ N w', Ext w w' → (w.heap.size ≤ N ∧ N < w'.heap.size) → w'.heap[N]? = some (.cells cs.toArray e (0, 0)) → K (a.put o.dst (.slice (some ⟨N, 0, none⟩) 1 1)) w') : if Region.wanted o (yielded ops a.tmps) = true then Oper.wp P o a w K Q else F :=
  step_buildOne hgd t e x ho cs hx hu hsz hz hpos hsmall _ rfl (h _ _ ((Ext.refl w).alloc _) ⟨Nat.le_refl _, by simp⟩ (heap_alloc_new w _))
theorem heap_at {w w' : World} (hx : Ext w w') {b : Nat} {x : Obj} (h : w.heap[b]? = some x) : w'.heap[b]? = some x := by
  rw [hx.block _ (Array.getElem?_eq_some_iff.1 h).1]
  exact h
theorem wpList_buildOne {w : World} (hw : Region.wanted o (yielded ops a.tmps) = true) (t e : TypeId) (x : Operand) (ho : o.op = .buildSlice t 1 #[(0, x)]) (cs : List Value) (hx : a.eval x = .agg cs.toArray) (hu : P.underlying t = some (.slice e)) (hsz : (P.info? e).map (·.size) = some cs.length)
    (hz : ((P.info? e).bind (·.zero)).isSome = true) (hpos : 0 < cs.length) (hsmall : cs.length ≤ 2 ^ 24) (N : Nat) (hN : w.heap.size = N)
    (h : wpList P ops Q rest (a.put o.dst (.slice (some ⟨N, 0, none⟩) 1 1)) (w.alloc (.cells cs.toArray e))) : wpList P ops Q (o :: rest) a w :=
  BigFrame.wpList_want hw fun _ hK => wp_buildOne t e x ho cs hx hu hsz hz hpos hsmall N hN (hK _ _ h)
end
end Go.Proofs.YtlpboikonnpjbaaGreat
