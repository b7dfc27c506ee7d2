/-
  Clearing and appending where there is room behind an own slice.
-/
import Derived.Test.YtbgpcgapkeddpaaGreatDel
namespace Go.Proofs.YtbgpcgapkeddpaaGreat
open Go.RowKit

section
variable {P : Program} {W : World}
/-- clear(s[n:n+m]) behind an own slice, where there is room: it stays. -/
theorem wpList_clear_room {ops : Array Oper} {rest : List Oper} {o : Oper} {a : Act} {Q : Exit → Act → World → Prop} (hgd : o.guard = none) (d : Operand) (t : TypeId) (ho : o.op = .call { callee := .builtin .clear, args := #[d], argTypes := #[t] })
    (E : TypeId) (size bytes : Nat) (hu : P.underlying t = some (.slice E)) (hI : infoOk P E size bytes = true) (hZ : zeroOne P E = true) {w0 : World} (hx : Ext w0 W) (g n k m : Nat) (c : Nat) (rows : List (List Value)) (hown : Own w0 W E size (some ⟨g, 0, none⟩) n k rows) (hm : 0 < m) (hfit : n + m ≤ k)
    (hd : a.eval d = .slice (some ⟨g, n * size, none⟩) m c)
    (h : ∀ w', Ext w0 w' → Own w0 w' E size (some ⟨g, 0, none⟩) n k rows → wpList P ops Q rest (a.put o.dst (.tuple #[])) w') : wpList P ops Q (o :: rest) a W := by
  obtain ⟨I, z, e1, e2, e3, _, e5⟩ := infoOk_get hI
  have hz1 : z.cells.all (·.oneCell') = true := by
    unfold zeroOne at hZ
    rw [e1] at hZ
    simp only [e2] at hZ
    exact hZ
  rcases hown.at_ with h0 | ⟨g', cur, hA, hg0, hb, hcs, htk⟩
  · omega
  injection hA with hA
  injection hA with hA
  subst hA
  have hf : n * size + m * size ≤ cur.size := by
    rw [hcs, ← Nat.add_mul]; exact Nat.mul_le_mul_right _ hfit
  have hr := run_clear_blk (P := P) (W := W) t o.type E I z size hu e1 e2 e5 hz1 g (n * size) m c cur E hb hm hf
  refine wpList_plain hgd fun K hK => ?_
  unfold Oper.wp execOp
  simp only [ho, resolve, invoke, builtin, Sem.run_bind, Sem.run_pure, Result.andThen_ok, List.map_toArray, List.map_cons, List.map_nil, hd, hr]
  refine hK _ _ (h _ (below_setRow hx hg0 _) ⟨hown.len, hown.row, hown.one, hown.le, hown.cap, .inr ⟨g, _, rfl, hg0, setRow_heap W g cur _ E _ hb, ?_, ?_⟩⟩)
  · rw [List.size_toArray, len_splice3 _ _ _ _ (by rw [Array.length_toList, size_zeroCells, e5]) (by simpa using hf)]; simpa using hcs
  · have hlen : (cur.toList.take (n * size)).length = n * size := by rw [List.length_take, Array.length_toList]; omega
    show (cur.toList.take (n * size) ++ _ ++ _).take (n * size) = _
    rw [List.append_assoc, List.take_append_of_le_length (by omega), List.take_of_length_le (by omega), htk]
variable {ops : Array Oper} {rest : List Oper} {o : Oper} {a : Act} {Q : Exit → Act → World → Prop} {w0 : World}
/-- append where there is room: it stays where it is. -/
theorem step_append_room {K : Act → World → Prop} {F : Prop} (hgd : o.guard = none) (s x : Operand) (t tx : TypeId) (ho : o.op = .call { callee := .builtin .append, args := #[s, x], argTypes := #[t, tx] }) (E e' : TypeId) (size bytes : Nat) (ht : P.underlying t = some (.slice E)) (htx : P.underlying tx = some (.slice e'))
    (hI : infoOk P E size bytes = true) (hpos : 0 < size) (hx : Ext w0 W) (g n k : Nat) (rows : List (List Value)) (hs : a.eval s = .slice (some ⟨g, 0, none⟩) n k) (hown : Own w0 W E size (some ⟨g, 0, none⟩) n k rows)
    (B : Option Addr) (m c : Nat) (news : List (List Value)) (hxv : a.eval x = .slice B m c) (hsl : Sl W B size news) (hm : news.length = m) (hn1 : ∀ r ∈ news, ∀ u ∈ r, u.oneCell' = true) (hk0 : 0 < k) (hroom : n + m ≤ k) (N : Nat) (hN : n + m = N) (all : List (List Value)) (hall : rows ++ news = all)
    (h : ∀ w', Ext w0 w' → Own w0 w' E size (some ⟨g, 0, none⟩) N k all → K (a.put o.dst (.slice (some ⟨g, 0, none⟩) N k)) w') :
    if Region.wanted o (yielded ops a.tmps) = true then Oper.wp P o a W K Q else F := by
  have hw : Region.wanted o (yielded ops a.tmps) = true := by simp [Region.wanted, hgd]
  rw [if_pos hw]
  subst hN
  subst hall
  obtain ⟨i, z, hi, hz, h3, h4, hzs⟩ := infoOk_get hI
  have hsrc := src_rows (c := c) htx hsl hm hn1 hpos
  have hnr := sl_row hsl
  subst h3
  subst h4
  have hfl := flat_len rows hown.row
  have hfn := flat_len news hnr
  have hal : (rows ++ news).length = n + m := by rw [List.length_append, hown.len, hm]
  rcases hown.at_ with h0 | ⟨g', cur, hA, hg, hb, hcs, htk⟩
  · omega
  injection hA with hA
  injection hA with hA
  subst hA
  have hfit : n * i.size + 0 + news.flatten.length ≤ cur.size := by
    rw [hfn, hm, hcs, Nat.add_zero, ← Nat.add_mul]; exact Nat.mul_le_mul_right _ hroom
  have hst := run_storeCells_at P g (n * i.size) E news.flatten 0 cur W hb hfit hsrc.one
  simp only [Nat.add_zero] at hst hfit
  have hr : (Builtin.append_ #[t, tx] o.type #[.slice (some ⟨g, 0, none⟩) n k, .slice B m c]).run P W = .ok (.slice (some ⟨g, 0, none⟩) (n + m) k) (W.setRow g (cur.toList.take (n * i.size) ++ news.flatten ++ cur.toList.drop (n * i.size + news.flatten.length)).toArray) := by
    rcases hsrc.kind with ⟨e', hk⟩ | hk <;> simp [Builtin.append_, run_underlying ht, run_underlying hk, sizeOf, typeInfo, hi, hsrc.len, hroom, hsrc.cells, Addr.add_lit, hst]
  unfold Oper.wp execOp
  simp only [ho, resolve, invoke, builtin, Sem.run_bind, Sem.run_pure, Result.andThen_ok, List.map_toArray, List.map_cons, List.map_nil, hs, hxv, hr]
  refine h _ (below_setRow hx hg _) ⟨hal, rowsOk hown.row hnr, rowsOne hown.one hn1, hroom, hown.cap, .inr ⟨g, _, rfl, hg, setRow_heap W g cur _ E _ hb, ?_, ?_⟩⟩
  · rw [List.size_toArray, len_splice3 _ _ _ _ rfl (by simpa using hfit)]; simpa using hcs
  · have := take_flat cur.toList rows.flatten news.flatten (n * i.size) htk (by simpa using hfit)
    rw [hfn, hm] at this
    rw [List.flatten_append, ← this, Nat.add_mul, hfn, hm]
end
end Go.Proofs.YtbgpcgapkeddpaaGreat
