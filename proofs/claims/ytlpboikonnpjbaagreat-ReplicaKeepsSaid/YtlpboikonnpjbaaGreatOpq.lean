/-
  Worlds that are not written out: boxes that are known whole, and what a store into one of them leaves.
-/
import Derived.Test.YtlpboikonnpjbaaGreatSlots
import Derived.Test.YtlpboikonnpjbaaGreatGrpa
import Derived.Test.YtlpboikonnpjbaaGreatGrpl
namespace Go.Proofs.YtlpboikonnpjbaaGreat
open Go.RowKit

/-- The block b is a box with these cells. -/
def BoxAt (W : World) (b : Nat) (cs : List Value) (T : TypeId) : Prop := W.heap[b]? = some (.cells cs.toArray T (0, 0))
theorem BoxAt.mono {W W' : World} {b : Nat} {cs : List Value} {T : TypeId} (h : BoxAt W b cs T) (hx : Ext W W') : BoxAt W' b cs T := by
  unfold BoxAt at *
  rw [hx.block b (Array.getElem?_eq_some_iff.1 h).1]; exact h
theorem BoxAt.lt {W : World} {b : Nat} {cs : List Value} {T : TypeId} (h : BoxAt W b cs T) : b < W.heap.size := (Array.getElem?_eq_some_iff.1 h).1
theorem BoxAt.new {W : World} {b : Nat} (hb : W.heap.size = b) (cs : List Value) (T : TypeId) : BoxAt (W.alloc (.cells cs.toArray T)) b cs T := by
  subst hb
  show (W.heap.push _)[W.heap.size]? = _
  simp
theorem BoxAt.alloc {W : World} {b : Nat} {cs : List Value} {T : TypeId} (h : BoxAt W b cs T) (o : Obj) : BoxAt (W.alloc o) b cs T := h.mono ((Ext.refl W).alloc o)
theorem BoxAt.xt {W : World} {b : Nat} {cs : List Value} {T : TypeId} (h : BoxAt W b cs T) (y : Gr) : BoxAt (YtlpboikonnpjbaaGreat.xt W y) b cs T := h.mono ((Ext.refl W).xt y)
theorem BoxAt.drew {W : World} {b : Nat} {cs : List Value} {T : TypeId} (h : BoxAt W b cs T) : BoxAt W.drew b cs T := h.mono ((Ext.refl W).drew)
theorem BoxAt.drewN {W : World} {b : Nat} {cs : List Value} {T : TypeId} (h : BoxAt W b cs T) (n : Nat) : BoxAt (W.drewN n) b cs T := h.mono ((Ext.refl W).drewN n)
theorem BoxAt.cell {W : World} {b : Nat} {cs : List Value} {T : TypeId} (h : BoxAt W b cs T) {i : Nat} {v : Value} (hv : cs[i]? = some v) : W.cell? ⟨b, i, none⟩ = some v := by
  unfold BoxAt at h
  rw [cell_of_row _ b i _ _ _ h]
  simpa using hv
theorem BoxAt.froz {W : World} {b : Nat} {cs : List Value} {T : TypeId} (h : BoxAt W b cs T) (i : Nat) : W.frozen? ⟨b, i, none⟩ = false := by
  unfold BoxAt at h
  unfold World.frozen?
  simp [h]
theorem BoxAt.there {W : World} {b : Nat} {cs : List Value} {T : TypeId} (h : BoxAt W b cs T) : W.there b 0 cs.length := fun j hj => by
  rw [Nat.zero_add]
  exact ⟨by rw [h.cell (List.getElem?_eq_getElem hj)]; rfl, h.froz j⟩
theorem BoxAt.differ {W : World} {b b' : Nat} {cs cs' : List Value} {T T' : TypeId} (h : BoxAt W b cs T) (h' : BoxAt W b' cs' T') (hT : T ≠ T') : b ≠ b' := fun e => by
  subst e
  unfold BoxAt at h h'
  rw [h] at h'
  injection h' with h'
  injection h' with h1 h2
  exact hT h2
/-- The box b has been stored into. -/
structure Turn (b : Nat) (W W' : World) : Prop where
  size : W'.heap.size = W.heap.size
  else_ : ∀ g, g ≠ b → W'.heap[g]? = W.heap[g]?
  os : W'.os = W.os
  tape : W'.tape = W.tape
  output : W'.output = W.output
  few : ∃ cs T fr, W.heap[b]? = some (.cells cs T fr) ∧ cs.size < 44
theorem BoxAt.turn {W W' : World} {b b' : Nat} {cs : List Value} {T : TypeId} (ht : Turn b W W') (hne : b' ≠ b) (h : BoxAt W b' cs T) : BoxAt W' b' cs T := by
  unfold BoxAt at *
  rw [ht.else_ b' hne]; exact h
theorem Turn.ext {X W W' : World} {b : Nat} (ht : Turn b W W') (hx : Ext X W) (hb : X.heap.size ≤ b) : Ext X W' :=
  ⟨ht.os.trans hx.os, ht.tape.trans hx.tape, ht.output.trans hx.output, by rw [ht.size]; exact hx.size, fun k hk => by rw [ht.else_ k (by omega)]; exact hx.block k hk⟩
theorem Sl.turn2 {b : Nat} {W W' : World} {A : Option Addr} {rows : List (List Value)} (ht : Turn b W W') (h : Sl W A 45 rows) : Sl W' A 45 rows :=
  ⟨fun i row hr => by
    obtain ⟨h1, g, o, h2, h3⟩ := h.at_ i row hr
    refine ⟨h1, g, o, h2, fun j v hv => ?_⟩
    have hne : g ≠ b := by
      intro he
      subst he
      obtain ⟨cs, T, fr, hb, h44⟩ := ht.few
      obtain ⟨x, hx⟩ : ∃ x, row[44]? = some x := ⟨_, List.getElem?_eq_getElem (by omega)⟩
      have := h3 44 x hx
      rw [cell_of_row _ g _ cs T fr hb] at this
      have := (Array.getElem?_eq_some_iff.1 this).1
      omega
    rw [World.cell?_of_block (ht.else_ g hne)]
    exact h3 j v hv⟩
theorem Own.turn2 {b : Nat} {w0 W W' : World} {E : TypeId} {A : Option Addr} {n k : Nat} {rows : List (List Value)} (ht : Turn b W W') (h : Own w0 W E 45 A n k rows) : Own w0 W' E 45 A n k rows := by
  refine ⟨h.len, h.row, h.one, h.le, h.cap, ?_⟩
  rcases h.at_ with h0 | ⟨g, cur, h1, h2, h3, h4, h5⟩
  · exact .inl h0
  · by_cases hg : g = b
    · subst hg
      obtain ⟨cs, T, fr, hb, h44⟩ := ht.few
      rw [h3] at hb
      injection hb with hb
      injection hb with e1
      subst e1
      exact .inl (by omega)
    · exact .inr ⟨g, cur, h1, h2, by rw [ht.else_ g hg]; exact h3, h4, h5⟩
theorem wp_name {P : Program} {c : Code} {Q : Exit → Act → World → Prop} {a : Act} {W : World} (h : ∀ W', W' = W → c.wp P Q a W') : c.wp P Q a W := h W rfl
/-- Records that lie in W; the lists of their actions lie in w. -/
structure LogW (w W : World) (A : Option Addr) (N c : Nat) (l : List Rec) : Prop where
  sl : Sl W A 45 (l.map recR)
  len : l.length = N
  le : N ≤ c
  cap : c ≤ maxLen
  el : ∀ r ∈ l, AcnAt w r.act
theorem LogW.recs {w W W' : World} {A : Option Addr} {N c : Nat} {l : List Rec} (h : LogW w W A N c l) (hx : Ext w W) (hy : Ext W W') : RecsAt W' A c l :=
  ⟨h.sl.mono hy, by rw [h.len]; exact h.le, h.cap, fun r hr => (h.el r hr).mono (hx.trans hy)⟩
theorem LogW.mono {w W W' : World} {A : Option Addr} {N c : Nat} {l : List Rec} (h : LogW w W A N c l) (hx : Ext W W') : LogW w W' A N c l := ⟨h.sl.mono hx, h.len, h.le, h.cap, h.el⟩
theorem LogW.turn {b : Nat} {w W W' : World} {A : Option Addr} {N c : Nat} {l : List Rec} (ht : Turn b W W') (h : LogW w W A N c l) : LogW w W' A N c l := ⟨h.sl.turn2 ht, h.len, h.le, h.cap, h.el⟩
theorem LogW.of {w W : World} {A : Option Addr} {c : Nat} {l : List Rec} (h : RecsAt w A c l) (hx : Ext w W) : LogW w W A l.length c l := ⟨h.sl.mono hx, rfl, h.le, h.cap, h.el⟩
theorem LogW.nil (w W : World) : LogW w W none 0 0 [] := ⟨Sl.nil _ _ _, rfl, Nat.le_refl _, Nat.zero_le _, by simp⟩
theorem LogW.own {w X W : World} {E : TypeId} {A : Option Addr} {N c : Nat} {l : List Rec} (h : Own X W E 45 A N c (l.map recR)) (he : ∀ r ∈ l, AcnAt w r.act) : LogW w W A N c l :=
  ⟨h.sl, by have := h.len; rwa [List.length_map] at this, h.le, h.cap, he⟩
section
variable {P : Program} {ops : Array Oper} {rest : List Oper} {op : Oper} {a : Act} {Q : Exit → Act → World → Prop}
theorem setCells_box {W : World} {b : Nat} {zs : List Value} {T : TypeId} (hb : BoxAt W b zs T) (cells : List Value) (hz : zs.length = cells.length) (h44 : zs.length < 44) : Turn b W (W.setCells b 0 cells) ∧ BoxAt (W.setCells b 0 cells) b cells T := by
  have key : ∀ (cells : List Value) (o : Nat) (W : World) (zs : List Value), BoxAt W b zs T → o + cells.length ≤ zs.length → zs.length < 44 → Turn b W (W.setCells b o cells) ∧ BoxAt (W.setCells b o cells) b (zs.take o ++ cells ++ zs.drop (o + cells.length)) T := by
    intro cells
    induction cells with
    | nil =>
      intro o W zs hb ho h44
      refine ⟨⟨rfl, fun _ _ => rfl, rfl, rfl, rfl, zs.toArray, T, (0, 0), hb, by simpa using h44⟩, ?_⟩
      simp only [World.setCells, List.append_nil, List.length_nil, Nat.add_zero, List.take_append_drop]
      exact hb
    | cons v r ih =>
      intro o W zs hb ho h44
      simp only [List.length_cons] at ho
      have hb1 : BoxAt (W.setCell ⟨b, o, none⟩ v) b (zs.set o v) T := by
        unfold BoxAt at *
        unfold World.setCell
        rw [Array.getElem?_modify, if_pos rfl, hb]
        simp
      have ht : Turn b W (W.setCell ⟨b, o, none⟩ v) := ⟨by simp [World.setCell], fun g hg => by unfold World.setCell; rw [Array.getElem?_modify, if_neg (Ne.symm hg)], rfl, rfl, rfl, zs.toArray, T, (0, 0), hb, by simpa using h44⟩
      obtain ⟨i1, i2⟩ := ih (o + 1) _ (zs.set o v) hb1 (by rw [List.length_set]; omega) (by rw [List.length_set]; exact h44)
      refine ⟨⟨i1.size.trans ht.size, fun g hg => (i1.else_ g hg).trans (ht.else_ g hg), i1.os.trans ht.os, i1.tape.trans ht.tape, i1.output.trans ht.output, ht.few⟩, ?_⟩
      have e : (zs.set o v).take (o + 1) ++ r ++ (zs.set o v).drop (o + 1 + r.length) = zs.take o ++ v :: r ++ zs.drop (o + (r.length + 1)) := by
        rw [List.drop_set_of_lt (by omega), show o + 1 + r.length = o + (r.length + 1) by omega, List.take_succ_eq_append_getElem (by rw [List.length_set]; omega), List.take_set_of_le (Nat.le_refl o)]
        simp
      rw [e] at i2
      exact i2
  have := key cells 0 W zs hb (by omega) h44
  rw [List.take_zero, Nat.zero_add, List.drop_eq_nil_of_le (by omega), List.append_nil, List.nil_append] at this
  exact this
/-- A store of a whole struct into a box. -/
theorem wp_store_at {K : Act → World → Prop} (ty : TypeId) (x y : Operand) (ho : op.op = .store ty x y) {W : World} {b : Nat} {zs : List Value} {T : TypeId} (hb : BoxAt W b zs T) (hx : a.eval x = .pointer (some ⟨b, 0, none⟩))
    (cells : List Value) (hy : a.eval y = .agg cells.toArray) (hz : zs.length = cells.length) (h44 : zs.length < 44) (hi : (P.info? ty).map (·.size) = some cells.length) (h1 : ∀ u ∈ cells, u.oneCell' = true)
    (h : ∀ W', Turn b W W' → BoxAt W' b cells T → K (a.put op.dst undef) W') : op.wp P a W K Q := by
  refine wp_store_mid ty x y ho b 0 cells.toArray hx hy (fun j hj => ?_) (by simpa using hi) (all_oneCell_toArray h1) ?_
  · exact hb.there j (by rw [hz]; simpa using hj)
  · obtain ⟨i1, i2⟩ := setCells_box hb cells hz h44
    exact h _ i1 i2
/-- The same as one of a region's operations, which alone may come up. -/
theorem wpAnyL_store {md : Region.Mode} {S : Array Bool → World → Prop} {i : Nat} {o : Oper} {f : Nat} {L : Array Bool} {w : World} (hr : Region.ready md ops L = [i]) (ho : ops[i]? = some o) (hg : o.guard = none) (hcl : ShutL md ops L)
    (ty : TypeId) (x y : Operand) (hop : o.op = .store ty x y) {b : Nat} {zs : List Value} {T : TypeId} (hb : BoxAt w b zs T) (hx : a.eval x = .pointer (some ⟨b, 0, none⟩))
    (cells : List Value) (hy : a.eval y = .agg cells.toArray) (hz : zs.length = cells.length) (h44 : zs.length < 44) (hi : (P.info? ty).map (·.size) = some cells.length) (h1 : ∀ u ∈ cells, u.oneCell' = true)
    (h : ∀ W', Turn b w W' → BoxAt W' b cells T → S (L.setIfInBounds i true) W' ∧ (ShutL md ops (L.setIfInBounds i true) → S (L.setIfInBounds i true) W' → wpAnyL P md ops Q S f (L.setIfInBounds i true) (a.put o.dst undef) W')) : wpAnyL P md ops Q S (f + 1) L a w :=
  wpAnyL_only hr ho hg hcl fun _ hK => wp_store_at ty x y hop hb hx cells hy hz h44 hi h1 fun W' h2 h3 => hK _ _ (h W' h2 h3).1 (h W' h2 h3).2
theorem wpList_store_at (hgd : op.guard = none) (ty : TypeId) (x y : Operand) (ho : op.op = .store ty x y) {W : World} {b : Nat} {zs : List Value} {T : TypeId} (hb : BoxAt W b zs T) (hx : a.eval x = .pointer (some ⟨b, 0, none⟩))
    (cells : List Value) (hy : a.eval y = .agg cells.toArray) (hz : zs.length = cells.length) (h44 : zs.length < 44) (hi : (P.info? ty).map (·.size) = some cells.length) (h1 : ∀ u ∈ cells, u.oneCell' = true)
    (h : ∀ W', Turn b W W' → BoxAt W' b cells T → wpList P ops Q rest (a.put op.dst undef) W') : wpList P ops Q (op :: rest) a W :=
  wpList_plain hgd fun _ hK => wp_store_at ty x y ho hb hx cells hy hz h44 hi h1 fun W' h2 h3 => hK _ _ (h W' h2 h3)
end
theorem BoxAt.six {W : World} {b : Nat} {v0 v1 v2 v3 v4 v5 : Value} {T : TypeId} (h : BoxAt W b [v0, v1, v2, v3, v4, v5] T) :
    W.cell? ⟨b, 0, none⟩ = some v0 ∧ W.cell? ⟨b, 1, none⟩ = some v1 ∧ W.cell? ⟨b, 2, none⟩ = some v2 ∧ W.cell? ⟨b, 3, none⟩ = some v3 ∧ W.cell? ⟨b, 4, none⟩ = some v4 ∧ W.cell? ⟨b, 5, none⟩ = some v5 :=
  ⟨h.cell rfl, h.cell rfl, h.cell rfl, h.cell rfl, h.cell rfl, h.cell rfl⟩
theorem nodl_one (n : Nod) (A : Option Addr) (c : Nat) : ∀ u ∈ ([.int .i64 n.id, .int .i64 n.term, .bool n.speaks, .slice A n.log.length c, .int .i64 n.acked, .int .i64 n.next] : List Value), u.oneCell' = true := fun u hu => by
  simp only [List.mem_cons, List.not_mem_nil, or_false] at hu
  rcases hu with rfl | rfl | rfl | rfl | rfl | rfl <;> rfl
theorem ansl_one (m : Msg) : ∀ u ∈ ([.int .i64 m.kind, .int .i64 m.term, .int .i64 m.at_, .int .i64 0, .slice none 0 0, .int .i64 0] : List Value), u.oneCell' = true := fun u hu => by
  simp only [List.mem_cons, List.not_mem_nil, or_false] at hu
  rcases hu with rfl | rfl | rfl | rfl | rfl | rfl <;> rfl
theorem recvV_log (n : Nod) (m : Msg) : ∀ r ∈ (recvV n m).1.log, r ∈ n.log ∨ r ∈ m.recs := by
  have hn : ∀ r ∈ nod0.log, r ∈ n.log ∨ r ∈ m.recs := fun _ hr => by simp [nod0] at hr
  have ht : ∀ x : Nod, x.log = n.log → ∀ r ∈ tookL x m, r ∈ n.log ∨ r ∈ m.recs := fun x hx r hr => by
    unfold tookL at hr
    simp only at hr
    split at hr
    · rcases List.mem_append.1 hr with hr | hr
      · exact .inl (by rw [← hx]; exact List.mem_of_mem_take hr)
      · exact .inr (List.mem_of_mem_drop hr)
    · exact .inl (by rw [← hx]; exact hr)
  have htv : ∀ x : Nod, x.log = n.log → ∀ r ∈ (takeV x m).1.log, r ∈ n.log ∨ r ∈ m.recs := fun x hx r hr => by
    unfold takeV at hr
    simp only at hr
    repeat' split at hr
    all_goals first
      | exact .inl (by rw [← hx]; exact hr)
      | exact ht x hx r hr
  unfold recvV
  split
  · exact hn
  split
  · exact hn
  split
  · exact hn
  split
  · exact hn
  unfold recdV
  split
  · split <;> exact fun _ hr => .inl hr
  split
  · exact htv _ (inTerm_log n m)
  split
  · intro r hr
    refine .inl ?_
    have : (ackN (inTerm n m) m).log = n.log := by
      unfold ackN
      split <;> exact inTerm_log n m
    rw [← this]; exact hr
  · intro r hr
    refine .inl ?_
    have : (refuseN (inTerm n m) m).log = n.log := by
      unfold refuseN
      split <;> exact inTerm_log n m
    rw [← this]; exact hr
theorem sentM_recs (n : Nod) : ∀ r ∈ (sentM n).recs, r ∈ n.log := fun _ hr => List.mem_of_mem_drop (List.mem_of_mem_take hr)
/-! ### Four boxes of nodes that a call made at its beginning: two nodes, and two results -/
structure Four (T : TypeId) (w W : World) (x : Nod) (A : Option Addr) (c : Nat) (y : Nod) (B : Option Addr) (d : Nat) : Prop where
  ext : Ext w W
  b1 : BoxAt W w.heap.size [.int .i64 x.id, .int .i64 x.term, .bool x.speaks, .slice A x.log.length c, .int .i64 x.acked, .int .i64 x.next] T
  b2 : BoxAt W (w.heap.size + 1) [.int .i64 y.id, .int .i64 y.term, .bool y.speaks, .slice B y.log.length d, .int .i64 y.acked, .int .i64 y.next] T
  b3 : BoxAt W (w.heap.size + 2) [.int .i64 0, .int .i64 0, .bool false, .slice none 0 0, .int .i64 0, .int .i64 0] T
  b4 : BoxAt W (w.heap.size + 3) [.int .i64 0, .int .i64 0, .bool false, .slice none 0 0, .int .i64 0, .int .i64 0] T
  l1 : LogW w W A x.log.length c x.log
  l2 : LogW w W B y.log.length d y.log
section
variable {T : TypeId} {w W W' : World} {x y : Nod} {A B : Option Addr} {c d : Nat}
theorem Four.mono (h : Four T w W x A c y B d) (hx : Ext W W') : Four T w W' x A c y B d :=
  ⟨h.ext.trans hx, h.b1.mono hx, h.b2.mono hx, h.b3.mono hx, h.b4.mono hx, h.l1.mono hx, h.l2.mono hx⟩
theorem Four.turn {g : Nat} (h : Four T w W x A c y B d) (ht : Turn g W W') (hg : w.heap.size + 4 ≤ g) : Four T w W' x A c y B d :=
  ⟨ht.ext h.ext (by omega), h.b1.turn ht (by omega), h.b2.turn ht (by omega), h.b3.turn ht (by omega), h.b4.turn ht (by omega), h.l1.turn ht, h.l2.turn ht⟩
theorem Four.set1 {x' : Nod} {A' : Option Addr} {c' : Nat} (h : Four T w W x A c y B d) (ht : Turn w.heap.size W W') (hb : BoxAt W' w.heap.size [.int .i64 x'.id, .int .i64 x'.term, .bool x'.speaks, .slice A' x'.log.length c', .int .i64 x'.acked, .int .i64 x'.next] T) (hl : LogW w W A' x'.log.length c' x'.log) : Four T w W' x' A' c' y B d :=
  ⟨ht.ext h.ext (Nat.le_refl _), hb, h.b2.turn ht (by omega), h.b3.turn ht (by omega), h.b4.turn ht (by omega), hl.turn ht, h.l2.turn ht⟩
theorem Four.set2 {y' : Nod} {B' : Option Addr} {d' : Nat} (h : Four T w W x A c y B d) (ht : Turn (w.heap.size + 1) W W') (hb : BoxAt W' (w.heap.size + 1) [.int .i64 y'.id, .int .i64 y'.term, .bool y'.speaks, .slice B' y'.log.length d', .int .i64 y'.acked, .int .i64 y'.next] T) (hl : LogW w W B' y'.log.length d' y'.log) : Four T w W' x A c y' B' d' :=
  ⟨ht.ext h.ext (by omega), h.b1.turn ht (by omega), hb, h.b3.turn ht (by omega), h.b4.turn ht (by omega), h.l1.turn ht, hl.turn ht⟩
end
end Go.Proofs.YtlpboikonnpjbaaGreat
