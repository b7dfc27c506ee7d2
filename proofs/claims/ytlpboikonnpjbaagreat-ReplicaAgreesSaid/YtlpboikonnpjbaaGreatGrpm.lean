/-
  Chapter 54's examples: contracts by value; what a store into a small box leaves alone.
-/
import Derived.Test.YtlpboikonnpjbaaGreatGrag
import Derived.Test.YtlpboikonnpjbaaGreatGrpj
import Derived.Test.YtlpboikonnpjbaaGreatRep12
import Derived.Test.YtlpboikonnpjbaaGreatGtail
namespace Go.Proofs.YtlpboikonnpjbaaGreat
open Go.RowKit

/-! ### A box of few cells is stored into -/
theorem alloc_heap (w : World) (o : Obj) : (w.alloc o).heap = w.heap.push o := rfl
structure Turned (b : Nat) (W W' : World) : Prop where
  size : W'.heap.size = W.heap.size
  else_ : ∀ g, g ≠ b → W'.heap[g]? = W.heap[g]?
  few : ∃ cs T fr, W.heap[b]? = some (.cells cs T fr) ∧ cs.size < 44
theorem Turned.lt {b : Nat} {W W' : World} (h : Turned b W W') : b < W.heap.size := by
  obtain ⟨cs, T, fr, hb, -⟩ := h.few
  exact (Array.getElem?_eq_some_iff.1 hb).1
theorem Turned.box {w : World} {cs cs' : Array Value} {T : TypeId} {b : Nat} (hb : w.heap.size = b) (_h : cs'.size = cs.size) (h44 : cs.size < 44) : Turned b (w.alloc (.cells cs T)) (w.alloc (.cells cs' T)) := by
  subst hb
  refine ⟨by simp [alloc_heap], fun g hg => ?_, cs, T, (0, 0), by simp [alloc_heap], h44⟩
  simp only [alloc_heap, Array.getElem?_push]
  rw [if_neg hg, if_neg hg]
theorem Turned.alloc {b : Nat} {W W' : World} (h : Turned b W W') (o : Obj) : Turned b (W.alloc o) (W'.alloc o) := by
  have hl := h.lt
  obtain ⟨cs, T, fr, hb, h44⟩ := h.few
  refine ⟨by simp [alloc_heap, h.size], fun g hg => ?_, cs, T, fr, ?_, h44⟩
  · simp only [alloc_heap, Array.getElem?_push, h.size]
    split
    · rfl
    · exact h.else_ g hg
  · simp only [alloc_heap, Array.getElem?_push]
    rw [if_neg (by omega)]; exact hb
theorem Turned.xt {b : Nat} {W W' : World} (h : Turned b W W') (y : Gr) : Turned b (YtlpboikonnpjbaaGreat.xt W y) (YtlpboikonnpjbaaGreat.xt W' y) := by
  have hl := h.lt
  obtain ⟨cs, T, fr, hb, h44⟩ := h.few
  refine ⟨by show (W'.heap ++ y.objs).size = (W.heap ++ y.objs).size; simp [h.size], fun g hg => ?_, cs, T, fr, ?_, h44⟩
  · show (W'.heap ++ y.objs)[g]? = (W.heap ++ y.objs)[g]?
    simp only [Array.getElem?_append, h.size]
    split
    · exact h.else_ g hg
    · rfl
  · show (W.heap ++ y.objs)[b]? = _
    rw [Array.getElem?_append_left hl]; exact hb
theorem Turned.drew {b : Nat} {W W' : World} (h : Turned b W W') : Turned b W.drew W'.drew := ⟨h.size, h.else_, h.few⟩
theorem Sl.turn {b : Nat} {w W W' : World} {A : Option Addr} {rows : List (List Value)} (ht : Turned b W W') (hx : Ext w W) (h : Sl w A 45 rows) : Sl W' A 45 rows :=
  ⟨fun i row hr => by
    obtain ⟨h1, g, o, h2, h3⟩ := (h.mono hx).at_ i row hr
    refine ⟨h1, g, o, h2, fun j v hv => ?_⟩
    have hne : g ≠ b := by
      intro he
      subst he
      obtain ⟨cs, T, fr, hb, h44⟩ := ht.few
      obtain ⟨x, hx⟩ : ∃ x, row[44]? = some x := ⟨_, List.getElem?_eq_getElem (by omega)⟩
      have := h3 44 x hx
      rw [cell_of_row _ g _ cs T fr hb] at this
      have := (Array.getElem?_eq_some_iff.1 this).1
      omega
    rw [World.cell?_of_block (ht.else_ g hne)]
    exact h3 j v hv⟩
/-- A list of examples: its actions have no lists. -/
structure ExAt (w : World) (A : Option Addr) (c n : Nat) (l : List Rec) : Prop where
  sl : Sl w A 45 (l.map recR)
  len : l.length = n
  le : l.length ≤ c
  cap : c ≤ maxLen
  el : ∀ r ∈ l, ∃ t, r.act = goA t
theorem ExAt.recs {w : World} {A : Option Addr} {c n : Nat} {l : List Rec} (h : ExAt w A c n l) : RecsAt w A c l := ⟨h.sl, h.le, h.cap, fun r hr => by
  obtain ⟨t, ht⟩ := h.el r hr
  rw [ht]; exact mkA_at _ _ _ _ w⟩
theorem ExAt.of {w : World} {A : Option Addr} {c n : Nat} {l : List Rec} (h : RecsAt w A c l) (hn : l.length = n) (he : ∀ r ∈ l, ∃ t, r.act = goA t) : ExAt w A c n l := ⟨h.sl, hn, h.le, h.cap, he⟩
theorem ExAt.mono {w w' : World} {A : Option Addr} {c n : Nat} {l : List Rec} (hx : Ext w w') (h : ExAt w A c n l) : ExAt w' A c n l := ⟨h.sl.mono hx, h.len, h.le, h.cap, h.el⟩
theorem ExAt.turn {b : Nat} {w W W' : World} {A : Option Addr} {c n : Nat} {l : List Rec} (ht : Turned b W W') (hx : Ext w W) (h : ExAt w A c n l) : ExAt W' A c n l := ⟨Sl.turn ht hx h.sl, h.len, h.le, h.cap, h.el⟩
theorem ExAt.any {w : World} {A : Option Addr} {c : Nat} (h : ExAt w A c 0 []) (W : World) : ExAt W A c 0 [] := ⟨Sl.nil _ _ _, h.len, h.le, h.cap, h.el⟩
theorem ExAt.nil (W : World) : ExAt W none 0 0 [] := ⟨Sl.nil _ _ _, rfl, Nat.le_refl _, Nat.zero_le _, by simp⟩
theorem wp_know {P : Program} {c : Code} {Q : Exit → Act → World → Prop} {a : Act} {W : World} (R : World → Prop) (h : R W) (k : R W → c.wp P Q a W) : c.wp P Q a W := k h
def exL (l : List Rec) : Prop := ∀ r ∈ l, ∃ t, r.act = goA t
theorem exL_nil : exL [] := fun r hr => by simp at hr
theorem exL_A1 : exL [exR0] := fun r hr => by simp at hr; subst hr; exact ⟨_, rfl⟩
theorem exL_A : exL [exR0, exR1] := fun r hr => by simp at hr; rcases hr with rfl | rfl <;> exact ⟨_, rfl⟩
theorem exL_7 : exL [exR7] := fun r hr => by simp at hr; subst hr; exact ⟨_, rfl⟩

/-! ### Contracts by value -/
/-- A node comes back, and no error. -/
def GotN (w : World) (id t : Int) (sp : Bool) (l : List Rec) (k : Nat) (ak nx : Int) (e : Ending) (w' : World) : Prop := ∃ A c, e = .returned (.tuple #[.agg #[.int .i64 id, .int .i64 t, .bool sp, .slice A k c, .int .i64 ak, .int .i64 nx], .int .i64 0]) ∧ Ext w w' ∧ ExAt w' A c k l
theorem GotN.of {w w' : World} {v : Nod × Int} {id t : Int} {sp : Bool} {l : List Rec} {k : Nat} {ak nx : Int} {e : Ending} (h : RetNod w v e w') (hv : v = (⟨id, t, sp, l, ak, nx⟩, 0)) (hk : l.length = k) (hl : exL l) : GotN w id t sp l k ak nx e w' := by
  subst hv hk
  obtain ⟨A, c, he, hx, hr⟩ := h
  exact ⟨A, c, he, hx, ExAt.of hr rfl hl⟩
theorem ex_New (id : Int) (hid : ¬ (id < 1 ∨ 2 < id)) (w : World) : Calls Tryz.prog 41 #[.int .i64 id] w (GotN w id 0 false [] 0 0 0) :=
  (rep_New id w).mono fun _ _ h => GotN.of h (by unfold newV; rw [if_neg hid]) rfl exL_nil
theorem ex_Lead (id t : Int) (A : Option Addr) (c : Nat) (u : Int) (w : World) (hs : ExAt w A c 0 []) (hv : leadV ⟨id, t, false, [], 0, 0⟩ u = (⟨id, u, true, [], 0, 0⟩, 0)) :
    Calls Tryz.prog 32 #[.agg #[.int .i64 id, .int .i64 t, .bool false, .slice A 0 c, .int .i64 0, .int .i64 0], .int .i64 u] w (GotN w id u true [] 0 0 0) :=
  (rep_Lead ⟨id, t, false, [], 0, 0⟩ A c u w hs.recs).mono fun _ _ h => GotN.of h hv rfl exL_nil
theorem ex_Act (id t : Int) (l : List Rec) (k : Nat) (A : Option Addr) (c : Nat) (u : Int) (w : World) (hs : ExAt w A c k l) (l' : List Rec) (k' : Nat) (hk' : l'.length = k') (hl' : exL l') (hv : actV ⟨id, t, true, l, 0, 0⟩ (goA u) = (⟨id, t, true, l', 0, 0⟩, 0)) :
    Calls Tryz.prog 34 #[.agg #[.int .i64 id, .int .i64 t, .bool true, .slice A k c, .int .i64 0, .int .i64 0], .agg (acnR (goA u)).toArray] w (GotN w id t true l' k' 0 0) := by
  have h := hs.len
  subst h
  exact (rep_Act ⟨id, t, true, l, 0, 0⟩ A c (goA u) w hs.recs (mkA_at _ _ _ _ w)).mono fun _ _ h => GotN.of h hv hk' hl'
/-- A message comes back, and no error. -/
def GotM (w : World) (t at_ b : Int) (l : List Rec) (k : Nat) (ak : Int) (e : Ending) (w' : World) : Prop := ∃ A c, e = .returned (.tuple #[.agg #[.int .i64 0, .int .i64 t, .int .i64 at_, .int .i64 b, .slice A k c, .int .i64 ak], .int .i64 0]) ∧ Ext w w' ∧ ExAt w' A c k l
theorem ex_Send (id t : Int) (l : List Rec) (k : Nat) (ak nx : Int) (A : Option Addr) (c : Nat) (w : World) (hs : ExAt w A c k l) (at_ b : Int) (l' : List Rec) (k' : Nat) (hk' : l'.length = k') (hl' : exL l') (hv : sendV ⟨id, t, true, l, ak, nx⟩ = (⟨0, t, at_, b, l', ak⟩, 0)) :
    Calls Tryz.prog 36 #[.agg #[.int .i64 id, .int .i64 t, .bool true, .slice A k c, .int .i64 ak, .int .i64 nx]] w (GotM w t at_ b l' k' ak) := by
  have h := hs.len
  subst h
  refine (rep_Send ⟨id, t, true, l, ak, nx⟩ A c w hs.recs).mono fun e w' h => ?_
  rw [hv] at h
  obtain ⟨D, d, he, hx, ho, ha⟩ := h
  subst hk'
  exact ⟨D, d, he, hx, ExAt.of (Own.recs ho rfl (fun r hr => (ha r hr).mono hx)) rfl hl'⟩
/-- A node and an answer come back, and no error. -/
def GotR (w : World) (id t : Int) (sp : Bool) (l : List Rec) (k : Nat) (ak nx : Int) (ak_ at_ term : Int) (ok : Bool) (e : Ending) (w' : World) : Prop := ∃ A c, e = .returned (.tuple #[.agg #[.int .i64 id, .int .i64 t, .bool sp, .slice A k c, .int .i64 ak, .int .i64 nx], .agg #[.int .i64 ak_, .int .i64 term, .int .i64 at_, .int .i64 0, .slice none 0 0, .int .i64 0], .bool ok, .int .i64 0]) ∧ Ext w w' ∧ ExAt w' A c k l
theorem ex_Receive (n : Nod) (k : Nat) (A : Option Addr) (c : Nat) (m : Msg) (d' : Nat) (B : Option Addr) (d : Nat) (w : World) (hs : ExAt w A c k n.log) (hm : ExAt w B d d' m.recs) (id t : Int) (sp : Bool) (l : List Rec) (k' : Nat) (hk' : l.length = k') (hl : exL l) (ak nx : Int) (kind term at_ : Int) (ok : Bool)
    (hv : recvV n m = (⟨id, t, sp, l, ak, nx⟩, ⟨kind, term, at_, 0, [], 0⟩, ok, 0)) :
    Calls Tryz.prog 21 #[.agg #[.int .i64 n.id, .int .i64 n.term, .bool n.speaks, .slice A k c, .int .i64 n.acked, .int .i64 n.next], .agg #[.int .i64 m.kind, .int .i64 m.term, .int .i64 m.at_, .int .i64 m.before, .slice B d' d, .int .i64 m.acked]] w (GotR w id t sp l k' ak nx kind at_ term ok) := by
  have h := hs.len
  have h2 := hm.len
  subst h h2 hk'
  refine (rep_Receive n A c m B d w hs.recs hm.recs).mono fun e w' h => ?_
  rw [hv] at h
  obtain ⟨D, K, he, hx, hr⟩ := h
  refine ⟨D, K, he, hx, ExAt.of (hr.recs rfl hx) rfl hl⟩
theorem results_acn {fn : Func} {tmps : Array Value} {w : World} {i b : Nat} {a : Acn} (hf : fn.results = #[.cell i 45]) (ht : tmps.getD i undef = .pointer (some ⟨b, 0, none⟩)) (hr : w.rangeAt b 0 (acnR a)) : (results fn tmps).run Tryz.prog w = .ok (.agg (acnR a).toArray) w := by
  have hl := run_loadVar_mid w b 0 45 (acnR a) _ hr Tryz.underlying45 rfl (by kernel_rfl)
  have ha : (asAddr (tmps.getD i undef)).run Tryz.prog w = .ok ⟨b, 0, none⟩ w := by rw [ht]; rfl
  generalize hq : acnR a = cs at *
  unfold results
  rw [hf]
  simp only [List.mapM_toArray, List.mapM_cons, List.mapM_nil, Sem.run_bind, Sem.run_map, Sem.run_pure, bind_pure_comp, ha, hl, Result.andThen]
  rfl
set_option maxRecDepth 100000 in
theorem madeA (t : Int) : Program.built Tryz.prog 45 [(0, .int .i64 t), (1, .int .i64 0), (2, .int .i64 1)] = some (acnR (goA t)).toArray := by kernel_rfl
set_option maxHeartbeats 1600000 in
set_option maxRecDepth 100000 in
theorem l54_Go (t : Int) (w : World) : Calls Tryz.prog 63 #[.int .i64 t] w fun e w' => e = .returned (.agg (acnR (goA t)).toArray) ∧ Ext w w' := by
  obtain ⟨q, hq⟩ : ∃ q, goA t = q := ⟨_, rfl⟩
  have HM := Lib.hid (madeA t)
  rw [hq] at HM ⊢
  clear hq
  go_enter Tryz.func63, Tryz.ntmps63
  go_wp2_with (first
    | (refine wpList_built rfl 45 _ rfl [(0, .int .i64 t), (1, .int .i64 0), (2, .int .i64 1)] rfl (acnR q).toArray HM.out ?_)
    | (refine wpList_store_top rfl 45 _ _ rfl rfl (by simp [go_sem]) (acnR q) rfl rfl (by kernel_rfl) (acnR_one _) ?_))
  refine bodyPost_ret (v := .agg (acnR q).toArray) (results_acn (i := 2) (by simp [Tryz.results63]) rfl (rangeAt_new w rfl (acnR q) _)) rfl ?_
  exact ⟨rfl, by repeat (first | exact Ext.refl _ | assumption | apply Ext.xt | apply Ext.alloc | apply Ext.drew | apply Ext.drewN)⟩
end Go.Proofs.YtlpboikonnpjbaaGreat

/-
  Chapter 54's examples.
-/
namespace Go.Proofs.YtlpboikonnpjbaaGreat
open Go.RowKit

set_option maxHeartbeats 12800000 in
set_option maxRecDepth 100000 in
theorem l54_awake (w : World) : Calls Tryz.prog 20 #[] w fun e w' => e = .returned (.bool true) ∧ Ext w w' := by
  go_enter Tryz.func20, Tryz.ntmps20
  go_wp2_with fail
  go_at_call 41; refine (ex_New 1 (by omega) _).mono ?_; rintro e w' ⟨A1, c1, rfl, hx, h0⟩; have H1 := Lib.hid h0; obtain ⟨ya, rfl⟩ := hx.get; clear hx h0
  go_wp2_with fail
  go_at_call 41; refine (ex_New 2 (by omega) _).mono ?_; rintro e w' ⟨A2, c2, rfl, hx, h0⟩; have H2 := Lib.hid h0; obtain ⟨yb, rfl⟩ := hx.get; clear hx h0
  go_wp2_with fail
  go_at_call 32; refine (ex_Lead 1 0 A1 c1 1 _ (ExAt.mono (by repeat (first | exact Ext.refl _ | assumption | apply Ext.xt | apply Ext.alloc | apply Ext.drew | apply Ext.drewN)) H1.out) ex_leadA).mono ?_; rintro e w' ⟨A3, c3, rfl, hx, h0⟩; have H3 := Lib.hid h0; obtain ⟨yc, rfl⟩ := hx.get; clear hx h0
  go_wp2_with fail
  (try simp only [Act.put]); (try simp only [List.setIfInBounds_toArray]); (repeat (first | simp only [List.set_cons_succ] | simp only [List.set_cons_zero]))
  refine wp_region_L (S := SS 6 99 (fun w' => w'.cell? ⟨w.heap.size + ya.n, 0, none⟩ = some (.int .i64 1) ∧ w'.cell? ⟨w.heap.size + ya.n, 1, none⟩ = some (.int .i64 1) ∧ w'.cell? ⟨w.heap.size + ya.n, 2, none⟩ = some (.bool true) ∧ w'.cell? ⟨w.heap.size + ya.n, 3, none⟩ = some (.slice A3 0 c3) ∧ w'.cell? ⟨w.heap.size + ya.n, 4, none⟩ = some (.int .i64 0) ∧ w'.cell? ⟨w.heap.size + ya.n, 5, none⟩ = some (.int .i64 0)) (fun _ => True) (fun _ => True)) (by kernel_rfl) ⟨fun _ => ⟨by simp [go_sem], by simp [go_sem], by simp [go_sem], by simp [go_sem], by simp [go_sem], by simp [go_sem]⟩, fun _ => trivial, trivial⟩ (fun hcl hS => ?_)
  refine wpAnyL_take (i := 0) (T := (fun w' => w'.cell? ⟨w.heap.size + ya.n, 0, none⟩ = some (.int .i64 1) ∧ w'.cell? ⟨w.heap.size + ya.n, 1, none⟩ = some (.int .i64 1) ∧ w'.cell? ⟨w.heap.size + ya.n, 2, none⟩ = some (.bool true) ∧ w'.cell? ⟨w.heap.size + ya.n, 3, none⟩ = some (.slice A3 0 c3) ∧ w'.cell? ⟨w.heap.size + ya.n, 4, none⟩ = some (.int .i64 0) ∧ w'.cell? ⟨w.heap.size + ya.n, 5, none⟩ = some (.int .i64 0))) (v := ?_) rfl (by kernel_rfl) (by kernel_rfl) (by kernel_rfl) (fun _ _ _ h => h) (fun _ _ hc hi hS => hS.1 (hc.not (k := 6) (by kernel_rfl) hi)) (SS.up (by decide) (by decide)) (SS.down (by decide) (by decide)) (Or.inl ⟨by rfl, ?_⟩) hcl hS ?_
  rotate_left
  · (intro w' hw'; (try dsimp only at hw'); (try obtain ⟨g0, g1, g2, g3, g4, g5⟩ := hw'); go_simp; try with_reducible rfl)
  clear hcl hS
  intro hcl hS
  (try simp only [Act.put]); (try simp only [List.setIfInBounds_toArray]); (repeat (first | simp only [List.set_cons_succ] | simp only [List.set_cons_zero]))
  refine wpAnyL_only (i := 1) (by kernel_rfl) rfl rfl hcl (fun K hK => ?_)
  go_simp; go_at_call 63; refine (l54_Go 0 _).mono ?_; rintro e w' ⟨rfl, hx⟩; obtain ⟨ydg, rfl⟩ := hx.get; clear hx
  clear hS hcl
  refine hK _ _ ⟨fun _ => ⟨by simp [go_sem], by simp [go_sem], by simp [go_sem], by simp [go_sem], by simp [go_sem], by simp [go_sem]⟩, fun _ => trivial, trivial⟩ (fun hcl hS => ?_)
  clear hK
  refine wpAnyL_only (i := 2) (by kernel_rfl) rfl rfl hcl (fun K hK => ?_)
  go_simp; go_at_call 34; refine (ex_Act 1 1 [] 0 A3 c3 0 _ (ExAt.mono (by repeat (first | exact Ext.refl _ | assumption | apply Ext.xt | apply Ext.alloc | apply Ext.drew | apply Ext.drewN)) (ExAt.turn (by repeat (first | (refine Turned.box (b := (w.heap.size + ya.n)) (cs := #[.int .i64 1,.int .i64 0,.bool false,.slice A1 0 c1,.int .i64 0,.int .i64 0]) ?_ rfl ?_; rotate_left; (show 6 < 44; decide); first | rfl | (simp [go_sem]; done) | (simp [go_sem]; omega)) | apply Turned.xt | apply Turned.alloc | apply Turned.drew)) (by repeat (first | exact Ext.refl _ | assumption | apply Ext.xt | apply Ext.alloc | apply Ext.drew | apply Ext.drewN)) H3.out)) [exR0] 1 rfl exL_A1 ex_actA).mono ?_; rintro e w' ⟨A4, c4, rfl, hx, h0⟩; have H4 := Lib.hid h0; obtain ⟨yd, rfl⟩ := hx.get; clear hx h0
  clear hS hcl
  refine hK _ _ ⟨fun _ => ⟨by simp [go_sem], by simp [go_sem], by simp [go_sem], by simp [go_sem], by simp [go_sem], by simp [go_sem]⟩, fun _ => trivial, trivial⟩ (fun hcl hS => ?_)
  clear hK
  refine wpAnyL_take (i := 3) (T := (fun _ => True)) (v := ?_) rfl (by kernel_rfl) (by kernel_rfl) (by kernel_rfl) (fun _ _ _ h => h) (fun _ _ _ _ _ => trivial) (SS.up (by decide) (by decide)) (SS.down (by decide) (by decide)) (Or.inl ⟨by rfl, ?_⟩) hcl hS ?_
  rotate_left
  · (intro w' hw'; (try dsimp only at hw'); (try obtain ⟨g0, g1, g2, g3, g4, g5⟩ := hw'); go_simp; try with_reducible rfl)
  clear hcl hS
  intro hcl hS
  (try simp only [Act.put]); (try simp only [List.setIfInBounds_toArray]); (repeat (first | simp only [List.set_cons_succ] | simp only [List.set_cons_zero]))
  refine wpAnyL_take (i := 4) (T := (fun _ => True)) (v := ?_) rfl (by kernel_rfl) (by kernel_rfl) (by kernel_rfl) (fun _ _ _ h => h) (fun _ _ _ _ _ => trivial) (SS.up (by decide) (by decide)) (SS.down (by decide) (by decide)) (Or.inl ⟨by rfl, ?_⟩) hcl hS ?_
  rotate_left
  · (intro w' hw'; (try dsimp only at hw'); (try obtain ⟨g0, g1, g2, g3, g4, g5⟩ := hw'); go_simp; try with_reducible rfl)
  clear hcl hS
  intro hcl hS
  (try simp only [Act.put]); (try simp only [List.setIfInBounds_toArray]); (repeat (first | simp only [List.set_cons_succ] | simp only [List.set_cons_zero]))
  refine wpAnyL_take (i := 5) (T := (fun _ => True)) (v := ?_) rfl (by kernel_rfl) (by kernel_rfl) (by kernel_rfl) (fun _ _ _ h => h) (fun _ _ _ _ _ => trivial) (SS.up (by decide) (by decide)) (SS.down (by decide) (by decide)) (Or.inl ⟨by rfl, ?_⟩) hcl hS ?_
  rotate_left
  · (intro w' hw'; (try dsimp only at hw'); (try obtain ⟨g0, g1, g2, g3, g4, g5⟩ := hw'); go_simp; try with_reducible rfl)
  clear hcl hS
  intro hcl hS
  (try simp only [Act.put]); (try simp only [List.setIfInBounds_toArray]); (repeat (first | simp only [List.set_cons_succ] | simp only [List.set_cons_zero]))
  refine wpAnyL_only (i := 6) (by kernel_rfl) rfl rfl hcl (fun K hK => ?_)
  go_simp
  clear hS hcl
  refine hK _ _ ⟨fun hh => absurd hh (by decide), fun _ => trivial, trivial⟩ (fun hcl hS => ?_)
  clear hK
  refine wpAnyL_only (i := 7) (by kernel_rfl) rfl rfl hcl (fun K hK => ?_)
  go_simp
  clear hS hcl
  refine hK _ _ ⟨fun hh => absurd hh (by decide), fun _ => trivial, trivial⟩ (fun hcl hS => ?_)
  clear hK
  clear hcl hS
  refine wpAnyL_done (by kernel_rfl) ?_ _
  go_wp2_with fail
  (try simp only [Act.put]); (try simp only [List.setIfInBounds_toArray]); (repeat (first | simp only [List.set_cons_succ] | simp only [List.set_cons_zero]))
  refine wp_region_L (S := SS 6 99 (fun w' => w'.cell? ⟨w.heap.size + ya.n, 0, none⟩ = some (.int .i64 1) ∧ w'.cell? ⟨w.heap.size + ya.n, 1, none⟩ = some (.int .i64 1) ∧ w'.cell? ⟨w.heap.size + ya.n, 2, none⟩ = some (.bool true) ∧ w'.cell? ⟨w.heap.size + ya.n, 3, none⟩ = some (.slice A4 1 c4) ∧ w'.cell? ⟨w.heap.size + ya.n, 4, none⟩ = some (.int .i64 0) ∧ w'.cell? ⟨w.heap.size + ya.n, 5, none⟩ = some (.int .i64 0)) (fun _ => True) (fun _ => True)) (by kernel_rfl) ⟨fun _ => ⟨by simp [go_sem], by simp [go_sem], by simp [go_sem], by simp [go_sem], by simp [go_sem], by simp [go_sem]⟩, fun _ => trivial, trivial⟩ (fun hcl hS => ?_)
  refine wpAnyL_take (i := 0) (T := (fun w' => w'.cell? ⟨w.heap.size + ya.n, 0, none⟩ = some (.int .i64 1) ∧ w'.cell? ⟨w.heap.size + ya.n, 1, none⟩ = some (.int .i64 1) ∧ w'.cell? ⟨w.heap.size + ya.n, 2, none⟩ = some (.bool true) ∧ w'.cell? ⟨w.heap.size + ya.n, 3, none⟩ = some (.slice A4 1 c4) ∧ w'.cell? ⟨w.heap.size + ya.n, 4, none⟩ = some (.int .i64 0) ∧ w'.cell? ⟨w.heap.size + ya.n, 5, none⟩ = some (.int .i64 0))) (v := ?_) rfl (by kernel_rfl) (by kernel_rfl) (by kernel_rfl) (fun _ _ _ h => h) (fun _ _ hc hi hS => hS.1 (hc.not (k := 6) (by kernel_rfl) hi)) (SS.up (by decide) (by decide)) (SS.down (by decide) (by decide)) (Or.inl ⟨by rfl, ?_⟩) hcl hS ?_
  rotate_left
  · (intro w' hw'; (try dsimp only at hw'); (try obtain ⟨g0, g1, g2, g3, g4, g5⟩ := hw'); go_simp; try with_reducible rfl)
  clear hcl hS
  intro hcl hS
  (try simp only [Act.put]); (try simp only [List.setIfInBounds_toArray]); (repeat (first | simp only [List.set_cons_succ] | simp only [List.set_cons_zero]))
  refine wpAnyL_only (i := 1) (by kernel_rfl) rfl rfl hcl (fun K hK => ?_)
  go_simp; go_at_call 63; refine (l54_Go 100 _).mono ?_; rintro e w' ⟨rfl, hx⟩; obtain ⟨yeg, rfl⟩ := hx.get; clear hx
  clear hS hcl
  refine hK _ _ ⟨fun _ => ⟨by simp [go_sem], by simp [go_sem], by simp [go_sem], by simp [go_sem], by simp [go_sem], by simp [go_sem]⟩, fun _ => trivial, trivial⟩ (fun hcl hS => ?_)
  clear hK
  refine wpAnyL_only (i := 2) (by kernel_rfl) rfl rfl hcl (fun K hK => ?_)
  go_simp; go_at_call 34; refine (ex_Act 1 1 [exR0] 1 A4 c4 100 _ (ExAt.mono (by repeat (first | exact Ext.refl _ | assumption | apply Ext.xt | apply Ext.alloc | apply Ext.drew | apply Ext.drewN)) (ExAt.turn (by repeat (first | (refine Turned.box (b := (w.heap.size + ya.n)) (cs := #[.int .i64 1,.int .i64 1,.bool true,.slice A3 0 c3,.int .i64 0,.int .i64 0]) ?_ rfl ?_; rotate_left; (show 6 < 44; decide); first | rfl | (simp [go_sem]; done) | (simp [go_sem]; omega)) | apply Turned.xt | apply Turned.alloc | apply Turned.drew)) (by repeat (first | exact Ext.refl _ | assumption | apply Ext.xt | apply Ext.alloc | apply Ext.drew | apply Ext.drewN)) H4.out)) [exR0, exR1] 2 rfl exL_A ex_actA2).mono ?_; rintro e w' ⟨A5, c5, rfl, hx, h0⟩; have H5 := Lib.hid h0; obtain ⟨ye, rfl⟩ := hx.get; clear hx h0
  clear hS hcl
  refine hK _ _ ⟨fun _ => ⟨by simp [go_sem], by simp [go_sem], by simp [go_sem], by simp [go_sem], by simp [go_sem], by simp [go_sem]⟩, fun _ => trivial, trivial⟩ (fun hcl hS => ?_)
  clear hK
  refine wpAnyL_take (i := 3) (T := (fun _ => True)) (v := ?_) rfl (by kernel_rfl) (by kernel_rfl) (by kernel_rfl) (fun _ _ _ h => h) (fun _ _ _ _ _ => trivial) (SS.up (by decide) (by decide)) (SS.down (by decide) (by decide)) (Or.inl ⟨by rfl, ?_⟩) hcl hS ?_
  rotate_left
  · (intro w' hw'; (try dsimp only at hw'); (try obtain ⟨g0, g1, g2, g3, g4, g5⟩ := hw'); go_simp; try with_reducible rfl)
  clear hcl hS
  intro hcl hS
  (try simp only [Act.put]); (try simp only [List.setIfInBounds_toArray]); (repeat (first | simp only [List.set_cons_succ] | simp only [List.set_cons_zero]))
  refine wpAnyL_take (i := 4) (T := (fun _ => True)) (v := ?_) rfl (by kernel_rfl) (by kernel_rfl) (by kernel_rfl) (fun _ _ _ h => h) (fun _ _ _ _ _ => trivial) (SS.up (by decide) (by decide)) (SS.down (by decide) (by decide)) (Or.inl ⟨by rfl, ?_⟩) hcl hS ?_
  rotate_left
  · (intro w' hw'; (try dsimp only at hw'); (try obtain ⟨g0, g1, g2, g3, g4, g5⟩ := hw'); go_simp; try with_reducible rfl)
  clear hcl hS
  intro hcl hS
  (try simp only [Act.put]); (try simp only [List.setIfInBounds_toArray]); (repeat (first | simp only [List.set_cons_succ] | simp only [List.set_cons_zero]))
  refine wpAnyL_take (i := 5) (T := (fun _ => True)) (v := ?_) rfl (by kernel_rfl) (by kernel_rfl) (by kernel_rfl) (fun _ _ _ h => h) (fun _ _ _ _ _ => trivial) (SS.up (by decide) (by decide)) (SS.down (by decide) (by decide)) (Or.inl ⟨by rfl, ?_⟩) hcl hS ?_
  rotate_left
  · (intro w' hw'; (try dsimp only at hw'); (try obtain ⟨g0, g1, g2, g3, g4, g5⟩ := hw'); go_simp; try with_reducible rfl)
  clear hcl hS
  intro hcl hS
  (try simp only [Act.put]); (try simp only [List.setIfInBounds_toArray]); (repeat (first | simp only [List.set_cons_succ] | simp only [List.set_cons_zero]))
  refine wpAnyL_only (i := 6) (by kernel_rfl) rfl rfl hcl (fun K hK => ?_)
  go_simp
  clear hS hcl
  refine hK _ _ ⟨fun hh => absurd hh (by decide), fun _ => trivial, trivial⟩ (fun hcl hS => ?_)
  clear hK
  refine wpAnyL_only (i := 7) (by kernel_rfl) rfl rfl hcl (fun K hK => ?_)
  go_simp
  clear hS hcl
  refine hK _ _ ⟨fun hh => absurd hh (by decide), fun _ => trivial, trivial⟩ (fun hcl hS => ?_)
  clear hK
  clear hcl hS
  refine wpAnyL_done (by kernel_rfl) ?_ _
  go_wp2_with fail
  go_at_call 36; refine (ex_Send 1 1 [exR0, exR1] 2 0 0 A5 c5 _ (ExAt.mono (by repeat (first | exact Ext.refl _ | assumption | apply Ext.xt | apply Ext.alloc | apply Ext.drew | apply Ext.drewN)) (ExAt.turn (by repeat (first | (refine Turned.box (b := (w.heap.size + ya.n)) (cs := #[.int .i64 1,.int .i64 1,.bool true,.slice A4 1 c4,.int .i64 0,.int .i64 0]) ?_ rfl ?_; rotate_left; (show 6 < 44; decide); first | rfl | (simp [go_sem]; done) | (simp [go_sem]; omega)) | apply Turned.xt | apply Turned.alloc | apply Turned.drew)) (by repeat (first | exact Ext.refl _ | assumption | apply Ext.xt | apply Ext.alloc | apply Ext.drew | apply Ext.drewN)) H5.out)) 0 0 [exR0, exR1] 2 rfl exL_A ex_sendA).mono ?_; rintro e w' ⟨A6, c6, rfl, hx, h0⟩; have H6 := Lib.hid h0; obtain ⟨yf, rfl⟩ := hx.get; clear hx h0
  go_wp2_with fail
  go_at_call 21; refine (ex_Receive ⟨2, 0, false, [], 0, 0⟩ 0 A2 c2 ⟨0, 1, 0, 0, [exR0, exR1], 0⟩ 2 A6 c6 _ (H2.out.any _) (ExAt.mono (by repeat (first | exact Ext.refl _ | assumption | apply Ext.xt | apply Ext.alloc | apply Ext.drew | apply Ext.drewN)) H6.out) 2 1 false [exR0, exR1] 2 rfl exL_A 0 0 1 1 2 true ex_recvX).mono ?_; rintro e w' ⟨A7, c7, rfl, hx, h0⟩; have H7 := Lib.hid h0; obtain ⟨yg, rfl⟩ := hx.get; clear hx h0
  go_wp2_with fail
  go_at_call 21; refine (ex_Receive ⟨1, 1, true, [exR0, exR1], 0, 0⟩ 2 A5 c5 ⟨1, 1, 2, 0, [], 0⟩ 0 none 0 _ (ExAt.mono (by repeat (first | exact Ext.refl _ | assumption | apply Ext.xt | apply Ext.alloc | apply Ext.drew | apply Ext.drewN)) (ExAt.turn (by repeat (first | (refine Turned.box (b := (w.heap.size + ya.n)) (cs := #[.int .i64 1,.int .i64 1,.bool true,.slice A4 1 c4,.int .i64 0,.int .i64 0]) ?_ rfl ?_; rotate_left; (show 6 < 44; decide); first | rfl | (simp [go_sem]; done) | (simp [go_sem]; omega)) | apply Turned.xt | apply Turned.alloc | apply Turned.drew)) (by repeat (first | exact Ext.refl _ | assumption | apply Ext.xt | apply Ext.alloc | apply Ext.drew | apply Ext.drewN)) H5.out)) (ExAt.nil _) 1 1 true [exR0, exR1] 2 rfl exL_A 2 2 0 0 0 false ex_recvY).mono ?_; rintro e w' ⟨A8, c8, rfl, hx, h0⟩; have H8 := Lib.hid h0; obtain ⟨yh, rfl⟩ := hx.get; clear hx h0
  go_wp2_with fail
  go_at_call 36; refine (ex_Send 1 1 [exR0, exR1] 2 2 2 A8 c8 _ (ExAt.mono (by repeat (first | exact Ext.refl _ | assumption | apply Ext.xt | apply Ext.alloc | apply Ext.drew | apply Ext.drewN)) H8.out) 2 1 [] 0 rfl exL_nil ex_sendY).mono ?_; rintro e w' ⟨A9, c9, rfl, hx, h0⟩; have H9 := Lib.hid h0; obtain ⟨yi, rfl⟩ := hx.get; clear hx h0
  go_wp2_with fail
  go_at_call 21; refine (ex_Receive ⟨2, 1, false, [exR0, exR1], 0, 0⟩ 2 A7 c7 ⟨0, 1, 2, 1, [], 2⟩ 0 A9 c9 _ (ExAt.mono (by repeat (first | exact Ext.refl _ | assumption | apply Ext.xt | apply Ext.alloc | apply Ext.drew | apply Ext.drewN)) H7.out) (H9.out.any _) 2 1 false [exR0, exR1] 2 rfl exL_A 2 0 1 1 2 true ex_recvX2).mono ?_; rintro e w' ⟨A10, c10, rfl, hx, h0⟩; have H10 := Lib.hid h0; obtain ⟨yj, rfl⟩ := hx.get; clear hx h0
  go_wp2_with fail
  go_at_call 32; refine (ex_Lead 2 0 A2 c2 2 _ (H2.out.any _) ex_leadB).mono ?_; rintro e w' ⟨A11, c11, rfl, hx, h0⟩; have H11 := Lib.hid h0; obtain ⟨yk, rfl⟩ := hx.get; clear hx h0
  go_wp2_with fail
  (try simp only [Act.put]); (try simp only [List.setIfInBounds_toArray]); (repeat (first | simp only [List.set_cons_succ] | simp only [List.set_cons_zero]))
  refine wp_region_L (S := SS 6 99 (fun w' => w'.cell? ⟨w.heap.size + ya.n + 1 + yb.n, 0, none⟩ = some (.int .i64 2) ∧ w'.cell? ⟨w.heap.size + ya.n + 1 + yb.n, 1, none⟩ = some (.int .i64 2) ∧ w'.cell? ⟨w.heap.size + ya.n + 1 + yb.n, 2, none⟩ = some (.bool true) ∧ w'.cell? ⟨w.heap.size + ya.n + 1 + yb.n, 3, none⟩ = some (.slice A11 0 c11) ∧ w'.cell? ⟨w.heap.size + ya.n + 1 + yb.n, 4, none⟩ = some (.int .i64 0) ∧ w'.cell? ⟨w.heap.size + ya.n + 1 + yb.n, 5, none⟩ = some (.int .i64 0)) (fun _ => True) (fun _ => True)) (by kernel_rfl) ⟨fun _ => ⟨by simp [go_sem], by simp [go_sem], by simp [go_sem], by simp [go_sem], by simp [go_sem], by simp [go_sem]⟩, fun _ => trivial, trivial⟩ (fun hcl hS => ?_)
  refine wpAnyL_take (i := 0) (T := (fun w' => w'.cell? ⟨w.heap.size + ya.n + 1 + yb.n, 0, none⟩ = some (.int .i64 2) ∧ w'.cell? ⟨w.heap.size + ya.n + 1 + yb.n, 1, none⟩ = some (.int .i64 2) ∧ w'.cell? ⟨w.heap.size + ya.n + 1 + yb.n, 2, none⟩ = some (.bool true) ∧ w'.cell? ⟨w.heap.size + ya.n + 1 + yb.n, 3, none⟩ = some (.slice A11 0 c11) ∧ w'.cell? ⟨w.heap.size + ya.n + 1 + yb.n, 4, none⟩ = some (.int .i64 0) ∧ w'.cell? ⟨w.heap.size + ya.n + 1 + yb.n, 5, none⟩ = some (.int .i64 0))) (v := ?_) rfl (by kernel_rfl) (by kernel_rfl) (by kernel_rfl) (fun _ _ _ h => h) (fun _ _ hc hi hS => hS.1 (hc.not (k := 6) (by kernel_rfl) hi)) (SS.up (by decide) (by decide)) (SS.down (by decide) (by decide)) (Or.inl ⟨by rfl, ?_⟩) hcl hS ?_
  rotate_left
  · (intro w' hw'; (try dsimp only at hw'); (try obtain ⟨g0, g1, g2, g3, g4, g5⟩ := hw'); go_simp; try with_reducible rfl)
  clear hcl hS
  intro hcl hS
  (try simp only [Act.put]); (try simp only [List.setIfInBounds_toArray]); (repeat (first | simp only [List.set_cons_succ] | simp only [List.set_cons_zero]))
  refine wpAnyL_only (i := 1) (by kernel_rfl) rfl rfl hcl (fun K hK => ?_)
  go_simp; go_at_call 63; refine (l54_Go 7 _).mono ?_; rintro e w' ⟨rfl, hx⟩; obtain ⟨ylg, rfl⟩ := hx.get; clear hx
  clear hS hcl
  refine hK _ _ ⟨fun _ => ⟨by simp [go_sem], by simp [go_sem], by simp [go_sem], by simp [go_sem], by simp [go_sem], by simp [go_sem]⟩, fun _ => trivial, trivial⟩ (fun hcl hS => ?_)
  clear hK
  refine wpAnyL_only (i := 2) (by kernel_rfl) rfl rfl hcl (fun K hK => ?_)
  go_simp; go_at_call 34; refine (ex_Act 2 2 [] 0 A11 c11 7 _ (H11.out.any _) [exR7] 1 rfl exL_7 ex_actB).mono ?_; rintro e w' ⟨A12, c12, rfl, hx, h0⟩; have H12 := Lib.hid h0; obtain ⟨yl, rfl⟩ := hx.get; clear hx h0
  clear hS hcl
  refine hK _ _ ⟨fun _ => ⟨by simp [go_sem], by simp [go_sem], by simp [go_sem], by simp [go_sem], by simp [go_sem], by simp [go_sem]⟩, fun _ => trivial, trivial⟩ (fun hcl hS => ?_)
  clear hK
  refine wpAnyL_take (i := 3) (T := (fun _ => True)) (v := ?_) rfl (by kernel_rfl) (by kernel_rfl) (by kernel_rfl) (fun _ _ _ h => h) (fun _ _ _ _ _ => trivial) (SS.up (by decide) (by decide)) (SS.down (by decide) (by decide)) (Or.inl ⟨by rfl, ?_⟩) hcl hS ?_
  rotate_left
  · (intro w' hw'; (try dsimp only at hw'); (try obtain ⟨g0, g1, g2, g3, g4, g5⟩ := hw'); go_simp; try with_reducible rfl)
  clear hcl hS
  intro hcl hS
  (try simp only [Act.put]); (try simp only [List.setIfInBounds_toArray]); (repeat (first | simp only [List.set_cons_succ] | simp only [List.set_cons_zero]))
  refine wpAnyL_take (i := 4) (T := (fun _ => True)) (v := ?_) rfl (by kernel_rfl) (by kernel_rfl) (by kernel_rfl) (fun _ _ _ h => h) (fun _ _ _ _ _ => trivial) (SS.up (by decide) (by decide)) (SS.down (by decide) (by decide)) (Or.inl ⟨by rfl, ?_⟩) hcl hS ?_
  rotate_left
  · (intro w' hw'; (try dsimp only at hw'); (try obtain ⟨g0, g1, g2, g3, g4, g5⟩ := hw'); go_simp; try with_reducible rfl)
  clear hcl hS
  intro hcl hS
  (try simp only [Act.put]); (try simp only [List.setIfInBounds_toArray]); (repeat (first | simp only [List.set_cons_succ] | simp only [List.set_cons_zero]))
  refine wpAnyL_take (i := 5) (T := (fun _ => True)) (v := ?_) rfl (by kernel_rfl) (by kernel_rfl) (by kernel_rfl) (fun _ _ _ h => h) (fun _ _ _ _ _ => trivial) (SS.up (by decide) (by decide)) (SS.down (by decide) (by decide)) (Or.inl ⟨by rfl, ?_⟩) hcl hS ?_
  rotate_left
  · (intro w' hw'; (try dsimp only at hw'); (try obtain ⟨g0, g1, g2, g3, g4, g5⟩ := hw'); go_simp; try with_reducible rfl)
  clear hcl hS
  intro hcl hS
  (try simp only [Act.put]); (try simp only [List.setIfInBounds_toArray]); (repeat (first | simp only [List.set_cons_succ] | simp only [List.set_cons_zero]))
  refine wpAnyL_only (i := 6) (by kernel_rfl) rfl rfl hcl (fun K hK => ?_)
  go_simp
  clear hS hcl
  refine hK _ _ ⟨fun hh => absurd hh (by decide), fun _ => trivial, trivial⟩ (fun hcl hS => ?_)
  clear hK
  refine wpAnyL_only (i := 7) (by kernel_rfl) rfl rfl hcl (fun K hK => ?_)
  go_simp
  clear hS hcl
  refine hK _ _ ⟨fun hh => absurd hh (by decide), fun _ => trivial, trivial⟩ (fun hcl hS => ?_)
  clear hK
  clear hcl hS
  refine wpAnyL_done (by kernel_rfl) ?_ _
  go_wp2_with fail
  go_at_call 36; refine (ex_Send 2 2 [exR7] 1 0 0 A12 c12 _ (ExAt.mono (by repeat (first | exact Ext.refl _ | assumption | apply Ext.xt | apply Ext.alloc | apply Ext.drew | apply Ext.drewN)) (ExAt.turn (by repeat (first | (refine Turned.box (b := (w.heap.size + ya.n + 1 + yb.n)) (cs := #[.int .i64 2,.int .i64 2,.bool true,.slice A11 0 c11,.int .i64 0,.int .i64 0]) ?_ rfl ?_; rotate_left; (show 6 < 44; decide); first | rfl | (simp [go_sem]; done) | (simp [go_sem]; omega)) | apply Turned.xt | apply Turned.alloc | apply Turned.drew)) (by repeat (first | exact Ext.refl _ | assumption | apply Ext.xt | apply Ext.alloc | apply Ext.drew | apply Ext.drewN)) H12.out)) 0 0 [exR7] 1 rfl exL_7 ex_sendB).mono ?_; rintro e w' ⟨A13, c13, rfl, hx, h0⟩; have H13 := Lib.hid h0; obtain ⟨ym, rfl⟩ := hx.get; clear hx h0
  go_wp2_with fail
  go_at_call 21; refine (ex_Receive ⟨1, 1, true, [exR0, exR1], 0, 0⟩ 2 A5 c5 ⟨0, 2, 0, 0, [exR7], 0⟩ 1 A13 c13 _ (ExAt.turn (by repeat (first | (refine Turned.box (b := (w.heap.size + ya.n + 1 + yb.n + 1 + yc.n + ydg.n + yd.n + yeg.n + ye.n + yf.n + 1 + yg.n + 1 + 1 + yh.n + 1 + 1 + yi.n)) (cs := #[.int .i64 0,.int .i64 1,.int .i64 2,.int .i64 1,.slice A9 0 c9,.int .i64 2]) ?_ rfl ?_; rotate_left; (show 6 < 44; decide); first | rfl | (simp [go_sem]; done) | (simp [go_sem]; omega)) | apply Turned.xt | apply Turned.alloc | apply Turned.drew)) (by repeat (first | exact Ext.refl _ | assumption | apply Ext.xt | apply Ext.alloc | apply Ext.drew | apply Ext.drewN)) (ExAt.turn (by repeat (first | (refine Turned.box (b := (w.heap.size + ya.n + 1 + yb.n)) (cs := #[.int .i64 2,.int .i64 0,.bool false,.slice A2 0 c2,.int .i64 0,.int .i64 0]) ?_ rfl ?_; rotate_left; (show 6 < 44; decide); first | rfl | (simp [go_sem]; done) | (simp [go_sem]; omega)) | apply Turned.xt | apply Turned.alloc | apply Turned.drew)) (by repeat (first | exact Ext.refl _ | assumption | apply Ext.xt | apply Ext.alloc | apply Ext.drew | apply Ext.drewN)) (ExAt.turn (by repeat (first | (refine Turned.box (b := (w.heap.size + ya.n + 1 + yb.n + 1 + yc.n + ydg.n + yd.n + yeg.n + ye.n + yf.n + 1 + yg.n)) (cs := #[.int .i64 2,.int .i64 1,.bool false,.slice A7 2 c7,.int .i64 0,.int .i64 0]) ?_ rfl ?_; rotate_left; (show 6 < 44; decide); first | rfl | (simp [go_sem]; done) | (simp [go_sem]; omega)) | apply Turned.xt | apply Turned.alloc | apply Turned.drew)) (by repeat (first | exact Ext.refl _ | assumption | apply Ext.xt | apply Ext.alloc | apply Ext.drew | apply Ext.drewN)) (ExAt.turn (by repeat (first | (refine Turned.box (b := (w.heap.size + ya.n)) (cs := #[.int .i64 1,.int .i64 1,.bool true,.slice A4 1 c4,.int .i64 0,.int .i64 0]) ?_ rfl ?_; rotate_left; (show 6 < 44; decide); first | rfl | (simp [go_sem]; done) | (simp [go_sem]; omega)) | apply Turned.xt | apply Turned.alloc | apply Turned.drew)) (by repeat (first | exact Ext.refl _ | assumption | apply Ext.xt | apply Ext.alloc | apply Ext.drew | apply Ext.drewN)) H5.out)))) (ExAt.turn (by repeat (first | (refine Turned.box (b := (w.heap.size + ya.n + 1 + yb.n + 1 + yc.n + ydg.n + yd.n + yeg.n + ye.n + yf.n + 1 + yg.n + 1 + 1 + yh.n + 1 + 1 + yi.n)) (cs := #[.int .i64 0,.int .i64 1,.int .i64 2,.int .i64 1,.slice A9 0 c9,.int .i64 2]) ?_ rfl ?_; rotate_left; (show 6 < 44; decide); first | rfl | (simp [go_sem]; done) | (simp [go_sem]; omega)) | apply Turned.xt | apply Turned.alloc | apply Turned.drew)) (by repeat (first | exact Ext.refl _ | assumption | apply Ext.xt | apply Ext.alloc | apply Ext.drew | apply Ext.drewN)) H13.out) 1 2 false [exR7] 1 rfl exL_7 0 0 1 2 1 true ex_recvZ).mono ?_; rintro e w' ⟨A14, c14, rfl, hx, h0⟩; have H14 := Lib.hid h0; obtain ⟨yn, rfl⟩ := hx.get; clear hx h0
  go_upto_region 19 with fail
  refine wp_know (fun W => ExAt W A14 c14 1 [exR7]) (ExAt.mono (by repeat (first | exact Ext.refl _ | assumption | apply Ext.xt | apply Ext.alloc | apply Ext.drew | apply Ext.drewN)) (ExAt.turn (by repeat (first | (refine Turned.box (b := (w.heap.size + ya.n + 1 + yb.n + 1 + yc.n + ydg.n + yd.n + yeg.n + ye.n + yf.n + 1 + yg.n + 1)) (cs := #[.int .i64 1,.int .i64 1,.int .i64 2,.int .i64 0,.slice none 0 0,.int .i64 0]) ?_ rfl ?_; rotate_left; (show 6 < 44; decide); first | rfl | (simp [go_sem]; done) | (simp [go_sem]; omega)) | apply Turned.xt | apply Turned.alloc | apply Turned.drew)) (by repeat (first | exact Ext.refl _ | assumption | apply Ext.xt | apply Ext.alloc | apply Ext.drew | apply Ext.drewN)) H14.out)) (fun h14 => ?_)
  obtain ⟨b14, o14, rfl, hr14, -⟩ := h14.recs.get (k := 0) (r := exR7) rfl
  have h7 := hr14.at_
  simp only [Nat.zero_mul, Nat.add_zero, show exR7.act.at_ = 7 from rfl] at h7
  clear h14 hr14
  go_wp2_with fail
  go_at_call 21; refine (ex_Receive ⟨2, 2, true, [exR7], 0, 0⟩ 1 A12 c12 ⟨0, 1, 0, 0, [exR0, exR1], 0⟩ 2 A6 c6 _ (ExAt.turn (by repeat (first | (refine Turned.box (b := (w.heap.size + ya.n + 1 + yb.n + 1 + yc.n + ydg.n + yd.n + yeg.n + ye.n + yf.n + 1 + yg.n + 1)) (cs := #[.int .i64 1,.int .i64 1,.int .i64 2,.int .i64 0,.slice none 0 0,.int .i64 0]) ?_ rfl ?_; rotate_left; (show 6 < 44; decide); first | rfl | (simp [go_sem]; done) | (simp [go_sem]; omega)) | apply Turned.xt | apply Turned.alloc | apply Turned.drew)) (by repeat (first | exact Ext.refl _ | assumption | apply Ext.xt | apply Ext.alloc | apply Ext.drew | apply Ext.drewN)) (ExAt.turn (by repeat (first | (refine Turned.box (b := (w.heap.size + ya.n + 1 + yb.n + 1 + yc.n + ydg.n + yd.n + yeg.n + ye.n + yf.n + 1 + yg.n + 1 + 1 + yh.n + 1 + 1 + yi.n)) (cs := #[.int .i64 0,.int .i64 1,.int .i64 2,.int .i64 1,.slice A9 0 c9,.int .i64 2]) ?_ rfl ?_; rotate_left; (show 6 < 44; decide); first | rfl | (simp [go_sem]; done) | (simp [go_sem]; omega)) | apply Turned.xt | apply Turned.alloc | apply Turned.drew)) (by repeat (first | exact Ext.refl _ | assumption | apply Ext.xt | apply Ext.alloc | apply Ext.drew | apply Ext.drewN)) (ExAt.turn (by repeat (first | (refine Turned.box (b := (w.heap.size + ya.n + 1 + yb.n)) (cs := #[.int .i64 2,.int .i64 2,.bool true,.slice A11 0 c11,.int .i64 0,.int .i64 0]) ?_ rfl ?_; rotate_left; (show 6 < 44; decide); first | rfl | (simp [go_sem]; done) | (simp [go_sem]; omega)) | apply Turned.xt | apply Turned.alloc | apply Turned.drew)) (by repeat (first | exact Ext.refl _ | assumption | apply Ext.xt | apply Ext.alloc | apply Ext.drew | apply Ext.drewN)) H12.out))) (ExAt.turn (by repeat (first | (refine Turned.box (b := (w.heap.size + ya.n + 1 + yb.n + 1 + yc.n + ydg.n + yd.n + yeg.n + ye.n + yf.n + 1 + yg.n + 1)) (cs := #[.int .i64 1,.int .i64 1,.int .i64 2,.int .i64 0,.slice none 0 0,.int .i64 0]) ?_ rfl ?_; rotate_left; (show 6 < 44; decide); first | rfl | (simp [go_sem]; done) | (simp [go_sem]; omega)) | apply Turned.xt | apply Turned.alloc | apply Turned.drew)) (by repeat (first | exact Ext.refl _ | assumption | apply Ext.xt | apply Ext.alloc | apply Ext.drew | apply Ext.drewN)) (ExAt.turn (by repeat (first | (refine Turned.box (b := (w.heap.size + ya.n + 1 + yb.n + 1 + yc.n + ydg.n + yd.n + yeg.n + ye.n + yf.n + 1 + yg.n + 1 + 1 + yh.n + 1 + 1 + yi.n)) (cs := #[.int .i64 0,.int .i64 1,.int .i64 2,.int .i64 1,.slice A9 0 c9,.int .i64 2]) ?_ rfl ?_; rotate_left; (show 6 < 44; decide); first | rfl | (simp [go_sem]; done) | (simp [go_sem]; omega)) | apply Turned.xt | apply Turned.alloc | apply Turned.drew)) (by repeat (first | exact Ext.refl _ | assumption | apply Ext.xt | apply Ext.alloc | apply Ext.drew | apply Ext.drewN)) (ExAt.turn (by repeat (first | (refine Turned.box (b := (w.heap.size + ya.n + 1 + yb.n + 1 + yc.n + ydg.n + yd.n + yeg.n + ye.n + yf.n + 1 + yg.n)) (cs := #[.int .i64 2,.int .i64 1,.bool false,.slice A7 2 c7,.int .i64 0,.int .i64 0]) ?_ rfl ?_; rotate_left; (show 6 < 44; decide); first | rfl | (simp [go_sem]; done) | (simp [go_sem]; omega)) | apply Turned.xt | apply Turned.alloc | apply Turned.drew)) (by repeat (first | exact Ext.refl _ | assumption | apply Ext.xt | apply Ext.alloc | apply Ext.drew | apply Ext.drewN)) (ExAt.turn (by repeat (first | (refine Turned.box (b := (w.heap.size + ya.n + 1 + yb.n)) (cs := #[.int .i64 2,.int .i64 0,.bool false,.slice A2 0 c2,.int .i64 0,.int .i64 0]) ?_ rfl ?_; rotate_left; (show 6 < 44; decide); first | rfl | (simp [go_sem]; done) | (simp [go_sem]; omega)) | apply Turned.xt | apply Turned.alloc | apply Turned.drew)) (by repeat (first | exact Ext.refl _ | assumption | apply Ext.xt | apply Ext.alloc | apply Ext.drew | apply Ext.drewN)) H6.out)))) 2 2 true [exR7] 1 rfl exL_7 0 0 2 2 0 true ex_recvB).mono ?_; rintro e w' ⟨A15, c15, rfl, hx, h0⟩; have H15 := Lib.hid h0; obtain ⟨yo, rfl⟩ := hx.get; clear hx h0
  go_wp2_with fail
  go_ret
  exact ⟨rfl, by repeat (first | exact Ext.refl _ | assumption | apply Ext.xt | apply Ext.alloc | apply Ext.drew | apply Ext.drewN)⟩
end Go.Proofs.YtlpboikonnpjbaaGreat
