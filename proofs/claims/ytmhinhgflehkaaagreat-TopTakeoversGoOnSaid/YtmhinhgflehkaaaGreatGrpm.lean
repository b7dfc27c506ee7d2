/-
 Chapter 54's examples: contracts by value; what a store into a small box leaves alone.
-/
import Derived.Test.YtmhinhgflehkaaaGreatGrag
import Derived.Test.YtmhinhgflehkaaaGreatGrpj
import Derived.Test.YtmhinhgflehkaaaGreatGtail
namespace Go.Proofs.YtmhinhgflehkaaaGreat
open Go.RowKit

/-! ### A box of few cells is stored into -/
theorem alloc_heap (w : World) (o : Obj) : (w.alloc o).heap = w.heap.push o := rfl
structure Turned (b : Nat) (W W' : World) : Prop where
 size : W'.heap.size = W.heap.size
 else_ : ∀ g, g ≠ b → W'.heap[g]? = W.heap[g]?
 few : ∃ cs T fr, W.heap[b]? = some (.cells cs T fr) ∧ cs.size < 44
theorem Turned.lt {b : Nat} {W W' : World} (h : Turned b W W') : b < W.heap.size := by
 obtain ⟨cs, T, fr, hb, -⟩ := h.few
 exact (Array.getElem?_eq_some_iff.1 hb).1
theorem Turned.box {w : World} {cs cs' : Array Value} {T : TypeId} {b : Nat} (hb : w.heap.size = b) (_h : cs'.size = cs.size) (h44 : cs.size < 44) : Turned b (w.alloc (.cells cs T)) (w.alloc (.cells cs' T)) := by
 subst hb
 refine ⟨by simp [alloc_heap], fun g hg => ?_, cs, T, (0, 0), by simp [alloc_heap], h44⟩
 simp only [alloc_heap, Array.getElem?_push]
 rw [if_neg hg, if_neg hg]
theorem Turned.alloc {b : Nat} {W W' : World} (h : Turned b W W') (o : Obj) : Turned b (W.alloc o) (W'.alloc o) := by
 have hl := h.lt
 obtain ⟨cs, T, fr, hb, h44⟩ := h.few
 refine ⟨by simp [alloc_heap, h.size], fun g hg => ?_, cs, T, fr, ?_, h44⟩
 ·simp only [alloc_heap, Array.getElem?_push, h.size]
  split
  ·rfl
  ·exact h.else_ g hg
 ·simp only [alloc_heap, Array.getElem?_push]
  rw [if_neg (by omega)]; exact hb
theorem Turned.xt {b : Nat} {W W' : World} (h : Turned b W W') (y : Gr) : Turned b (YtmhinhgflehkaaaGreat.xt W y) (YtmhinhgflehkaaaGreat.xt W' y) := by
 have hl := h.lt
 obtain ⟨cs, T, fr, hb, h44⟩ := h.few
 refine ⟨by show (W'.heap ++ y.objs).size = (W.heap ++ y.objs).size; simp [h.size], fun g hg => ?_, cs, T, fr, ?_, h44⟩
 ·show (W'.heap ++ y.objs)[g]? = (W.heap ++ y.objs)[g]?
  simp only [Array.getElem?_append, h.size]
  split
  ·exact h.else_ g hg
  ·rfl
 ·show (W.heap ++ y.objs)[b]? = _
  rw [Array.getElem?_append_left hl]; exact hb
theorem Turned.drew {b : Nat} {W W' : World} (h : Turned b W W') : Turned b W.drew W'.drew := ⟨h.size, h.else_, h.few⟩
theorem Sl.turn {b : Nat} {w W W' : World} {A : Option Addr} {rows : List (List Value)} (ht : Turned b W W') (hx : Ext w W) (h : Sl w A 45 rows) : Sl W' A 45 rows :=
 ⟨fun i row hr => by
  obtain ⟨h1, g, o, h2, h3⟩ := (h.mono hx).at_ i row hr
  refine ⟨h1, g, o, h2, fun j v hv => ?_⟩
  have hne : g ≠ b := by
   intro he
   subst he
   obtain ⟨cs, T, fr, hb, h44⟩ := ht.few
   obtain ⟨x, hx⟩ : ∃ x, row[44]? = some x := ⟨_, List.getElem?_eq_getElem (by omega)⟩
   have := h3 44 x hx
   rw [cell_of_row _ g _ cs T fr hb] at this
   have := (Array.getElem?_eq_some_iff.1 this).1
   omega
  rw [World.cell?_of_block (ht.else_ g hne)]
  exact h3 j v hv⟩
structure ExAt (w : World) (A : Option Addr) (c n : Nat) (l : List Rec) : Prop where
 sl : Sl w A 45 (l.map recR)
 len : l.length = n
 le : l.length ≤ c
 cap : c ≤ maxLen
 el : ∀ r ∈ l, ∃ t, r.act = goA t
theorem ExAt.recs {w : World} {A : Option Addr} {c n : Nat} {l : List Rec} (h : ExAt w A c n l) : RecsAt w A c l := ⟨h.sl, h.le, h.cap, fun r hr => by
 obtain ⟨t, ht⟩ := h.el r hr
 rw [ht]; exact mkA_at _ _ _ _ w⟩
theorem ExAt.of {w : World} {A : Option Addr} {c n : Nat} {l : List Rec} (h : RecsAt w A c l) (hn : l.length = n) (he : ∀ r ∈ l, ∃ t, r.act = goA t) : ExAt w A c n l := ⟨h.sl, hn, h.le, h.cap, he⟩
theorem ExAt.mono {w w' : World} {A : Option Addr} {c n : Nat} {l : List Rec} (hx : Ext w w') (h : ExAt w A c n l) : ExAt w' A c n l := ⟨h.sl.mono hx, h.len, h.le, h.cap, h.el⟩
theorem ExAt.turn {b : Nat} {w W W' : World} {A : Option Addr} {c n : Nat} {l : List Rec} (ht : Turned b W W') (hx : Ext w W) (h : ExAt w A c n l) : ExAt W' A c n l := ⟨Sl.turn ht hx h.sl, h.len, h.le, h.cap, h.el⟩
theorem ExAt.any {w : World} {A : Option Addr} {c : Nat} (h : ExAt w A c 0 []) (W : World) : ExAt W A c 0 [] := ⟨Sl.nil _ _ _, h.len, h.le, h.cap, h.el⟩
theorem ExAt.nil (W : World) : ExAt W none 0 0 [] := ⟨Sl.nil _ _ _, rfl, Nat.le_refl _, Nat.zero_le _, by simp⟩
def exL (l : List Rec) : Prop := ∀ r ∈ l, ∃ t, r.act = goA t
/-! ### Contracts by value -/
def GotN (w : World) (id t : Int) (sp : Bool) (l : List Rec) (k : Nat) (ak nx : Int) (e : Ending) (w' : World) : Prop := ∃ A c, e = .returned (.tuple #[.agg #[.int .i64 id, .int .i64 t, .bool sp, .slice A k c, .int .i64 ak, .int .i64 nx], .int .i64 0]) ∧ Ext w w' ∧ ExAt w' A c k l
theorem GotN.of {w w' : World} {v : Nod × Int} {id t : Int} {sp : Bool} {l : List Rec} {k : Nat} {ak nx : Int} {e : Ending} (h : RetNod w v e w') (hv : v = (⟨id, t, sp, l, ak, nx⟩, 0)) (hk : l.length = k) (hl : exL l) : GotN w id t sp l k ak nx e w' := by
 subst hv hk
 obtain ⟨A, c, he, hx, hr⟩ := h
 exact ⟨A, c, he, hx, ExAt.of hr rfl hl⟩
def GotM (w : World) (t at_ b : Int) (l : List Rec) (k : Nat) (ak : Int) (e : Ending) (w' : World) : Prop := ∃ A c, e = .returned (.tuple #[.agg #[.int .i64 0, .int .i64 t, .int .i64 at_, .int .i64 b, .slice A k c, .int .i64 ak], .int .i64 0]) ∧ Ext w w' ∧ ExAt w' A c k l
def GotR (w : World) (id t : Int) (sp : Bool) (l : List Rec) (k : Nat) (ak nx : Int) (ak_ at_ term : Int) (ok : Bool) (e : Ending) (w' : World) : Prop := ∃ A c, e = .returned (.tuple #[.agg #[.int .i64 id, .int .i64 t, .bool sp, .slice A k c, .int .i64 ak, .int .i64 nx], .agg #[.int .i64 ak_, .int .i64 term, .int .i64 at_, .int .i64 0, .slice none 0 0, .int .i64 0], .bool ok, .int .i64 0]) ∧ Ext w w' ∧ ExAt w' A c k l
theorem results_acn {fn : Func} {tmps : Array Value} {w : World} {i b : Nat} {a : Acn} (hf : fn.results = #[.cell i 87]) (ht : tmps.getD i undef = .pointer (some ⟨b, 0, none⟩)) (hr : w.rangeAt b 0 (acnR a)) : (results fn tmps).run Tryz.prog w = .ok (.agg (acnR a).toArray) w := by
 have hl := run_loadVar_mid w b 0 87 (acnR a) _ hr Tryz.underlying87 rfl (by kernel_rfl)
 have ha : (asAddr (tmps.getD i undef)).run Tryz.prog w = .ok ⟨b, 0, none⟩ w := by rw [ht]; rfl
 generalize hq : acnR a = cs at *
 unfold results
 rw [hf]
 simp only [List.mapM_toArray, List.mapM_cons, List.mapM_nil, Sem.run_bind, Sem.run_map, Sem.run_pure, bind_pure_comp, ha, hl, Result.andThen]
 rfl
set_option maxRecDepth 100000 in
theorem madeA (t : Int) : Program.built Tryz.prog 87 [(0, .int .i64 t), (1, .int .i64 0), (2, .int .i64 1)] = some (acnR (goA t)).toArray := by kernel_rfl
set_option maxHeartbeats 1600000 in
set_option maxRecDepth 100000 in
theorem l54_Go (t : Int) (w : World) : Calls Tryz.prog 57 #[.int .i64 t] w fun e w' => e = .returned (.agg (acnR (goA t)).toArray) ∧ Ext w w' := by
 obtain ⟨q, hq⟩ : ∃ q, goA t = q := ⟨_, rfl⟩
 have HM := Lib.hid (madeA t)
 rw [hq] at HM ⊢
 clear hq
 go_enter Tryz.func57, Tryz.ntmps57
 go_wp2_with (first
  | (refine wpList_built rfl 87 _ rfl [(0, .int .i64 t), (1, .int .i64 0), (2, .int .i64 1)] rfl (acnR q).toArray HM.out ?_)
  | (refine wpList_store_top rfl 87 _ _ rfl rfl (by simp [go_sem]) (acnR q) rfl rfl (by kernel_rfl) (acnR_one _) ?_))
 refine bodyPost_ret (v := .agg (acnR q).toArray) (results_acn (i := 2) (by simp [Tryz.results57]) rfl (rangeAt_new w rfl (acnR q) _)) rfl ?_
 exact ⟨rfl, ex⟩
end Go.Proofs.YtmhinhgflehkaaaGreat

/-
 Chapter 54's examples.
-/
namespace Go.Proofs.YtmhinhgflehkaaaGreat
open Go.RowKit

end Go.Proofs.YtmhinhgflehkaaaGreat
