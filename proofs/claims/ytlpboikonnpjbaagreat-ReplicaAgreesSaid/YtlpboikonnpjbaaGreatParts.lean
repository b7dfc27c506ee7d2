/-
  Chapter 54: what Lead, Act and Send leave, by its parts.
-/
import Derived.Test.YtlpboikonnpjbaaGreatGopq
import Derived.Test.YtlpboikonnpjbaaGreatGrpc
namespace Go.Proofs.YtlpboikonnpjbaaGreat
open Go.RowKit

theorem leadV_log {R : Rec → Prop} (n : Nod) (t : Int) (h : ∀ r ∈ n.log, R r) : ∀ r ∈ (leadV n t).1.log, R r := by
  intro r hr
  unfold leadV at hr
  split at hr
  · simp [nod0] at hr
  split at hr
  · simp [nod0] at hr
  split at hr
  · simp [nod0] at hr
  split at hr
  · simp [nod0] at hr
  · exact h r hr
theorem actV_log {R : Rec → Prop} (n : Nod) (a : Acn) (h : ∀ r ∈ n.log, R r) (ha : R ⟨n.term, a⟩) : ∀ r ∈ (actV n a).1.log, R r := by
  intro r hr
  unfold actV at hr
  split at hr
  · simp [nod0] at hr
  split at hr
  · simp [nod0] at hr
  split at hr
  · simp [nod0] at hr
  split at hr
  · simp [nod0] at hr
  split at hr
  · simp [nod0] at hr
  · rcases List.mem_append.1 (show r ∈ n.log ++ [⟨n.term, a⟩] from hr) with h1 | h1
    · exact h r h1
    · rw [List.mem_singleton.1 h1]; exact ha
/-- What Lead and Act leave. -/
def GotLA (w0 w : World) (x : Nod) (er : Int) (e : Ending) (W : World) : Prop := ∃ D K, e = .returned (.tuple #[.agg #[.int .i64 x.id, .int .i64 x.term, .bool x.speaks, .slice D x.log.length K, .int .i64 x.acked, .int .i64 x.next], .int .i64 er]) ∧ Ext w W ∧ LogW w0 W D x.log.length K x.log
theorem RetNod.parts {w w0 w' : World} {v : Nod × Int} {x : Nod} {er : Int} {e : Ending} (h : RetNod w v e w') (hv : v = (x, er)) (h1 : ∀ r ∈ x.log, AcnAt w0 r.act) : GotLA w0 w x er e w' := by
  subst hv
  obtain ⟨A, c, he, hx, r1⟩ := h
  exact ⟨A, c, he, hx, ⟨r1.sl, rfl, r1.le, r1.cap, h1⟩⟩
/-- What Send leaves. -/
def GotSE (w : World) (m : Msg) (er : Int) (e : Ending) (W : World) : Prop := ∃ D K, e = .returned (.tuple #[.agg #[.int .i64 m.kind, .int .i64 m.term, .int .i64 m.at_, .int .i64 m.before, .slice D m.recs.length K, .int .i64 m.acked], .int .i64 er]) ∧ Ext w W ∧ RecsAt W D K m.recs
theorem RetMsgE.parts {w w' : World} {v : Msg × Int} {m : Msg} {er : Int} {e : Ending} (h : RetMsgE w v e w') (hv : v = (m, er)) : GotSE w m er e w' := by
  subst hv
  obtain ⟨A, c, he, hx, ho, hr⟩ := h
  exact ⟨A, c, he, hx, Own.recs ho rfl fun r h1 => (hr r h1).mono hx⟩
/-- What Lead and Act return, in a slot. -/
def Stab.gotn (w : World) (x : Nod) (er : Int) : Stab := ⟨fun v W => ∃ D K, v = .tuple #[.agg #[.int .i64 x.id, .int .i64 x.term, .bool x.speaks, .slice D x.log.length K, .int .i64 x.acked, .int .i64 x.next], .int .i64 er] ∧ LogW w W D x.log.length K x.log, fun _ _ _ hx ⟨D, K, e, h⟩ => ⟨D, K, e, h.mono hx⟩⟩
theorem BoxAt.row {W : World} {b n : Nat} {cs : List Value} {T : TypeId} (h : BoxAt W b cs T) (hn : cs.length = n) : rowQ W b 0 n = some cs := rowQ_of (fun j v hj => by rw [Nat.zero_add]; exact h.cell hj) hn
end Go.Proofs.YtlpboikonnpjbaaGreat
