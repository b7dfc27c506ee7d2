/-
  Logs of actions: until a time, between two times, copies; the edits among them.
-/
import Derived.Test.YtmhinhgflehkaaaGreatGlog
import Derived.Test.YtmhinhgflehkaaaGreatGins
namespace Go.Proofs.YtmhinhgflehkaaaGreat
open Go.RowKit

theorem info_A : infoOk Tryz.prog 87 44 544 = true := by kernel_rfl
theorem acnR_rows (l : List Acn) : ∀ r ∈ l.map acnR, r.length = 44 := by
  intro r hr
  obtain ⟨a, _, rfl⟩ := List.mem_map.1 hr
  rfl
theorem acnR_ones (l : List Acn) : ∀ r ∈ l.map acnR, ∀ u ∈ r, u.oneCell' = true := by
  intro r hr
  obtain ⟨a, _, rfl⟩ := List.mem_map.1 hr
  exact acnR_one a
theorem acnR_ones1 (a : Acn) : ∀ r ∈ [acnR a], ∀ u ∈ r, u.oneCell' = true := acnR_ones [a]
end Go.Proofs.YtmhinhgflehkaaaGreat

/-
  Logs of actions: until a time, between two times; the edits among them.
-/
namespace Go.Proofs.YtmhinhgflehkaaaGreat
open Go.RowKit
theorem acnE_at {a : Acn} (h : acnE a = 0) : 0 ≤ a.at_ ∧ a.at_ ≤ 10000000 := by
  unfold acnE at h
  split at h
  · omega
  · split at h
    · omega
    · rename_i h2
      unfold inE at h2
      split at h2 <;> omega
noncomputable def untilV (l : List Acn) (t : Int) : Int × Int := if logE l ≠ 0 then (0, logE l) else ((untilL l t : Int), 0)
@[go_sem] theorem nil_A (A : Option Addr) (n c n' c' : Nat) (w : World) : (binOp .eql 129 (.slice A n c) (.slice none n' c')).run Tryz.prog w = .ok (.bool A.isNone) w := Lib.run_eql_slice_nil w _ _ A n c n' c' Tryz.underlying129
theorem Own.older {w0 w0' w : World} {E : TypeId} {size : Nat} {A : Option Addr} {n k : Nat} {rows : List (List Value)} (h : Own w0 w E size A n k rows) (hx : Ext w0' w0) : Own w0' w E size A n k rows := by
  refine ⟨h.len, h.row, h.one, h.le, h.cap, ?_⟩
  rcases h.at_ with h0 | ⟨g, cur, h1, h2, h3, h4⟩
  · exact .inl h0
  · exact .inr ⟨g, cur, h1, Nat.le_trans hx.size h2, h3, h4⟩
/-- A log of the call's own, and an error's number. -/
def RetLog (w0 : World) (v : List Acn × Int) (e : Ending) (w' : World) : Prop := ∃ A k, e = .returned (.tuple #[.slice A v.1.length k, .int .i64 v.2]) ∧ Ext w0 w' ∧ Own w0 w' 87 44 A v.1.length k (v.1.map acnR) ∧ ∀ a ∈ v.1, AcnAt w' a
theorem RetLog.err {w0 w' : World} {v : List Acn × Int} {x : Int} (h : v = ([], x)) (hx : Ext w0 w') : RetLog w0 v (.returned (.tuple #[.slice none 0 0, .int .i64 x])) w' := by
  subst h
  exact ⟨none, 0, rfl, hx, Own.nil _, by simp⟩
noncomputable def betweenV (l : List Acn) (i k : Int) : List Acn × Int := if logE l ≠ 0 then ([], logE l) else if untilL l k < untilL l i then ([], 0) else ((l.take (untilL l k)).drop (untilL l i), 0)
theorem Sl.part {w : World} {b o size : Nat} {rows : List (List Value)} (h : Sl w (some ⟨b, o, none⟩) size rows) (i k : Nat) : Sl w (some ⟨b, o + i * size, none⟩) size ((rows.take k).drop i) := Sl.dropped (h.front k) i
end Go.Proofs.YtmhinhgflehkaaaGreat
