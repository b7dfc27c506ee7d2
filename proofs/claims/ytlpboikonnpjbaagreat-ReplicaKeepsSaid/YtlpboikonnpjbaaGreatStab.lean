/-
  Chapter 54: properties of what slots hold; Receive by its parts.
-/
import Derived.Test.YtlpboikonnpjbaaGreatOpq
import Derived.Test.YtlpboikonnpjbaaGreatGrpj
namespace Go.Proofs.YtlpboikonnpjbaaGreat
open Go.RowKit

/-- A message in memory. -/
def Stab.msg (m : Msg) : Stab := ⟨fun v W => ∃ D K, v = .agg #[.int .i64 m.kind, .int .i64 m.term, .int .i64 m.at_, .int .i64 m.before, .slice D m.recs.length K, .int .i64 m.acked] ∧ RecsAt W D K m.recs, fun _ _ _ hx ⟨D, K, e, h⟩ => ⟨D, K, e, h.mono hx⟩⟩
/-- What Receive returns. -/
def Stab.recv (w : World) (n : Nod) (a : Msg) (ok : Bool) (er : Int) : Stab := ⟨fun x W => ∃ D K, x = .tuple #[.agg #[.int .i64 n.id, .int .i64 n.term, .bool n.speaks, .slice D n.log.length K, .int .i64 n.acked, .int .i64 n.next], .agg #[.int .i64 a.kind, .int .i64 a.term, .int .i64 a.at_, .int .i64 0, .slice none 0 0, .int .i64 0], .bool ok, .int .i64 er] ∧ LogW w W D n.log.length K n.log, fun _ _ _ hx ⟨D, K, e, h⟩ => ⟨D, K, e, h.mono hx⟩⟩
/-- A node in memory. -/
def Stab.nod (w : World) (n : Nod) : Stab := ⟨fun x W => ∃ D K, x = .agg #[.int .i64 n.id, .int .i64 n.term, .bool n.speaks, .slice D n.log.length K, .int .i64 n.acked, .int .i64 n.next] ∧ LogW w W D n.log.length K n.log, fun _ _ _ hx ⟨D, K, e, h⟩ => ⟨D, K, e, h.mono hx⟩⟩
/-- A new box. -/
def Stab.box (n : Nat) (cs : List Value) (T : TypeId) : Stab := ⟨fun x W => ∃ g, x = .pointer (some ⟨g, 0, none⟩) ∧ n ≤ g ∧ BoxAt W g cs T, fun _ _ _ hx ⟨g, e, hg, h⟩ => ⟨g, e, hg, h.mono hx⟩⟩
theorem LogIn.logw {w w1 X W : World} {D : Option Addr} {N K : Nat} {l : List Rec} (h : LogIn w1 X W D N K l) (hn : l.length = N) (hx : Ext w1 W) (he : ∀ r ∈ l, AcnAt w r.act) : LogW w W D N K l := by
  subst hn
  rcases h with h | ⟨h, -⟩
  · exact ⟨h.sl.mono hx, rfl, h.le, h.cap, he⟩
  · exact LogW.own h he
/-- What Receive leaves, by its parts. -/
def GotV (w : World) (n : Nod) (a : Msg) (ok : Bool) (er : Int) (e : Ending) (w' : World) : Prop := ∃ D K, e = .returned (.tuple #[.agg #[.int .i64 n.id, .int .i64 n.term, .bool n.speaks, .slice D n.log.length K, .int .i64 n.acked, .int .i64 n.next], .agg #[.int .i64 a.kind, .int .i64 a.term, .int .i64 a.at_, .int .i64 0, .slice none 0 0, .int .i64 0], .bool ok, .int .i64 er]) ∧ Ext w w' ∧ LogIn w w w' D n.log.length K n.log
theorem rep_Receive_as (n : Nod) (A : Option Addr) (c : Nat) (m : Msg) (B : Option Addr) (d : Nat) (w : World) (hs : RecsAt w A c n.log) (hm : RecsAt w B d m.recs) (n1 : Nod) (a1 : Msg) (ok : Bool) (er : Int) (hv : recvV n m = (n1, a1, ok, er)) :
    Calls Tryz.prog 21 #[.agg #[.int .i64 n.id, .int .i64 n.term, .bool n.speaks, .slice A n.log.length c, .int .i64 n.acked, .int .i64 n.next], .agg #[.int .i64 m.kind, .int .i64 m.term, .int .i64 m.at_, .int .i64 m.before, .slice B m.recs.length d, .int .i64 m.acked]] w (GotV w n1 a1 ok er) := by
  have := rep_Receive n A c m B d w hs hm
  rw [hv] at this
  exact this
theorem rep_Receive_ans (n : Nod) (A : Option Addr) (c : Nat) (m : Msg) (w : World) (hs : RecsAt w A c n.log) (hm : m.before = 0 ∧ m.recs = [] ∧ m.acked = 0) (n1 : Nod) (a1 : Msg) (ok : Bool) (er : Int) (hv : recvV n m = (n1, a1, ok, er)) :
    Calls Tryz.prog 21 #[.agg #[.int .i64 n.id, .int .i64 n.term, .bool n.speaks, .slice A n.log.length c, .int .i64 n.acked, .int .i64 n.next], .agg #[.int .i64 m.kind, .int .i64 m.term, .int .i64 m.at_, .int .i64 0, .slice none 0 0, .int .i64 0]] w (GotV w n1 a1 ok er) := by
  obtain ⟨k, t, x, b, l, q⟩ := m
  obtain ⟨h1, h2, h3⟩ := hm
  simp only at h1 h2 h3
  subst h1 h2 h3
  exact rep_Receive_as n A c ⟨k, t, x, 0, [], 0⟩ none 0 w hs (RecsAt.nil _) n1 a1 ok er hv
theorem zones : ∀ u ∈ ([.int .i64 0, .int .i64 0, .bool false, .slice none 0 0, .int .i64 0, .int .i64 0] : List Value), u.oneCell' = true := nodl_one nod0 none 0
end Go.Proofs.YtlpboikonnpjbaaGreat
