/-
  Chapter 54, the reference: contracts by their parts; properties of what slots hold.
-/
import Derived.Test.YtlpboikonnpjbaaGreatGstb
import Derived.Test.YtlpboikonnpjbaaGreatGrqh
import Derived.Test.YtlpboikonnpjbaaGreatGrpn
import Derived.Test.YtlpboikonnpjbaaGreatRq4
namespace Go.Proofs.YtlpboikonnpjbaaGreat
open Go.RowKit

theorem LogQ.logw {w w1 X W : World} {D : Option Addr} {N K : Nat} {l : List Rec} (h : LogQ w1 X W D N K l) (hn : l.length = N) (hx : Ext w1 W) (he : ∀ r ∈ l, AcnAt w r.act) : LogW w W D N K l := by
  subst hn
  rcases h with h | ⟨h, -⟩
  · exact ⟨h.sl.mono hx, rfl, h.le, h.cap, he⟩
  · exact LogW.own h he
def GotQ (w : World) (n : Nod) (a : Msg) (ok : Bool) (er : Int) (e : Ending) (w' : World) : Prop := ∃ D K, e = .returned (.tuple #[.agg #[.int .i64 n.id, .int .i64 n.term, .bool n.speaks, .slice D n.log.length K, .int .i64 n.acked, .int .i64 n.next], .agg #[.int .i64 a.kind, .int .i64 a.term, .int .i64 a.at_, .int .i64 0, .slice none 0 0, .int .i64 0], .bool ok, .int .i64 er]) ∧ Ext w w' ∧ LogQ w w w' D n.log.length K n.log
theorem r54_Receive_as (n : Nod) (A : Option Addr) (c : Nat) (m : Msg) (B : Option Addr) (d : Nat) (w : World) (hs : RecsAt w A c n.log) (hm : RecsAt w B d m.recs) (n1 : Nod) (a1 : Msg) (ok : Bool) (er : Int) (hv : recvV n m = (n1, a1, ok, er)) :
    Calls Tryz.prog 22 #[.agg #[.int .i64 n.id, .int .i64 n.term, .bool n.speaks, .slice A n.log.length c, .int .i64 n.acked, .int .i64 n.next], .agg #[.int .i64 m.kind, .int .i64 m.term, .int .i64 m.at_, .int .i64 m.before, .slice B m.recs.length d, .int .i64 m.acked]] w (GotQ w n1 a1 ok er) := by
  have := r54_Receive n A c m B d w hs hm
  rw [hv] at this
  exact this
theorem r54_Receive_ans (n : Nod) (A : Option Addr) (c : Nat) (m : Msg) (w : World) (hs : RecsAt w A c n.log) (hm : m.before = 0 ∧ m.recs = [] ∧ m.acked = 0) (n1 : Nod) (a1 : Msg) (ok : Bool) (er : Int) (hv : recvV n m = (n1, a1, ok, er)) :
    Calls Tryz.prog 22 #[.agg #[.int .i64 n.id, .int .i64 n.term, .bool n.speaks, .slice A n.log.length c, .int .i64 n.acked, .int .i64 n.next], .agg #[.int .i64 m.kind, .int .i64 m.term, .int .i64 m.at_, .int .i64 0, .slice none 0 0, .int .i64 0]] w (GotQ w n1 a1 ok er) := by
  obtain ⟨k, t, x, b, l, q⟩ := m
  obtain ⟨h1, h2, h3⟩ := hm
  simp only at h1 h2 h3
  subst h1 h2 h3
  exact r54_Receive_as n A c ⟨k, t, x, 0, [], 0⟩ none 0 w hs (RecsAt.nil _) n1 a1 ok er hv
theorem r54_Same_self (a : Nod) (A : Option Addr) (c : Nat) (B : Option Addr) (d : Nat) (w : World) (ha : RecsAt w A c a.log) (hb : RecsAt w B d a.log) : Calls Tryz.prog 25 #[.agg #[.int .i64 a.id, .int .i64 a.term, .bool a.speaks, .slice A a.log.length c, .int .i64 a.acked, .int .i64 a.next], .agg #[.int .i64 a.id, .int .i64 a.term, .bool a.speaks, .slice B a.log.length d, .int .i64 a.acked, .int .i64 a.next]] w fun e w' => e = .returned (.bool true) ∧ Ext w w' := by
  have := r54_Same a a A c B d w ha hb
  rwa [sameN_refl] at this
/-- A node in memory, its actions too. -/
def Stab.nodR (n : Nod) : Stab := ⟨fun x W => ∃ D K, x = .agg #[.int .i64 n.id, .int .i64 n.term, .bool n.speaks, .slice D n.log.length K, .int .i64 n.acked, .int .i64 n.next] ∧ RecsAt W D K n.log, fun _ _ _ hx ⟨D, K, e, h⟩ => ⟨D, K, e, h.mono hx⟩⟩
end Go.Proofs.YtlpboikonnpjbaaGreat
