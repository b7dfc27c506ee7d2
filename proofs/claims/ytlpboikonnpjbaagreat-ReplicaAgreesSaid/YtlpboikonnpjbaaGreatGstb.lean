/-
  Chapter 54: properties of what slots hold; Receive by its parts.
-/
import Derived.Test.YtlpboikonnpjbaaGreatGopq
import Derived.Test.YtlpboikonnpjbaaGreatGrpj
import Derived.Test.YtlpboikonnpjbaaGreatGrpn
namespace Go.Proofs.YtlpboikonnpjbaaGreat
open Go.RowKit

/-- A message in memory. -/
def Stab.msg (m : Msg) : Stab := ⟨fun v W => ∃ D K, v = .agg #[.int .i64 m.kind, .int .i64 m.term, .int .i64 m.at_, .int .i64 m.before, .slice D m.recs.length K, .int .i64 m.acked] ∧ RecsAt W D K m.recs, fun _ _ _ hx ⟨D, K, e, h⟩ => ⟨D, K, e, h.mono hx⟩⟩
/-- What Receive returns. -/
def Stab.recv (w : World) (n : Nod) (a : Msg) (ok : Bool) (er : Int) : Stab := ⟨fun x W => ∃ D K, x = .tuple #[.agg #[.int .i64 n.id, .int .i64 n.term, .bool n.speaks, .slice D n.log.length K, .int .i64 n.acked, .int .i64 n.next], .agg #[.int .i64 a.kind, .int .i64 a.term, .int .i64 a.at_, .int .i64 0, .slice none 0 0, .int .i64 0], .bool ok, .int .i64 er] ∧ LogW w W D n.log.length K n.log, fun _ _ _ hx ⟨D, K, e, h⟩ => ⟨D, K, e, h.mono hx⟩⟩
/-- A node in memory. -/
def Stab.nod (w : World) (n : Nod) : Stab := ⟨fun x W => ∃ D K, x = .agg #[.int .i64 n.id, .int .i64 n.term, .bool n.speaks, .slice D n.log.length K, .int .i64 n.acked, .int .i64 n.next] ∧ LogW w W D n.log.length K n.log, fun _ _ _ hx ⟨D, K, e, h⟩ => ⟨D, K, e, h.mono hx⟩⟩
/-- A new box. -/
def Stab.box (n : Nat) (cs : List Value) (T : TypeId) : Stab := ⟨fun x W => ∃ g, x = .pointer (some ⟨g, 0, none⟩) ∧ n ≤ g ∧ BoxAt W g cs T, fun _ _ _ hx ⟨g, e, hg, h⟩ => ⟨g, e, hg, h.mono hx⟩⟩
theorem LogIn.logw {w w1 X W : World} {D : Option Addr} {N K : Nat} {l : List Rec} (h : LogIn w1 X W D N K l) (hn : l.length = N) (hx : Ext w1 W) (he : ∀ r ∈ l, AcnAt w r.act) : LogW w W D N K l := by
  subst hn
  rcases h with h | ⟨h, -⟩
  · exact ⟨h.sl.mono hx, rfl, h.le, h.cap, he⟩
  · exact LogW.own h he
/-- What Receive leaves, by its parts. -/
def GotV (w : World) (n : Nod) (a : Msg) (ok : Bool) (er : Int) (e : Ending) (w' : World) : Prop := ∃ D K, e = .returned (.tuple #[.agg #[.int .i64 n.id, .int .i64 n.term, .bool n.speaks, .slice D n.log.length K, .int .i64 n.acked, .int .i64 n.next], .agg #[.int .i64 a.kind, .int .i64 a.term, .int .i64 a.at_, .int .i64 0, .slice none 0 0, .int .i64 0], .bool ok, .int .i64 er]) ∧ Ext w w' ∧ LogIn w w w' D n.log.length K n.log
theorem rep_Receive_as (n : Nod) (A : Option Addr) (c : Nat) (m : Msg) (B : Option Addr) (d : Nat) (w : World) (hs : RecsAt w A c n.log) (hm : RecsAt w B d m.recs) (n1 : Nod) (a1 : Msg) (ok : Bool) (er : Int) (hv : recvV n m = (n1, a1, ok, er)) :
    Calls Tryz.prog 21 #[.agg #[.int .i64 n.id, .int .i64 n.term, .bool n.speaks, .slice A n.log.length c, .int .i64 n.acked, .int .i64 n.next], .agg #[.int .i64 m.kind, .int .i64 m.term, .int .i64 m.at_, .int .i64 m.before, .slice B m.recs.length d, .int .i64 m.acked]] w (GotV w n1 a1 ok er) := by
  have := rep_Receive n A c m B d w hs hm
  rw [hv] at this
  exact this
theorem rep_Receive_ans (n : Nod) (A : Option Addr) (c : Nat) (m : Msg) (w : World) (hs : RecsAt w A c n.log) (hm : m.before = 0 ∧ m.recs = [] ∧ m.acked = 0) (n1 : Nod) (a1 : Msg) (ok : Bool) (er : Int) (hv : recvV n m = (n1, a1, ok, er)) :
    Calls Tryz.prog 21 #[.agg #[.int .i64 n.id, .int .i64 n.term, .bool n.speaks, .slice A n.log.length c, .int .i64 n.acked, .int .i64 n.next], .agg #[.int .i64 m.kind, .int .i64 m.term, .int .i64 m.at_, .int .i64 0, .slice none 0 0, .int .i64 0]] w (GotV w n1 a1 ok er) := by
  obtain ⟨k, t, x, b, l, q⟩ := m
  obtain ⟨h1, h2, h3⟩ := hm
  simp only at h1 h2 h3
  subst h1 h2 h3
  exact rep_Receive_as n A c ⟨k, t, x, 0, [], 0⟩ none 0 w hs (RecsAt.nil _) n1 a1 ok er hv
theorem zones : ∀ u ∈ ([.int .i64 0, .int .i64 0, .bool false, .slice none 0 0, .int .i64 0, .int .i64 0] : List Value), u.oneCell' = true := nodl_one nod0 none 0
end Go.Proofs.YtlpboikonnpjbaaGreat

/-
  Chapter 54: slices of two nodes; how long what comes back is.
-/
namespace Go.Proofs.YtlpboikonnpjbaaGreat
open Go.RowKit

def buildN2 (ps : Array (Nat × Value)) : Sem Value := Instr.buildSlice 136 2 ps
@[go_sem ↓ high] theorem buildN2_at (ps : Array (Nat × Value)) : Instr.buildSlice 136 2 ps = buildN2 ps := rfl
theorem run_buildTwo {P : Program} (w : World) (t e : TypeId) (cs ds : Array Value) (n : Nat) (hu : P.underlying t = some (.slice e)) (hsz : (P.info? e).map (·.size) = some n) (hz : ((P.info? e).bind (·.zero)).isSome = true) (hn : cs.size = n) (hm : ds.size = n) (hpos : 0 < n) (hsmall : n ≤ 2 ^ 23) :
    (Instr.buildSlice t 2 #[(0, .agg cs), (1, .agg ds)]).run P w = .ok (.slice (some ⟨w.heap.size, 0, none⟩) 2 2) (w.alloc (.cells (cs ++ ds) e)) := by
  subst hn
  cases hie : P.info? e with
  | none => simp [hie] at hsz
  | some ie =>
    simp only [hie, Option.map_some, Option.some.injEq, Option.bind_some] at hsz hz
    obtain ⟨z, hzz⟩ := Option.isSome_iff_exists.1 hz
    refine run_buildSlice w t e 2 #[(0, .agg cs), (1, .agg ds)] (cs ++ ds) ie z hu hie hzz (by rw [hsz]; omega) (by rw [hsz]; omega) ?_
    have := Great.fill_whole hpos [Value.agg cs, Value.agg ds] ((Array.range (2 * cs.size)).map (z.cells[· % z.cells.size]!)) (by simp [Value.cells, hm]) (by simp)
    have e : (cs.toList ++ ds.toList).toArray = cs ++ ds := by apply Array.ext'; simp
    rw [hsz, ← e]
    simpa [Value.cells] using this
@[go_sem] theorem buildN2_run (w : World) (a0 a1 a2 a3 a4 a5 b0 b1 b2 b3 b4 b5 : Value) : (buildN2 #[(0, .agg #[a0, a1, a2, a3, a4, a5]), (1, .agg #[b0, b1, b2, b3, b4, b5])]).run Tryz.prog w = .ok (.slice (some ⟨w.heap.size, 0, none⟩) 2 2) (w.alloc (.cells #[a0, a1, a2, a3, a4, a5, b0, b1, b2, b3, b4, b5] 55)) :=
  run_buildTwo w _ _ #[a0, a1, a2, a3, a4, a5] #[b0, b1, b2, b3, b4, b5] 6 Tryz.underlying136 (by kernel_rfl) (by kernel_rfl) rfl rfl (by decide) (by decide)
theorem recvV_len (n : Nod) (m : Msg) : (recvV n m).1.log.length ≤ 256 := by
  by_cases h : (recvV n m).2.2.2 = 0
  · exact (recvV_left h).node.len
  · unfold recvV at h ⊢
    split
    · exact Nat.zero_le _
    split
    · exact Nat.zero_le _
    split
    · exact Nat.zero_le _
    split
    · exact Nat.zero_le _
    · rename_i h1 h2 h3 h4
      rw [if_neg h1, if_neg h2, if_neg h3, if_neg h4] at h
      exact absurd (Classical.not_not.1 h4) h
theorem leadV_len (n : Nod) (t : Int) : (leadV n t).1.log.length ≤ 256 := by
  unfold leadV
  split
  · exact Nat.zero_le _
  rename_i h
  have hn := (nodE_iff n).1 (Classical.not_not.1 h)
  split
  · exact Nat.zero_le _
  split
  · exact Nat.zero_le _
  split
  · exact Nat.zero_le _
  · exact hn.len
theorem actV_len (n : Nod) (a : Acn) : (actV n a).1.log.length ≤ 256 := by
  unfold actV
  split
  · exact Nat.zero_le _
  rename_i h
  have hn := (nodE_iff n).1 (Classical.not_not.1 h)
  split
  · exact Nat.zero_le _
  split
  · exact Nat.zero_le _
  split
  · exact Nat.zero_le _
  split
  · exact Nat.zero_le _
  · have := hn.len
    simp only [actN, List.length_append, List.length_cons, List.length_nil]
    omega
theorem sendV_len (n : Nod) : (sendV n).1.recs.length ≤ 16 := by
  unfold sendV
  split
  · exact Nat.zero_le _
  split
  · exact Nat.zero_le _
  · simp only [sentM, List.length_take]
    omega
theorem newV_len (i : Int) : (newV i).1.log.length ≤ 0 := by
  unfold newV
  split <;> exact Nat.le_refl _
theorem actionsV_len (n : Nod) : (actionsV n).1.length ≤ 256 := by
  unfold actionsV
  split
  · exact Nat.zero_le _
  rename_i h
  have hn := (nodE_iff n).1 (Classical.not_not.1 h)
  have := hn.len
  simp only [List.length_map, List.length_take]
  omega
end Go.Proofs.YtlpboikonnpjbaaGreat
