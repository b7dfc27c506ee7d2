/-
 Chapter 54: the law's copies of records, nodes and messages; which are few.
-/
import Derived.Test.YtmhinhgflehkaaaGreatGrpc
import Derived.Test.YtmhinhgflehkaaaGreatGfew
namespace Go.Proofs.YtmhinhgflehkaaaGreat
open Go.RowKit

attribute [go_sem] recR_len
def buildQ (ps : Array (Nat × Value)) : Sem Value := Instr.buildSlice 38 1 ps
@[go_sem ↓ high] theorem buildQ_at (ps : Array (Nat × Value)) : Instr.buildSlice 38 1 ps = buildQ ps := rfl
@[go_sem] theorem buildQ_run (w : World) (cs : Array Value) (h : cs.size = 45) : (buildQ #[(0, .agg cs)]).run Tryz.prog w = .ok (.slice (some ⟨w.heap.size, 0, none⟩) 1 1) (w.alloc (.cells cs 191)) :=
 run_buildOne w _ _ cs 45 Tryz.underlying38 (by kernel_rfl) (by kernel_rfl) h (by decide) (by decide)
def buildR (ps : Array (Nat × Value)) : Sem Value := Instr.buildSlice 22 1 ps
@[go_sem ↓ high] theorem buildR_at (ps : Array (Nat × Value)) : Instr.buildSlice 22 1 ps = buildR ps := rfl
@[go_sem] theorem buildR_run (w : World) (cs : Array Value) (h : cs.size = 45) : (buildR #[(0, .agg cs)]).run Tryz.prog w = .ok (.slice (some ⟨w.heap.size, 0, none⟩) 1 1) (w.alloc (.cells cs 170)) :=
 run_buildOne w _ _ cs 45 Tryz.underlying22 (by kernel_rfl) (by kernel_rfl) h (by decide) (by decide)
theorem info_Q : infoOk Tryz.prog 191 45 552 = true := by kernel_rfl
@[go_sem] theorem nil_Q (A : Option Addr) (n c n' c' : Nat) (w : World) : (binOp .eql 38 (.slice A n c) (.slice none n' c')).run Tryz.prog w = .ok (.bool A.isNone) w := Lib.run_eql_slice_nil w _ _ A n c n' c' Tryz.underlying38
def RetQ (w0 : World) (n : Nat) (l : List Rec) (e : Ending) (w' : World) : Prop := ∃ A k, e = .returned (.slice A n k) ∧ Ext w0 w' ∧ Own w0 w' 191 45 A n k (l.map recR)
theorem take_snoc' {l : List Rec} {k : Nat} {m : Rec} (h : l[k]? = some m) : (l.take k).map recR ++ [recR m] = (l.take (k + 1)).map recR := by
 obtain ⟨h1, h2⟩ := List.getElem?_eq_some_iff.1 h
 rw [List.take_succ_eq_append_getElem h1, h2, List.map_append]; rfl
theorem recR_ones1 (r : Rec) : ∀ x ∈ [recR r], ∀ u ∈ x, u.oneCell' = true := by
 intro x hx
 simp at hx
 subst hx
 exact recR_one r
set_option maxHeartbeats 1600000 in
set_option maxRecDepth 100000 in
theorem l54_records (A : Option Addr) (c : Nat) (l : List Rec) (w : World) (hs : RecsAt w A c l) (hn : l.length * 552 ≤ 140737488355328) : Calls Tryz.prog 86 #[.slice A l.length c] w (RetQ w l.length l) := by
 have HS := Lib.hid hs
 clear hs
 go_enter Tryz.func86, Tryz.ntmps86
 go_wp2
 go_loopw [3, 8] (fun v i wr => ∃ (k : Nat) (D : Option Addr) (K : Nat), k ≤ l.length ∧ i = .int .i64 k ∧ v = .slice D k K ∧ Ext w wr ∧ Hid (Own w wr 191 45 D k K ((l.take k).map recR))) (fun _ i _ => l.length - (intOf i).toNat)
 case atStart => exact ⟨0, none, 0, by omega, rfl, rfl, Ext.refl _, Lib.hid (Own.nil _)⟩
 case round =>
  obtain ⟨k, D, K, hk, rfl, rfl, hx, HO⟩ := hrel
  obtain ⟨y0, rfl⟩ := hx.get
  clear hx
  by_cases hlt : k < l.length
  ·obtain ⟨m, hm⟩ : ∃ m, l[k]? = some m := ⟨_, List.getElem?_eq_getElem hlt⟩
   obtain ⟨b, o, rfl, hrec, -⟩ := HS.out.get hm
   have hb0 : (0 : Int) ≤ (k : Int) := by omega
   have hb1 : (k : Int) < (l.length : Int) := by omega
   have hr1 := hrec.row
   have HT := Lib.hid (take_snoc' hm)
   clear hrec hm
   go_wp2_with (first
    | (refine wpList_store_top rfl 170 (.tmp 5) (.tmp 11) rfl rfl (by simp [go_sem]) (recR m) rfl rfl (by kernel_rfl) (recR_one m) ?_)
    | (at_builtin; refine wpList_append_mine (w0 := w) rfl _ _ 38 38 rfl 191 191 45 552 Tryz.underlying38 Tryz.underlying38 info_Q (by decide) (ex) D k K ((l.take k).map recR) rfl (HO.out.mono (ex)) _ 1 1 [recR m] rfl (Sl.alloc' (by simp [go_sem]) (by simp) (by simp [recR_len])) rfl (recR_ones1 m) (by unfold maxLen; omega) (by omega) (k + 1) rfl ((l.take (k + 1)).map recR) HT.out ?_; intro D2 K2 w2 hx2 hown hg hA; have HO2 := Lib.hid hown; obtain ⟨y2, rfl⟩ := hx2.get; clear hown hx2 hg hA))
   go_light
   exact ⟨⟨k + 1, D2, K2, by omega, by go_num, rfl, ex, HO2⟩, by simp [intOf]; omega⟩
  ·have hkl : k = l.length := by omega
   have HL := Lib.hid (show l.take k = l by rw [hkl, List.take_length])
   have HK := Lib.hid hkl
   clear hkl
   go_wp2
   go_ret
   have := HO.out
   rw [HL.out] at this
   rw [HK.out] at this ⊢
   exact ⟨D, K, rfl, ex, this⟩
def RetOf (w0 : World) (n : Nod) (e : Ending) (w' : World) : Prop := ∃ A c, e = .returned (.agg #[.int .i64 n.id, .int .i64 n.term, .bool n.speaks, .slice A n.log.length c, .int .i64 n.acked, .int .i64 n.next]) ∧ Ext w0 w' ∧ Own w0 w' 191 45 A n.log.length c (n.log.map recR)
theorem RetOf.recs {w0 w' : World} {n : Nod} {A : Option Addr} {c : Nat} (h : Own w0 w' 191 45 A n.log.length c (n.log.map recR)) (he : ∀ r ∈ n.log, AcnAt w' r.act) : RecsAt w' A c n.log := Own.recs h rfl he
set_option maxHeartbeats 3200000 in
set_option maxRecDepth 100000 in
theorem l54_Of (n : Nod) (A : Option Addr) (c : Nat) (w : World) (hs : RecsAt w A c n.log) (hn : n.log.length * 552 ≤ 140737488355328) : Calls Tryz.prog 33 #[.agg #[.int .i64 n.id, .int .i64 n.term, .bool n.speaks, .slice A n.log.length c, .int .i64 n.acked, .int .i64 n.next]] w (RetOf w n) := by
 have HS := Lib.hid hs
 clear hs
 go_enter Tryz.func33, Tryz.ntmps33
 go_wp2
 go_region_held3 (fun w' => w'.cell? ⟨w.heap.size, 0, none⟩ = some (.int .i64 n.id) ∧ w'.cell? ⟨w.heap.size, 1, none⟩ = some (.int .i64 n.term) ∧ w'.cell? ⟨w.heap.size, 2, none⟩ = some (.bool n.speaks) ∧ w'.cell? ⟨w.heap.size, 3, none⟩ = some (.slice A n.log.length c) ∧ w'.cell? ⟨w.heap.size, 4, none⟩ = some (.int .i64 n.acked) ∧ w'.cell? ⟨w.heap.size, 5, none⟩ = some (.int .i64 n.next)) ((refine ⟨?_, ?_, ?_, ?_, ?_, ?_⟩ <;> simp [go_sem]))
  ((go_at_call 86; refine (l54_records A c n.log _ (HS.out.mono (ex)) hn).mono ?_; rintro e w' ⟨D, n', rfl, hx, hown⟩; have HO := Lib.hid hown; obtain ⟨yc, rfl⟩ := hx.get; clear hx hown))
 all_goals
  go_wp2_with fail
  refine bodyPost_ret (v := .agg #[.int .i64 n.id, .int .i64 n.term, .bool n.speaks, .slice D n.log.length n', .int .i64 n.acked, .int .i64 n.next]) (by simp [results, Tryz.results33, go_sem]) rfl ?_
  exact ⟨D, n', rfl, ex, Own.older (Own.shift HO.out (by simp [go_sem])) (ex)⟩
def RetSaid (w0 : World) (m : Msg) (e : Ending) (w' : World) : Prop := ∃ A c, e = .returned (.agg #[.int .i64 m.kind, .int .i64 m.term, .int .i64 m.at_, .int .i64 m.before, .slice A m.recs.length c, .int .i64 m.acked]) ∧ Ext w0 w' ∧ Own w0 w' 191 45 A m.recs.length c (m.recs.map recR)
def FewR (w : World) (l : List Rec) (e : Ending) (w' : World) : Prop := (∃ b : Bool, e = .returned (.bool b) ∧ (b = true → l.length ≤ 511)) ∧ Ext w w'
end Go.Proofs.YtmhinhgflehkaaaGreat

/-
 Chapter 54: whether nodes are few.
-/
namespace Go.Proofs.YtmhinhgflehkaaaGreat
open Go.RowKit

def nodR (x : Nod × Option Addr × Nat) : List Value := [.int .i64 x.1.id, .int .i64 x.1.term, .bool x.1.speaks, .slice x.2.1 x.1.log.length x.2.2, .int .i64 x.1.acked, .int .i64 x.1.next]
def FewNs (w : World) (xs : List (Nod × Option Addr × Nat)) (e : Ending) (w' : World) : Prop := (∃ b : Bool, e = .returned (.bool b) ∧ (b = true → ∀ x ∈ xs, x.1.log.length ≤ 511)) ∧ Ext w w'
end Go.Proofs.YtmhinhgflehkaaaGreat

/-
 Chapter 54: slices of one node; the law's copy of an answer.
-/
namespace Go.Proofs.YtmhinhgflehkaaaGreat
open Go.RowKit

def buildN (ps : Array (Nat × Value)) : Sem Value := Instr.buildSlice 193 1 ps
@[go_sem ↓ high] theorem buildN_at (ps : Array (Nat × Value)) : Instr.buildSlice 193 1 ps = buildN ps := rfl
@[go_sem] theorem buildN_run (w : World) (cs : Array Value) (h : cs.size = 6) : (buildN #[(0, .agg cs)]).run Tryz.prog w = .ok (.slice (some ⟨w.heap.size, 0, none⟩) 1 1) (w.alloc (.cells cs 24)) :=
 run_buildOne w _ _ cs 6 Tryz.underlying193 (by kernel_rfl) (by kernel_rfl) h (by decide) (by decide)
end Go.Proofs.YtmhinhgflehkaaaGreat
