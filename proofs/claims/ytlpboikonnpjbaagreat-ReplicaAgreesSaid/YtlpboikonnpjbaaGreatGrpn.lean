/-
  Chapter 54: the law's copies of records, nodes and messages; which are few.
-/
import Derived.Test.YtlpboikonnpjbaaGreatGrpc
import Derived.Test.YtlpboikonnpjbaaGreatGfew
namespace Go.Proofs.YtlpboikonnpjbaaGreat
open Go.RowKit

attribute [go_sem] recR_len
def buildQ (ps : Array (Nat × Value)) : Sem Value := Instr.buildSlice 60 1 ps
@[go_sem ↓ high] theorem buildQ_at (ps : Array (Nat × Value)) : Instr.buildSlice 60 1 ps = buildQ ps := rfl
@[go_sem] theorem buildQ_run (w : World) (cs : Array Value) (h : cs.size = 45) : (buildQ #[(0, .agg cs)]).run Tryz.prog w = .ok (.slice (some ⟨w.heap.size, 0, none⟩) 1 1) (w.alloc (.cells cs 137)) :=
  run_buildOne w _ _ cs 45 Tryz.underlying60 (by kernel_rfl) (by kernel_rfl) h (by decide) (by decide)
def buildR (ps : Array (Nat × Value)) : Sem Value := Instr.buildSlice 53 1 ps
@[go_sem ↓ high] theorem buildR_at (ps : Array (Nat × Value)) : Instr.buildSlice 53 1 ps = buildR ps := rfl
@[go_sem] theorem buildR_run (w : World) (cs : Array Value) (h : cs.size = 45) : (buildR #[(0, .agg cs)]).run Tryz.prog w = .ok (.slice (some ⟨w.heap.size, 0, none⟩) 1 1) (w.alloc (.cells cs 107)) :=
  run_buildOne w _ _ cs 45 Tryz.underlying53 (by kernel_rfl) (by kernel_rfl) h (by decide) (by decide)
theorem info_Q : infoOk Tryz.prog 137 45 552 = true := by kernel_rfl
@[go_sem] theorem nil_Q (A : Option Addr) (n c n' c' : Nat) (w : World) : (binOp .eql 60 (.slice A n c) (.slice none n' c')).run Tryz.prog w = .ok (.bool A.isNone) w := Lib.run_eql_slice_nil w _ _ A n c n' c' Tryz.underlying60
/-- A list of the reference's records that the call made itself. -/
def RetQ (w0 : World) (n : Nat) (l : List Rec) (e : Ending) (w' : World) : Prop := ∃ A k, e = .returned (.slice A n k) ∧ Ext w0 w' ∧ Own w0 w' 137 45 A n k (l.map recR)
theorem take_snoc' {l : List Rec} {k : Nat} {m : Rec} (h : l[k]? = some m) : (l.take k).map recR ++ [recR m] = (l.take (k + 1)).map recR := by
  obtain ⟨h1, h2⟩ := List.getElem?_eq_some_iff.1 h
  rw [List.take_succ_eq_append_getElem h1, h2, List.map_append]; rfl
theorem recR_ones1 (r : Rec) : ∀ x ∈ [recR r], ∀ u ∈ x, u.oneCell' = true := by
  intro x hx
  simp at hx
  subst hx
  exact recR_one r
set_option maxHeartbeats 1600000 in
set_option maxRecDepth 100000 in
theorem l54_records (A : Option Addr) (c : Nat) (l : List Rec) (w : World) (hs : RecsAt w A c l) (hn : l.length * 552 ≤ 140737488355328) : Calls Tryz.prog 19 #[.slice A l.length c] w (RetQ w l.length l) := by
  have HS := Lib.hid hs
  clear hs
  go_enter Tryz.func19, Tryz.ntmps19
  go_wp2
  go_loopw [3, 8] (fun v i wr => ∃ (k : Nat) (D : Option Addr) (K : Nat), k ≤ l.length ∧ i = .int .i64 k ∧ v = .slice D k K ∧ Ext w wr ∧ Hid (Own w wr 137 45 D k K ((l.take k).map recR))) (fun _ i _ => l.length - (intOf i).toNat)
  case atStart => exact ⟨0, none, 0, by omega, rfl, rfl, Ext.refl _, Lib.hid (Own.nil _)⟩
  case round =>
    obtain ⟨k, D, K, hk, rfl, rfl, hx, HO⟩ := hrel
    obtain ⟨y0, rfl⟩ := hx.get
    clear hx
    by_cases hlt : k < l.length
    · obtain ⟨m, hm⟩ : ∃ m, l[k]? = some m := ⟨_, List.getElem?_eq_getElem hlt⟩
      obtain ⟨b, o, rfl, hrec, -⟩ := HS.out.get hm
      have hb0 : (0 : Int) ≤ (k : Int) := by omega
      have hb1 : (k : Int) < (l.length : Int) := by omega
      have hr1 := hrec.row
      have HT := Lib.hid (take_snoc' hm)
      clear hrec hm
      go_wp2_with (first
        | (refine wpList_store_top rfl 107 (.tmp 5) (.tmp 11) rfl rfl (by simp [go_sem]) (recR m) rfl rfl (by kernel_rfl) (recR_one m) ?_)
        | (at_builtin; refine wpList_append_mine (w0 := w) rfl _ _ 60 60 rfl 137 137 45 552 Tryz.underlying60 Tryz.underlying60 info_Q (by decide) (by repeat (first | exact Ext.refl _ | assumption | apply Ext.xt | apply Ext.alloc | apply Ext.drew | apply Ext.drewN)) D k K ((l.take k).map recR) rfl (HO.out.mono (by repeat (first | exact Ext.refl _ | assumption | apply Ext.xt | apply Ext.alloc | apply Ext.drew | apply Ext.drewN))) _ 1 1 [recR m] rfl (Sl.alloc' (by simp [go_sem]) (by simp) (by simp [recR_len])) rfl (recR_ones1 m) (by unfold maxLen; omega) (by omega) (k + 1) rfl ((l.take (k + 1)).map recR) HT.out ?_; intro D2 K2 w2 hx2 hown hg hA; have HO2 := Lib.hid hown; obtain ⟨y2, rfl⟩ := hx2.get; clear hown hx2 hg hA))
      go_light
      exact ⟨⟨k + 1, D2, K2, by omega, by go_num, rfl, by repeat (first | exact Ext.refl _ | assumption | apply Ext.xt | apply Ext.alloc | apply Ext.drew | apply Ext.drewN), HO2⟩, by simp [intOf]; omega⟩
    · have hkl : k = l.length := by omega
      have HL := Lib.hid (show l.take k = l by rw [hkl, List.take_length])
      have HK := Lib.hid hkl
      clear hkl
      go_wp2
      go_ret
      have := HO.out
      rw [HL.out] at this
      rw [HK.out] at this ⊢
      exact ⟨D, K, rfl, by repeat (first | exact Ext.refl _ | assumption | apply Ext.xt | apply Ext.alloc | apply Ext.drew | apply Ext.drewN), this⟩
/-- A node of the reference, made from one of the program. -/
def RetOf (w0 : World) (n : Nod) (e : Ending) (w' : World) : Prop := ∃ A c, e = .returned (.agg #[.int .i64 n.id, .int .i64 n.term, .bool n.speaks, .slice A n.log.length c, .int .i64 n.acked, .int .i64 n.next]) ∧ Ext w0 w' ∧ Own w0 w' 137 45 A n.log.length c (n.log.map recR)
theorem RetOf.recs {w0 w' : World} {n : Nod} {A : Option Addr} {c : Nat} (h : Own w0 w' 137 45 A n.log.length c (n.log.map recR)) (he : ∀ r ∈ n.log, AcnAt w' r.act) : RecsAt w' A c n.log := Own.recs h rfl he
set_option maxHeartbeats 3200000 in
set_option maxRecDepth 100000 in
theorem l54_Of (n : Nod) (A : Option Addr) (c : Nat) (w : World) (hs : RecsAt w A c n.log) (hn : n.log.length * 552 ≤ 140737488355328) : Calls Tryz.prog 23 #[.agg #[.int .i64 n.id, .int .i64 n.term, .bool n.speaks, .slice A n.log.length c, .int .i64 n.acked, .int .i64 n.next]] w (RetOf w n) := by
  have HS := Lib.hid hs
  clear hs
  go_enter Tryz.func23, Tryz.ntmps23
  go_wp2
  go_region_held3 (fun w' => w'.cell? ⟨w.heap.size, 0, none⟩ = some (.int .i64 n.id) ∧ w'.cell? ⟨w.heap.size, 1, none⟩ = some (.int .i64 n.term) ∧ w'.cell? ⟨w.heap.size, 2, none⟩ = some (.bool n.speaks) ∧ w'.cell? ⟨w.heap.size, 3, none⟩ = some (.slice A n.log.length c) ∧ w'.cell? ⟨w.heap.size, 4, none⟩ = some (.int .i64 n.acked) ∧ w'.cell? ⟨w.heap.size, 5, none⟩ = some (.int .i64 n.next)) ((refine ⟨?_, ?_, ?_, ?_, ?_, ?_⟩ <;> simp [go_sem]))
    ((go_at_call 19; refine (l54_records A c n.log _ (HS.out.mono (by repeat (first | exact Ext.refl _ | assumption | apply Ext.xt | apply Ext.alloc | apply Ext.drew | apply Ext.drewN))) hn).mono ?_; rintro e w' ⟨D, n', rfl, hx, hown⟩; have HO := Lib.hid hown; obtain ⟨yc, rfl⟩ := hx.get; clear hx hown))
  all_goals
    go_wp2_with fail
    refine bodyPost_ret (v := .agg #[.int .i64 n.id, .int .i64 n.term, .bool n.speaks, .slice D n.log.length n', .int .i64 n.acked, .int .i64 n.next]) (by simp [results, Tryz.results23, go_sem]) rfl ?_
    exact ⟨D, n', rfl, by repeat (first | exact Ext.refl _ | assumption | apply Ext.xt | apply Ext.alloc | apply Ext.drew | apply Ext.drewN), Own.older (Own.shift HO.out (by simp [go_sem])) (by repeat (first | exact Ext.refl _ | assumption | apply Ext.xt | apply Ext.alloc | apply Ext.drew | apply Ext.drewN))⟩
def RetSaid (w0 : World) (m : Msg) (e : Ending) (w' : World) : Prop := ∃ A c, e = .returned (.agg #[.int .i64 m.kind, .int .i64 m.term, .int .i64 m.at_, .int .i64 m.before, .slice A m.recs.length c, .int .i64 m.acked]) ∧ Ext w0 w' ∧ Own w0 w' 137 45 A m.recs.length c (m.recs.map recR)
set_option maxHeartbeats 3200000 in
set_option maxRecDepth 100000 in
theorem l54_Said (m : Msg) (A : Option Addr) (c : Nat) (w : World) (hs : RecsAt w A c m.recs) (hn : m.recs.length * 552 ≤ 140737488355328) : Calls Tryz.prog 24 #[.agg #[.int .i64 m.kind, .int .i64 m.term, .int .i64 m.at_, .int .i64 m.before, .slice A m.recs.length c, .int .i64 m.acked]] w (RetSaid w m) := by
  have HS := Lib.hid hs
  clear hs
  go_enter Tryz.func24, Tryz.ntmps24
  go_wp2
  go_region_held3 (fun w' => w'.cell? ⟨w.heap.size, 0, none⟩ = some (.int .i64 m.kind) ∧ w'.cell? ⟨w.heap.size, 1, none⟩ = some (.int .i64 m.term) ∧ w'.cell? ⟨w.heap.size, 2, none⟩ = some (.int .i64 m.at_) ∧ w'.cell? ⟨w.heap.size, 3, none⟩ = some (.int .i64 m.before) ∧ w'.cell? ⟨w.heap.size, 4, none⟩ = some (.slice A m.recs.length c) ∧ w'.cell? ⟨w.heap.size, 5, none⟩ = some (.int .i64 m.acked)) ((refine ⟨?_, ?_, ?_, ?_, ?_, ?_⟩ <;> simp [go_sem]))
    ((go_at_call 19; refine (l54_records A c m.recs _ (HS.out.mono (by repeat (first | exact Ext.refl _ | assumption | apply Ext.xt | apply Ext.alloc | apply Ext.drew | apply Ext.drewN))) hn).mono ?_; rintro e w' ⟨D, n', rfl, hx, hown⟩; have HO := Lib.hid hown; obtain ⟨yc, rfl⟩ := hx.get; clear hx hown))
  all_goals
    go_wp2_with fail
    refine bodyPost_ret (v := .agg #[.int .i64 m.kind, .int .i64 m.term, .int .i64 m.at_, .int .i64 m.before, .slice D m.recs.length n', .int .i64 m.acked]) (by simp [results, Tryz.results24, go_sem]) rfl ?_
    exact ⟨D, n', rfl, by repeat (first | exact Ext.refl _ | assumption | apply Ext.xt | apply Ext.alloc | apply Ext.drew | apply Ext.drewN), Own.older (Own.shift HO.out (by simp [go_sem])) (by repeat (first | exact Ext.refl _ | assumption | apply Ext.xt | apply Ext.alloc | apply Ext.drew | apply Ext.drewN))⟩
/-- Whether records are few. -/
def FewR (w : World) (l : List Rec) (e : Ending) (w' : World) : Prop := (∃ b : Bool, e = .returned (.bool b) ∧ (b = true → l.length ≤ 511)) ∧ Ext w w'
set_option maxHeartbeats 1600000 in
set_option maxRecDepth 100000 in
theorem r54_FewRecords (A : Option Addr) (c n : Nat) (l : List Rec) (hn : l.length = n) (w : World) (hs : RecsAt w A c l) : Calls Tryz.prog 18 #[.slice A n c] w (FewR w l) := by
  subst hn
  have hl := hs.len
  have HS := Lib.hid hs
  clear hs
  by_cases h60 : 60 < l.length
  · by_cases h256 : 256 < l.length
    · go_enter Tryz.func18, Tryz.ntmps18
      go_wp2
      go_ret
      exact ⟨⟨_, rfl, fun h => by have := of_decide_eq_true h; omega⟩, by repeat (first | exact Ext.refl _ | assumption | apply Ext.xt | apply Ext.alloc | apply Ext.drew | apply Ext.drewN)⟩
    · go_enter Tryz.func18, Tryz.ntmps18
      go_wp2
      go_ret
      exact ⟨⟨false, rfl, fun h => by cases h⟩, by repeat (first | exact Ext.refl _ | assumption | apply Ext.xt | apply Ext.alloc | apply Ext.drew | apply Ext.drewN)⟩
  · have HB := Lib.hid (show l.length ≤ 511 by omega)
    go_enter Tryz.func18, Tryz.ntmps18
    go_wp2
    go_loopw [3] (fun i wr => ∃ k : Nat, k ≤ l.length ∧ i = .int .i64 k ∧ Ext w wr) (fun i _ => l.length - (intOf i).toNat)
    case atStart => exact ⟨0, by omega, rfl, Ext.refl _⟩
    case round =>
      obtain ⟨k, hk, rfl, hx⟩ := hrel
      obtain ⟨y0, rfl⟩ := hx.get
      clear hx
      by_cases hlt : k < l.length
      · obtain ⟨m, hm⟩ : ∃ m, l[k]? = some m := ⟨_, List.getElem?_eq_getElem hlt⟩
        obtain ⟨b, o, rfl, hrec, -⟩ := HS.out.get hm
        have hb0 : (0 : Int) ≤ (k : Int) := by omega
        have hb1 : (k : Int) < (l.length : Int) := by omega
        have hr1 := hrec.act
        clear hrec hm
        go_wp2_with (go_at_call 13; refine (r33_Few m.act _).mono ?_; rintro e w' ⟨⟨fb, rfl⟩, hx⟩; obtain ⟨y2, rfl⟩ := hx.get; clear hx; cases fb)
        · go_ret
          exact ⟨⟨false, rfl, fun h => by cases h⟩, by repeat (first | exact Ext.refl _ | assumption | apply Ext.xt | apply Ext.alloc | apply Ext.drew | apply Ext.drewN)⟩
        · go_light
          exact ⟨⟨k + 1, by omega, by go_num, by repeat (first | exact Ext.refl _ | assumption | apply Ext.xt | apply Ext.alloc | apply Ext.drew | apply Ext.drewN)⟩, by simp [intOf]; omega⟩
      · go_wp2
        go_ret
        exact ⟨⟨true, rfl, fun _ => HB.out⟩, by repeat (first | exact Ext.refl _ | assumption | apply Ext.xt | apply Ext.alloc | apply Ext.drew | apply Ext.drewN)⟩
end Go.Proofs.YtlpboikonnpjbaaGreat

/-
  Chapter 54: whether nodes are few.
-/
namespace Go.Proofs.YtlpboikonnpjbaaGreat
open Go.RowKit

/-- A node in a row, with the address and the capacity of its log. -/
def nodR (x : Nod × Option Addr × Nat) : List Value := [.int .i64 x.1.id, .int .i64 x.1.term, .bool x.1.speaks, .slice x.2.1 x.1.log.length x.2.2, .int .i64 x.1.acked, .int .i64 x.1.next]
/-- Whether nodes are few. -/
def FewNs (w : World) (xs : List (Nod × Option Addr × Nat)) (e : Ending) (w' : World) : Prop := (∃ b : Bool, e = .returned (.bool b) ∧ (b = true → ∀ x ∈ xs, x.1.log.length ≤ 511)) ∧ Ext w w'
theorem few_more {xs : List (Nod × Option Addr × Nat)} {k : Nat} {x : Nod × Option Addr × Nat} (h : ∀ x ∈ xs.take k, x.1.log.length ≤ 511) (hx : xs[k]? = some x) (hl : x.1.log.length ≤ 511) : ∀ x ∈ xs.take (k + 1), x.1.log.length ≤ 511 := fun y hy => by
  obtain ⟨h1, h2⟩ := List.getElem?_eq_some_iff.1 hx
  rw [List.take_succ_eq_append_getElem h1, h2] at hy
  rcases List.mem_append.1 hy with hy | hy
  · exact h y hy
  · rw [List.mem_singleton.1 hy]; exact hl
set_option maxHeartbeats 1600000 in
set_option maxRecDepth 100000 in
theorem l54_few (A : Option Addr) (c : Nat) (xs : List (Nod × Option Addr × Nat)) (w : World) (hs : Sl w A 6 (xs.map nodR)) (hx1 : xs.length ≤ 100000) (hr : ∀ x ∈ xs, RecsAt w x.2.1 x.2.2 x.1.log) (hb : ∀ x ∈ xs, x.1.log.length * 552 ≤ 140737488355328) :
    Calls Tryz.prog 17 #[.slice A xs.length c] w (FewNs w xs) := by
  have HS := Lib.hid hs
  have HR := Lib.hid hr
  have HB := Lib.hid hb
  clear hs hr hb
  go_enter Tryz.func17, Tryz.ntmps17
  go_wp2
  go_loopw [7] (fun i wr => ∃ k : Nat, k ≤ xs.length ∧ i = .int .i64 k ∧ Ext w wr ∧ Hid (∀ x ∈ xs.take k, x.1.log.length ≤ 511)) (fun i _ => xs.length - (intOf i).toNat)
  case atStart => exact ⟨0, by omega, rfl, Ext.refl _, Lib.hid (by simp)⟩
  case round =>
    obtain ⟨k, hk, rfl, hx, HF⟩ := hrel
    obtain ⟨y0, rfl⟩ := hx.get
    clear hx
    by_cases hlt : k < xs.length
    · obtain ⟨x, hx⟩ : ∃ x, xs[k]? = some x := ⟨_, List.getElem?_eq_getElem hlt⟩
      have hm := List.mem_of_getElem? hx
      have HL := Lib.hid (HR.out x hm)
      have hb1 := HB.out x hm
      obtain ⟨-, b, o, rfl, hc⟩ := HS.out.at_ k (nodR x) (by rw [List.getElem?_map, hx]; rfl)
      have c0 : w.cell? ⟨b, o + k * 6, none⟩ = some (.int .i64 x.1.id) := hc 0 _ rfl
      have c1 : w.cell? ⟨b, o + k * 6 + 1, none⟩ = some (.int .i64 x.1.term) := hc 1 _ rfl
      have c2 : w.cell? ⟨b, o + k * 6 + 2, none⟩ = some (.bool x.1.speaks) := hc 2 _ rfl
      have c3 : w.cell? ⟨b, o + k * 6 + 3, none⟩ = some (.slice x.2.1 x.1.log.length x.2.2) := hc 3 _ rfl
      have c4 : w.cell? ⟨b, o + k * 6 + 4, none⟩ = some (.int .i64 x.1.acked) := hc 4 _ rfl
      have c5 : w.cell? ⟨b, o + k * 6 + 5, none⟩ = some (.int .i64 x.1.next) := hc 5 _ rfl
      have hb0 : (0 : Int) ≤ (k : Int) := by omega
      have hb2 : (k : Int) < (xs.length : Int) := by omega
      have HM := Lib.hid (fun h => few_more HF.out hx h)
      clear hc hx hm
      go_wp2_with (first
        | (go_at_call 19; refine (l54_records x.2.1 x.2.2 x.1.log _ (HL.out.mono (by repeat (first | exact Ext.refl _ | assumption | apply Ext.xt | apply Ext.alloc | apply Ext.drew | apply Ext.drewN))) hb1).mono ?_; rintro e w' ⟨D, n', rfl, hx, hown⟩; have HO := Lib.hid hown; obtain ⟨yc, rfl⟩ := hx.get; clear hx hown)
        | (go_at_call 18; refine (r54_FewRecords D n' _ x.1.log rfl _ (Own.recs (HO.out.mono (by repeat (first | exact Ext.refl _ | assumption | apply Ext.xt | apply Ext.alloc | apply Ext.drew | apply Ext.drewN))) rfl (fun r hr => (HL.out.el r hr).mono (by repeat (first | exact Ext.refl _ | assumption | apply Ext.xt | apply Ext.alloc | apply Ext.drew | apply Ext.drewN))))).mono ?_; rintro e w' ⟨⟨bb, rfl, hbb⟩, hx⟩; have HBB := Lib.hid hbb; obtain ⟨yd, rfl⟩ := hx.get; clear hx hbb))
      · go_ret
        exact ⟨⟨false, rfl, fun h => by cases h⟩, by repeat (first | exact Ext.refl _ | assumption | apply Ext.xt | apply Ext.alloc | apply Ext.drew | apply Ext.drewN)⟩
      · go_light
        exact ⟨⟨k + 1, by omega, by go_num, by repeat (first | exact Ext.refl _ | assumption | apply Ext.xt | apply Ext.alloc | apply Ext.drew | apply Ext.drewN), Lib.hid (HM.out (HBB.out (by first | assumption | simp_all)))⟩, by simp [intOf]; omega⟩
    · have HK := Lib.hid (show xs.take k = xs by rw [show k = xs.length by omega, List.take_length])
      go_wp2
      go_ret
      refine ⟨⟨true, rfl, fun _ => ?_⟩, by repeat (first | exact Ext.refl _ | assumption | apply Ext.xt | apply Ext.alloc | apply Ext.drew | apply Ext.drewN)⟩
      have := HF.out
      rwa [HK.out] at this
end Go.Proofs.YtlpboikonnpjbaaGreat

/-
  Chapter 54: slices of one node; the law's copy of an answer.
-/
namespace Go.Proofs.YtlpboikonnpjbaaGreat
open Go.RowKit

def buildN (ps : Array (Nat × Value)) : Sem Value := Instr.buildSlice 136 1 ps
@[go_sem ↓ high] theorem buildN_at (ps : Array (Nat × Value)) : Instr.buildSlice 136 1 ps = buildN ps := rfl
@[go_sem] theorem buildN_run (w : World) (cs : Array Value) (h : cs.size = 6) : (buildN #[(0, .agg cs)]).run Tryz.prog w = .ok (.slice (some ⟨w.heap.size, 0, none⟩) 1 1) (w.alloc (.cells cs 55)) :=
  run_buildOne w _ _ cs 6 Tryz.underlying136 (by kernel_rfl) (by kernel_rfl) h (by decide) (by decide)
set_option maxHeartbeats 1600000 in
set_option maxRecDepth 100000 in
theorem l54_records_nil (w : World) : Calls Tryz.prog 19 #[.slice none 0 0] w fun e w' => e = .returned (.slice none 0 0) ∧ Ext w w' := by
  go_enter Tryz.func19, Tryz.ntmps19
  go_wp2
  go_loopw [3, 8] (fun v i wr => v = .slice none 0 0 ∧ i = .int .i64 0 ∧ Ext w wr) (fun _ i _ => 0)
  case atStart => exact ⟨rfl, rfl, Ext.refl _⟩
  case round =>
    obtain ⟨rfl, rfl, hx⟩ := hrel
    obtain ⟨y0, rfl⟩ := hx.get
    clear hx
    go_wp2
    go_ret
    exact ⟨rfl, by repeat (first | exact Ext.refl _ | assumption | apply Ext.xt | apply Ext.alloc | apply Ext.drew | apply Ext.drewN)⟩
set_option maxHeartbeats 3200000 in
set_option maxRecDepth 100000 in
theorem l54_Said_nil (k t a b q : Int) (w : World) : Calls Tryz.prog 24 #[.agg #[.int .i64 k, .int .i64 t, .int .i64 a, .int .i64 b, .slice none 0 0, .int .i64 q]] w fun e w' => e = .returned (.agg #[.int .i64 k, .int .i64 t, .int .i64 a, .int .i64 b, .slice none 0 0, .int .i64 q]) ∧ Ext w w' := by
  go_enter Tryz.func24, Tryz.ntmps24
  go_wp2
  go_region_held3 (fun w' => w'.cell? ⟨w.heap.size, 0, none⟩ = some (.int .i64 k) ∧ w'.cell? ⟨w.heap.size, 1, none⟩ = some (.int .i64 t) ∧ w'.cell? ⟨w.heap.size, 2, none⟩ = some (.int .i64 a) ∧ w'.cell? ⟨w.heap.size, 3, none⟩ = some (.int .i64 b) ∧ w'.cell? ⟨w.heap.size, 4, none⟩ = some (.slice none 0 0) ∧ w'.cell? ⟨w.heap.size, 5, none⟩ = some (.int .i64 q)) ((refine ⟨?_, ?_, ?_, ?_, ?_, ?_⟩ <;> simp [go_sem]))
    ((go_at_call 19; refine (l54_records_nil _).mono ?_; rintro e w' ⟨rfl, hx⟩; obtain ⟨yc, rfl⟩ := hx.get; clear hx))
  all_goals
    go_wp2_with fail
    refine bodyPost_ret (v := .agg #[.int .i64 k, .int .i64 t, .int .i64 a, .int .i64 b, .slice none 0 0, .int .i64 q]) (by simp [results, Tryz.results24, go_sem]) rfl ?_
    exact ⟨rfl, by repeat (first | exact Ext.refl _ | assumption | apply Ext.xt | apply Ext.alloc | apply Ext.drew | apply Ext.drewN)⟩
end Go.Proofs.YtlpboikonnpjbaaGreat
