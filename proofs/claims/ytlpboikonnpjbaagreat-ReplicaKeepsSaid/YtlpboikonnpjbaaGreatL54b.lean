/-
  ReplicaKeeps.
-/
import Derived.Test.YtlpboikonnpjbaaGreatL54a
import Derived.Test.YtlpboikonnpjbaaGreatBegin
import Derived.Test.YtlpboikonnpjbaaGreatStab
import Derived.Test.YtlpboikonnpjbaaGreatGrqa
namespace Go.Proofs.YtlpboikonnpjbaaGreat
open Go.RowKit

theorem rep_Check_ok (n : Nod) (h : NodOk n) (A : Option Addr) (c : Nat) (w : World) (hs : RecsAt w A c n.log) : Calls Tryz.prog 29 #[.agg #[.int .i64 n.id, .int .i64 n.term, .bool n.speaks, .slice A n.log.length c, .int .i64 n.acked, .int .i64 n.next]] w fun e w' => e = .returned (.int .i64 0) ∧ Ext w w' := by
  have := rep_Check n A c w hs
  rwa [(nodE_iff n).2 h] at this
theorem rep_Right_ans (a : Msg) (h : MsgOk a) (hk : a.kind ≠ 0) (w : World) : Calls Tryz.prog 31 #[.agg #[.int .i64 a.kind, .int .i64 a.term, .int .i64 a.at_, .int .i64 0, .slice none 0 0, .int .i64 0]] w fun e w' => e = .returned (.int .i64 0) ∧ Ext w w' := by
  have h0 := (msgE_iff a).2 h
  obtain ⟨h1, h2, h3⟩ := h.ans hk
  obtain ⟨k, t, x, b, l, q⟩ := a
  simp only at h1 h2 h3
  subst h1 h2 h3
  have := rep_Right ⟨k, t, x, 0, [], 0⟩ none 0 w (RecsAt.nil _)
  rwa [h0] at this
theorem l54_begins_to (A : Option Addr) (c p : Nat) (a : List Rec) (hp : a.length = p) (B : Option Addr) (d q : Nat) (b : List Rec) (hq : b.length = q) (i : Int) (k : Nat) (hi : i = k) (v : Bool) (hv : sameRs (a.take k) (b.take k) = v) (h1 : k ≤ p) (h2 : k ≤ q) (hk : k * 552 ≤ 140737488355328) (w : World) (ha : RecsAt w A c a) (hb : RecsAt w B d b) :
    Calls Tryz.prog 30 #[.slice A p c, .slice B q d, .int .i64 i] w fun e w' => e = .returned (.bool v) ∧ Ext w w' := by
  subst hi
  exact l54_begins A c p a hp B d q b hq k v hv h1 h2 hk w ha hb
theorem r54_Check_as (n : Nod) (v : Int) (hv : nodE n = v) (A : Option Addr) (c : Nat) (w : World) (hs : RecsAt w A c n.log) : Calls Tryz.prog 27 #[.agg #[.int .i64 n.id, .int .i64 n.term, .bool n.speaks, .slice A n.log.length c, .int .i64 n.acked, .int .i64 n.next]] w fun e w' => e = .returned (.int .i64 v) ∧ Ext w w' := by
  subst hv
  exact r54_Check n A c w hs
theorem r54_Right_as (m : Msg) (v : Int) (hv : msgE m = v) (A : Option Addr) (c : Nat) (w : World) (hs : RecsAt w A c m.recs) : Calls Tryz.prog 28 #[.agg #[.int .i64 m.kind, .int .i64 m.term, .int .i64 m.at_, .int .i64 m.before, .slice A m.recs.length c, .int .i64 m.acked]] w fun e w' => e = .returned (.int .i64 v) ∧ Ext w w' := by
  subst hv
  exact r54_Right m A c w hs
section
variable (n : Nod) (A : Option Addr) (c : Nat) (m : Msg) (B : Option Addr) (d : Nat) (w : World) (hs : RecsAt w A c n.log) (hm : RecsAt w B d m.recs) (hb1 : n.log.length * 552 ≤ 140737488355328) (hb2 : m.recs.length * 552 ≤ 140737488355328)
include hs hm hb1 hb2
set_option maxHeartbeats 6400000 in
set_option maxRecDepth 100000 in
theorem Keeps_a (vn vm : Int) (HN : Hid (nodE n = vn)) (_HW : Hid (msgE m = vm)) (hz1 : (vn != 0) = true) : Calls Tryz.prog 5 #[.agg #[.int .i64 n.id, .int .i64 n.term, .bool n.speaks, .slice A n.log.length c, .int .i64 n.acked, .int .i64 n.next], .agg #[.int .i64 m.kind, .int .i64 m.term, .int .i64 m.at_, .int .i64 m.before, .slice B m.recs.length d, .int .i64 m.acked]] w fun e w' => e = .returned (.bool true) ∧ Ext w w' := by
  have hb2' := hb2
  clear hb2'
  have HS := Lib.hid hs
  have HM := Lib.hid hm
  obtain ⟨v, hv⟩ : ∃ v, recvV n m = v := ⟨_, rfl⟩
  have HC := Lib.hid (fun (W : World) (hx : Ext w W) => rep_Receive n A c m B d W (hs.mono hx) (hm.mono hx))
  rw [hv] at HC
  have HV := Lib.hid hv
  clear hv hs hm
  go_enter Tryz.func5, Tryz.ntmps5
  go_wp2_with (first
    | (go_at_call 17; refine (l54_few _ 1 [(n, A, c)] _ (Sl.alloc' (by simp [go_sem]) (by simp [nodR]) (by simp [nodR])) (by simp) (fun x hx => by rw [List.mem_singleton.1 hx]; exact HS.out.mono (by repeat (first | exact Ext.refl _ | assumption | apply Ext.xt | apply Ext.alloc | apply Ext.drew | apply Ext.drewN))) (fun x hx => by rw [List.mem_singleton.1 hx]; exact hb1)).mono ?_; rintro e w' ⟨⟨bb, rfl, hbb⟩, hx⟩; have HBB := Lib.hid hbb; obtain ⟨ya, rfl⟩ := hx.get; clear hx hbb)
    | (go_at_call 23; refine (l54_Of n A c _ (HS.out.mono (by repeat (first | exact Ext.refl _ | assumption | apply Ext.xt | apply Ext.alloc | apply Ext.drew | apply Ext.drewN))) hb1).mono ?_; rintro e w' ⟨D0, n0, rfl, hx, hown⟩; have HO0 := Lib.hid hown; obtain ⟨yb, rfl⟩ := hx.get; clear hx hown)
    | (go_at_call 27; refine (r54_Check_as n vn HN.out D0 n0 _ (Own.recs (HO0.out.mono (by repeat (first | exact Ext.refl _ | assumption | apply Ext.xt | apply Ext.alloc | apply Ext.drew | apply Ext.drewN))) rfl (fun r hr => (HS.out.el r hr).mono (by repeat (first | exact Ext.refl _ | assumption | apply Ext.xt | apply Ext.alloc | apply Ext.drew | apply Ext.drewN))))).mono ?_; rintro e w' ⟨rfl, hx⟩; obtain ⟨yb2, rfl⟩ := hx.get; clear hx)
    | (go_at_call 19; refine (l54_records B d m.recs _ (HM.out.mono (by repeat (first | exact Ext.refl _ | assumption | apply Ext.xt | apply Ext.alloc | apply Ext.drew | apply Ext.drewN))) hb2).mono ?_; rintro e w' ⟨D, n', rfl, hx, hown⟩; have HO := Lib.hid hown; obtain ⟨yc, rfl⟩ := hx.get; clear hx hown)
    | (go_at_call 18; refine (r54_FewRecords D n' _ m.recs rfl _ (Own.recs (HO.out.mono (by repeat (first | exact Ext.refl _ | assumption | apply Ext.xt | apply Ext.alloc | apply Ext.drew | apply Ext.drewN))) rfl (fun r hr => (HM.out.el r hr).mono (by repeat (first | exact Ext.refl _ | assumption | apply Ext.xt | apply Ext.alloc | apply Ext.drew | apply Ext.drewN))))).mono ?_; rintro e w' ⟨⟨b2, rfl, -⟩, hx⟩; obtain ⟨yd, rfl⟩ := hx.get; clear hx)
    | (go_at_call 24; refine (l54_Said m B d _ (HM.out.mono (by repeat (first | exact Ext.refl _ | assumption | apply Ext.xt | apply Ext.alloc | apply Ext.drew | apply Ext.drewN))) hb2).mono ?_; rintro e w' ⟨D3, n3, rfl, hx, hown⟩; have HO3 := Lib.hid hown; obtain ⟨yh, rfl⟩ := hx.get; clear hx hown)
    | (go_at_call 28; refine (r54_Right_as m vm _HW.out D3 n3 _ (Own.recs (HO3.out.mono (by repeat (first | exact Ext.refl _ | assumption | apply Ext.xt | apply Ext.alloc | apply Ext.drew | apply Ext.drewN))) rfl (fun r hr => (HM.out.el r hr).mono (by repeat (first | exact Ext.refl _ | assumption | apply Ext.xt | apply Ext.alloc | apply Ext.drew | apply Ext.drewN))))).mono ?_; rintro e w' ⟨rfl, hx⟩; obtain ⟨yh2, rfl⟩ := hx.get; clear hx)
    | (go_at_call 20; refine (l54_awake _).mono ?_; rintro e w' ⟨rfl, hx⟩; obtain ⟨y, rfl⟩ := hx.get; clear hx))
  all_goals
    go_ret
    exact ⟨rfl, by repeat (first | exact Ext.refl _ | assumption | apply Ext.xt | apply Ext.alloc | apply Ext.drew | apply Ext.drewN)⟩
set_option maxHeartbeats 6400000 in
set_option maxRecDepth 100000 in
theorem Keeps_b (vn vm : Int) (HN : Hid (nodE n = vn)) (HW : Hid (msgE m = vm)) (hz1 : (vn != 0) = false) (hz2 : (vm != 0) = true) : Calls Tryz.prog 5 #[.agg #[.int .i64 n.id, .int .i64 n.term, .bool n.speaks, .slice A n.log.length c, .int .i64 n.acked, .int .i64 n.next], .agg #[.int .i64 m.kind, .int .i64 m.term, .int .i64 m.at_, .int .i64 m.before, .slice B m.recs.length d, .int .i64 m.acked]] w fun e w' => e = .returned (.bool true) ∧ Ext w w' := by
  have HS := Lib.hid hs
  have HM := Lib.hid hm
  obtain ⟨v, hv⟩ : ∃ v, recvV n m = v := ⟨_, rfl⟩
  have HC := Lib.hid (fun (W : World) (hx : Ext w W) => rep_Receive n A c m B d W (hs.mono hx) (hm.mono hx))
  rw [hv] at HC
  have HV := Lib.hid hv
  clear hv hs hm
  go_enter Tryz.func5, Tryz.ntmps5
  go_wp2_with (first
    | (go_at_call 17; refine (l54_few _ 1 [(n, A, c)] _ (Sl.alloc' (by simp [go_sem]) (by simp [nodR]) (by simp [nodR])) (by simp) (fun x hx => by rw [List.mem_singleton.1 hx]; exact HS.out.mono (by repeat (first | exact Ext.refl _ | assumption | apply Ext.xt | apply Ext.alloc | apply Ext.drew | apply Ext.drewN))) (fun x hx => by rw [List.mem_singleton.1 hx]; exact hb1)).mono ?_; rintro e w' ⟨⟨bb, rfl, hbb⟩, hx⟩; have HBB := Lib.hid hbb; obtain ⟨ya, rfl⟩ := hx.get; clear hx hbb)
    | (go_at_call 23; refine (l54_Of n A c _ (HS.out.mono (by repeat (first | exact Ext.refl _ | assumption | apply Ext.xt | apply Ext.alloc | apply Ext.drew | apply Ext.drewN))) hb1).mono ?_; rintro e w' ⟨D0, n0, rfl, hx, hown⟩; have HO0 := Lib.hid hown; obtain ⟨yb, rfl⟩ := hx.get; clear hx hown)
    | (go_at_call 27; refine (r54_Check_as n vn HN.out D0 n0 _ (Own.recs (HO0.out.mono (by repeat (first | exact Ext.refl _ | assumption | apply Ext.xt | apply Ext.alloc | apply Ext.drew | apply Ext.drewN))) rfl (fun r hr => (HS.out.el r hr).mono (by repeat (first | exact Ext.refl _ | assumption | apply Ext.xt | apply Ext.alloc | apply Ext.drew | apply Ext.drewN))))).mono ?_; rintro e w' ⟨rfl, hx⟩; obtain ⟨yb2, rfl⟩ := hx.get; clear hx)
    | (go_at_call 19; refine (l54_records B d m.recs _ (HM.out.mono (by repeat (first | exact Ext.refl _ | assumption | apply Ext.xt | apply Ext.alloc | apply Ext.drew | apply Ext.drewN))) hb2).mono ?_; rintro e w' ⟨D, n', rfl, hx, hown⟩; have HO := Lib.hid hown; obtain ⟨yc, rfl⟩ := hx.get; clear hx hown)
    | (go_at_call 18; refine (r54_FewRecords D n' _ m.recs rfl _ (Own.recs (HO.out.mono (by repeat (first | exact Ext.refl _ | assumption | apply Ext.xt | apply Ext.alloc | apply Ext.drew | apply Ext.drewN))) rfl (fun r hr => (HM.out.el r hr).mono (by repeat (first | exact Ext.refl _ | assumption | apply Ext.xt | apply Ext.alloc | apply Ext.drew | apply Ext.drewN))))).mono ?_; rintro e w' ⟨⟨b2, rfl, -⟩, hx⟩; obtain ⟨yd, rfl⟩ := hx.get; clear hx)
    | (go_at_call 24; refine (l54_Said m B d _ (HM.out.mono (by repeat (first | exact Ext.refl _ | assumption | apply Ext.xt | apply Ext.alloc | apply Ext.drew | apply Ext.drewN))) hb2).mono ?_; rintro e w' ⟨D3, n3, rfl, hx, hown⟩; have HO3 := Lib.hid hown; obtain ⟨yh, rfl⟩ := hx.get; clear hx hown)
    | (go_at_call 28; refine (r54_Right_as m vm HW.out D3 n3 _ (Own.recs (HO3.out.mono (by repeat (first | exact Ext.refl _ | assumption | apply Ext.xt | apply Ext.alloc | apply Ext.drew | apply Ext.drewN))) rfl (fun r hr => (HM.out.el r hr).mono (by repeat (first | exact Ext.refl _ | assumption | apply Ext.xt | apply Ext.alloc | apply Ext.drew | apply Ext.drewN))))).mono ?_; rintro e w' ⟨rfl, hx⟩; obtain ⟨yh2, rfl⟩ := hx.get; clear hx)
    | (go_at_call 20; refine (l54_awake _).mono ?_; rintro e w' ⟨rfl, hx⟩; obtain ⟨y, rfl⟩ := hx.get; clear hx))
  all_goals
    go_ret
    exact ⟨rfl, by repeat (first | exact Ext.refl _ | assumption | apply Ext.xt | apply Ext.alloc | apply Ext.drew | apply Ext.drewN)⟩
set_option maxHeartbeats 6400000 in
set_option maxRecDepth 100000 in
theorem Keeps_c (vn vm : Int) (HN : Hid (nodE n = vn)) (HW : Hid (msgE m = vm)) (hz1 : (vn != 0) = false) (hz2 : (vm != 0) = false) : Calls Tryz.prog 5 #[.agg #[.int .i64 n.id, .int .i64 n.term, .bool n.speaks, .slice A n.log.length c, .int .i64 n.acked, .int .i64 n.next], .agg #[.int .i64 m.kind, .int .i64 m.term, .int .i64 m.at_, .int .i64 m.before, .slice B m.recs.length d, .int .i64 m.acked]] w fun e w' => e = .returned (.bool true) ∧ Ext w w' := by
  have HS := Lib.hid hs
  have HM := Lib.hid hm
  obtain ⟨⟨x1, a1, ok, er⟩, hv⟩ : ∃ v, recvV n m = v := ⟨_, rfl⟩
  have HC := Lib.hid (fun (W : World) (hx : Ext w W) => rep_Receive_as n A c m B d W (hs.mono hx) (hm.mono hx) x1 a1 ok er hv)
  have HV := Lib.hid hv
  clear hv hs hm
  go_enter Tryz.func5, Tryz.ntmps5
  go_wp2_with (first
    | (go_at_call 17; refine (l54_few _ 1 [(n, A, c)] _ (Sl.alloc' (by simp [go_sem]) (by simp [nodR]) (by simp [nodR])) (by simp) (fun x hx => by rw [List.mem_singleton.1 hx]; exact HS.out.mono (by repeat (first | exact Ext.refl _ | assumption | apply Ext.xt | apply Ext.alloc | apply Ext.drew | apply Ext.drewN))) (fun x hx => by rw [List.mem_singleton.1 hx]; exact hb1)).mono ?_; rintro e w' ⟨⟨bb, rfl, hbb⟩, hx⟩; have HBB := Lib.hid hbb; obtain ⟨ya, rfl⟩ := hx.get; clear hx hbb)
    | (go_at_call 23; refine (l54_Of n A c _ (HS.out.mono (by repeat (first | exact Ext.refl _ | assumption | apply Ext.xt | apply Ext.alloc | apply Ext.drew | apply Ext.drewN))) hb1).mono ?_; rintro e w' ⟨D0, n0, rfl, hx, hown⟩; have HO0 := Lib.hid hown; obtain ⟨yb, rfl⟩ := hx.get; clear hx hown)
    | (go_at_call 27; refine (r54_Check_as n vn HN.out D0 n0 _ (Own.recs (HO0.out.mono (by repeat (first | exact Ext.refl _ | assumption | apply Ext.xt | apply Ext.alloc | apply Ext.drew | apply Ext.drewN))) rfl (fun r hr => (HS.out.el r hr).mono (by repeat (first | exact Ext.refl _ | assumption | apply Ext.xt | apply Ext.alloc | apply Ext.drew | apply Ext.drewN))))).mono ?_; rintro e w' ⟨rfl, hx⟩; obtain ⟨yb2, rfl⟩ := hx.get; clear hx)
    | (go_at_call 19; refine (l54_records B d m.recs _ (HM.out.mono (by repeat (first | exact Ext.refl _ | assumption | apply Ext.xt | apply Ext.alloc | apply Ext.drew | apply Ext.drewN))) hb2).mono ?_; rintro e w' ⟨D, n', rfl, hx, hown⟩; have HO := Lib.hid hown; obtain ⟨yc, rfl⟩ := hx.get; clear hx hown)
    | (go_at_call 18; refine (r54_FewRecords D n' _ m.recs rfl _ (Own.recs (HO.out.mono (by repeat (first | exact Ext.refl _ | assumption | apply Ext.xt | apply Ext.alloc | apply Ext.drew | apply Ext.drewN))) rfl (fun r hr => (HM.out.el r hr).mono (by repeat (first | exact Ext.refl _ | assumption | apply Ext.xt | apply Ext.alloc | apply Ext.drew | apply Ext.drewN))))).mono ?_; rintro e w' ⟨⟨b2, rfl, -⟩, hx⟩; obtain ⟨yd, rfl⟩ := hx.get; clear hx)
    | (go_at_call 24; refine (l54_Said m B d _ (HM.out.mono (by repeat (first | exact Ext.refl _ | assumption | apply Ext.xt | apply Ext.alloc | apply Ext.drew | apply Ext.drewN))) hb2).mono ?_; rintro e w' ⟨D3, n3, rfl, hx, hown⟩; have HO3 := Lib.hid hown; obtain ⟨yh, rfl⟩ := hx.get; clear hx hown)
    | (go_at_call 28; refine (r54_Right_as m vm HW.out D3 n3 _ (Own.recs (HO3.out.mono (by repeat (first | exact Ext.refl _ | assumption | apply Ext.xt | apply Ext.alloc | apply Ext.drew | apply Ext.drewN))) rfl (fun r hr => (HM.out.el r hr).mono (by repeat (first | exact Ext.refl _ | assumption | apply Ext.xt | apply Ext.alloc | apply Ext.drew | apply Ext.drewN))))).mono ?_; rintro e w' ⟨rfl, hx⟩; obtain ⟨yh2, rfl⟩ := hx.get; clear hx)
    | (go_at_call 20; refine (l54_awake _).mono ?_; rintro e w' ⟨rfl, hx⟩; obtain ⟨y, rfl⟩ := hx.get; clear hx))
  all_goals try (go_ret; exact ⟨rfl, by repeat (first | exact Ext.refl _ | assumption | apply Ext.xt | apply Ext.alloc | apply Ext.drew | apply Ext.drewN)⟩)
  go_at_call 21; refine (HC.out _ (by repeat (first | exact Ext.refl _ | assumption | apply Ext.xt | apply Ext.alloc | apply Ext.drew | apply Ext.drewN))).mono ?_; rintro e w' ⟨D, K, rfl, hx, hl⟩; have HL := Lib.hid hl; obtain ⟨ye, rfl⟩ := hx.get; clear hx hl
  by_cases h4 : er = 0
  · subst h4
    have L : Left n m x1 a1 ok := by
      have := recvV_left (n := n) (m := m) (by rw [HV.out])
      rw [HV.out] at this; exact this
    have hno : NodOk n := by rw [← nodE_iff, HN.out]; simpa using hz1
    have e1 : (x1.id != n.id) = false := by simpa using L.id
    have e2 : ¬ x1.term < n.term := by have := L.term; omega
    have e3 : ¬ x1.acked < n.acked := by have := L.acked; omega
    have d2 : decide (x1.term < n.term) = false := decide_eq_false e2
    have d3 : decide (x1.acked < n.acked) = false := decide_eq_false e3
    obtain ⟨k, hk⟩ : ∃ k : Nat, n.acked = k := ⟨n.acked.toNat, by have := hno.a0; omega⟩
    have HK := Lib.hid hk
    have hk1 : k ≤ n.log.length := by have := hno.a1; omega
    have hk2 : k ≤ x1.log.length := by have := L.node.a1; have := L.acked; omega
    have hk3 : k * 552 ≤ 140737488355328 := by have := hno.len; omega
    have HT := Lib.hid (show sameRs (x1.log.take k) (n.log.take k) = true by
      have := L.log
      rw [hk, Int.toNat_natCast] at this
      rw [this]
      exact sameRs_refl _)
    have LN := Lib.hid L.node
    have LS := Lib.hid L.speaks
    have LA := Lib.hid L.ans
    clear hno hk L
    go_wp2_with (first
      | (go_at_call 29; refine (rep_Check_ok x1 LN.out D K _ ((HL.out.recs rfl (by repeat (first | exact Ext.refl _ | assumption | apply Ext.xt | apply Ext.alloc | apply Ext.drew | apply Ext.drewN))).mono (by repeat (first | exact Ext.refl _ | assumption | apply Ext.xt | apply Ext.alloc | apply Ext.drew | apply Ext.drewN)))).mono ?_; rintro e w' ⟨rfl, hx⟩; obtain ⟨yf, rfl⟩ := hx.get; clear hx)
      | (go_at_call 30; refine (l54_begins_to D K _ x1.log rfl A c _ n.log rfl n.acked k HK.out true HT.out hk2 hk1 hk3 _ ((HL.out.recs rfl (by repeat (first | exact Ext.refl _ | assumption | apply Ext.xt | apply Ext.alloc | apply Ext.drew | apply Ext.drewN))).mono (by repeat (first | exact Ext.refl _ | assumption | apply Ext.xt | apply Ext.alloc | apply Ext.drew | apply Ext.drewN))) (HS.out.mono (by repeat (first | exact Ext.refl _ | assumption | apply Ext.xt | apply Ext.alloc | apply Ext.drew | apply Ext.drewN)))).mono ?_; rintro e w' ⟨rfl, hx⟩; obtain ⟨yg, rfl⟩ := hx.get; clear hx)
      | (go_at_call 31; refine (rep_Right_ans a1 (LA.out (by assumption)).1 (LA.out (by assumption)).2.2 _).mono ?_; rintro e w' ⟨rfl, hx⟩; obtain ⟨yi, rfl⟩ := hx.get; clear hx)
      | (go_at_call 20; refine (l54_awake _).mono ?_; rintro e w' ⟨rfl, hx⟩; obtain ⟨y, rfl⟩ := hx.get; clear hx))
    all_goals first
      | exact absurd (LS.out (by assumption)) (by assumption)
      | (exfalso; have e9 := (LA.out (by assumption)).2.1; have h9 : (a1.term != x1.term) = true := by assumption
         rw [e9] at h9; simp at h9; done)
      | (go_ret; exact ⟨rfl, by repeat (first | exact Ext.refl _ | assumption | apply Ext.xt | apply Ext.alloc | apply Ext.drew | apply Ext.drewN)⟩)
  · have hz : (er != 0) = true := by simpa using h4
    clear h4
    go_wp2_with (go_at_call 20; refine (l54_awake _).mono ?_; rintro e w' ⟨rfl, hx⟩; obtain ⟨y, rfl⟩ := hx.get; clear hx)
    go_ret
    exact ⟨rfl, by repeat (first | exact Ext.refl _ | assumption | apply Ext.xt | apply Ext.alloc | apply Ext.drew | apply Ext.drewN)⟩
theorem l54_Keeps : Calls Tryz.prog 5 #[.agg #[.int .i64 n.id, .int .i64 n.term, .bool n.speaks, .slice A n.log.length c, .int .i64 n.acked, .int .i64 n.next], .agg #[.int .i64 m.kind, .int .i64 m.term, .int .i64 m.at_, .int .i64 m.before, .slice B m.recs.length d, .int .i64 m.acked]] w fun e w' => e = .returned (.bool true) ∧ Ext w w' := by
  by_cases h1 : nodE n = 0
  · by_cases h2 : msgE m = 0
    · exact Keeps_c n A c m B d w hs hm hb1 hb2 _ _ (Lib.hid rfl) (Lib.hid rfl) (by simpa using h1) (by simpa using h2)
    · exact Keeps_b n A c m B d w hs hm hb1 hb2 _ _ (Lib.hid rfl) (Lib.hid rfl) (by simpa using h1) (by simpa using h2)
  · exact Keeps_a n A c m B d w hs hm hb1 hb2 _ (msgE m) (Lib.hid rfl) (Lib.hid rfl) (by simpa using h1)
end
end Go.Proofs.YtlpboikonnpjbaaGreat
