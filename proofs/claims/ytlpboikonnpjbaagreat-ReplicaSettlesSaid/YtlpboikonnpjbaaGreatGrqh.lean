/-
  Chapter 54, the reference: to receive a message.
-/
import Derived.Test.YtlpboikonnpjbaaGreatGrqe
import Derived.Test.YtlpboikonnpjbaaGreatGrpj
import Derived.Test.YtlpboikonnpjbaaGreatRep12
import Derived.Test.YtlpboikonnpjbaaGreatGopq
namespace Go.Proofs.YtlpboikonnpjbaaGreat
open Go.RowKit

/-- What the reference's Received makes of a right message. -/
noncomputable def rcvdV (n : Nod) (m : Msg) : Nod × Msg × Bool × Int := if m.term < n.term then (n, ansM n 2 0, m.kind == 0, 0) else recdV n m
/-- A node, an answer, whether there is one, an error's number. -/
def RetRcvd (w W : World) (v : Nod × Msg × Bool × Int) (e : Ending) (w' : World) : Prop := ∃ A c, e = .returned (.tuple #[.agg #[.int .i64 v.1.id, .int .i64 v.1.term, .bool v.1.speaks, .slice A v.1.log.length c, .int .i64 v.1.acked, .int .i64 v.1.next], .agg #[.int .i64 v.2.1.kind, .int .i64 v.2.1.term, .int .i64 v.2.1.at_, .int .i64 0, .slice none 0 0, .int .i64 0], .bool v.2.2.1, .int .i64 v.2.2.2]) ∧ Ext W w' ∧ LogQ w W w' A v.1.log.length c v.1.log
theorem RetRcvd.old {w W w' : World} {v : Nod × Msg × Bool × Int} {n : Nod} {k t a : Int} {ok : Bool} {x : Int} (hv : v = (n, ⟨k, t, a, 0, [], 0⟩, ok, x)) {A : Option Addr} {c : Nat} (hx : Ext W w') (hr : RecsAt w A c n.log) :
    RetRcvd w W v (.returned (.tuple #[.agg #[.int .i64 n.id, .int .i64 n.term, .bool n.speaks, .slice A n.log.length c, .int .i64 n.acked, .int .i64 n.next], .agg #[.int .i64 k, .int .i64 t, .int .i64 a, .int .i64 0, .slice none 0 0, .int .i64 0], .bool ok, .int .i64 x])) w' := by
  subst hv
  exact ⟨A, c, rfl, hx, .inl hr⟩
theorem RetRcvd.err {w W w' : World} {v : Nod × Msg × Bool × Int} {x : Int} (h : v = (nod0, msg0, false, x)) (hx : Ext W w') :
    RetRcvd w W v (.returned (.tuple #[.agg #[.int .i64 0, .int .i64 0, .bool false, .slice none 0 0, .int .i64 0, .int .i64 0], .agg #[.int .i64 0, .int .i64 0, .int .i64 0, .int .i64 0, .slice none 0 0, .int .i64 0], .bool false, .int .i64 x])) w' := by
  subst h
  exact ⟨none, 0, rfl, hx, .inl (RecsAt.nil _)⟩
theorem LogQ.turn {b : Nat} {w X W W' : World} {D : Option Addr} {N K : Nat} {l : List Rec} (ht : Turn b W W') (h : LogQ w X W D N K l) : LogQ w X W' D N K l := by
  rcases h with h | ⟨h, he⟩
  · exact .inl h
  · exact .inr ⟨h.turn2 ht, he⟩
theorem takeV_is (n : Nod) (m : Msg) : ((takeV n m).2.2.2 == 0) = (takeV n m).2.2.1 := by
  unfold takeV
  simp only
  repeat' split
  all_goals first | rfl | (simp; done)
theorem r54_take_as (x : Nod) (A : Option Addr) (c : Nat) (m : Msg) (B : Option Addr) (d : Nat) (w W : World) (hx : Ext w W) (hs : RecsAt w A c x.log) (hm : RecsAt w B d m.recs) (h256 : x.log.length ≤ 256) (hrl : m.recs.length ≤ 16) (ha : 0 ≤ m.at_) (hk : m.kind = 0) (v : Nod × Msg × Bool × Int) (hv : takeV x m = v) :
    Calls Tryz.prog 130 #[.agg #[.int .i64 x.id, .int .i64 x.term, .bool x.speaks, .slice A x.log.length c, .int .i64 x.acked, .int .i64 x.next], .agg #[.int .i64 0, .int .i64 m.term, .int .i64 m.at_, .int .i64 m.before, .slice B m.recs.length d, .int .i64 m.acked]] W (RetTake w W v) := by
  subst hv
  have := r54_take x A c m B d w W hx hs hm h256 hrl ha
  rwa [hk] at this
section
variable (n : Nod) (A : Option Addr) (c : Nat) (m : Msg) (B : Option Addr) (d : Nat) (w : World) (y0 : Gr)
set_option maxHeartbeats 12800000 in
set_option maxRecDepth 100000 in
theorem rcvd_old (hs : RecsAt w A c n.log) (_hm : RecsAt w B d m.recs) (_h256 : n.log.length ≤ 256) (_hrl : m.kind = 0 → m.recs.length ≤ 16) (_ha : 0 ≤ m.at_) (k : Int) (hk : m.kind = k) (ht : m.term < n.term) : Calls Tryz.prog 67 #[.agg #[.int .i64 n.id, .int .i64 n.term, .bool n.speaks, .slice A n.log.length c, .int .i64 n.acked, .int .i64 n.next], .agg #[.int .i64 k, .int .i64 m.term, .int .i64 m.at_, .int .i64 m.before, .slice B m.recs.length d, .int .i64 m.acked]] (xt w y0) (RetRcvd w (xt w y0) (rcvdV n m)) := by
  have hl := hs.len
  have HS := Lib.hid hs
  have hd : decide (m.term < n.term) = true := decide_eq_true ht
  have HR := Lib.hid (show rcvdV n m = (n, ansM n 2 0, k == 0, 0) by unfold rcvdV; rw [if_pos ht, hk])
  clear hs _hm hk _hrl
  go_enter Tryz.func67, Tryz.ntmps67
  go_wp2
  have k1 : BoxAt (((((xt w y0).alloc (.cells #[.int .i64 n.id, .int .i64 n.term, .bool n.speaks, .slice A n.log.length c, .int .i64 n.acked, .int .i64 n.next] 65)).alloc (.cells #[.int .i64 k, .int .i64 m.term, .int .i64 m.at_, .int .i64 m.before, .slice B m.recs.length d, .int .i64 m.acked] 67)).alloc (.cells #[.int .i64 0, .int .i64 0, .bool false, .slice none 0 0, .int .i64 0, .int .i64 0] 65)).alloc (.cells #[.int .i64 0, .int .i64 0, .int .i64 0, .int .i64 0, .slice none 0 0, .int .i64 0] 67)) (w.heap.size + y0.n) [.int .i64 n.id, .int .i64 n.term, .bool n.speaks, .slice A n.log.length c, .int .i64 n.acked, .int .i64 n.next] 65 := by repeat (first | exact BoxAt.new (by first | rfl | (simp [go_sem]; done) | (simp [go_sem]; omega)) _ _ | apply BoxAt.xt | apply BoxAt.drew | apply BoxAt.drewN | apply BoxAt.alloc)
  have k2 : BoxAt (((((xt w y0).alloc (.cells #[.int .i64 n.id, .int .i64 n.term, .bool n.speaks, .slice A n.log.length c, .int .i64 n.acked, .int .i64 n.next] 65)).alloc (.cells #[.int .i64 k, .int .i64 m.term, .int .i64 m.at_, .int .i64 m.before, .slice B m.recs.length d, .int .i64 m.acked] 67)).alloc (.cells #[.int .i64 0, .int .i64 0, .bool false, .slice none 0 0, .int .i64 0, .int .i64 0] 65)).alloc (.cells #[.int .i64 0, .int .i64 0, .int .i64 0, .int .i64 0, .slice none 0 0, .int .i64 0] 67)) (w.heap.size + y0.n + 1) [.int .i64 k, .int .i64 m.term, .int .i64 m.at_, .int .i64 m.before, .slice B m.recs.length d, .int .i64 m.acked] 67 := by repeat (first | exact BoxAt.new (by first | rfl | (simp [go_sem]; done) | (simp [go_sem]; omega)) _ _ | apply BoxAt.xt | apply BoxAt.drew | apply BoxAt.drewN | apply BoxAt.alloc)
  have k3 : BoxAt (((((xt w y0).alloc (.cells #[.int .i64 n.id, .int .i64 n.term, .bool n.speaks, .slice A n.log.length c, .int .i64 n.acked, .int .i64 n.next] 65)).alloc (.cells #[.int .i64 k, .int .i64 m.term, .int .i64 m.at_, .int .i64 m.before, .slice B m.recs.length d, .int .i64 m.acked] 67)).alloc (.cells #[.int .i64 0, .int .i64 0, .bool false, .slice none 0 0, .int .i64 0, .int .i64 0] 65)).alloc (.cells #[.int .i64 0, .int .i64 0, .int .i64 0, .int .i64 0, .slice none 0 0, .int .i64 0] 67)) (w.heap.size + y0.n + 1 + 1) [.int .i64 0, .int .i64 0, .bool false, .slice none 0 0, .int .i64 0, .int .i64 0] 65 := by repeat (first | exact BoxAt.new (by first | rfl | (simp [go_sem]; done) | (simp [go_sem]; omega)) _ _ | apply BoxAt.xt | apply BoxAt.drew | apply BoxAt.drewN | apply BoxAt.alloc)
  have k4 : BoxAt (((((xt w y0).alloc (.cells #[.int .i64 n.id, .int .i64 n.term, .bool n.speaks, .slice A n.log.length c, .int .i64 n.acked, .int .i64 n.next] 65)).alloc (.cells #[.int .i64 k, .int .i64 m.term, .int .i64 m.at_, .int .i64 m.before, .slice B m.recs.length d, .int .i64 m.acked] 67)).alloc (.cells #[.int .i64 0, .int .i64 0, .bool false, .slice none 0 0, .int .i64 0, .int .i64 0] 65)).alloc (.cells #[.int .i64 0, .int .i64 0, .int .i64 0, .int .i64 0, .slice none 0 0, .int .i64 0] 67)) (w.heap.size + y0.n + 1 + 1 + 1) [.int .i64 0, .int .i64 0, .int .i64 0, .int .i64 0, .slice none 0 0, .int .i64 0] 67 := by repeat (first | exact BoxAt.new (by first | rfl | (simp [go_sem]; done) | (simp [go_sem]; omega)) _ _ | apply BoxAt.xt | apply BoxAt.drew | apply BoxAt.drewN | apply BoxAt.alloc)
  refine wp_region_L (S := SS 99 99 (fun _ => True) (fun _ => True) (fun w9 => BoxAt w9 (w.heap.size + y0.n) [.int .i64 n.id, .int .i64 n.term, .bool n.speaks, .slice A n.log.length c, .int .i64 n.acked, .int .i64 n.next] 65 ∧ BoxAt w9 (w.heap.size + y0.n + 1) [.int .i64 k, .int .i64 m.term, .int .i64 m.at_, .int .i64 m.before, .slice B m.recs.length d, .int .i64 m.acked] 67)) (by kernel_rfl) ⟨fun _ => trivial, fun _ => trivial, k1.mono (by repeat (first | exact Ext.refl _ | assumption | apply Ext.xt | apply Ext.alloc | apply Ext.drew | apply Ext.drewN)), k2.mono (by repeat (first | exact Ext.refl _ | assumption | apply Ext.xt | apply Ext.alloc | apply Ext.drew | apply Ext.drewN))⟩ (fun hcl hS => ?_)
  refine wpAnyL_take (i := 0) (T := (fun w9 => BoxAt w9 (w.heap.size + y0.n) [.int .i64 n.id, .int .i64 n.term, .bool n.speaks, .slice A n.log.length c, .int .i64 n.acked, .int .i64 n.next] 65)) (v := ?_) rfl (by kernel_rfl) (by kernel_rfl) (by kernel_rfl) (fun _ _ _ h => h) (fun _ _ _ _ hS => hS.2.2.1) (SS.up (by decide) (by decide)) (SS.down (by decide) (by decide)) (Or.inl ⟨by rfl, ?_⟩) hcl hS ?_
  rotate_left
  · (intro w9 hw9; (try dsimp only at hw9); obtain ⟨g0, g1, g2, g3, g4, g5⟩ := hw9.six; go_simp; try with_reducible rfl)
  clear hcl hS
  intro hcl hS
  (try simp only [Act.put]); (try simp only [List.setIfInBounds_toArray]); (repeat (first | simp only [List.set_cons_succ] | simp only [List.set_cons_zero]))
  refine wpAnyL_take (i := 1) (T := (fun w9 => BoxAt w9 (w.heap.size + y0.n) [.int .i64 n.id, .int .i64 n.term, .bool n.speaks, .slice A n.log.length c, .int .i64 n.acked, .int .i64 n.next] 65)) (v := ?_) rfl (by kernel_rfl) (by kernel_rfl) (by kernel_rfl) (fun _ _ _ h => h) (fun _ _ _ _ hS => hS.2.2.1) (SS.up (by decide) (by decide)) (SS.down (by decide) (by decide)) (Or.inl ⟨by rfl, ?_⟩) hcl hS ?_
  rotate_left
  · (intro w9 hw9; (try dsimp only at hw9); obtain ⟨g0, g1, g2, g3, g4, g5⟩ := hw9.six; go_simp; try with_reducible rfl)
  clear hcl hS
  intro hcl hS
  (try simp only [Act.put]); (try simp only [List.setIfInBounds_toArray]); (repeat (first | simp only [List.set_cons_succ] | simp only [List.set_cons_zero]))
  refine wpAnyL_take (i := 3) (T := (fun _ => True)) (v := ?_) rfl (by kernel_rfl) (by kernel_rfl) (by kernel_rfl) (fun _ _ _ h => h) (fun _ _ _ _ _ => trivial) (SS.up (by decide) (by decide)) (SS.down (by decide) (by decide)) (Or.inl ⟨by rfl, ?_⟩) hcl hS ?_
  rotate_left
  · (intro w9 hw9; (try dsimp only at hw9); go_simp; try with_reducible rfl)
  clear hcl hS
  intro hcl hS
  (try simp only [Act.put]); (try simp only [List.setIfInBounds_toArray]); (repeat (first | simp only [List.set_cons_succ] | simp only [List.set_cons_zero]))
  refine wpAnyL_take (i := 4) (T := (fun w9 => BoxAt w9 (w.heap.size + y0.n + 1) [.int .i64 k, .int .i64 m.term, .int .i64 m.at_, .int .i64 m.before, .slice B m.recs.length d, .int .i64 m.acked] 67)) (v := ?_) rfl (by kernel_rfl) (by kernel_rfl) (by kernel_rfl) (fun _ _ _ h => h) (fun _ _ _ _ hS => hS.2.2.2) (SS.up (by decide) (by decide)) (SS.down (by decide) (by decide)) (Or.inl ⟨by rfl, ?_⟩) hcl hS ?_
  rotate_left
  · (intro w9 hw9; (try dsimp only at hw9); obtain ⟨g0, g1, g2, g3, g4, g5⟩ := hw9.six; go_simp; try with_reducible rfl)
  clear hcl hS
  intro hcl hS
  (try simp only [Act.put]); (try simp only [List.setIfInBounds_toArray]); (repeat (first | simp only [List.set_cons_succ] | simp only [List.set_cons_zero]))
  refine wpAnyL_take (i := 5) (T := (fun _ => True)) (v := ?_) rfl (by kernel_rfl) (by kernel_rfl) (by kernel_rfl) (fun _ _ _ h => h) (fun _ _ _ _ _ => trivial) (SS.up (by decide) (by decide)) (SS.down (by decide) (by decide)) (Or.inl ⟨by rfl, ?_⟩) hcl hS ?_
  rotate_left
  · (intro w9 hw9; (try dsimp only at hw9); go_simp; try with_reducible rfl)
  clear hcl hS
  intro hcl hS
  (try simp only [Act.put]); (try simp only [List.setIfInBounds_toArray]); (repeat (first | simp only [List.set_cons_succ] | simp only [List.set_cons_zero]))
  refine wpAnyL_only (i := 2) (by kernel_rfl) rfl rfl hcl (fun K9 hK9 => ?_)
  have hp9 := hS.2.2.1
  have hq9 := hS.2.2.2
  clear hS hcl
  go_simp; go_at_call 129; refine (r54_answer _ _ _ _ _ _ _ _ _ _ _).mono ?_; rintro e w' ⟨rfl, hx⟩
  replace hp9 := hp9.mono hx
  replace hq9 := hq9.mono hx
  obtain ⟨yh0, rfl⟩ := hx.get
  clear hx
  refine hK9 _ _ ⟨fun _ => trivial, fun _ => trivial, hp9, hq9⟩ (fun hcl hS => ?_)
  clear hK9 hp9 hq9 K9
  have hp9 := hS.2.2.1
  have hq9 := hS.2.2.2
  clear hS
  refine wpAnyL_store (i := 6) (by kernel_rfl) rfl rfl hcl 65 (.tmp 4) (.tmp 16) rfl (k3.mono (by repeat (first | exact Ext.refl _ | assumption | apply Ext.xt | apply Ext.alloc | apply Ext.drew | apply Ext.drewN))) rfl [.int .i64 n.id, .int .i64 n.term, .bool n.speaks, .slice A n.log.length c, .int .i64 n.acked, .int .i64 n.next] rfl rfl (show 6 < 44 by decide) (by kernel_rfl) (nodl_one n A c) ?_; intro W1 ht1 hb1; replace hp9 := hp9.turn ht1 (by omega); replace hq9 := hq9.turn ht1 (by omega)
  refine ⟨⟨fun _ => trivial, fun _ => trivial, hp9, hq9⟩, fun hcl hS => ?_⟩
  clear hp9 hq9
  have hp9 := hS.2.2.1
  have hq9 := hS.2.2.2
  clear hS
  refine wpAnyL_store (i := 7) (by kernel_rfl) rfl rfl hcl 67 (.tmp 5) (.tmp 18) rfl ((k4.mono (by repeat (first | exact Ext.refl _ | assumption | apply Ext.xt | apply Ext.alloc | apply Ext.drew | apply Ext.drewN))).turn ht1 (by omega)) rfl [.int .i64 2, .int .i64 n.term, .int .i64 0, .int .i64 0, .slice none 0 0, .int .i64 0] rfl rfl (show 6 < 44 by decide) (by kernel_rfl) (ansl_one ⟨2, n.term, 0, 0, [], 0⟩) ?_; intro W2 ht2 hb2; replace hp9 := hp9.turn ht2 (by omega); replace hq9 := hq9.turn ht2 (by omega)
  refine ⟨⟨fun _ => trivial, fun _ => trivial, hp9, hq9⟩, fun hcl hS => ?_⟩
  clear hp9 hq9
  refine wpAnyL_only (i := 8) (by kernel_rfl) rfl rfl hcl (fun K9 hK9 => ?_)
  have hp9 := hS.2.2.1
  have hq9 := hS.2.2.2
  clear hS hcl
  go_simp
  refine hK9 _ _ ⟨fun _ => trivial, fun _ => trivial, hp9, hq9⟩ (fun hcl hS => ?_)
  clear hK9 hp9 hq9 K9
  refine wpAnyL_only (i := 9) (by kernel_rfl) rfl rfl hcl (fun K9 hK9 => ?_)
  have hp9 := hS.2.2.1
  have hq9 := hS.2.2.2
  clear hS hcl
  go_simp
  refine hK9 _ _ ⟨fun _ => trivial, fun _ => trivial, hp9, hq9⟩ (fun hcl hS => ?_)
  clear hK9 hp9 hq9 K9
  clear hcl hS
  refine wpAnyL_done (by kernel_rfl) ?_ _
  go_wp2_with fail
  obtain ⟨q0, q1, q2, q3, q4, q5⟩ := (hb1.turn ht2 (by omega)).six
  obtain ⟨r0, r1, r2, r3, r4, r5⟩ := hb2.six
  refine bodyPost_ret (v := .tuple #[.agg #[.int .i64 n.id, .int .i64 n.term, .bool n.speaks, .slice A n.log.length c, .int .i64 n.acked, .int .i64 n.next], .agg #[.int .i64 2, .int .i64 n.term, .int .i64 0, .int .i64 0, .slice none 0 0, .int .i64 0], .bool (k == 0), .int .i64 0]) (by simp [results, Tryz.results67, go_sem, q0, q1, q2, q3, q4, q5, r0, r1, r2, r3, r4, r5]) rfl ?_
  exact RetRcvd.old HR.out (ht2.ext (ht1.ext (by repeat (first | exact Ext.refl _ | assumption | apply Ext.xt | apply Ext.alloc | apply Ext.drew | apply Ext.drewN)) (by first | (simp [go_sem]; done) | (simp [go_sem]; omega))) (by first | (simp [go_sem]; done) | (simp [go_sem]; omega))) HS.out
set_option maxHeartbeats 12800000 in
set_option maxRecDepth 100000 in
theorem rcvd_0_same (hs : RecsAt w A c n.log) (hm : RecsAt w B d m.recs) (h256 : n.log.length ≤ 256) (hrl : m.kind = 0 → m.recs.length ≤ 16) (ha : 0 ≤ m.at_) (hk : m.kind = 0) (ht : n.term = m.term) : Calls Tryz.prog 67 #[.agg #[.int .i64 n.id, .int .i64 n.term, .bool n.speaks, .slice A n.log.length c, .int .i64 n.acked, .int .i64 n.next], .agg #[.int .i64 0, .int .i64 m.term, .int .i64 m.at_, .int .i64 m.before, .slice B m.recs.length d, .int .i64 m.acked]] (xt w y0) (RetRcvd w (xt w y0) (rcvdV n m)) := by
  have hl := hs.len
  have HS := Lib.hid hs
  have hd1 : decide (m.term < n.term) = false := decide_eq_false (by omega)
  have hd2 : decide (n.term < m.term) = false := decide_eq_false (by omega)
  have h1 : ¬ m.term < n.term := by omega
  have h2 : ¬ n.term < m.term := by omega
  obtain ⟨v, hv⟩ : ∃ v, takeV n m = v := ⟨_, rfl⟩
  have HR := Lib.hid (show rcvdV n m = v by
    rw [← hv]
    have hi : inTerm n m = n := inTerm_same ht
    unfold rcvdV recdV
    rw [if_neg h1, if_neg h1, hi, if_pos hk])
  have hz := Lib.hid (takeV_is n m)
  rw [hv] at hz
  have HC := Lib.hid (fun (W : World) (hx : Ext w W) => r54_take_as n A c m B d w W hx hs hm h256 (hrl hk) ha hk v hv)
  clear hs hm hk hv hrl ha h256 ht
  go_enter Tryz.func67, Tryz.ntmps67
  go_wp2_with (go_at_call 130; refine (HC.out _ (by repeat (first | exact Ext.refl _ | assumption | apply Ext.xt | apply Ext.alloc | apply Ext.drew | apply Ext.drewN))).mono ?_; rintro e w' ⟨D, K, rfl, hx, hr⟩; have HRR := Lib.hid hr; obtain ⟨y9, rfl⟩ := hx.get; clear hx hr)
  refine wp_name (fun W9 hW9 => ?_)
  have k8 : BoxAt W9 (w.heap.size + y0.n + 1 + 1 + 1 + 1 + y9.n) [.int .i64 v.1.id, .int .i64 v.1.term, .bool v.1.speaks, .slice D v.1.log.length K, .int .i64 v.1.acked, .int .i64 v.1.next] 65 := by rw [hW9]; exact (by repeat (first | exact BoxAt.new (by first | rfl | (simp [go_sem]; done) | (simp [go_sem]; omega)) _ _ | apply BoxAt.xt | apply BoxAt.drew | apply BoxAt.drewN | apply BoxAt.alloc))
  have k9 : BoxAt W9 (w.heap.size + y0.n + 1 + 1 + 1 + 1 + y9.n + 1) [.int .i64 v.2.1.kind, .int .i64 v.2.1.term, .int .i64 v.2.1.at_, .int .i64 0, .slice none 0 0, .int .i64 0] 67 := by rw [hW9]; exact (by repeat (first | exact BoxAt.new (by first | rfl | (simp [go_sem]; done) | (simp [go_sem]; omega)) _ _ | apply BoxAt.xt | apply BoxAt.drew | apply BoxAt.drewN | apply BoxAt.alloc))
  have k3 : BoxAt W9 (w.heap.size + y0.n + 1 + 1) [.int .i64 0, .int .i64 0, .bool false, .slice none 0 0, .int .i64 0, .int .i64 0] 65 := by rw [hW9]; exact (by repeat (first | exact BoxAt.new (by first | rfl | (simp [go_sem]; done) | (simp [go_sem]; omega)) _ _ | apply BoxAt.xt | apply BoxAt.drew | apply BoxAt.drewN | apply BoxAt.alloc))
  have k4 : BoxAt W9 (w.heap.size + y0.n + 1 + 1 + 1) [.int .i64 0, .int .i64 0, .int .i64 0, .int .i64 0, .slice none 0 0, .int .i64 0] 67 := by rw [hW9]; exact (by repeat (first | exact BoxAt.new (by first | rfl | (simp [go_sem]; done) | (simp [go_sem]; omega)) _ _ | apply BoxAt.xt | apply BoxAt.drew | apply BoxAt.drewN | apply BoxAt.alloc))
  have hsz : w.heap.size + y0.n + 4 ≤ W9.heap.size := by rw [hW9]; simp [go_sem]; omega
  have hex : Ext (xt w y0) W9 := by rw [hW9]; exact (by repeat (first | exact Ext.refl _ | assumption | apply Ext.xt | apply Ext.alloc | apply Ext.drew | apply Ext.drewN))
  have hlg : LogQ w (xt w y0) W9 D v.1.log.length K v.1.log := by rw [hW9]; exact LogQ.base (LogQ.along HRR.out (by repeat (first | exact Ext.refl _ | assumption | apply Ext.xt | apply Ext.alloc | apply Ext.drew | apply Ext.drewN)) (by simp [go_sem])) (by simp [go_sem] <;> omega)
  clear hW9
  refine wp_region_L (S := SS 99 99 (fun _ => True) (fun _ => True) (fun w9 => BoxAt w9 (w.heap.size + y0.n + 1 + 1 + 1 + 1 + y9.n) [.int .i64 v.1.id, .int .i64 v.1.term, .bool v.1.speaks, .slice D v.1.log.length K, .int .i64 v.1.acked, .int .i64 v.1.next] 65 ∧ BoxAt w9 (w.heap.size + y0.n + 1 + 1 + 1 + 1 + y9.n + 1) [.int .i64 v.2.1.kind, .int .i64 v.2.1.term, .int .i64 v.2.1.at_, .int .i64 0, .slice none 0 0, .int .i64 0] 67)) (by kernel_rfl) ⟨fun _ => trivial, fun _ => trivial, k8.mono (by repeat (first | exact Ext.refl _ | assumption | apply Ext.xt | apply Ext.alloc | apply Ext.drew | apply Ext.drewN)), k9.mono (by repeat (first | exact Ext.refl _ | assumption | apply Ext.xt | apply Ext.alloc | apply Ext.drew | apply Ext.drewN))⟩ (fun hcl hS => ?_)
  refine wpAnyL_take (i := 0) (T := (fun w9 => BoxAt w9 (w.heap.size + y0.n + 1 + 1 + 1 + 1 + y9.n) [.int .i64 v.1.id, .int .i64 v.1.term, .bool v.1.speaks, .slice D v.1.log.length K, .int .i64 v.1.acked, .int .i64 v.1.next] 65)) (v := ?_) rfl (by kernel_rfl) (by kernel_rfl) (by kernel_rfl) (fun _ _ _ h => h) (fun _ _ _ _ hS => hS.2.2.1) (SS.up (by decide) (by decide)) (SS.down (by decide) (by decide)) (Or.inl ⟨by rfl, ?_⟩) hcl hS ?_
  rotate_left
  · (intro w9 hw9; (try dsimp only at hw9); obtain ⟨g0, g1, g2, g3, g4, g5⟩ := hw9.six; go_simp; try with_reducible rfl)
  clear hcl hS
  intro hcl hS
  (try simp only [Act.put]); (try simp only [List.setIfInBounds_toArray]); (repeat (first | simp only [List.set_cons_succ] | simp only [List.set_cons_zero]))
  refine wpAnyL_take (i := 1) (T := (fun w9 => BoxAt w9 (w.heap.size + y0.n + 1 + 1 + 1 + 1 + y9.n + 1) [.int .i64 v.2.1.kind, .int .i64 v.2.1.term, .int .i64 v.2.1.at_, .int .i64 0, .slice none 0 0, .int .i64 0] 67)) (v := ?_) rfl (by kernel_rfl) (by kernel_rfl) (by kernel_rfl) (fun _ _ _ h => h) (fun _ _ _ _ hS => hS.2.2.2) (SS.up (by decide) (by decide)) (SS.down (by decide) (by decide)) (Or.inl ⟨by rfl, ?_⟩) hcl hS ?_
  rotate_left
  · (intro w9 hw9; (try dsimp only at hw9); obtain ⟨g0, g1, g2, g3, g4, g5⟩ := hw9.six; go_simp; try with_reducible rfl)
  clear hcl hS
  intro hcl hS
  (try simp only [Act.put]); (try simp only [List.setIfInBounds_toArray]); (repeat (first | simp only [List.set_cons_succ] | simp only [List.set_cons_zero]))
  refine wpAnyL_take (i := 2) (T := (fun _ => True)) (v := ?_) rfl (by kernel_rfl) (by kernel_rfl) (by kernel_rfl) (fun _ _ _ h => h) (fun _ _ _ _ _ => trivial) (SS.up (by decide) (by decide)) (SS.down (by decide) (by decide)) (Or.inl ⟨by rfl, ?_⟩) hcl hS ?_
  rotate_left
  · (intro w9 hw9; (try dsimp only at hw9); go_simp; try with_reducible rfl)
  clear hcl hS
  intro hcl hS
  (try simp only [Act.put]); (try simp only [List.setIfInBounds_toArray]); (repeat (first | simp only [List.set_cons_succ] | simp only [List.set_cons_zero]))
  refine wpAnyL_take (i := 3) (T := (fun _ => True)) (v := ?_) rfl (by kernel_rfl) (by kernel_rfl) (by kernel_rfl) (fun _ _ _ h => h) (fun _ _ _ _ _ => trivial) (SS.up (by decide) (by decide)) (SS.down (by decide) (by decide)) (Or.inl ⟨by rfl, ?_⟩) hcl hS ?_
  rotate_left
  · (intro w9 hw9; (try dsimp only at hw9); go_simp; try with_reducible rfl)
  clear hcl hS
  intro hcl hS
  (try simp only [Act.put]); (try simp only [List.setIfInBounds_toArray]); (repeat (first | simp only [List.set_cons_succ] | simp only [List.set_cons_zero]))
  refine wpAnyL_take (i := 4) (T := (fun _ => True)) (v := ?_) rfl (by kernel_rfl) (by kernel_rfl) (by kernel_rfl) (fun _ _ _ h => h) (fun _ _ _ _ _ => trivial) (SS.up (by decide) (by decide)) (SS.down (by decide) (by decide)) (Or.inl ⟨by rfl, ?_⟩) hcl hS ?_
  rotate_left
  · (intro w9 hw9; (try dsimp only at hw9); go_simp; try with_reducible rfl)
  clear hcl hS
  intro hcl hS
  (try simp only [Act.put]); (try simp only [List.setIfInBounds_toArray]); (repeat (first | simp only [List.set_cons_succ] | simp only [List.set_cons_zero]))
  have hp9 := hS.2.2.1
  have hq9 := hS.2.2.2
  clear hS
  refine wpAnyL_store (i := 5) (by kernel_rfl) rfl rfl hcl 65 (.tmp 4) (.tmp 43) rfl (k3.mono (by repeat (first | exact Ext.refl _ | assumption | apply Ext.xt | apply Ext.alloc | apply Ext.drew | apply Ext.drewN))) rfl [.int .i64 v.1.id, .int .i64 v.1.term, .bool v.1.speaks, .slice D v.1.log.length K, .int .i64 v.1.acked, .int .i64 v.1.next] rfl rfl (show 6 < 44 by decide) (by kernel_rfl) (nodl_one v.1 D K) ?_; intro W1 ht1 hb1; replace hp9 := hp9.turn ht1 (by omega); replace hq9 := hq9.turn ht1 (by omega)
  refine ⟨⟨fun _ => trivial, fun _ => trivial, hp9, hq9⟩, fun hcl hS => ?_⟩
  clear hp9 hq9
  have hp9 := hS.2.2.1
  have hq9 := hS.2.2.2
  clear hS
  refine wpAnyL_store (i := 6) (by kernel_rfl) rfl rfl hcl 67 (.tmp 5) (.tmp 44) rfl ((k4.mono (by repeat (first | exact Ext.refl _ | assumption | apply Ext.xt | apply Ext.alloc | apply Ext.drew | apply Ext.drewN))).turn ht1 (by omega)) rfl [.int .i64 v.2.1.kind, .int .i64 v.2.1.term, .int .i64 v.2.1.at_, .int .i64 0, .slice none 0 0, .int .i64 0] rfl rfl (show 6 < 44 by decide) (by kernel_rfl) (ansl_one v.2.1) ?_; intro W2 ht2 hb2; replace hp9 := hp9.turn ht2 (by omega); replace hq9 := hq9.turn ht2 (by omega)
  refine ⟨⟨fun _ => trivial, fun _ => trivial, hp9, hq9⟩, fun hcl hS => ?_⟩
  clear hp9 hq9
  refine wpAnyL_only (i := 7) (by kernel_rfl) rfl rfl hcl (fun K9 hK9 => ?_)
  have hp9 := hS.2.2.1
  have hq9 := hS.2.2.2
  clear hS hcl
  go_simp
  refine hK9 _ _ ⟨fun _ => trivial, fun _ => trivial, hp9, hq9⟩ (fun hcl hS => ?_)
  clear hK9 hp9 hq9 K9
  refine wpAnyL_only (i := 8) (by kernel_rfl) rfl rfl hcl (fun K9 hK9 => ?_)
  have hp9 := hS.2.2.1
  have hq9 := hS.2.2.2
  clear hS hcl
  go_simp
  refine hK9 _ _ ⟨fun _ => trivial, fun _ => trivial, hp9, hq9⟩ (fun hcl hS => ?_)
  clear hK9 hp9 hq9 K9
  clear hcl hS
  refine wpAnyL_done (by kernel_rfl) ?_ _
  go_wp2_with fail
  obtain ⟨q0, q1, q2, q3, q4, q5⟩ := (hb1.turn ht2 (by omega)).six
  obtain ⟨r0, r1, r2, r3, r4, r5⟩ := hb2.six
  refine bodyPost_ret (v := .tuple #[.agg #[.int .i64 v.1.id, .int .i64 v.1.term, .bool v.1.speaks, .slice D v.1.log.length K, .int .i64 v.1.acked, .int .i64 v.1.next], .agg #[.int .i64 v.2.1.kind, .int .i64 v.2.1.term, .int .i64 v.2.1.at_, .int .i64 0, .slice none 0 0, .int .i64 0], .bool v.2.2.1, .int .i64 v.2.2.2]) (by simp [results, Tryz.results67, go_sem, hz.out, q0, q1, q2, q3, q4, q5, r0, r1, r2, r3, r4, r5]) rfl ?_
  rw [HR.out]
  exact ⟨D, K, rfl, ht2.ext (ht1.ext (hex.trans (by repeat (first | exact Ext.refl _ | assumption | apply Ext.xt | apply Ext.alloc | apply Ext.drew | apply Ext.drewN))) (by first | (simp [go_sem]; done) | (simp [go_sem]; omega))) (by first | (simp [go_sem]; done) | (simp [go_sem]; omega)), ((hlg.mono (by repeat (first | exact Ext.refl _ | assumption | apply Ext.xt | apply Ext.alloc | apply Ext.drew | apply Ext.drewN))).turn ht1).turn ht2⟩
set_option maxHeartbeats 12800000 in
set_option maxRecDepth 100000 in
theorem rcvd_0_up (hs : RecsAt w A c n.log) (hm : RecsAt w B d m.recs) (h256 : n.log.length ≤ 256) (hrl : m.kind = 0 → m.recs.length ≤ 16) (ha : 0 ≤ m.at_) (hk : m.kind = 0) (ht : n.term < m.term) : Calls Tryz.prog 67 #[.agg #[.int .i64 n.id, .int .i64 n.term, .bool n.speaks, .slice A n.log.length c, .int .i64 n.acked, .int .i64 n.next], .agg #[.int .i64 0, .int .i64 m.term, .int .i64 m.at_, .int .i64 m.before, .slice B m.recs.length d, .int .i64 m.acked]] (xt w y0) (RetRcvd w (xt w y0) (rcvdV n m)) := by
  have hl := hs.len
  have HS := Lib.hid hs
  have hd1 : decide (m.term < n.term) = false := decide_eq_false (by omega)
  have hd2 : decide (n.term < m.term) = true := decide_eq_true ht
  have h1 : ¬ m.term < n.term := by omega
  skip
  obtain ⟨v, hv⟩ : ∃ v, takeV ⟨n.id, m.term, false, n.log, n.acked, 0⟩ m = v := ⟨_, rfl⟩
  have HR := Lib.hid (show rcvdV n m = v by
    rw [← hv]
    have hi : inTerm n m = ⟨n.id, m.term, false, n.log, n.acked, 0⟩ := by unfold inTerm; rw [if_pos ht]
    unfold rcvdV recdV
    rw [if_neg h1, if_neg h1, hi, if_pos hk])
  have hz := Lib.hid (takeV_is ⟨n.id, m.term, false, n.log, n.acked, 0⟩ m)
  rw [hv] at hz
  have HC := Lib.hid (fun (W : World) (hx : Ext w W) => r54_take_as ⟨n.id, m.term, false, n.log, n.acked, 0⟩ A c m B d w W hx hs hm h256 (hrl hk) ha hk v hv)
  clear hs hm hk hv hrl ha h256 
  go_enter Tryz.func67, Tryz.ntmps67
  go_wp2_with (go_at_call 130; refine (HC.out _ (by repeat (first | exact Ext.refl _ | assumption | apply Ext.xt | apply Ext.alloc | apply Ext.drew | apply Ext.drewN))).mono ?_; rintro e w' ⟨D, K, rfl, hx, hr⟩; have HRR := Lib.hid hr; obtain ⟨y9, rfl⟩ := hx.get; clear hx hr)
  refine wp_name (fun W9 hW9 => ?_)
  have k8 : BoxAt W9 (w.heap.size + y0.n + 1 + 1 + 1 + 1 + y9.n) [.int .i64 v.1.id, .int .i64 v.1.term, .bool v.1.speaks, .slice D v.1.log.length K, .int .i64 v.1.acked, .int .i64 v.1.next] 65 := by rw [hW9]; exact (by repeat (first | exact BoxAt.new (by first | rfl | (simp [go_sem]; done) | (simp [go_sem]; omega)) _ _ | apply BoxAt.xt | apply BoxAt.drew | apply BoxAt.drewN | apply BoxAt.alloc))
  have k9 : BoxAt W9 (w.heap.size + y0.n + 1 + 1 + 1 + 1 + y9.n + 1) [.int .i64 v.2.1.kind, .int .i64 v.2.1.term, .int .i64 v.2.1.at_, .int .i64 0, .slice none 0 0, .int .i64 0] 67 := by rw [hW9]; exact (by repeat (first | exact BoxAt.new (by first | rfl | (simp [go_sem]; done) | (simp [go_sem]; omega)) _ _ | apply BoxAt.xt | apply BoxAt.drew | apply BoxAt.drewN | apply BoxAt.alloc))
  have k3 : BoxAt W9 (w.heap.size + y0.n + 1 + 1) [.int .i64 0, .int .i64 0, .bool false, .slice none 0 0, .int .i64 0, .int .i64 0] 65 := by rw [hW9]; exact (by repeat (first | exact BoxAt.new (by first | rfl | (simp [go_sem]; done) | (simp [go_sem]; omega)) _ _ | apply BoxAt.xt | apply BoxAt.drew | apply BoxAt.drewN | apply BoxAt.alloc))
  have k4 : BoxAt W9 (w.heap.size + y0.n + 1 + 1 + 1) [.int .i64 0, .int .i64 0, .int .i64 0, .int .i64 0, .slice none 0 0, .int .i64 0] 67 := by rw [hW9]; exact (by repeat (first | exact BoxAt.new (by first | rfl | (simp [go_sem]; done) | (simp [go_sem]; omega)) _ _ | apply BoxAt.xt | apply BoxAt.drew | apply BoxAt.drewN | apply BoxAt.alloc))
  have hsz : w.heap.size + y0.n + 4 ≤ W9.heap.size := by rw [hW9]; simp [go_sem]; omega
  have hex : Ext (xt w y0) W9 := by rw [hW9]; exact (by repeat (first | exact Ext.refl _ | assumption | apply Ext.xt | apply Ext.alloc | apply Ext.drew | apply Ext.drewN))
  have hlg : LogQ w (xt w y0) W9 D v.1.log.length K v.1.log := by rw [hW9]; exact LogQ.base (LogQ.along HRR.out (by repeat (first | exact Ext.refl _ | assumption | apply Ext.xt | apply Ext.alloc | apply Ext.drew | apply Ext.drewN)) (by simp [go_sem])) (by simp [go_sem] <;> omega)
  clear hW9
  refine wp_region_L (S := SS 99 99 (fun _ => True) (fun _ => True) (fun w9 => BoxAt w9 (w.heap.size + y0.n + 1 + 1 + 1 + 1 + y9.n) [.int .i64 v.1.id, .int .i64 v.1.term, .bool v.1.speaks, .slice D v.1.log.length K, .int .i64 v.1.acked, .int .i64 v.1.next] 65 ∧ BoxAt w9 (w.heap.size + y0.n + 1 + 1 + 1 + 1 + y9.n + 1) [.int .i64 v.2.1.kind, .int .i64 v.2.1.term, .int .i64 v.2.1.at_, .int .i64 0, .slice none 0 0, .int .i64 0] 67)) (by kernel_rfl) ⟨fun _ => trivial, fun _ => trivial, k8.mono (by repeat (first | exact Ext.refl _ | assumption | apply Ext.xt | apply Ext.alloc | apply Ext.drew | apply Ext.drewN)), k9.mono (by repeat (first | exact Ext.refl _ | assumption | apply Ext.xt | apply Ext.alloc | apply Ext.drew | apply Ext.drewN))⟩ (fun hcl hS => ?_)
  refine wpAnyL_take (i := 0) (T := (fun w9 => BoxAt w9 (w.heap.size + y0.n + 1 + 1 + 1 + 1 + y9.n) [.int .i64 v.1.id, .int .i64 v.1.term, .bool v.1.speaks, .slice D v.1.log.length K, .int .i64 v.1.acked, .int .i64 v.1.next] 65)) (v := ?_) rfl (by kernel_rfl) (by kernel_rfl) (by kernel_rfl) (fun _ _ _ h => h) (fun _ _ _ _ hS => hS.2.2.1) (SS.up (by decide) (by decide)) (SS.down (by decide) (by decide)) (Or.inl ⟨by rfl, ?_⟩) hcl hS ?_
  rotate_left
  · (intro w9 hw9; (try dsimp only at hw9); obtain ⟨g0, g1, g2, g3, g4, g5⟩ := hw9.six; go_simp; try with_reducible rfl)
  clear hcl hS
  intro hcl hS
  (try simp only [Act.put]); (try simp only [List.setIfInBounds_toArray]); (repeat (first | simp only [List.set_cons_succ] | simp only [List.set_cons_zero]))
  refine wpAnyL_take (i := 1) (T := (fun w9 => BoxAt w9 (w.heap.size + y0.n + 1 + 1 + 1 + 1 + y9.n + 1) [.int .i64 v.2.1.kind, .int .i64 v.2.1.term, .int .i64 v.2.1.at_, .int .i64 0, .slice none 0 0, .int .i64 0] 67)) (v := ?_) rfl (by kernel_rfl) (by kernel_rfl) (by kernel_rfl) (fun _ _ _ h => h) (fun _ _ _ _ hS => hS.2.2.2) (SS.up (by decide) (by decide)) (SS.down (by decide) (by decide)) (Or.inl ⟨by rfl, ?_⟩) hcl hS ?_
  rotate_left
  · (intro w9 hw9; (try dsimp only at hw9); obtain ⟨g0, g1, g2, g3, g4, g5⟩ := hw9.six; go_simp; try with_reducible rfl)
  clear hcl hS
  intro hcl hS
  (try simp only [Act.put]); (try simp only [List.setIfInBounds_toArray]); (repeat (first | simp only [List.set_cons_succ] | simp only [List.set_cons_zero]))
  refine wpAnyL_take (i := 2) (T := (fun _ => True)) (v := ?_) rfl (by kernel_rfl) (by kernel_rfl) (by kernel_rfl) (fun _ _ _ h => h) (fun _ _ _ _ _ => trivial) (SS.up (by decide) (by decide)) (SS.down (by decide) (by decide)) (Or.inl ⟨by rfl, ?_⟩) hcl hS ?_
  rotate_left
  · (intro w9 hw9; (try dsimp only at hw9); go_simp; try with_reducible rfl)
  clear hcl hS
  intro hcl hS
  (try simp only [Act.put]); (try simp only [List.setIfInBounds_toArray]); (repeat (first | simp only [List.set_cons_succ] | simp only [List.set_cons_zero]))
  refine wpAnyL_take (i := 3) (T := (fun _ => True)) (v := ?_) rfl (by kernel_rfl) (by kernel_rfl) (by kernel_rfl) (fun _ _ _ h => h) (fun _ _ _ _ _ => trivial) (SS.up (by decide) (by decide)) (SS.down (by decide) (by decide)) (Or.inl ⟨by rfl, ?_⟩) hcl hS ?_
  rotate_left
  · (intro w9 hw9; (try dsimp only at hw9); go_simp; try with_reducible rfl)
  clear hcl hS
  intro hcl hS
  (try simp only [Act.put]); (try simp only [List.setIfInBounds_toArray]); (repeat (first | simp only [List.set_cons_succ] | simp only [List.set_cons_zero]))
  refine wpAnyL_take (i := 4) (T := (fun _ => True)) (v := ?_) rfl (by kernel_rfl) (by kernel_rfl) (by kernel_rfl) (fun _ _ _ h => h) (fun _ _ _ _ _ => trivial) (SS.up (by decide) (by decide)) (SS.down (by decide) (by decide)) (Or.inl ⟨by rfl, ?_⟩) hcl hS ?_
  rotate_left
  · (intro w9 hw9; (try dsimp only at hw9); go_simp; try with_reducible rfl)
  clear hcl hS
  intro hcl hS
  (try simp only [Act.put]); (try simp only [List.setIfInBounds_toArray]); (repeat (first | simp only [List.set_cons_succ] | simp only [List.set_cons_zero]))
  have hp9 := hS.2.2.1
  have hq9 := hS.2.2.2
  clear hS
  refine wpAnyL_store (i := 5) (by kernel_rfl) rfl rfl hcl 65 (.tmp 4) (.tmp 43) rfl (k3.mono (by repeat (first | exact Ext.refl _ | assumption | apply Ext.xt | apply Ext.alloc | apply Ext.drew | apply Ext.drewN))) rfl [.int .i64 v.1.id, .int .i64 v.1.term, .bool v.1.speaks, .slice D v.1.log.length K, .int .i64 v.1.acked, .int .i64 v.1.next] rfl rfl (show 6 < 44 by decide) (by kernel_rfl) (nodl_one v.1 D K) ?_; intro W1 ht1 hb1; replace hp9 := hp9.turn ht1 (by omega); replace hq9 := hq9.turn ht1 (by omega)
  refine ⟨⟨fun _ => trivial, fun _ => trivial, hp9, hq9⟩, fun hcl hS => ?_⟩
  clear hp9 hq9
  have hp9 := hS.2.2.1
  have hq9 := hS.2.2.2
  clear hS
  refine wpAnyL_store (i := 6) (by kernel_rfl) rfl rfl hcl 67 (.tmp 5) (.tmp 44) rfl ((k4.mono (by repeat (first | exact Ext.refl _ | assumption | apply Ext.xt | apply Ext.alloc | apply Ext.drew | apply Ext.drewN))).turn ht1 (by omega)) rfl [.int .i64 v.2.1.kind, .int .i64 v.2.1.term, .int .i64 v.2.1.at_, .int .i64 0, .slice none 0 0, .int .i64 0] rfl rfl (show 6 < 44 by decide) (by kernel_rfl) (ansl_one v.2.1) ?_; intro W2 ht2 hb2; replace hp9 := hp9.turn ht2 (by omega); replace hq9 := hq9.turn ht2 (by omega)
  refine ⟨⟨fun _ => trivial, fun _ => trivial, hp9, hq9⟩, fun hcl hS => ?_⟩
  clear hp9 hq9
  refine wpAnyL_only (i := 7) (by kernel_rfl) rfl rfl hcl (fun K9 hK9 => ?_)
  have hp9 := hS.2.2.1
  have hq9 := hS.2.2.2
  clear hS hcl
  go_simp
  refine hK9 _ _ ⟨fun _ => trivial, fun _ => trivial, hp9, hq9⟩ (fun hcl hS => ?_)
  clear hK9 hp9 hq9 K9
  refine wpAnyL_only (i := 8) (by kernel_rfl) rfl rfl hcl (fun K9 hK9 => ?_)
  have hp9 := hS.2.2.1
  have hq9 := hS.2.2.2
  clear hS hcl
  go_simp
  refine hK9 _ _ ⟨fun _ => trivial, fun _ => trivial, hp9, hq9⟩ (fun hcl hS => ?_)
  clear hK9 hp9 hq9 K9
  clear hcl hS
  refine wpAnyL_done (by kernel_rfl) ?_ _
  go_wp2_with fail
  obtain ⟨q0, q1, q2, q3, q4, q5⟩ := (hb1.turn ht2 (by omega)).six
  obtain ⟨r0, r1, r2, r3, r4, r5⟩ := hb2.six
  refine bodyPost_ret (v := .tuple #[.agg #[.int .i64 v.1.id, .int .i64 v.1.term, .bool v.1.speaks, .slice D v.1.log.length K, .int .i64 v.1.acked, .int .i64 v.1.next], .agg #[.int .i64 v.2.1.kind, .int .i64 v.2.1.term, .int .i64 v.2.1.at_, .int .i64 0, .slice none 0 0, .int .i64 0], .bool v.2.2.1, .int .i64 v.2.2.2]) (by simp [results, Tryz.results67, go_sem, hz.out, q0, q1, q2, q3, q4, q5, r0, r1, r2, r3, r4, r5]) rfl ?_
  rw [HR.out]
  exact ⟨D, K, rfl, ht2.ext (ht1.ext (hex.trans (by repeat (first | exact Ext.refl _ | assumption | apply Ext.xt | apply Ext.alloc | apply Ext.drew | apply Ext.drewN))) (by first | (simp [go_sem]; done) | (simp [go_sem]; omega))) (by first | (simp [go_sem]; done) | (simp [go_sem]; omega)), ((hlg.mono (by repeat (first | exact Ext.refl _ | assumption | apply Ext.xt | apply Ext.alloc | apply Ext.drew | apply Ext.drewN))).turn ht1).turn ht2⟩
set_option maxHeartbeats 12800000 in
set_option maxRecDepth 100000 in
theorem rcvd_1_up (hs : RecsAt w A c n.log) (_hm : RecsAt w B d m.recs) (_h256 : n.log.length ≤ 256) (_hrl : m.kind = 0 → m.recs.length ≤ 16) (_ha : 0 ≤ m.at_) (hk : m.kind = 1) (ht : n.term < m.term) : Calls Tryz.prog 67 #[.agg #[.int .i64 n.id, .int .i64 n.term, .bool n.speaks, .slice A n.log.length c, .int .i64 n.acked, .int .i64 n.next], .agg #[.int .i64 1, .int .i64 m.term, .int .i64 m.at_, .int .i64 m.before, .slice B m.recs.length d, .int .i64 m.acked]] (xt w y0) (RetRcvd w (xt w y0) (rcvdV n m)) := by
  have hl := hs.len
  have HS := Lib.hid hs
  have hd1 : decide (m.term < n.term) = false := decide_eq_false (by omega)
  have hd2 : decide (n.term < m.term) = true := decide_eq_true ht
  have h1 : ¬ m.term < n.term := by omega
  have HR := Lib.hid (show rcvdV n m = (⟨n.id, m.term, false, n.log, n.acked, 0⟩, msg0, false, 0) by
    have hi : inTerm n m = ⟨n.id, m.term, false, n.log, n.acked, 0⟩ := by unfold inTerm; rw [if_pos ht]
    unfold rcvdV recdV
    rw [if_neg h1, if_neg h1, hi, if_neg (by omega), if_pos hk]
    rfl)
  clear hs _hm hk _hrl _ha _h256
  go_enter Tryz.func67, Tryz.ntmps67
  go_wp2
  refine bodyPost_ret (v := .tuple #[.agg #[.int .i64 n.id, .int .i64 m.term, .bool false, .slice A n.log.length c, .int .i64 n.acked, .int .i64 0], .agg #[.int .i64 0, .int .i64 0, .int .i64 0, .int .i64 0, .slice none 0 0, .int .i64 0], .bool false, .int .i64 0]) (by simp [results, Tryz.results67, go_sem]) rfl ?_
  exact RetRcvd.old (n := ⟨n.id, m.term, false, n.log, n.acked, 0⟩) HR.out (by repeat (first | exact Ext.refl _ | assumption | apply Ext.xt | apply Ext.alloc | apply Ext.drew | apply Ext.drewN)) HS.out
set_option maxHeartbeats 12800000 in
set_option maxRecDepth 100000 in
theorem rcvd_2_up (hs : RecsAt w A c n.log) (_hm : RecsAt w B d m.recs) (_h256 : n.log.length ≤ 256) (_hrl : m.kind = 0 → m.recs.length ≤ 16) (_ha : 0 ≤ m.at_) (hk : m.kind = 2) (ht : n.term < m.term) : Calls Tryz.prog 67 #[.agg #[.int .i64 n.id, .int .i64 n.term, .bool n.speaks, .slice A n.log.length c, .int .i64 n.acked, .int .i64 n.next], .agg #[.int .i64 2, .int .i64 m.term, .int .i64 m.at_, .int .i64 m.before, .slice B m.recs.length d, .int .i64 m.acked]] (xt w y0) (RetRcvd w (xt w y0) (rcvdV n m)) := by
  have hl := hs.len
  have HS := Lib.hid hs
  have hd1 : decide (m.term < n.term) = false := decide_eq_false (by omega)
  have hd2 : decide (n.term < m.term) = true := decide_eq_true ht
  have h1 : ¬ m.term < n.term := by omega
  have HR := Lib.hid (show rcvdV n m = (⟨n.id, m.term, false, n.log, n.acked, 0⟩, msg0, false, 0) by
    have hi : inTerm n m = ⟨n.id, m.term, false, n.log, n.acked, 0⟩ := by unfold inTerm; rw [if_pos ht]
    unfold rcvdV recdV
    rw [if_neg h1, if_neg h1, hi, if_neg (by omega), if_neg (by omega)]
    rfl)
  clear hs _hm hk _hrl _ha _h256
  go_enter Tryz.func67, Tryz.ntmps67
  go_wp2
  refine bodyPost_ret (v := .tuple #[.agg #[.int .i64 n.id, .int .i64 m.term, .bool false, .slice A n.log.length c, .int .i64 n.acked, .int .i64 0], .agg #[.int .i64 0, .int .i64 0, .int .i64 0, .int .i64 0, .slice none 0 0, .int .i64 0], .bool false, .int .i64 0]) (by simp [results, Tryz.results67, go_sem]) rfl ?_
  exact RetRcvd.old (n := ⟨n.id, m.term, false, n.log, n.acked, 0⟩) HR.out (by repeat (first | exact Ext.refl _ | assumption | apply Ext.xt | apply Ext.alloc | apply Ext.drew | apply Ext.drewN)) HS.out
set_option maxHeartbeats 12800000 in
set_option maxRecDepth 100000 in
theorem rcvd_1_same_n (hs : RecsAt w A c n.log) (_hm : RecsAt w B d m.recs) (_h256 : n.log.length ≤ 256) (_hrl : m.kind = 0 → m.recs.length ≤ 16) (_ha : 0 ≤ m.at_) (hk : m.kind = 1) (ht : n.term = m.term) (hsp : n.speaks = false) : Calls Tryz.prog 67 #[.agg #[.int .i64 n.id, .int .i64 n.term, .bool false, .slice A n.log.length c, .int .i64 n.acked, .int .i64 n.next], .agg #[.int .i64 1, .int .i64 m.term, .int .i64 m.at_, .int .i64 m.before, .slice B m.recs.length d, .int .i64 m.acked]] (xt w y0) (RetRcvd w (xt w y0) (rcvdV n m)) := by
  have hl := hs.len
  have HS := Lib.hid hs
  have hd1 : decide (m.term < n.term) = false := decide_eq_false (by omega)
  have hd2 : decide (n.term < m.term) = false := decide_eq_false (by omega)
  have h1 : ¬ m.term < n.term := by omega
  have h2 : ¬ n.term < m.term := by omega
  have HR := Lib.hid (show rcvdV n m = (⟨n.id, n.term, false, n.log, n.acked, n.next⟩, msg0, false, 0) by
    have hi : inTerm n m = n := inTerm_same ht
    have hf : ackN n m = ⟨n.id, n.term, false, n.log, n.acked, n.next⟩ := by show ackN n m = _; unfold ackN; rw [if_neg (fun h => by rw [hsp] at h; cases h.1), ← hsp]
    unfold rcvdV recdV
    rw [if_neg h1, if_neg h1, hi, if_neg (by omega), if_pos hk, hf])
  clear hs _hm hk _hrl _ha _h256 hsp ht
  go_enter Tryz.func67, Tryz.ntmps67
  go_wp2
  refine bodyPost_ret (v := .tuple #[.agg #[.int .i64 n.id, .int .i64 n.term, .bool false, .slice A n.log.length c, .int .i64 n.acked, .int .i64 n.next], .agg #[.int .i64 0, .int .i64 0, .int .i64 0, .int .i64 0, .slice none 0 0, .int .i64 0], .bool false, .int .i64 0]) (by simp [results, Tryz.results67, go_sem]) rfl ?_
  exact RetRcvd.old (n := ⟨n.id, n.term, false, n.log, n.acked, n.next⟩) HR.out (by repeat (first | exact Ext.refl _ | assumption | apply Ext.xt | apply Ext.alloc | apply Ext.drew | apply Ext.drewN)) HS.out
set_option maxHeartbeats 12800000 in
set_option maxRecDepth 100000 in
theorem rcvd_1_same_s1 (hs : RecsAt w A c n.log) (_hm : RecsAt w B d m.recs) (_h256 : n.log.length ≤ 256) (_hrl : m.kind = 0 → m.recs.length ≤ 16) (_ha : 0 ≤ m.at_) (hk : m.kind = 1) (ht : n.term = m.term) (hsp : n.speaks = true) (hle : m.at_ ≤ n.log.length) : Calls Tryz.prog 67 #[.agg #[.int .i64 n.id, .int .i64 n.term, .bool true, .slice A n.log.length c, .int .i64 n.acked, .int .i64 n.next], .agg #[.int .i64 1, .int .i64 m.term, .int .i64 m.at_, .int .i64 m.before, .slice B m.recs.length d, .int .i64 m.acked]] (xt w y0) (RetRcvd w (xt w y0) (rcvdV n m)) := by
  have hl := hs.len
  have HS := Lib.hid hs
  have hd1 : decide (m.term < n.term) = false := decide_eq_false (by omega)
  have hd2 : decide (n.term < m.term) = false := decide_eq_false (by omega)
  have h1 : ¬ m.term < n.term := by omega
  have h2 : ¬ n.term < m.term := by omega
  have HR := Lib.hid (show rcvdV n m = (⟨n.id, n.term, true, n.log, max n.acked m.at_, max n.next m.at_⟩, msg0, false, 0) by
    have hi : inTerm n m = n := inTerm_same ht
    have hf : ackN n m = ⟨n.id, n.term, true, n.log, max n.acked m.at_, max n.next m.at_⟩ := by show ackN n m = _; unfold ackN; rw [if_pos ⟨hsp, hle⟩, hsp]
    unfold rcvdV recdV
    rw [if_neg h1, if_neg h1, hi, if_neg (by omega), if_pos hk, hf])
  clear hs _hm hk _hrl _ha _h256 hsp ht
  go_enter Tryz.func67, Tryz.ntmps67
  go_wp2
  refine wp_region_L (S := SS 11 13 (fun w' => w'.cell? ⟨w.heap.size + y0.n, 5, none⟩ = some (.int .i64 n.next)) (fun w' => w'.cell? ⟨w.heap.size + y0.n, 4, none⟩ = some (.int .i64 n.acked)) (fun w' => w'.cell? ⟨w.heap.size + y0.n + 1, 2, none⟩ = some (.int .i64 m.at_))) (by kernel_rfl) ⟨fun _ => by simp [go_sem], fun _ => by simp [go_sem], by simp [go_sem]⟩ (fun hcl hS => ?_)
  refine wpAnyL_take (i := 0) (T := (fun _ => True)) (v := ?_) rfl (by kernel_rfl) (by kernel_rfl) (by kernel_rfl) (fun _ _ _ h => h) (fun _ _ _ _ _ => trivial) (SS.up (by decide) (by decide)) (SS.down (by decide) (by decide)) (Or.inl ⟨by rfl, ?_⟩) hcl hS ?_
  rotate_left
  · (intro w' hw'; (try dsimp only at hw'); go_simp; try with_reducible rfl)
  clear hcl hS
  intro hcl hS
  (try simp only [Act.put]); (try simp only [List.setIfInBounds_toArray]); (repeat (first | simp only [List.set_cons_succ] | simp only [List.set_cons_zero]))
  refine wpAnyL_take (i := 1) (T := (fun w' => w'.cell? ⟨w.heap.size + y0.n, 5, none⟩ = some (.int .i64 n.next))) (v := ?_) rfl (by kernel_rfl) (by kernel_rfl) (by kernel_rfl) (fun _ _ _ h => h) (fun _ _ hc hi hS => hS.1 (hc.not (k := 11) (by kernel_rfl) hi)) (SS.up (by decide) (by decide)) (SS.down (by decide) (by decide)) (Or.inl ⟨by rfl, ?_⟩) hcl hS ?_
  rotate_left
  · (intro w' hw'; (try dsimp only at hw'); go_simp; try with_reducible rfl)
  clear hcl hS
  intro hcl hS
  (try simp only [Act.put]); (try simp only [List.setIfInBounds_toArray]); (repeat (first | simp only [List.set_cons_succ] | simp only [List.set_cons_zero]))
  refine wpAnyL_take (i := 2) (T := (fun _ => True)) (v := ?_) rfl (by kernel_rfl) (by kernel_rfl) (by kernel_rfl) (fun _ _ _ h => h) (fun _ _ _ _ _ => trivial) (SS.up (by decide) (by decide)) (SS.down (by decide) (by decide)) (Or.inl ⟨by rfl, ?_⟩) hcl hS ?_
  rotate_left
  · (intro w' hw'; (try dsimp only at hw'); go_simp; try with_reducible rfl)
  clear hcl hS
  intro hcl hS
  (try simp only [Act.put]); (try simp only [List.setIfInBounds_toArray]); (repeat (first | simp only [List.set_cons_succ] | simp only [List.set_cons_zero]))
  refine wpAnyL_take (i := 3) (T := (fun w' => w'.cell? ⟨w.heap.size + y0.n + 1, 2, none⟩ = some (.int .i64 m.at_))) (v := ?_) rfl (by kernel_rfl) (by kernel_rfl) (by kernel_rfl) (fun _ _ _ h => h) (fun _ _ _ _ hS => hS.2.2) (SS.up (by decide) (by decide)) (SS.down (by decide) (by decide)) (Or.inl ⟨by rfl, ?_⟩) hcl hS ?_
  rotate_left
  · (intro w' hw'; (try dsimp only at hw'); go_simp; try with_reducible rfl)
  clear hcl hS
  intro hcl hS
  (try simp only [Act.put]); (try simp only [List.setIfInBounds_toArray]); (repeat (first | simp only [List.set_cons_succ] | simp only [List.set_cons_zero]))
  refine wpAnyL_take (i := 4) (T := (fun _ => True)) (v := ?_) rfl (by kernel_rfl) (by kernel_rfl) (by kernel_rfl) (fun _ _ _ h => h) (fun _ _ _ _ _ => trivial) (SS.up (by decide) (by decide)) (SS.down (by decide) (by decide)) (Or.inl ⟨by rfl, ?_⟩) hcl hS ?_
  rotate_left
  · (intro w' hw'; (try dsimp only at hw'); go_simp; try with_reducible rfl)
  clear hcl hS
  intro hcl hS
  (try simp only [Act.put]); (try simp only [List.setIfInBounds_toArray]); (repeat (first | simp only [List.set_cons_succ] | simp only [List.set_cons_zero]))
  refine wpAnyL_take (i := 5) (T := (fun _ => True)) (v := ?_) rfl (by kernel_rfl) (by kernel_rfl) (by kernel_rfl) (fun _ _ _ h => h) (fun _ _ _ _ _ => trivial) (SS.up (by decide) (by decide)) (SS.down (by decide) (by decide)) (Or.inl ⟨by rfl, ?_⟩) hcl hS ?_
  rotate_left
  · (intro w' hw'; (try dsimp only at hw'); go_simp; try with_reducible rfl)
  clear hcl hS
  intro hcl hS
  (try simp only [Act.put]); (try simp only [List.setIfInBounds_toArray]); (repeat (first | simp only [List.set_cons_succ] | simp only [List.set_cons_zero]))
  refine wpAnyL_take (i := 6) (T := (fun w' => w'.cell? ⟨w.heap.size + y0.n, 4, none⟩ = some (.int .i64 n.acked))) (v := ?_) rfl (by kernel_rfl) (by kernel_rfl) (by kernel_rfl) (fun _ _ _ h => h) (fun _ _ hc hi hS => hS.2.1 (hc.not (k := 13) (by kernel_rfl) hi)) (SS.up (by decide) (by decide)) (SS.down (by decide) (by decide)) (Or.inl ⟨by rfl, ?_⟩) hcl hS ?_
  rotate_left
  · (intro w' hw'; (try dsimp only at hw'); go_simp; try with_reducible rfl)
  clear hcl hS
  intro hcl hS
  (try simp only [Act.put]); (try simp only [List.setIfInBounds_toArray]); (repeat (first | simp only [List.set_cons_succ] | simp only [List.set_cons_zero]))
  refine wpAnyL_take (i := 7) (T := (fun _ => True)) (v := ?_) rfl (by kernel_rfl) (by kernel_rfl) (by kernel_rfl) (fun _ _ _ h => h) (fun _ _ _ _ _ => trivial) (SS.up (by decide) (by decide)) (SS.down (by decide) (by decide)) (Or.inl ⟨by rfl, ?_⟩) hcl hS ?_
  rotate_left
  · (intro w' hw'; (try dsimp only at hw'); go_simp; try with_reducible rfl)
  clear hcl hS
  intro hcl hS
  (try simp only [Act.put]); (try simp only [List.setIfInBounds_toArray]); (repeat (first | simp only [List.set_cons_succ] | simp only [List.set_cons_zero]))
  refine wpAnyL_take (i := 8) (T := (fun w' => w'.cell? ⟨w.heap.size + y0.n + 1, 2, none⟩ = some (.int .i64 m.at_))) (v := ?_) rfl (by kernel_rfl) (by kernel_rfl) (by kernel_rfl) (fun _ _ _ h => h) (fun _ _ _ _ hS => hS.2.2) (SS.up (by decide) (by decide)) (SS.down (by decide) (by decide)) (Or.inl ⟨by rfl, ?_⟩) hcl hS ?_
  rotate_left
  · (intro w' hw'; (try dsimp only at hw'); go_simp; try with_reducible rfl)
  clear hcl hS
  intro hcl hS
  (try simp only [Act.put]); (try simp only [List.setIfInBounds_toArray]); (repeat (first | simp only [List.set_cons_succ] | simp only [List.set_cons_zero]))
  refine wpAnyL_take (i := 9) (T := (fun _ => True)) (v := ?_) rfl (by kernel_rfl) (by kernel_rfl) (by kernel_rfl) (fun _ _ _ h => h) (fun _ _ _ _ _ => trivial) (SS.up (by decide) (by decide)) (SS.down (by decide) (by decide)) (Or.inl ⟨by rfl, ?_⟩) hcl hS ?_
  rotate_left
  · (intro w' hw'; (try dsimp only at hw'); go_simp; try with_reducible rfl)
  clear hcl hS
  intro hcl hS
  (try simp only [Act.put]); (try simp only [List.setIfInBounds_toArray]); (repeat (first | simp only [List.set_cons_succ] | simp only [List.set_cons_zero]))
  refine wpAnyL_take (i := 10) (T := (fun _ => True)) (v := ?_) rfl (by kernel_rfl) (by kernel_rfl) (by kernel_rfl) (fun _ _ _ h => h) (fun _ _ _ _ _ => trivial) (SS.up (by decide) (by decide)) (SS.down (by decide) (by decide)) (Or.inl ⟨by rfl, ?_⟩) hcl hS ?_
  rotate_left
  · (intro w' hw'; (try dsimp only at hw'); go_simp; try with_reducible rfl)
  clear hcl hS
  intro hcl hS
  (try simp only [Act.put]); (try simp only [List.setIfInBounds_toArray]); (repeat (first | simp only [List.set_cons_succ] | simp only [List.set_cons_zero]))
  refine wpAnyL_only (i := 11) (by kernel_rfl) rfl rfl hcl (fun K hK => ?_)
  go_simp
  clear hS hcl
  refine hK _ _ ⟨fun hh => absurd hh (by decide), fun _ => by simp [go_sem], by simp [go_sem]⟩ (fun hcl hS => ?_)
  clear hK
  refine wpAnyL_take (i := 12) (T := (fun _ => True)) (v := ?_) rfl (by kernel_rfl) (by kernel_rfl) (by kernel_rfl) (fun _ _ _ h => h) (fun _ _ _ _ _ => trivial) (SS.up (by decide) (by decide)) (SS.down (by decide) (by decide)) (Or.inl ⟨by rfl, ?_⟩) hcl hS ?_
  rotate_left
  · (intro w' hw'; (try dsimp only at hw'); go_simp; try with_reducible rfl)
  clear hcl hS
  intro hcl hS
  (try simp only [Act.put]); (try simp only [List.setIfInBounds_toArray]); (repeat (first | simp only [List.set_cons_succ] | simp only [List.set_cons_zero]))
  refine wpAnyL_only (i := 13) (by kernel_rfl) rfl rfl hcl (fun K hK => ?_)
  go_simp
  clear hS hcl
  refine hK _ _ ⟨fun hh => absurd hh (by decide), fun hh => absurd hh (by decide), by simp [go_sem]⟩ (fun hcl hS => ?_)
  clear hK hcl hS
  refine wpAnyL_done (by kernel_rfl) ?_ _
  go_wp2_with fail
  refine bodyPost_ret (v := .tuple #[.agg #[.int .i64 n.id, .int .i64 n.term, .bool true, .slice A n.log.length c, .int .i64 (max n.acked m.at_), .int .i64 (max n.next m.at_)], .agg #[.int .i64 0, .int .i64 0, .int .i64 0, .int .i64 0, .slice none 0 0, .int .i64 0], .bool false, .int .i64 0]) (by simp [results, Tryz.results67, go_sem]) rfl ?_
  exact RetRcvd.old (n := ⟨n.id, n.term, true, n.log, max n.acked m.at_, max n.next m.at_⟩) HR.out (by repeat (first | exact Ext.refl _ | assumption | apply Ext.xt | apply Ext.alloc | apply Ext.drew | apply Ext.drewN)) HS.out
set_option maxHeartbeats 12800000 in
set_option maxRecDepth 100000 in
theorem rcvd_1_same_s0 (hs : RecsAt w A c n.log) (_hm : RecsAt w B d m.recs) (_h256 : n.log.length ≤ 256) (_hrl : m.kind = 0 → m.recs.length ≤ 16) (_ha : 0 ≤ m.at_) (hk : m.kind = 1) (ht : n.term = m.term) (hsp : n.speaks = true) (hle : ¬ m.at_ ≤ n.log.length) : Calls Tryz.prog 67 #[.agg #[.int .i64 n.id, .int .i64 n.term, .bool true, .slice A n.log.length c, .int .i64 n.acked, .int .i64 n.next], .agg #[.int .i64 1, .int .i64 m.term, .int .i64 m.at_, .int .i64 m.before, .slice B m.recs.length d, .int .i64 m.acked]] (xt w y0) (RetRcvd w (xt w y0) (rcvdV n m)) := by
  have hl := hs.len
  have HS := Lib.hid hs
  have hd1 : decide (m.term < n.term) = false := decide_eq_false (by omega)
  have hd2 : decide (n.term < m.term) = false := decide_eq_false (by omega)
  have h1 : ¬ m.term < n.term := by omega
  have h2 : ¬ n.term < m.term := by omega
  have HR := Lib.hid (show rcvdV n m = (⟨n.id, n.term, true, n.log, n.acked, n.next⟩, msg0, false, 0) by
    have hi : inTerm n m = n := inTerm_same ht
    have hf : ackN n m = ⟨n.id, n.term, true, n.log, n.acked, n.next⟩ := by show ackN n m = _; unfold ackN; rw [if_neg (fun h => hle h.2), ← hsp]
    unfold rcvdV recdV
    rw [if_neg h1, if_neg h1, hi, if_neg (by omega), if_pos hk, hf])
  clear hs _hm hk _hrl _ha _h256 hsp ht
  go_enter Tryz.func67, Tryz.ntmps67
  go_wp2
  refine bodyPost_ret (v := .tuple #[.agg #[.int .i64 n.id, .int .i64 n.term, .bool true, .slice A n.log.length c, .int .i64 n.acked, .int .i64 n.next], .agg #[.int .i64 0, .int .i64 0, .int .i64 0, .int .i64 0, .slice none 0 0, .int .i64 0], .bool false, .int .i64 0]) (by simp [results, Tryz.results67, go_sem]) rfl ?_
  exact RetRcvd.old (n := ⟨n.id, n.term, true, n.log, n.acked, n.next⟩) HR.out (by repeat (first | exact Ext.refl _ | assumption | apply Ext.xt | apply Ext.alloc | apply Ext.drew | apply Ext.drewN)) HS.out
set_option maxHeartbeats 12800000 in
set_option maxRecDepth 100000 in
theorem rcvd_2_same_n (hs : RecsAt w A c n.log) (_hm : RecsAt w B d m.recs) (_h256 : n.log.length ≤ 256) (_hrl : m.kind = 0 → m.recs.length ≤ 16) (_ha : 0 ≤ m.at_) (hk : m.kind = 2) (ht : n.term = m.term) (hsp : n.speaks = false) : Calls Tryz.prog 67 #[.agg #[.int .i64 n.id, .int .i64 n.term, .bool false, .slice A n.log.length c, .int .i64 n.acked, .int .i64 n.next], .agg #[.int .i64 2, .int .i64 m.term, .int .i64 m.at_, .int .i64 m.before, .slice B m.recs.length d, .int .i64 m.acked]] (xt w y0) (RetRcvd w (xt w y0) (rcvdV n m)) := by
  have hl := hs.len
  have HS := Lib.hid hs
  have hd1 : decide (m.term < n.term) = false := decide_eq_false (by omega)
  have hd2 : decide (n.term < m.term) = false := decide_eq_false (by omega)
  have h1 : ¬ m.term < n.term := by omega
  have h2 : ¬ n.term < m.term := by omega
  have HR := Lib.hid (show rcvdV n m = (⟨n.id, n.term, false, n.log, n.acked, n.next⟩, msg0, false, 0) by
    have hi : inTerm n m = n := inTerm_same ht
    have hf : refuseN n m = ⟨n.id, n.term, false, n.log, n.acked, n.next⟩ := by show refuseN n m = _; unfold refuseN; rw [if_neg (by rw [hsp]; simp), ← hsp]
    unfold rcvdV recdV
    rw [if_neg h1, if_neg h1, hi, if_neg (by omega), if_neg (by omega), hf])
  clear hs _hm hk _hrl _ha _h256 hsp ht
  go_enter Tryz.func67, Tryz.ntmps67
  go_wp2
  refine bodyPost_ret (v := .tuple #[.agg #[.int .i64 n.id, .int .i64 n.term, .bool false, .slice A n.log.length c, .int .i64 n.acked, .int .i64 n.next], .agg #[.int .i64 0, .int .i64 0, .int .i64 0, .int .i64 0, .slice none 0 0, .int .i64 0], .bool false, .int .i64 0]) (by simp [results, Tryz.results67, go_sem]) rfl ?_
  exact RetRcvd.old (n := ⟨n.id, n.term, false, n.log, n.acked, n.next⟩) HR.out (by repeat (first | exact Ext.refl _ | assumption | apply Ext.xt | apply Ext.alloc | apply Ext.drew | apply Ext.drewN)) HS.out
set_option maxHeartbeats 12800000 in
set_option maxRecDepth 100000 in
theorem rcvd_2_same_s (hs : RecsAt w A c n.log) (_hm : RecsAt w B d m.recs) (_h256 : n.log.length ≤ 256) (_hrl : m.kind = 0 → m.recs.length ≤ 16) (_ha : 0 ≤ m.at_) (hk : m.kind = 2) (ht : n.term = m.term) (hsp : n.speaks = true) : Calls Tryz.prog 67 #[.agg #[.int .i64 n.id, .int .i64 n.term, .bool true, .slice A n.log.length c, .int .i64 n.acked, .int .i64 n.next], .agg #[.int .i64 2, .int .i64 m.term, .int .i64 m.at_, .int .i64 m.before, .slice B m.recs.length d, .int .i64 m.acked]] (xt w y0) (RetRcvd w (xt w y0) (rcvdV n m)) := by
  have hl := hs.len
  have HS := Lib.hid hs
  have hd1 : decide (m.term < n.term) = false := decide_eq_false (by omega)
  have hd2 : decide (n.term < m.term) = false := decide_eq_false (by omega)
  have h1 : ¬ m.term < n.term := by omega
  have h2 : ¬ n.term < m.term := by omega
  have HR := Lib.hid (show rcvdV n m = (⟨n.id, n.term, true, n.log, n.acked, max (min n.next m.at_) n.acked⟩, msg0, false, 0) by
    have hi : inTerm n m = n := inTerm_same ht
    have hf : refuseN n m = ⟨n.id, n.term, true, n.log, n.acked, max (min n.next m.at_) n.acked⟩ := by show refuseN n m = _; unfold refuseN; rw [if_pos hsp, hsp]
    unfold rcvdV recdV
    rw [if_neg h1, if_neg h1, hi, if_neg (by omega), if_neg (by omega), hf])
  clear hs _hm hk _hrl _ha _h256 hsp ht
  go_enter Tryz.func67, Tryz.ntmps67
  go_wp2
  refine bodyPost_ret (v := .tuple #[.agg #[.int .i64 n.id, .int .i64 n.term, .bool true, .slice A n.log.length c, .int .i64 n.acked, .int .i64 (max (min n.next m.at_) n.acked)], .agg #[.int .i64 0, .int .i64 0, .int .i64 0, .int .i64 0, .slice none 0 0, .int .i64 0], .bool false, .int .i64 0]) (by simp [results, Tryz.results67, go_sem]) rfl ?_
  exact RetRcvd.old (n := ⟨n.id, n.term, true, n.log, n.acked, max (min n.next m.at_) n.acked⟩) HR.out (by repeat (first | exact Ext.refl _ | assumption | apply Ext.xt | apply Ext.alloc | apply Ext.drew | apply Ext.drewN)) HS.out
end
theorem r54_Received (n : Nod) (A : Option Addr) (c : Nat) (m : Msg) (B : Option Addr) (d : Nat) (w W : World) (hx : Ext w W) (hs : RecsAt w A c n.log) (hm : RecsAt w B d m.recs) (h256 : n.log.length ≤ 256) (hok : MsgOk m) :
    Calls Tryz.prog 67 #[.agg #[.int .i64 n.id, .int .i64 n.term, .bool n.speaks, .slice A n.log.length c, .int .i64 n.acked, .int .i64 n.next], .agg #[.int .i64 m.kind, .int .i64 m.term, .int .i64 m.at_, .int .i64 m.before, .slice B m.recs.length d, .int .i64 m.acked]] W (RetRcvd w W (rcvdV n m)) := by
  obtain ⟨y0, rfl⟩ := hx.get
  have ha := hok.at0
  have hrl : m.kind = 0 → m.recs.length ≤ 16 := fun h => (hok.app h).len
  have k0 := hok.k0; have k1 := hok.k1
  by_cases ht : m.term < n.term
  · exact rcvd_old n A c m B d w y0 hs hm h256 hrl ha m.kind rfl ht
  · have hk : m.kind = 0 ∨ m.kind = 1 ∨ m.kind = 2 := by omega
    by_cases he : n.term = m.term
    · rcases hk with hk | hk | hk <;> rw [hk]
      · exact rcvd_0_same n A c m B d w y0 hs hm h256 hrl ha hk he
      · obtain ⟨s, hsp⟩ : ∃ s, n.speaks = s := ⟨_, rfl⟩
        rw [hsp]
        cases s with
        | false => exact rcvd_1_same_n n A c m B d w y0 hs hm h256 hrl ha hk he hsp
        | true =>
          by_cases hle : m.at_ ≤ n.log.length
          · exact rcvd_1_same_s1 n A c m B d w y0 hs hm h256 hrl ha hk he hsp hle
          · exact rcvd_1_same_s0 n A c m B d w y0 hs hm h256 hrl ha hk he hsp hle
      · obtain ⟨s, hsp⟩ : ∃ s, n.speaks = s := ⟨_, rfl⟩
        rw [hsp]
        cases s with
        | false => exact rcvd_2_same_n n A c m B d w y0 hs hm h256 hrl ha hk he hsp
        | true => exact rcvd_2_same_s n A c m B d w y0 hs hm h256 hrl ha hk he hsp
    · have hl : n.term < m.term := by omega
      rcases hk with hk | hk | hk <;> rw [hk]
      · exact rcvd_0_up n A c m B d w y0 hs hm h256 hrl ha hk hl
      · exact rcvd_1_up n A c m B d w y0 hs hm h256 hrl ha hk hl
      · exact rcvd_2_up n A c m B d w y0 hs hm h256 hrl ha hk hl
end Go.Proofs.YtlpboikonnpjbaaGreat

/-
  Chapter 54, the reference: Receive.
-/
namespace Go.Proofs.YtlpboikonnpjbaaGreat
open Go.RowKit

theorem rcvd_recd (n : Nod) (m : Msg) : (rcvdV n m).2.2.2 = (recdV n m).2.2.2 ∧ (rcvdV n m).1 = (recdV n m).1 ∧ (rcvdV n m).2.2.1 = (recdV n m).2.2.1 ∧ ((recdV n m).2.2.1 = true → (rcvdV n m).2.1 = (recdV n m).2.1) ∧ ((recdV n m).2.2.1 = false → (recdV n m).2.2.2 = 0 → (recdV n m).2.1 = msg0) := by
  unfold rcvdV
  by_cases ht : m.term < n.term
  · unfold recdV
    rw [if_pos ht, if_pos ht]
    by_cases hk : m.kind = 0
    · rw [if_pos hk]
      refine ⟨rfl, rfl, ?_, fun _ => rfl, (fun h => by cases h)⟩
      simpa using hk
    · rw [if_neg hk]
      refine ⟨rfl, rfl, ?_, (fun h => by cases h), fun _ _ => rfl⟩
      simpa using hk
  · rw [if_neg ht]
    refine ⟨rfl, rfl, rfl, fun _ => rfl, ?_⟩
    unfold recdV
    rw [if_neg ht]
    by_cases hk : m.kind = 0
    · rw [if_pos hk]
      intro h1 h2
      have := takeV_is (inTerm n m) m
      rw [h1, h2] at this
      cases this
    · rw [if_neg hk]
      split <;> exact fun _ _ => rfl
theorem r54_Received_as (n : Nod) (A : Option Addr) (c : Nat) (m : Msg) (B : Option Addr) (d : Nat) (w W : World) (hx : Ext w W) (hs : RecsAt w A c n.log) (hm : RecsAt w B d m.recs) (h256 : n.log.length ≤ 256) (hok : MsgOk m) (v : Nod × Msg × Bool × Int) (hv : rcvdV n m = v) (b : Bool) (hb : v.2.2.1 = b) :
    Calls Tryz.prog 67 #[.agg #[.int .i64 n.id, .int .i64 n.term, .bool n.speaks, .slice A n.log.length c, .int .i64 n.acked, .int .i64 n.next], .agg #[.int .i64 m.kind, .int .i64 m.term, .int .i64 m.at_, .int .i64 m.before, .slice B m.recs.length d, .int .i64 m.acked]] W fun e w' => ∃ D K, e = .returned (.tuple #[.agg #[.int .i64 v.1.id, .int .i64 v.1.term, .bool v.1.speaks, .slice D v.1.log.length K, .int .i64 v.1.acked, .int .i64 v.1.next], .agg #[.int .i64 v.2.1.kind, .int .i64 v.2.1.term, .int .i64 v.2.1.at_, .int .i64 0, .slice none 0 0, .int .i64 0], .bool b, .int .i64 v.2.2.2]) ∧ Ext W w' ∧ LogQ w W w' D v.1.log.length K v.1.log := by
  subst hv hb
  exact r54_Received n A c m B d w W hx hs hm h256 hok
section
variable (n : Nod) (A : Option Addr) (c : Nat) (m : Msg) (B : Option Addr) (d : Nat) (w : World)
set_option maxHeartbeats 3200000 in
set_option maxRecDepth 100000 in
theorem qReceive_wrong (hs : RecsAt w A c n.log) (hm : RecsAt w B d m.recs) (h : nodE n ≠ 0 ∨ msgE m ≠ 0) : Calls Tryz.prog 22 #[.agg #[.int .i64 n.id, .int .i64 n.term, .bool n.speaks, .slice A n.log.length c, .int .i64 n.acked, .int .i64 n.next], .agg #[.int .i64 m.kind, .int .i64 m.term, .int .i64 m.at_, .int .i64 m.before, .slice B m.recs.length d, .int .i64 m.acked]] w (RetRcvd w w (recvV n m)) := by
  have HS := Lib.hid hs
  have HM := Lib.hid hm
  clear hs hm
  by_cases h1 : nodE n = 0
  · have h2 : msgE m ≠ 0 := by rcases h with h | h; exact absurd h1 h; exact h
    have HR := Lib.hid (recvV_b h1 h2)
    have hz : (nodE n != 0) = false := by simpa using h1
    have hz2 : (msgE m != 0) = true := by simpa using h2
    clear h h1 h2
    go_enter Tryz.func22, Tryz.ntmps22
    go_wp2_with (first | (go_at_call 27; refine (r54_Check n A c _ (HS.out.mono (by repeat (first | exact Ext.refl _ | assumption | apply Ext.xt | apply Ext.alloc | apply Ext.drew | apply Ext.drewN)))).mono ?_; rintro e w' ⟨rfl, hx⟩; obtain ⟨y, rfl⟩ := hx.get; clear hx) | (go_at_call 28; refine (r54_Right m B d _ (HM.out.mono (by repeat (first | exact Ext.refl _ | assumption | apply Ext.xt | apply Ext.alloc | apply Ext.drew | apply Ext.drewN)))).mono ?_; rintro e w' ⟨rfl, hx⟩; obtain ⟨y, rfl⟩ := hx.get; clear hx))
    exact bodyPost_ret (v := .tuple #[.agg #[.int .i64 0, .int .i64 0, .bool false, .slice none 0 0, .int .i64 0, .int .i64 0], .agg #[.int .i64 0, .int .i64 0, .int .i64 0, .int .i64 0, .slice none 0 0, .int .i64 0], .bool false, .int .i64 (msgE m)]) (by simp [results, Tryz.results22, go_sem]) rfl (RetRcvd.err HR.out (by repeat (first | exact Ext.refl _ | assumption | apply Ext.xt | apply Ext.alloc | apply Ext.drew | apply Ext.drewN)))
  · have HR := Lib.hid (recvV_a (m := m) h1)
    have hz : (nodE n != 0) = true := by simpa using h1
    clear h h1
    go_enter Tryz.func22, Tryz.ntmps22
    go_wp2_with (go_at_call 27; refine (r54_Check n A c _ (HS.out.mono (by repeat (first | exact Ext.refl _ | assumption | apply Ext.xt | apply Ext.alloc | apply Ext.drew | apply Ext.drewN)))).mono ?_; rintro e w' ⟨rfl, hx⟩; obtain ⟨y, rfl⟩ := hx.get; clear hx)
    exact bodyPost_ret (v := .tuple #[.agg #[.int .i64 0, .int .i64 0, .bool false, .slice none 0 0, .int .i64 0, .int .i64 0], .agg #[.int .i64 0, .int .i64 0, .int .i64 0, .int .i64 0, .slice none 0 0, .int .i64 0], .bool false, .int .i64 (nodE n)]) (by simp [results, Tryz.results22, go_sem]) rfl (RetRcvd.err HR.out (by repeat (first | exact Ext.refl _ | assumption | apply Ext.xt | apply Ext.alloc | apply Ext.drew | apply Ext.drewN)))
set_option maxHeartbeats 3200000 in
set_option maxRecDepth 100000 in
theorem qReceive_own (hs : RecsAt w A c n.log) (hm : RecsAt w B d m.recs) (h1 : nodE n = 0) (h2 : msgE m = 0) (h3 : m.kind = 0 ∧ ownB n.id m.term = true) : Calls Tryz.prog 22 #[.agg #[.int .i64 n.id, .int .i64 n.term, .bool n.speaks, .slice A n.log.length c, .int .i64 n.acked, .int .i64 n.next], .agg #[.int .i64 m.kind, .int .i64 m.term, .int .i64 m.at_, .int .i64 m.before, .slice B m.recs.length d, .int .i64 m.acked]] w (RetRcvd w w (recvV n m)) := by
  have HS := Lib.hid hs
  have HM := Lib.hid hm
  have hn := (nodE_iff n).1 h1
  have hk := (msgE_iff m).1 h2
  have i1 := hn.id1; have i2 := hn.id2; have i3 := hk.t0
  have i5 : 0 ≤ m.term := by omega
  have hz : (nodE n != 0) = false := by simpa using h1
  have hz2 : (msgE m != 0) = false := by simpa using h2
  have hz0 : (m.kind == 0) = true := by simpa using h3.1
  have HO := Lib.hid h3.2
  have HR := Lib.hid (recvV_c h1 h2 h3)
  clear hs hm h1 h2 h3 hn hk
  go_enter Tryz.func22, Tryz.ntmps22
  go_wp2_with (first | (go_at_call 27; refine (r54_Check n A c _ (HS.out.mono (by repeat (first | exact Ext.refl _ | assumption | apply Ext.xt | apply Ext.alloc | apply Ext.drew | apply Ext.drewN)))).mono ?_; rintro e w' ⟨rfl, hx⟩; obtain ⟨y, rfl⟩ := hx.get; clear hx) | (go_at_call 28; refine (r54_Right m B d _ (HM.out.mono (by repeat (first | exact Ext.refl _ | assumption | apply Ext.xt | apply Ext.alloc | apply Ext.drew | apply Ext.drewN)))).mono ?_; rintro e w' ⟨rfl, hx⟩; obtain ⟨y, rfl⟩ := hx.get; clear hx) | (go_at_call 66; refine (r54_Own _ _ _ i1 i2 i5).mono ?_; rintro e w' ⟨he, rfl⟩; rw [HO.out] at he; subst he))
  exact bodyPost_ret (v := .tuple #[.agg #[.int .i64 0, .int .i64 0, .bool false, .slice none 0 0, .int .i64 0, .int .i64 0], .agg #[.int .i64 0, .int .i64 0, .int .i64 0, .int .i64 0, .slice none 0 0, .int .i64 0], .bool false, .int .i64 11]) (by simp [results, Tryz.results22, go_sem]) rfl (RetRcvd.err HR.out (by repeat (first | exact Ext.refl _ | assumption | apply Ext.xt | apply Ext.alloc | apply Ext.drew | apply Ext.drewN)))
set_option maxHeartbeats 6400000 in
set_option maxRecDepth 100000 in
theorem qReceive_app0 (hs : RecsAt w A c n.log) (hm : RecsAt w B d m.recs) (h1 : nodE n = 0) (h2 : msgE m = 0) (hz0 : (m.kind == 0) = true) (ho : ownB n.id m.term = false) (h4 : (recdV n m).2.2.2 ≠ 0) : Calls Tryz.prog 22 #[.agg #[.int .i64 n.id, .int .i64 n.term, .bool n.speaks, .slice A n.log.length c, .int .i64 n.acked, .int .i64 n.next], .agg #[.int .i64 m.kind, .int .i64 m.term, .int .i64 m.at_, .int .i64 m.before, .slice B m.recs.length d, .int .i64 m.acked]] w (RetRcvd w w (recvV n m)) := by
  have HS := Lib.hid hs
  have HM := Lib.hid hm
  have hn := (nodE_iff n).1 h1
  have hk := (msgE_iff m).1 h2
  have h256 := hn.len
  have i1 := hn.id1; have i2 := hn.id2; have i3 := hk.t0
  have i5 : 0 ≤ m.term := by omega
  have hz : (nodE n != 0) = false := by simpa using h1
  have hz2 : (msgE m != 0) = false := by simpa using h2
  have HO := Lib.hid ho
  have h3 : ¬ (m.kind = 0 ∧ ownB n.id m.term = true) := by rw [ho]; simp
  obtain ⟨q1, q2, q3, q4, q5⟩ := rcvd_recd n m
  obtain ⟨v, hv⟩ : ∃ v, rcvdV n m = v := ⟨_, rfl⟩
  obtain ⟨u, hu⟩ : ∃ u, recdV n m = u := ⟨_, rfl⟩
  rw [hu] at h4
  rw [hu, hv] at q1 q2 q3 q4
  rw [hu] at q5
  have HC := Lib.hid (fun (W : World) (hx : Ext w W) => r54_Received_as n A c m B d w W hx hs hm h256 hk v hv _ rfl)
  have hz4 : (v.2.2.2 != 0) = true := by rw [q1]; simpa using h4
  have HR := Lib.hid (recvV_d h1 h2 h3 hu h4)
  have H4 := Lib.hid h4
  have Q1 := Lib.hid q1
  have Q2 := Lib.hid q2
  skip
  skip
  clear hs hm h1 h2 h3 hn hk hv hu h4 q1 q2 q3 q4 q5 ho
  go_enter Tryz.func22, Tryz.ntmps22
  go_wp2_with (first | (go_at_call 27; refine (r54_Check n A c _ (HS.out.mono (by repeat (first | exact Ext.refl _ | assumption | apply Ext.xt | apply Ext.alloc | apply Ext.drew | apply Ext.drewN)))).mono ?_; rintro e w' ⟨rfl, hx⟩; obtain ⟨y, rfl⟩ := hx.get; clear hx) | (go_at_call 28; refine (r54_Right m B d _ (HM.out.mono (by repeat (first | exact Ext.refl _ | assumption | apply Ext.xt | apply Ext.alloc | apply Ext.drew | apply Ext.drewN)))).mono ?_; rintro e w' ⟨rfl, hx⟩; obtain ⟨y, rfl⟩ := hx.get; clear hx) | (go_at_call 66; refine (r54_Own _ _ _ i1 i2 i5).mono ?_; rintro e w' ⟨he, rfl⟩; rw [HO.out] at he; subst he) | (go_at_call 67; refine (HC.out _ (by repeat (first | exact Ext.refl _ | assumption | apply Ext.xt | apply Ext.alloc | apply Ext.drew | apply Ext.drewN))).mono ?_; rintro e w' ⟨D, K, rfl, hx, hr⟩; have HRR := Lib.hid hr; obtain ⟨y9, rfl⟩ := hx.get; clear hx hr))
  exact bodyPost_ret (v := .tuple #[.agg #[.int .i64 0, .int .i64 0, .bool false, .slice none 0 0, .int .i64 0, .int .i64 0], .agg #[.int .i64 0, .int .i64 0, .int .i64 0, .int .i64 0, .slice none 0 0, .int .i64 0], .bool false, .int .i64 v.2.2.2]) (by simp [results, Tryz.results22, go_sem]) rfl (RetRcvd.err (by rw [Q1.out]; exact HR.out) (by repeat (first | exact Ext.refl _ | assumption | apply Ext.xt | apply Ext.alloc | apply Ext.drew | apply Ext.drewN)))
set_option maxHeartbeats 6400000 in
set_option maxRecDepth 100000 in
theorem qReceive_app10 (hs : RecsAt w A c n.log) (hm : RecsAt w B d m.recs) (h1 : nodE n = 0) (h2 : msgE m = 0) (hz0 : (m.kind == 0) = true) (ho : ownB n.id m.term = false) (h4 : (recdV n m).2.2.2 = 0) (h5 : (recdV n m).2.2.1 = false) : Calls Tryz.prog 22 #[.agg #[.int .i64 n.id, .int .i64 n.term, .bool n.speaks, .slice A n.log.length c, .int .i64 n.acked, .int .i64 n.next], .agg #[.int .i64 m.kind, .int .i64 m.term, .int .i64 m.at_, .int .i64 m.before, .slice B m.recs.length d, .int .i64 m.acked]] w (RetRcvd w w (recvV n m)) := by
  have HS := Lib.hid hs
  have HM := Lib.hid hm
  have hn := (nodE_iff n).1 h1
  have hk := (msgE_iff m).1 h2
  have h256 := hn.len
  have i1 := hn.id1; have i2 := hn.id2; have i3 := hk.t0
  have i5 : 0 ≤ m.term := by omega
  have hz : (nodE n != 0) = false := by simpa using h1
  have hz2 : (msgE m != 0) = false := by simpa using h2
  have HO := Lib.hid ho
  have h3 : ¬ (m.kind = 0 ∧ ownB n.id m.term = true) := by rw [ho]; simp
  obtain ⟨q1, q2, q3, q4, q5⟩ := rcvd_recd n m
  obtain ⟨v, hv⟩ : ∃ v, rcvdV n m = v := ⟨_, rfl⟩
  obtain ⟨u, hu⟩ : ∃ u, recdV n m = u := ⟨_, rfl⟩
  rw [hu] at h4 h5
  rw [hu, hv] at q1 q2 q3 q4
  rw [hu] at q5
  have HC := Lib.hid (fun (W : World) (hx : Ext w W) => r54_Received_as n A c m B d w W hx hs hm h256 hk v hv false (by rw [q3]; exact h5))
  have hz4 : (v.2.2.2 != 0) = false := by rw [q1]; simpa using h4
  have HR := Lib.hid (recvV_e h1 h2 h3 hu h4)
  have H4 := Lib.hid h4
  have Q1 := Lib.hid q1
  have Q2 := Lib.hid q2
  have Q5 := Lib.hid (q5 h5 h4)
  have H5 := Lib.hid h5
  clear hs hm h1 h2 h3 hn hk hv hu h4 q1 q2 q3 q4 q5 h5 ho
  go_enter Tryz.func22, Tryz.ntmps22
  go_wp2_with (first | (go_at_call 27; refine (r54_Check n A c _ (HS.out.mono (by repeat (first | exact Ext.refl _ | assumption | apply Ext.xt | apply Ext.alloc | apply Ext.drew | apply Ext.drewN)))).mono ?_; rintro e w' ⟨rfl, hx⟩; obtain ⟨ya, rfl⟩ := hx.get; clear hx) | (go_at_call 28; refine (r54_Right m B d _ (HM.out.mono (by repeat (first | exact Ext.refl _ | assumption | apply Ext.xt | apply Ext.alloc | apply Ext.drew | apply Ext.drewN)))).mono ?_; rintro e w' ⟨rfl, hx⟩; obtain ⟨yb, rfl⟩ := hx.get; clear hx) | (go_at_call 66; refine (r54_Own _ _ _ i1 i2 i5).mono ?_; rintro e w' ⟨he, rfl⟩; rw [HO.out] at he; subst he) | (go_at_call 67; refine (HC.out _ (by repeat (first | exact Ext.refl _ | assumption | apply Ext.xt | apply Ext.alloc | apply Ext.drew | apply Ext.drewN))).mono ?_; rintro e w' ⟨D, K, rfl, hx, hr⟩; have HRR := Lib.hid hr; obtain ⟨y9, rfl⟩ := hx.get; clear hx hr))
  refine wp_name (fun W9 hW9 => ?_)
  have k8 : BoxAt W9 (w.heap.size + 1 + 1 + 1 + 1 + ya.n + yb.n + y9.n) [.int .i64 v.1.id, .int .i64 v.1.term, .bool v.1.speaks, .slice D v.1.log.length K, .int .i64 v.1.acked, .int .i64 v.1.next] 65 := by rw [hW9]; exact (by repeat (first | exact BoxAt.new (by first | rfl | (simp [go_sem]; done) | (simp [go_sem]; omega)) _ _ | apply BoxAt.xt | apply BoxAt.drew | apply BoxAt.drewN | apply BoxAt.alloc))
  have k9 : BoxAt W9 (w.heap.size + 1 + 1 + 1 + 1 + ya.n + yb.n + y9.n + 1) [.int .i64 0, .int .i64 0, .int .i64 0, .int .i64 0, .slice none 0 0, .int .i64 0] 67 := by rw [hW9]; exact (by repeat (first | exact BoxAt.new (by first | rfl | (simp [go_sem]; done) | (simp [go_sem]; omega)) _ _ | apply BoxAt.xt | apply BoxAt.drew | apply BoxAt.drewN | apply BoxAt.alloc))
  have k3 : BoxAt W9 (w.heap.size + 1 + 1) [.int .i64 0, .int .i64 0, .bool false, .slice none 0 0, .int .i64 0, .int .i64 0] 65 := by rw [hW9]; exact (by repeat (first | exact BoxAt.new (by first | rfl | (simp [go_sem]; done) | (simp [go_sem]; omega)) _ _ | apply BoxAt.xt | apply BoxAt.drew | apply BoxAt.drewN | apply BoxAt.alloc))
  have k4 : BoxAt W9 (w.heap.size + 1 + 1 + 1) [.int .i64 0, .int .i64 0, .int .i64 0, .int .i64 0, .slice none 0 0, .int .i64 0] 67 := by rw [hW9]; exact (by repeat (first | exact BoxAt.new (by first | rfl | (simp [go_sem]; done) | (simp [go_sem]; omega)) _ _ | apply BoxAt.xt | apply BoxAt.drew | apply BoxAt.drewN | apply BoxAt.alloc))
  have hsz : w.heap.size + 4 ≤ W9.heap.size := by rw [hW9]; simp [go_sem]; omega
  have hex : Ext w W9 := by rw [hW9]; exact (by repeat (first | exact Ext.refl _ | assumption | apply Ext.xt | apply Ext.alloc | apply Ext.drew | apply Ext.drewN))
  have hlg : LogQ w w W9 D v.1.log.length K v.1.log := by rw [hW9]; exact LogQ.base (LogQ.along HRR.out (by repeat (first | exact Ext.refl _ | assumption | apply Ext.xt | apply Ext.alloc | apply Ext.drew | apply Ext.drewN)) (by simp [go_sem])) (by simp [go_sem] <;> omega)
  clear hW9
  refine wp_region_L (S := SS 99 99 (fun _ => True) (fun _ => True) (fun w9 => BoxAt w9 (w.heap.size + 1 + 1 + 1 + 1 + ya.n + yb.n + y9.n) [.int .i64 v.1.id, .int .i64 v.1.term, .bool v.1.speaks, .slice D v.1.log.length K, .int .i64 v.1.acked, .int .i64 v.1.next] 65 ∧ BoxAt w9 (w.heap.size + 1 + 1 + 1 + 1 + ya.n + yb.n + y9.n + 1) [.int .i64 0, .int .i64 0, .int .i64 0, .int .i64 0, .slice none 0 0, .int .i64 0] 67)) (by kernel_rfl) ⟨fun _ => trivial, fun _ => trivial, k8.mono (by repeat (first | exact Ext.refl _ | assumption | apply Ext.xt | apply Ext.alloc | apply Ext.drew | apply Ext.drewN)), k9.mono (by repeat (first | exact Ext.refl _ | assumption | apply Ext.xt | apply Ext.alloc | apply Ext.drew | apply Ext.drewN))⟩ (fun hcl hS => ?_)
  refine wpAnyL_take (i := 0) (T := (fun w9 => BoxAt w9 (w.heap.size + 1 + 1 + 1 + 1 + ya.n + yb.n + y9.n) [.int .i64 v.1.id, .int .i64 v.1.term, .bool v.1.speaks, .slice D v.1.log.length K, .int .i64 v.1.acked, .int .i64 v.1.next] 65)) (v := ?_) rfl (by kernel_rfl) (by kernel_rfl) (by kernel_rfl) (fun _ _ _ h => h) (fun _ _ _ _ hS => hS.2.2.1) (SS.up (by decide) (by decide)) (SS.down (by decide) (by decide)) (Or.inl ⟨by rfl, ?_⟩) hcl hS ?_
  rotate_left
  · (intro w9 hw9; (try dsimp only at hw9); obtain ⟨g0, g1, g2, g3, g4, g5⟩ := hw9.six; go_simp; try with_reducible rfl)
  clear hcl hS
  intro hcl hS
  (try simp only [Act.put]); (try simp only [List.setIfInBounds_toArray]); (repeat (first | simp only [List.set_cons_succ] | simp only [List.set_cons_zero]))
  refine wpAnyL_take (i := 1) (T := (fun w9 => BoxAt w9 (w.heap.size + 1 + 1 + 1 + 1 + ya.n + yb.n + y9.n + 1) [.int .i64 0, .int .i64 0, .int .i64 0, .int .i64 0, .slice none 0 0, .int .i64 0] 67)) (v := ?_) rfl (by kernel_rfl) (by kernel_rfl) (by kernel_rfl) (fun _ _ _ h => h) (fun _ _ _ _ hS => hS.2.2.2) (SS.up (by decide) (by decide)) (SS.down (by decide) (by decide)) (Or.inl ⟨by rfl, ?_⟩) hcl hS ?_
  rotate_left
  · (intro w9 hw9; (try dsimp only at hw9); obtain ⟨g0, g1, g2, g3, g4, g5⟩ := hw9.six; go_simp; try with_reducible rfl)
  clear hcl hS
  intro hcl hS
  (try simp only [Act.put]); (try simp only [List.setIfInBounds_toArray]); (repeat (first | simp only [List.set_cons_succ] | simp only [List.set_cons_zero]))
  refine wpAnyL_take (i := 2) (T := (fun _ => True)) (v := ?_) rfl (by kernel_rfl) (by kernel_rfl) (by kernel_rfl) (fun _ _ _ h => h) (fun _ _ _ _ _ => trivial) (SS.up (by decide) (by decide)) (SS.down (by decide) (by decide)) (Or.inl ⟨by rfl, ?_⟩) hcl hS ?_
  rotate_left
  · (intro w9 hw9; (try dsimp only at hw9); go_simp; try with_reducible rfl)
  clear hcl hS
  intro hcl hS
  (try simp only [Act.put]); (try simp only [List.setIfInBounds_toArray]); (repeat (first | simp only [List.set_cons_succ] | simp only [List.set_cons_zero]))
  have hp9 := hS.2.2.1
  have hq9 := hS.2.2.2
  clear hS
  refine wpAnyL_store (i := 3) (by kernel_rfl) rfl rfl hcl 65 (.tmp 4) (.tmp 56) rfl (k3.mono (by repeat (first | exact Ext.refl _ | assumption | apply Ext.xt | apply Ext.alloc | apply Ext.drew | apply Ext.drewN))) rfl [.int .i64 v.1.id, .int .i64 v.1.term, .bool v.1.speaks, .slice D v.1.log.length K, .int .i64 v.1.acked, .int .i64 v.1.next] rfl rfl (show 6 < 44 by decide) (by kernel_rfl) (nodl_one v.1 D K) ?_; intro W1 ht1 hb1; replace hp9 := hp9.turn ht1 (by omega); replace hq9 := hq9.turn ht1 (by omega)
  refine ⟨⟨fun _ => trivial, fun _ => trivial, hp9, hq9⟩, fun hcl hS => ?_⟩
  clear hp9 hq9
  have hp9 := hS.2.2.1
  have hq9 := hS.2.2.2
  clear hS
  refine wpAnyL_store (i := 4) (by kernel_rfl) rfl rfl hcl 67 (.tmp 5) (.tmp 57) rfl ((k4.mono (by repeat (first | exact Ext.refl _ | assumption | apply Ext.xt | apply Ext.alloc | apply Ext.drew | apply Ext.drewN))).turn ht1 (by omega)) rfl [.int .i64 0, .int .i64 0, .int .i64 0, .int .i64 0, .slice none 0 0, .int .i64 0] rfl rfl (show 6 < 44 by decide) (by kernel_rfl) (ansl_one msg0) ?_; intro W2 ht2 hb2; replace hp9 := hp9.turn ht2 (by omega); replace hq9 := hq9.turn ht2 (by omega)
  refine ⟨⟨fun _ => trivial, fun _ => trivial, hp9, hq9⟩, fun hcl hS => ?_⟩
  clear hp9 hq9
  refine wpAnyL_only (i := 5) (by kernel_rfl) rfl rfl hcl (fun K9 hK9 => ?_)
  have hp9 := hS.2.2.1
  have hq9 := hS.2.2.2
  clear hS hcl
  go_simp
  refine hK9 _ _ ⟨fun _ => trivial, fun _ => trivial, hp9, hq9⟩ (fun hcl hS => ?_)
  clear hK9 hp9 hq9 K9
  refine wpAnyL_only (i := 6) (by kernel_rfl) rfl rfl hcl (fun K9 hK9 => ?_)
  have hp9 := hS.2.2.1
  have hq9 := hS.2.2.2
  clear hS hcl
  go_simp
  refine hK9 _ _ ⟨fun _ => trivial, fun _ => trivial, hp9, hq9⟩ (fun hcl hS => ?_)
  clear hK9 hp9 hq9 K9
  clear hcl hS
  refine wpAnyL_done (by kernel_rfl) ?_ _
  go_wp2_with fail
  obtain ⟨q0, q1, q2, q3, q4, q5⟩ := (hb1.turn ht2 (by omega)).six
  obtain ⟨r0, r1, r2, r3, r4, r5⟩ := hb2.six
  refine bodyPost_ret (v := .tuple #[.agg #[.int .i64 v.1.id, .int .i64 v.1.term, .bool v.1.speaks, .slice D v.1.log.length K, .int .i64 v.1.acked, .int .i64 v.1.next], .agg #[.int .i64 0, .int .i64 0, .int .i64 0, .int .i64 0, .slice none 0 0, .int .i64 0], .bool false, .int .i64 0]) (by simp [results, Tryz.results22, go_sem, q0, q1, q2, q3, q4, q5, r0, r1, r2, r3, r4, r5]) rfl ?_
  rw [HR.out]
  have hlog := ((hlg.mono (by repeat (first | exact Ext.refl _ | assumption | apply Ext.xt | apply Ext.alloc | apply Ext.drew | apply Ext.drewN))).turn ht1).turn ht2
  rw [Q2.out] at hlog ⊢
  exact ⟨D, K, by rw [H4.out, H5.out, Q5.out]; rfl, ht2.ext (ht1.ext (hex.trans (by repeat (first | exact Ext.refl _ | assumption | apply Ext.xt | apply Ext.alloc | apply Ext.drew | apply Ext.drewN))) (by omega)) (by omega), hlog⟩
set_option maxHeartbeats 6400000 in
set_option maxRecDepth 100000 in
theorem qReceive_app11 (hs : RecsAt w A c n.log) (hm : RecsAt w B d m.recs) (h1 : nodE n = 0) (h2 : msgE m = 0) (hz0 : (m.kind == 0) = true) (ho : ownB n.id m.term = false) (h4 : (recdV n m).2.2.2 = 0) (h5 : (recdV n m).2.2.1 = true) : Calls Tryz.prog 22 #[.agg #[.int .i64 n.id, .int .i64 n.term, .bool n.speaks, .slice A n.log.length c, .int .i64 n.acked, .int .i64 n.next], .agg #[.int .i64 m.kind, .int .i64 m.term, .int .i64 m.at_, .int .i64 m.before, .slice B m.recs.length d, .int .i64 m.acked]] w (RetRcvd w w (recvV n m)) := by
  have HS := Lib.hid hs
  have HM := Lib.hid hm
  have hn := (nodE_iff n).1 h1
  have hk := (msgE_iff m).1 h2
  have h256 := hn.len
  have i1 := hn.id1; have i2 := hn.id2; have i3 := hk.t0
  have i5 : 0 ≤ m.term := by omega
  have hz : (nodE n != 0) = false := by simpa using h1
  have hz2 : (msgE m != 0) = false := by simpa using h2
  have HO := Lib.hid ho
  have h3 : ¬ (m.kind = 0 ∧ ownB n.id m.term = true) := by rw [ho]; simp
  obtain ⟨q1, q2, q3, q4, q5⟩ := rcvd_recd n m
  obtain ⟨v, hv⟩ : ∃ v, rcvdV n m = v := ⟨_, rfl⟩
  obtain ⟨u, hu⟩ : ∃ u, recdV n m = u := ⟨_, rfl⟩
  rw [hu] at h4 h5
  rw [hu, hv] at q1 q2 q3 q4
  rw [hu] at q5
  have HC := Lib.hid (fun (W : World) (hx : Ext w W) => r54_Received_as n A c m B d w W hx hs hm h256 hk v hv true (by rw [q3]; exact h5))
  have hz4 : (v.2.2.2 != 0) = false := by rw [q1]; simpa using h4
  have HR := Lib.hid (recvV_e h1 h2 h3 hu h4)
  have H4 := Lib.hid h4
  have Q1 := Lib.hid q1
  have Q2 := Lib.hid q2
  have Q4 := Lib.hid (q4 h5)
  have H5 := Lib.hid h5
  clear hs hm h1 h2 h3 hn hk hv hu h4 q1 q2 q3 q4 q5 h5 ho
  go_enter Tryz.func22, Tryz.ntmps22
  go_wp2_with (first | (go_at_call 27; refine (r54_Check n A c _ (HS.out.mono (by repeat (first | exact Ext.refl _ | assumption | apply Ext.xt | apply Ext.alloc | apply Ext.drew | apply Ext.drewN)))).mono ?_; rintro e w' ⟨rfl, hx⟩; obtain ⟨ya, rfl⟩ := hx.get; clear hx) | (go_at_call 28; refine (r54_Right m B d _ (HM.out.mono (by repeat (first | exact Ext.refl _ | assumption | apply Ext.xt | apply Ext.alloc | apply Ext.drew | apply Ext.drewN)))).mono ?_; rintro e w' ⟨rfl, hx⟩; obtain ⟨yb, rfl⟩ := hx.get; clear hx) | (go_at_call 66; refine (r54_Own _ _ _ i1 i2 i5).mono ?_; rintro e w' ⟨he, rfl⟩; rw [HO.out] at he; subst he) | (go_at_call 67; refine (HC.out _ (by repeat (first | exact Ext.refl _ | assumption | apply Ext.xt | apply Ext.alloc | apply Ext.drew | apply Ext.drewN))).mono ?_; rintro e w' ⟨D, K, rfl, hx, hr⟩; have HRR := Lib.hid hr; obtain ⟨y9, rfl⟩ := hx.get; clear hx hr))
  refine wp_name (fun W9 hW9 => ?_)
  have k8 : BoxAt W9 (w.heap.size + 1 + 1 + 1 + 1 + ya.n + yb.n + y9.n) [.int .i64 v.1.id, .int .i64 v.1.term, .bool v.1.speaks, .slice D v.1.log.length K, .int .i64 v.1.acked, .int .i64 v.1.next] 65 := by rw [hW9]; exact (by repeat (first | exact BoxAt.new (by first | rfl | (simp [go_sem]; done) | (simp [go_sem]; omega)) _ _ | apply BoxAt.xt | apply BoxAt.drew | apply BoxAt.drewN | apply BoxAt.alloc))
  have k9 : BoxAt W9 (w.heap.size + 1 + 1 + 1 + 1 + ya.n + yb.n + y9.n + 1) [.int .i64 v.2.1.kind, .int .i64 v.2.1.term, .int .i64 v.2.1.at_, .int .i64 0, .slice none 0 0, .int .i64 0] 67 := by rw [hW9]; exact (by repeat (first | exact BoxAt.new (by first | rfl | (simp [go_sem]; done) | (simp [go_sem]; omega)) _ _ | apply BoxAt.xt | apply BoxAt.drew | apply BoxAt.drewN | apply BoxAt.alloc))
  have k3 : BoxAt W9 (w.heap.size + 1 + 1) [.int .i64 0, .int .i64 0, .bool false, .slice none 0 0, .int .i64 0, .int .i64 0] 65 := by rw [hW9]; exact (by repeat (first | exact BoxAt.new (by first | rfl | (simp [go_sem]; done) | (simp [go_sem]; omega)) _ _ | apply BoxAt.xt | apply BoxAt.drew | apply BoxAt.drewN | apply BoxAt.alloc))
  have k4 : BoxAt W9 (w.heap.size + 1 + 1 + 1) [.int .i64 0, .int .i64 0, .int .i64 0, .int .i64 0, .slice none 0 0, .int .i64 0] 67 := by rw [hW9]; exact (by repeat (first | exact BoxAt.new (by first | rfl | (simp [go_sem]; done) | (simp [go_sem]; omega)) _ _ | apply BoxAt.xt | apply BoxAt.drew | apply BoxAt.drewN | apply BoxAt.alloc))
  have hsz : w.heap.size + 4 ≤ W9.heap.size := by rw [hW9]; simp [go_sem]; omega
  have hex : Ext w W9 := by rw [hW9]; exact (by repeat (first | exact Ext.refl _ | assumption | apply Ext.xt | apply Ext.alloc | apply Ext.drew | apply Ext.drewN))
  have hlg : LogQ w w W9 D v.1.log.length K v.1.log := by rw [hW9]; exact LogQ.base (LogQ.along HRR.out (by repeat (first | exact Ext.refl _ | assumption | apply Ext.xt | apply Ext.alloc | apply Ext.drew | apply Ext.drewN)) (by simp [go_sem])) (by simp [go_sem] <;> omega)
  clear hW9
  refine wp_region_L (S := SS 99 99 (fun _ => True) (fun _ => True) (fun w9 => BoxAt w9 (w.heap.size + 1 + 1 + 1 + 1 + ya.n + yb.n + y9.n) [.int .i64 v.1.id, .int .i64 v.1.term, .bool v.1.speaks, .slice D v.1.log.length K, .int .i64 v.1.acked, .int .i64 v.1.next] 65 ∧ BoxAt w9 (w.heap.size + 1 + 1 + 1 + 1 + ya.n + yb.n + y9.n + 1) [.int .i64 v.2.1.kind, .int .i64 v.2.1.term, .int .i64 v.2.1.at_, .int .i64 0, .slice none 0 0, .int .i64 0] 67)) (by kernel_rfl) ⟨fun _ => trivial, fun _ => trivial, k8.mono (by repeat (first | exact Ext.refl _ | assumption | apply Ext.xt | apply Ext.alloc | apply Ext.drew | apply Ext.drewN)), k9.mono (by repeat (first | exact Ext.refl _ | assumption | apply Ext.xt | apply Ext.alloc | apply Ext.drew | apply Ext.drewN))⟩ (fun hcl hS => ?_)
  refine wpAnyL_take (i := 0) (T := (fun w9 => BoxAt w9 (w.heap.size + 1 + 1 + 1 + 1 + ya.n + yb.n + y9.n) [.int .i64 v.1.id, .int .i64 v.1.term, .bool v.1.speaks, .slice D v.1.log.length K, .int .i64 v.1.acked, .int .i64 v.1.next] 65)) (v := ?_) rfl (by kernel_rfl) (by kernel_rfl) (by kernel_rfl) (fun _ _ _ h => h) (fun _ _ _ _ hS => hS.2.2.1) (SS.up (by decide) (by decide)) (SS.down (by decide) (by decide)) (Or.inl ⟨by rfl, ?_⟩) hcl hS ?_
  rotate_left
  · (intro w9 hw9; (try dsimp only at hw9); obtain ⟨g0, g1, g2, g3, g4, g5⟩ := hw9.six; go_simp; try with_reducible rfl)
  clear hcl hS
  intro hcl hS
  (try simp only [Act.put]); (try simp only [List.setIfInBounds_toArray]); (repeat (first | simp only [List.set_cons_succ] | simp only [List.set_cons_zero]))
  refine wpAnyL_take (i := 1) (T := (fun w9 => BoxAt w9 (w.heap.size + 1 + 1 + 1 + 1 + ya.n + yb.n + y9.n + 1) [.int .i64 v.2.1.kind, .int .i64 v.2.1.term, .int .i64 v.2.1.at_, .int .i64 0, .slice none 0 0, .int .i64 0] 67)) (v := ?_) rfl (by kernel_rfl) (by kernel_rfl) (by kernel_rfl) (fun _ _ _ h => h) (fun _ _ _ _ hS => hS.2.2.2) (SS.up (by decide) (by decide)) (SS.down (by decide) (by decide)) (Or.inl ⟨by rfl, ?_⟩) hcl hS ?_
  rotate_left
  · (intro w9 hw9; (try dsimp only at hw9); obtain ⟨g0, g1, g2, g3, g4, g5⟩ := hw9.six; go_simp; try with_reducible rfl)
  clear hcl hS
  intro hcl hS
  (try simp only [Act.put]); (try simp only [List.setIfInBounds_toArray]); (repeat (first | simp only [List.set_cons_succ] | simp only [List.set_cons_zero]))
  refine wpAnyL_take (i := 2) (T := (fun _ => True)) (v := ?_) rfl (by kernel_rfl) (by kernel_rfl) (by kernel_rfl) (fun _ _ _ h => h) (fun _ _ _ _ _ => trivial) (SS.up (by decide) (by decide)) (SS.down (by decide) (by decide)) (Or.inl ⟨by rfl, ?_⟩) hcl hS ?_
  rotate_left
  · (intro w9 hw9; (try dsimp only at hw9); go_simp; try with_reducible rfl)
  clear hcl hS
  intro hcl hS
  (try simp only [Act.put]); (try simp only [List.setIfInBounds_toArray]); (repeat (first | simp only [List.set_cons_succ] | simp only [List.set_cons_zero]))
  have hp9 := hS.2.2.1
  have hq9 := hS.2.2.2
  clear hS
  refine wpAnyL_store (i := 3) (by kernel_rfl) rfl rfl hcl 65 (.tmp 4) (.tmp 56) rfl (k3.mono (by repeat (first | exact Ext.refl _ | assumption | apply Ext.xt | apply Ext.alloc | apply Ext.drew | apply Ext.drewN))) rfl [.int .i64 v.1.id, .int .i64 v.1.term, .bool v.1.speaks, .slice D v.1.log.length K, .int .i64 v.1.acked, .int .i64 v.1.next] rfl rfl (show 6 < 44 by decide) (by kernel_rfl) (nodl_one v.1 D K) ?_; intro W1 ht1 hb1; replace hp9 := hp9.turn ht1 (by omega); replace hq9 := hq9.turn ht1 (by omega)
  refine ⟨⟨fun _ => trivial, fun _ => trivial, hp9, hq9⟩, fun hcl hS => ?_⟩
  clear hp9 hq9
  have hp9 := hS.2.2.1
  have hq9 := hS.2.2.2
  clear hS
  refine wpAnyL_store (i := 4) (by kernel_rfl) rfl rfl hcl 67 (.tmp 5) (.tmp 57) rfl ((k4.mono (by repeat (first | exact Ext.refl _ | assumption | apply Ext.xt | apply Ext.alloc | apply Ext.drew | apply Ext.drewN))).turn ht1 (by omega)) rfl [.int .i64 v.2.1.kind, .int .i64 v.2.1.term, .int .i64 v.2.1.at_, .int .i64 0, .slice none 0 0, .int .i64 0] rfl rfl (show 6 < 44 by decide) (by kernel_rfl) (ansl_one v.2.1) ?_; intro W2 ht2 hb2; replace hp9 := hp9.turn ht2 (by omega); replace hq9 := hq9.turn ht2 (by omega)
  refine ⟨⟨fun _ => trivial, fun _ => trivial, hp9, hq9⟩, fun hcl hS => ?_⟩
  clear hp9 hq9
  refine wpAnyL_only (i := 5) (by kernel_rfl) rfl rfl hcl (fun K9 hK9 => ?_)
  have hp9 := hS.2.2.1
  have hq9 := hS.2.2.2
  clear hS hcl
  go_simp
  refine hK9 _ _ ⟨fun _ => trivial, fun _ => trivial, hp9, hq9⟩ (fun hcl hS => ?_)
  clear hK9 hp9 hq9 K9
  refine wpAnyL_only (i := 6) (by kernel_rfl) rfl rfl hcl (fun K9 hK9 => ?_)
  have hp9 := hS.2.2.1
  have hq9 := hS.2.2.2
  clear hS hcl
  go_simp
  refine hK9 _ _ ⟨fun _ => trivial, fun _ => trivial, hp9, hq9⟩ (fun hcl hS => ?_)
  clear hK9 hp9 hq9 K9
  clear hcl hS
  refine wpAnyL_done (by kernel_rfl) ?_ _
  go_wp2_with fail
  obtain ⟨q0, q1, q2, q3, q4, q5⟩ := (hb1.turn ht2 (by omega)).six
  obtain ⟨r0, r1, r2, r3, r4, r5⟩ := hb2.six
  refine bodyPost_ret (v := .tuple #[.agg #[.int .i64 v.1.id, .int .i64 v.1.term, .bool v.1.speaks, .slice D v.1.log.length K, .int .i64 v.1.acked, .int .i64 v.1.next], .agg #[.int .i64 v.2.1.kind, .int .i64 v.2.1.term, .int .i64 v.2.1.at_, .int .i64 0, .slice none 0 0, .int .i64 0], .bool true, .int .i64 0]) (by simp [results, Tryz.results22, go_sem, q0, q1, q2, q3, q4, q5, r0, r1, r2, r3, r4, r5]) rfl ?_
  rw [HR.out]
  have hlog := ((hlg.mono (by repeat (first | exact Ext.refl _ | assumption | apply Ext.xt | apply Ext.alloc | apply Ext.drew | apply Ext.drewN))).turn ht1).turn ht2
  rw [Q2.out] at hlog ⊢
  exact ⟨D, K, by rw [H4.out, H5.out, ← Q4.out], ht2.ext (ht1.ext (hex.trans (by repeat (first | exact Ext.refl _ | assumption | apply Ext.xt | apply Ext.alloc | apply Ext.drew | apply Ext.drewN))) (by omega)) (by omega), hlog⟩
set_option maxHeartbeats 6400000 in
set_option maxRecDepth 100000 in
theorem qReceive_ans0 (hs : RecsAt w A c n.log) (hm : RecsAt w B d m.recs) (h1 : nodE n = 0) (h2 : msgE m = 0) (hz0 : (m.kind == 0) = false) (h4 : (recdV n m).2.2.2 ≠ 0) : Calls Tryz.prog 22 #[.agg #[.int .i64 n.id, .int .i64 n.term, .bool n.speaks, .slice A n.log.length c, .int .i64 n.acked, .int .i64 n.next], .agg #[.int .i64 m.kind, .int .i64 m.term, .int .i64 m.at_, .int .i64 m.before, .slice B m.recs.length d, .int .i64 m.acked]] w (RetRcvd w w (recvV n m)) := by
  have HS := Lib.hid hs
  have HM := Lib.hid hm
  have hn := (nodE_iff n).1 h1
  have hk := (msgE_iff m).1 h2
  have h256 := hn.len
  have i1 := hn.id1; have i2 := hn.id2; have i3 := hk.t0
  have i5 : 0 ≤ m.term := by omega
  have hz : (nodE n != 0) = false := by simpa using h1
  have hz2 : (msgE m != 0) = false := by simpa using h2
  skip
  have h3 : ¬ (m.kind = 0 ∧ ownB n.id m.term = true) := by intro hh; rw [hh.1] at hz0; cases hz0
  obtain ⟨q1, q2, q3, q4, q5⟩ := rcvd_recd n m
  obtain ⟨v, hv⟩ : ∃ v, rcvdV n m = v := ⟨_, rfl⟩
  obtain ⟨u, hu⟩ : ∃ u, recdV n m = u := ⟨_, rfl⟩
  rw [hu] at h4
  rw [hu, hv] at q1 q2 q3 q4
  rw [hu] at q5
  have HC := Lib.hid (fun (W : World) (hx : Ext w W) => r54_Received_as n A c m B d w W hx hs hm h256 hk v hv _ rfl)
  have hz4 : (v.2.2.2 != 0) = true := by rw [q1]; simpa using h4
  have HR := Lib.hid (recvV_d h1 h2 h3 hu h4)
  have H4 := Lib.hid h4
  have Q1 := Lib.hid q1
  have Q2 := Lib.hid q2
  skip
  skip
  clear hs hm h1 h2 h3 hn hk hv hu h4 q1 q2 q3 q4 q5
  go_enter Tryz.func22, Tryz.ntmps22
  go_wp2_with (first | (go_at_call 27; refine (r54_Check n A c _ (HS.out.mono (by repeat (first | exact Ext.refl _ | assumption | apply Ext.xt | apply Ext.alloc | apply Ext.drew | apply Ext.drewN)))).mono ?_; rintro e w' ⟨rfl, hx⟩; obtain ⟨y, rfl⟩ := hx.get; clear hx) | (go_at_call 28; refine (r54_Right m B d _ (HM.out.mono (by repeat (first | exact Ext.refl _ | assumption | apply Ext.xt | apply Ext.alloc | apply Ext.drew | apply Ext.drewN)))).mono ?_; rintro e w' ⟨rfl, hx⟩; obtain ⟨y, rfl⟩ := hx.get; clear hx) | (go_at_call 67; refine (HC.out _ (by repeat (first | exact Ext.refl _ | assumption | apply Ext.xt | apply Ext.alloc | apply Ext.drew | apply Ext.drewN))).mono ?_; rintro e w' ⟨D, K, rfl, hx, hr⟩; have HRR := Lib.hid hr; obtain ⟨y9, rfl⟩ := hx.get; clear hx hr))
  exact bodyPost_ret (v := .tuple #[.agg #[.int .i64 0, .int .i64 0, .bool false, .slice none 0 0, .int .i64 0, .int .i64 0], .agg #[.int .i64 0, .int .i64 0, .int .i64 0, .int .i64 0, .slice none 0 0, .int .i64 0], .bool false, .int .i64 v.2.2.2]) (by simp [results, Tryz.results22, go_sem]) rfl (RetRcvd.err (by rw [Q1.out]; exact HR.out) (by repeat (first | exact Ext.refl _ | assumption | apply Ext.xt | apply Ext.alloc | apply Ext.drew | apply Ext.drewN)))
set_option maxHeartbeats 6400000 in
set_option maxRecDepth 100000 in
theorem qReceive_ans10 (hs : RecsAt w A c n.log) (hm : RecsAt w B d m.recs) (h1 : nodE n = 0) (h2 : msgE m = 0) (hz0 : (m.kind == 0) = false) (h4 : (recdV n m).2.2.2 = 0) (h5 : (recdV n m).2.2.1 = false) : Calls Tryz.prog 22 #[.agg #[.int .i64 n.id, .int .i64 n.term, .bool n.speaks, .slice A n.log.length c, .int .i64 n.acked, .int .i64 n.next], .agg #[.int .i64 m.kind, .int .i64 m.term, .int .i64 m.at_, .int .i64 m.before, .slice B m.recs.length d, .int .i64 m.acked]] w (RetRcvd w w (recvV n m)) := by
  have HS := Lib.hid hs
  have HM := Lib.hid hm
  have hn := (nodE_iff n).1 h1
  have hk := (msgE_iff m).1 h2
  have h256 := hn.len
  have i1 := hn.id1; have i2 := hn.id2; have i3 := hk.t0
  have i5 : 0 ≤ m.term := by omega
  have hz : (nodE n != 0) = false := by simpa using h1
  have hz2 : (msgE m != 0) = false := by simpa using h2
  skip
  have h3 : ¬ (m.kind = 0 ∧ ownB n.id m.term = true) := by intro hh; rw [hh.1] at hz0; cases hz0
  obtain ⟨q1, q2, q3, q4, q5⟩ := rcvd_recd n m
  obtain ⟨v, hv⟩ : ∃ v, rcvdV n m = v := ⟨_, rfl⟩
  obtain ⟨u, hu⟩ : ∃ u, recdV n m = u := ⟨_, rfl⟩
  rw [hu] at h4 h5
  rw [hu, hv] at q1 q2 q3 q4
  rw [hu] at q5
  have HC := Lib.hid (fun (W : World) (hx : Ext w W) => r54_Received_as n A c m B d w W hx hs hm h256 hk v hv false (by rw [q3]; exact h5))
  have hz4 : (v.2.2.2 != 0) = false := by rw [q1]; simpa using h4
  have HR := Lib.hid (recvV_e h1 h2 h3 hu h4)
  have H4 := Lib.hid h4
  have Q1 := Lib.hid q1
  have Q2 := Lib.hid q2
  have Q5 := Lib.hid (q5 h5 h4)
  have H5 := Lib.hid h5
  clear hs hm h1 h2 h3 hn hk hv hu h4 q1 q2 q3 q4 q5 h5
  go_enter Tryz.func22, Tryz.ntmps22
  go_wp2_with (first | (go_at_call 27; refine (r54_Check n A c _ (HS.out.mono (by repeat (first | exact Ext.refl _ | assumption | apply Ext.xt | apply Ext.alloc | apply Ext.drew | apply Ext.drewN)))).mono ?_; rintro e w' ⟨rfl, hx⟩; obtain ⟨ya, rfl⟩ := hx.get; clear hx) | (go_at_call 28; refine (r54_Right m B d _ (HM.out.mono (by repeat (first | exact Ext.refl _ | assumption | apply Ext.xt | apply Ext.alloc | apply Ext.drew | apply Ext.drewN)))).mono ?_; rintro e w' ⟨rfl, hx⟩; obtain ⟨yb, rfl⟩ := hx.get; clear hx) | (go_at_call 67; refine (HC.out _ (by repeat (first | exact Ext.refl _ | assumption | apply Ext.xt | apply Ext.alloc | apply Ext.drew | apply Ext.drewN))).mono ?_; rintro e w' ⟨D, K, rfl, hx, hr⟩; have HRR := Lib.hid hr; obtain ⟨y9, rfl⟩ := hx.get; clear hx hr))
  refine wp_name (fun W9 hW9 => ?_)
  have k8 : BoxAt W9 (w.heap.size + 1 + 1 + 1 + 1 + ya.n + yb.n + y9.n) [.int .i64 v.1.id, .int .i64 v.1.term, .bool v.1.speaks, .slice D v.1.log.length K, .int .i64 v.1.acked, .int .i64 v.1.next] 65 := by rw [hW9]; exact (by repeat (first | exact BoxAt.new (by first | rfl | (simp [go_sem]; done) | (simp [go_sem]; omega)) _ _ | apply BoxAt.xt | apply BoxAt.drew | apply BoxAt.drewN | apply BoxAt.alloc))
  have k9 : BoxAt W9 (w.heap.size + 1 + 1 + 1 + 1 + ya.n + yb.n + y9.n + 1) [.int .i64 0, .int .i64 0, .int .i64 0, .int .i64 0, .slice none 0 0, .int .i64 0] 67 := by rw [hW9]; exact (by repeat (first | exact BoxAt.new (by first | rfl | (simp [go_sem]; done) | (simp [go_sem]; omega)) _ _ | apply BoxAt.xt | apply BoxAt.drew | apply BoxAt.drewN | apply BoxAt.alloc))
  have k3 : BoxAt W9 (w.heap.size + 1 + 1) [.int .i64 0, .int .i64 0, .bool false, .slice none 0 0, .int .i64 0, .int .i64 0] 65 := by rw [hW9]; exact (by repeat (first | exact BoxAt.new (by first | rfl | (simp [go_sem]; done) | (simp [go_sem]; omega)) _ _ | apply BoxAt.xt | apply BoxAt.drew | apply BoxAt.drewN | apply BoxAt.alloc))
  have k4 : BoxAt W9 (w.heap.size + 1 + 1 + 1) [.int .i64 0, .int .i64 0, .int .i64 0, .int .i64 0, .slice none 0 0, .int .i64 0] 67 := by rw [hW9]; exact (by repeat (first | exact BoxAt.new (by first | rfl | (simp [go_sem]; done) | (simp [go_sem]; omega)) _ _ | apply BoxAt.xt | apply BoxAt.drew | apply BoxAt.drewN | apply BoxAt.alloc))
  have hsz : w.heap.size + 4 ≤ W9.heap.size := by rw [hW9]; simp [go_sem]; omega
  have hex : Ext w W9 := by rw [hW9]; exact (by repeat (first | exact Ext.refl _ | assumption | apply Ext.xt | apply Ext.alloc | apply Ext.drew | apply Ext.drewN))
  have hlg : LogQ w w W9 D v.1.log.length K v.1.log := by rw [hW9]; exact LogQ.base (LogQ.along HRR.out (by repeat (first | exact Ext.refl _ | assumption | apply Ext.xt | apply Ext.alloc | apply Ext.drew | apply Ext.drewN)) (by simp [go_sem])) (by simp [go_sem] <;> omega)
  clear hW9
  refine wp_region_L (S := SS 99 99 (fun _ => True) (fun _ => True) (fun w9 => BoxAt w9 (w.heap.size + 1 + 1 + 1 + 1 + ya.n + yb.n + y9.n) [.int .i64 v.1.id, .int .i64 v.1.term, .bool v.1.speaks, .slice D v.1.log.length K, .int .i64 v.1.acked, .int .i64 v.1.next] 65 ∧ BoxAt w9 (w.heap.size + 1 + 1 + 1 + 1 + ya.n + yb.n + y9.n + 1) [.int .i64 0, .int .i64 0, .int .i64 0, .int .i64 0, .slice none 0 0, .int .i64 0] 67)) (by kernel_rfl) ⟨fun _ => trivial, fun _ => trivial, k8.mono (by repeat (first | exact Ext.refl _ | assumption | apply Ext.xt | apply Ext.alloc | apply Ext.drew | apply Ext.drewN)), k9.mono (by repeat (first | exact Ext.refl _ | assumption | apply Ext.xt | apply Ext.alloc | apply Ext.drew | apply Ext.drewN))⟩ (fun hcl hS => ?_)
  refine wpAnyL_take (i := 0) (T := (fun w9 => BoxAt w9 (w.heap.size + 1 + 1 + 1 + 1 + ya.n + yb.n + y9.n) [.int .i64 v.1.id, .int .i64 v.1.term, .bool v.1.speaks, .slice D v.1.log.length K, .int .i64 v.1.acked, .int .i64 v.1.next] 65)) (v := ?_) rfl (by kernel_rfl) (by kernel_rfl) (by kernel_rfl) (fun _ _ _ h => h) (fun _ _ _ _ hS => hS.2.2.1) (SS.up (by decide) (by decide)) (SS.down (by decide) (by decide)) (Or.inl ⟨by rfl, ?_⟩) hcl hS ?_
  rotate_left
  · (intro w9 hw9; (try dsimp only at hw9); obtain ⟨g0, g1, g2, g3, g4, g5⟩ := hw9.six; go_simp; try with_reducible rfl)
  clear hcl hS
  intro hcl hS
  (try simp only [Act.put]); (try simp only [List.setIfInBounds_toArray]); (repeat (first | simp only [List.set_cons_succ] | simp only [List.set_cons_zero]))
  refine wpAnyL_take (i := 1) (T := (fun w9 => BoxAt w9 (w.heap.size + 1 + 1 + 1 + 1 + ya.n + yb.n + y9.n + 1) [.int .i64 0, .int .i64 0, .int .i64 0, .int .i64 0, .slice none 0 0, .int .i64 0] 67)) (v := ?_) rfl (by kernel_rfl) (by kernel_rfl) (by kernel_rfl) (fun _ _ _ h => h) (fun _ _ _ _ hS => hS.2.2.2) (SS.up (by decide) (by decide)) (SS.down (by decide) (by decide)) (Or.inl ⟨by rfl, ?_⟩) hcl hS ?_
  rotate_left
  · (intro w9 hw9; (try dsimp only at hw9); obtain ⟨g0, g1, g2, g3, g4, g5⟩ := hw9.six; go_simp; try with_reducible rfl)
  clear hcl hS
  intro hcl hS
  (try simp only [Act.put]); (try simp only [List.setIfInBounds_toArray]); (repeat (first | simp only [List.set_cons_succ] | simp only [List.set_cons_zero]))
  refine wpAnyL_take (i := 2) (T := (fun _ => True)) (v := ?_) rfl (by kernel_rfl) (by kernel_rfl) (by kernel_rfl) (fun _ _ _ h => h) (fun _ _ _ _ _ => trivial) (SS.up (by decide) (by decide)) (SS.down (by decide) (by decide)) (Or.inl ⟨by rfl, ?_⟩) hcl hS ?_
  rotate_left
  · (intro w9 hw9; (try dsimp only at hw9); go_simp; try with_reducible rfl)
  clear hcl hS
  intro hcl hS
  (try simp only [Act.put]); (try simp only [List.setIfInBounds_toArray]); (repeat (first | simp only [List.set_cons_succ] | simp only [List.set_cons_zero]))
  have hp9 := hS.2.2.1
  have hq9 := hS.2.2.2
  clear hS
  refine wpAnyL_store (i := 3) (by kernel_rfl) rfl rfl hcl 65 (.tmp 4) (.tmp 56) rfl (k3.mono (by repeat (first | exact Ext.refl _ | assumption | apply Ext.xt | apply Ext.alloc | apply Ext.drew | apply Ext.drewN))) rfl [.int .i64 v.1.id, .int .i64 v.1.term, .bool v.1.speaks, .slice D v.1.log.length K, .int .i64 v.1.acked, .int .i64 v.1.next] rfl rfl (show 6 < 44 by decide) (by kernel_rfl) (nodl_one v.1 D K) ?_; intro W1 ht1 hb1; replace hp9 := hp9.turn ht1 (by omega); replace hq9 := hq9.turn ht1 (by omega)
  refine ⟨⟨fun _ => trivial, fun _ => trivial, hp9, hq9⟩, fun hcl hS => ?_⟩
  clear hp9 hq9
  have hp9 := hS.2.2.1
  have hq9 := hS.2.2.2
  clear hS
  refine wpAnyL_store (i := 4) (by kernel_rfl) rfl rfl hcl 67 (.tmp 5) (.tmp 57) rfl ((k4.mono (by repeat (first | exact Ext.refl _ | assumption | apply Ext.xt | apply Ext.alloc | apply Ext.drew | apply Ext.drewN))).turn ht1 (by omega)) rfl [.int .i64 0, .int .i64 0, .int .i64 0, .int .i64 0, .slice none 0 0, .int .i64 0] rfl rfl (show 6 < 44 by decide) (by kernel_rfl) (ansl_one msg0) ?_; intro W2 ht2 hb2; replace hp9 := hp9.turn ht2 (by omega); replace hq9 := hq9.turn ht2 (by omega)
  refine ⟨⟨fun _ => trivial, fun _ => trivial, hp9, hq9⟩, fun hcl hS => ?_⟩
  clear hp9 hq9
  refine wpAnyL_only (i := 5) (by kernel_rfl) rfl rfl hcl (fun K9 hK9 => ?_)
  have hp9 := hS.2.2.1
  have hq9 := hS.2.2.2
  clear hS hcl
  go_simp
  refine hK9 _ _ ⟨fun _ => trivial, fun _ => trivial, hp9, hq9⟩ (fun hcl hS => ?_)
  clear hK9 hp9 hq9 K9
  refine wpAnyL_only (i := 6) (by kernel_rfl) rfl rfl hcl (fun K9 hK9 => ?_)
  have hp9 := hS.2.2.1
  have hq9 := hS.2.2.2
  clear hS hcl
  go_simp
  refine hK9 _ _ ⟨fun _ => trivial, fun _ => trivial, hp9, hq9⟩ (fun hcl hS => ?_)
  clear hK9 hp9 hq9 K9
  clear hcl hS
  refine wpAnyL_done (by kernel_rfl) ?_ _
  go_wp2_with fail
  obtain ⟨q0, q1, q2, q3, q4, q5⟩ := (hb1.turn ht2 (by omega)).six
  obtain ⟨r0, r1, r2, r3, r4, r5⟩ := hb2.six
  refine bodyPost_ret (v := .tuple #[.agg #[.int .i64 v.1.id, .int .i64 v.1.term, .bool v.1.speaks, .slice D v.1.log.length K, .int .i64 v.1.acked, .int .i64 v.1.next], .agg #[.int .i64 0, .int .i64 0, .int .i64 0, .int .i64 0, .slice none 0 0, .int .i64 0], .bool false, .int .i64 0]) (by simp [results, Tryz.results22, go_sem, q0, q1, q2, q3, q4, q5, r0, r1, r2, r3, r4, r5]) rfl ?_
  rw [HR.out]
  have hlog := ((hlg.mono (by repeat (first | exact Ext.refl _ | assumption | apply Ext.xt | apply Ext.alloc | apply Ext.drew | apply Ext.drewN))).turn ht1).turn ht2
  rw [Q2.out] at hlog ⊢
  exact ⟨D, K, by rw [H4.out, H5.out, Q5.out]; rfl, ht2.ext (ht1.ext (hex.trans (by repeat (first | exact Ext.refl _ | assumption | apply Ext.xt | apply Ext.alloc | apply Ext.drew | apply Ext.drewN))) (by omega)) (by omega), hlog⟩
set_option maxHeartbeats 6400000 in
set_option maxRecDepth 100000 in
theorem qReceive_ans11 (hs : RecsAt w A c n.log) (hm : RecsAt w B d m.recs) (h1 : nodE n = 0) (h2 : msgE m = 0) (hz0 : (m.kind == 0) = false) (h4 : (recdV n m).2.2.2 = 0) (h5 : (recdV n m).2.2.1 = true) : Calls Tryz.prog 22 #[.agg #[.int .i64 n.id, .int .i64 n.term, .bool n.speaks, .slice A n.log.length c, .int .i64 n.acked, .int .i64 n.next], .agg #[.int .i64 m.kind, .int .i64 m.term, .int .i64 m.at_, .int .i64 m.before, .slice B m.recs.length d, .int .i64 m.acked]] w (RetRcvd w w (recvV n m)) := by
  have HS := Lib.hid hs
  have HM := Lib.hid hm
  have hn := (nodE_iff n).1 h1
  have hk := (msgE_iff m).1 h2
  have h256 := hn.len
  have i1 := hn.id1; have i2 := hn.id2; have i3 := hk.t0
  have i5 : 0 ≤ m.term := by omega
  have hz : (nodE n != 0) = false := by simpa using h1
  have hz2 : (msgE m != 0) = false := by simpa using h2
  skip
  have h3 : ¬ (m.kind = 0 ∧ ownB n.id m.term = true) := by intro hh; rw [hh.1] at hz0; cases hz0
  obtain ⟨q1, q2, q3, q4, q5⟩ := rcvd_recd n m
  obtain ⟨v, hv⟩ : ∃ v, rcvdV n m = v := ⟨_, rfl⟩
  obtain ⟨u, hu⟩ : ∃ u, recdV n m = u := ⟨_, rfl⟩
  rw [hu] at h4 h5
  rw [hu, hv] at q1 q2 q3 q4
  rw [hu] at q5
  have HC := Lib.hid (fun (W : World) (hx : Ext w W) => r54_Received_as n A c m B d w W hx hs hm h256 hk v hv true (by rw [q3]; exact h5))
  have hz4 : (v.2.2.2 != 0) = false := by rw [q1]; simpa using h4
  have HR := Lib.hid (recvV_e h1 h2 h3 hu h4)
  have H4 := Lib.hid h4
  have Q1 := Lib.hid q1
  have Q2 := Lib.hid q2
  have Q4 := Lib.hid (q4 h5)
  have H5 := Lib.hid h5
  clear hs hm h1 h2 h3 hn hk hv hu h4 q1 q2 q3 q4 q5 h5
  go_enter Tryz.func22, Tryz.ntmps22
  go_wp2_with (first | (go_at_call 27; refine (r54_Check n A c _ (HS.out.mono (by repeat (first | exact Ext.refl _ | assumption | apply Ext.xt | apply Ext.alloc | apply Ext.drew | apply Ext.drewN)))).mono ?_; rintro e w' ⟨rfl, hx⟩; obtain ⟨ya, rfl⟩ := hx.get; clear hx) | (go_at_call 28; refine (r54_Right m B d _ (HM.out.mono (by repeat (first | exact Ext.refl _ | assumption | apply Ext.xt | apply Ext.alloc | apply Ext.drew | apply Ext.drewN)))).mono ?_; rintro e w' ⟨rfl, hx⟩; obtain ⟨yb, rfl⟩ := hx.get; clear hx) | (go_at_call 67; refine (HC.out _ (by repeat (first | exact Ext.refl _ | assumption | apply Ext.xt | apply Ext.alloc | apply Ext.drew | apply Ext.drewN))).mono ?_; rintro e w' ⟨D, K, rfl, hx, hr⟩; have HRR := Lib.hid hr; obtain ⟨y9, rfl⟩ := hx.get; clear hx hr))
  refine wp_name (fun W9 hW9 => ?_)
  have k8 : BoxAt W9 (w.heap.size + 1 + 1 + 1 + 1 + ya.n + yb.n + y9.n) [.int .i64 v.1.id, .int .i64 v.1.term, .bool v.1.speaks, .slice D v.1.log.length K, .int .i64 v.1.acked, .int .i64 v.1.next] 65 := by rw [hW9]; exact (by repeat (first | exact BoxAt.new (by first | rfl | (simp [go_sem]; done) | (simp [go_sem]; omega)) _ _ | apply BoxAt.xt | apply BoxAt.drew | apply BoxAt.drewN | apply BoxAt.alloc))
  have k9 : BoxAt W9 (w.heap.size + 1 + 1 + 1 + 1 + ya.n + yb.n + y9.n + 1) [.int .i64 v.2.1.kind, .int .i64 v.2.1.term, .int .i64 v.2.1.at_, .int .i64 0, .slice none 0 0, .int .i64 0] 67 := by rw [hW9]; exact (by repeat (first | exact BoxAt.new (by first | rfl | (simp [go_sem]; done) | (simp [go_sem]; omega)) _ _ | apply BoxAt.xt | apply BoxAt.drew | apply BoxAt.drewN | apply BoxAt.alloc))
  have k3 : BoxAt W9 (w.heap.size + 1 + 1) [.int .i64 0, .int .i64 0, .bool false, .slice none 0 0, .int .i64 0, .int .i64 0] 65 := by rw [hW9]; exact (by repeat (first | exact BoxAt.new (by first | rfl | (simp [go_sem]; done) | (simp [go_sem]; omega)) _ _ | apply BoxAt.xt | apply BoxAt.drew | apply BoxAt.drewN | apply BoxAt.alloc))
  have k4 : BoxAt W9 (w.heap.size + 1 + 1 + 1) [.int .i64 0, .int .i64 0, .int .i64 0, .int .i64 0, .slice none 0 0, .int .i64 0] 67 := by rw [hW9]; exact (by repeat (first | exact BoxAt.new (by first | rfl | (simp [go_sem]; done) | (simp [go_sem]; omega)) _ _ | apply BoxAt.xt | apply BoxAt.drew | apply BoxAt.drewN | apply BoxAt.alloc))
  have hsz : w.heap.size + 4 ≤ W9.heap.size := by rw [hW9]; simp [go_sem]; omega
  have hex : Ext w W9 := by rw [hW9]; exact (by repeat (first | exact Ext.refl _ | assumption | apply Ext.xt | apply Ext.alloc | apply Ext.drew | apply Ext.drewN))
  have hlg : LogQ w w W9 D v.1.log.length K v.1.log := by rw [hW9]; exact LogQ.base (LogQ.along HRR.out (by repeat (first | exact Ext.refl _ | assumption | apply Ext.xt | apply Ext.alloc | apply Ext.drew | apply Ext.drewN)) (by simp [go_sem])) (by simp [go_sem] <;> omega)
  clear hW9
  refine wp_region_L (S := SS 99 99 (fun _ => True) (fun _ => True) (fun w9 => BoxAt w9 (w.heap.size + 1 + 1 + 1 + 1 + ya.n + yb.n + y9.n) [.int .i64 v.1.id, .int .i64 v.1.term, .bool v.1.speaks, .slice D v.1.log.length K, .int .i64 v.1.acked, .int .i64 v.1.next] 65 ∧ BoxAt w9 (w.heap.size + 1 + 1 + 1 + 1 + ya.n + yb.n + y9.n + 1) [.int .i64 v.2.1.kind, .int .i64 v.2.1.term, .int .i64 v.2.1.at_, .int .i64 0, .slice none 0 0, .int .i64 0] 67)) (by kernel_rfl) ⟨fun _ => trivial, fun _ => trivial, k8.mono (by repeat (first | exact Ext.refl _ | assumption | apply Ext.xt | apply Ext.alloc | apply Ext.drew | apply Ext.drewN)), k9.mono (by repeat (first | exact Ext.refl _ | assumption | apply Ext.xt | apply Ext.alloc | apply Ext.drew | apply Ext.drewN))⟩ (fun hcl hS => ?_)
  refine wpAnyL_take (i := 0) (T := (fun w9 => BoxAt w9 (w.heap.size + 1 + 1 + 1 + 1 + ya.n + yb.n + y9.n) [.int .i64 v.1.id, .int .i64 v.1.term, .bool v.1.speaks, .slice D v.1.log.length K, .int .i64 v.1.acked, .int .i64 v.1.next] 65)) (v := ?_) rfl (by kernel_rfl) (by kernel_rfl) (by kernel_rfl) (fun _ _ _ h => h) (fun _ _ _ _ hS => hS.2.2.1) (SS.up (by decide) (by decide)) (SS.down (by decide) (by decide)) (Or.inl ⟨by rfl, ?_⟩) hcl hS ?_
  rotate_left
  · (intro w9 hw9; (try dsimp only at hw9); obtain ⟨g0, g1, g2, g3, g4, g5⟩ := hw9.six; go_simp; try with_reducible rfl)
  clear hcl hS
  intro hcl hS
  (try simp only [Act.put]); (try simp only [List.setIfInBounds_toArray]); (repeat (first | simp only [List.set_cons_succ] | simp only [List.set_cons_zero]))
  refine wpAnyL_take (i := 1) (T := (fun w9 => BoxAt w9 (w.heap.size + 1 + 1 + 1 + 1 + ya.n + yb.n + y9.n + 1) [.int .i64 v.2.1.kind, .int .i64 v.2.1.term, .int .i64 v.2.1.at_, .int .i64 0, .slice none 0 0, .int .i64 0] 67)) (v := ?_) rfl (by kernel_rfl) (by kernel_rfl) (by kernel_rfl) (fun _ _ _ h => h) (fun _ _ _ _ hS => hS.2.2.2) (SS.up (by decide) (by decide)) (SS.down (by decide) (by decide)) (Or.inl ⟨by rfl, ?_⟩) hcl hS ?_
  rotate_left
  · (intro w9 hw9; (try dsimp only at hw9); obtain ⟨g0, g1, g2, g3, g4, g5⟩ := hw9.six; go_simp; try with_reducible rfl)
  clear hcl hS
  intro hcl hS
  (try simp only [Act.put]); (try simp only [List.setIfInBounds_toArray]); (repeat (first | simp only [List.set_cons_succ] | simp only [List.set_cons_zero]))
  refine wpAnyL_take (i := 2) (T := (fun _ => True)) (v := ?_) rfl (by kernel_rfl) (by kernel_rfl) (by kernel_rfl) (fun _ _ _ h => h) (fun _ _ _ _ _ => trivial) (SS.up (by decide) (by decide)) (SS.down (by decide) (by decide)) (Or.inl ⟨by rfl, ?_⟩) hcl hS ?_
  rotate_left
  · (intro w9 hw9; (try dsimp only at hw9); go_simp; try with_reducible rfl)
  clear hcl hS
  intro hcl hS
  (try simp only [Act.put]); (try simp only [List.setIfInBounds_toArray]); (repeat (first | simp only [List.set_cons_succ] | simp only [List.set_cons_zero]))
  have hp9 := hS.2.2.1
  have hq9 := hS.2.2.2
  clear hS
  refine wpAnyL_store (i := 3) (by kernel_rfl) rfl rfl hcl 65 (.tmp 4) (.tmp 56) rfl (k3.mono (by repeat (first | exact Ext.refl _ | assumption | apply Ext.xt | apply Ext.alloc | apply Ext.drew | apply Ext.drewN))) rfl [.int .i64 v.1.id, .int .i64 v.1.term, .bool v.1.speaks, .slice D v.1.log.length K, .int .i64 v.1.acked, .int .i64 v.1.next] rfl rfl (show 6 < 44 by decide) (by kernel_rfl) (nodl_one v.1 D K) ?_; intro W1 ht1 hb1; replace hp9 := hp9.turn ht1 (by omega); replace hq9 := hq9.turn ht1 (by omega)
  refine ⟨⟨fun _ => trivial, fun _ => trivial, hp9, hq9⟩, fun hcl hS => ?_⟩
  clear hp9 hq9
  have hp9 := hS.2.2.1
  have hq9 := hS.2.2.2
  clear hS
  refine wpAnyL_store (i := 4) (by kernel_rfl) rfl rfl hcl 67 (.tmp 5) (.tmp 57) rfl ((k4.mono (by repeat (first | exact Ext.refl _ | assumption | apply Ext.xt | apply Ext.alloc | apply Ext.drew | apply Ext.drewN))).turn ht1 (by omega)) rfl [.int .i64 v.2.1.kind, .int .i64 v.2.1.term, .int .i64 v.2.1.at_, .int .i64 0, .slice none 0 0, .int .i64 0] rfl rfl (show 6 < 44 by decide) (by kernel_rfl) (ansl_one v.2.1) ?_; intro W2 ht2 hb2; replace hp9 := hp9.turn ht2 (by omega); replace hq9 := hq9.turn ht2 (by omega)
  refine ⟨⟨fun _ => trivial, fun _ => trivial, hp9, hq9⟩, fun hcl hS => ?_⟩
  clear hp9 hq9
  refine wpAnyL_only (i := 5) (by kernel_rfl) rfl rfl hcl (fun K9 hK9 => ?_)
  have hp9 := hS.2.2.1
  have hq9 := hS.2.2.2
  clear hS hcl
  go_simp
  refine hK9 _ _ ⟨fun _ => trivial, fun _ => trivial, hp9, hq9⟩ (fun hcl hS => ?_)
  clear hK9 hp9 hq9 K9
  refine wpAnyL_only (i := 6) (by kernel_rfl) rfl rfl hcl (fun K9 hK9 => ?_)
  have hp9 := hS.2.2.1
  have hq9 := hS.2.2.2
  clear hS hcl
  go_simp
  refine hK9 _ _ ⟨fun _ => trivial, fun _ => trivial, hp9, hq9⟩ (fun hcl hS => ?_)
  clear hK9 hp9 hq9 K9
  clear hcl hS
  refine wpAnyL_done (by kernel_rfl) ?_ _
  go_wp2_with fail
  obtain ⟨q0, q1, q2, q3, q4, q5⟩ := (hb1.turn ht2 (by omega)).six
  obtain ⟨r0, r1, r2, r3, r4, r5⟩ := hb2.six
  refine bodyPost_ret (v := .tuple #[.agg #[.int .i64 v.1.id, .int .i64 v.1.term, .bool v.1.speaks, .slice D v.1.log.length K, .int .i64 v.1.acked, .int .i64 v.1.next], .agg #[.int .i64 v.2.1.kind, .int .i64 v.2.1.term, .int .i64 v.2.1.at_, .int .i64 0, .slice none 0 0, .int .i64 0], .bool true, .int .i64 0]) (by simp [results, Tryz.results22, go_sem, q0, q1, q2, q3, q4, q5, r0, r1, r2, r3, r4, r5]) rfl ?_
  rw [HR.out]
  have hlog := ((hlg.mono (by repeat (first | exact Ext.refl _ | assumption | apply Ext.xt | apply Ext.alloc | apply Ext.drew | apply Ext.drewN))).turn ht1).turn ht2
  rw [Q2.out] at hlog ⊢
  exact ⟨D, K, by rw [H4.out, H5.out, ← Q4.out], ht2.ext (ht1.ext (hex.trans (by repeat (first | exact Ext.refl _ | assumption | apply Ext.xt | apply Ext.alloc | apply Ext.drew | apply Ext.drewN))) (by omega)) (by omega), hlog⟩
theorem r54_Receive (hs : RecsAt w A c n.log) (hm : RecsAt w B d m.recs) : Calls Tryz.prog 22 #[.agg #[.int .i64 n.id, .int .i64 n.term, .bool n.speaks, .slice A n.log.length c, .int .i64 n.acked, .int .i64 n.next], .agg #[.int .i64 m.kind, .int .i64 m.term, .int .i64 m.at_, .int .i64 m.before, .slice B m.recs.length d, .int .i64 m.acked]] w (RetRcvd w w (recvV n m)) := by
  by_cases h1 : nodE n = 0
  · by_cases h2 : msgE m = 0
    · by_cases h3 : m.kind = 0 ∧ ownB n.id m.term = true
      · exact qReceive_own n A c m B d w hs hm h1 h2 h3
      · by_cases hk : m.kind = 0
        · have ho : ownB n.id m.term = false := by
            cases h : ownB n.id m.term with
            | false => rfl
            | true => exact absurd ⟨hk, h⟩ h3
          by_cases h4 : (recdV n m).2.2.2 = 0
          · cases h5 : (recdV n m).2.2.1 with
            | false => exact qReceive_app10 n A c m B d w hs hm h1 h2 (by simpa using hk) ho h4 h5
            | true => exact qReceive_app11 n A c m B d w hs hm h1 h2 (by simpa using hk) ho h4 h5
          · exact qReceive_app0 n A c m B d w hs hm h1 h2 (by simpa using hk) ho h4
        · by_cases h4 : (recdV n m).2.2.2 = 0
          · cases h5 : (recdV n m).2.2.1 with
            | false => exact qReceive_ans10 n A c m B d w hs hm h1 h2 (by simpa using hk) h4 h5
            | true => exact qReceive_ans11 n A c m B d w hs hm h1 h2 (by simpa using hk) h4 h5
          · exact qReceive_ans0 n A c m B d w hs hm h1 h2 (by simpa using hk) h4
    · exact qReceive_wrong n A c m B d w hs hm (.inr h2)
  · exact qReceive_wrong n A c m B d w hs hm (.inl h1)
end
end Go.Proofs.YtlpboikonnpjbaaGreat
