/-
  Chapter 54: what a right message does to a right node.
-/
import Derived.Test.YtmhinhgflehkaaaGreatRep9
import Derived.Test.YtmhinhgflehkaaaGreatGrpe
namespace Go.Proofs.YtmhinhgflehkaaaGreat
open Go.RowKit

theorem setCells_past (b : Nat) (o : Obj) : ∀ (vs : List Value) (off : Nat) (w : World), b < w.heap.size → (w.alloc o).setCells b off vs = (w.setCells b off vs).alloc o
  | [], _, _, _ => rfl
  | v :: r, off, w, h => by
    rw [World.setCells, World.setCells, World.setCell_alloc_past o b off v h, setCells_past b o r (off + 1) _ (by simpa [World.setCell] using h)]
theorem turn_alloc (V w : World) (o : Obj) (vs : List Value) (h : w.heap.size < V.heap.size) : (V.alloc o).setCells w.heap.size 0 vs = (V.setCells w.heap.size 0 vs).alloc o := setCells_past _ o vs 0 V h
theorem turn_xt (V w : World) (y : Gr) (vs : List Value) (h : w.heap.size < V.heap.size) : (xt V y).setCells w.heap.size 0 vs = xt (V.setCells w.heap.size 0 vs) y := xt_setCells _ y vs 0 V h
theorem setCells_drew (b : Nat) : ∀ (vs : List Value) (off : Nat) (w : World), w.drew.setCells b off vs = (w.setCells b off vs).drew
  | [], _, _ => rfl
  | v :: r, off, w => by rw [World.setCells, World.setCells, World.setCell_drew, setCells_drew b r (off + 1)]
theorem turn_box (w : World) (cs : Array Value) (vs : List Value) (T : TypeId) (h : cs.size = vs.length) : (w.alloc (.cells cs T)).setCells w.heap.size 0 vs = w.alloc (.cells vs.toArray T) := by
  have := setCells_whole T w cs vs.toArray (by simpa using h)
  simpa using this
/-- An Append at a node that lies in a box. -/
theorem rep_take (n : Nod) (A : Option Addr) (c : Nat) (m : Msg) (B : Option Addr) (d : Nat) (w W : World) (hs : RecsAt w A c n.log) (hm : RecsAt w B d m.recs) (h256 : n.log.length ≤ 256) (hrl : m.recs.length ≤ 16) (ha : 0 ≤ m.at_) (hx : Ext (w.alloc (.cells #[.int .i64 n.id, .int .i64 n.term, .bool n.speaks, .slice A n.log.length c, .int .i64 n.acked, .int .i64 n.next] 24)) W) :
    Calls Tryz.prog 169 #[.pointer (some ⟨w.heap.size, 0, none⟩), .agg #[.int .i64 m.kind, .int .i64 m.term, .int .i64 m.at_, .int .i64 m.before, .slice B m.recs.length d, .int .i64 m.acked]] W (RetBox w W (takeV n m)) := by
  obtain ⟨y0, rfl⟩ := hx.get
  obtain ⟨p, hp⟩ : ∃ p : Nat, m.at_ = p := ⟨m.at_.toNat, by omega⟩
  rw [hp]
  by_cases hpl : p ≤ n.log.length
  · by_cases hb : 0 < p ∧ termAt n.log ((p : Int) - 1) ≠ m.before
    · obtain ⟨r, hr⟩ : ∃ r, n.log[p - 1]? = some r := ⟨_, List.getElem?_eq_getElem (by omega)⟩
      exact take_other n A c m p B d w y0 hp hs hpl hb.1 r hr (by have := hb.2; rwa [show ((p : Int) - 1) = ((p - 1 : Nat) : Int) by omega, termAt_get' hr] at this)
    · have h2 : ¬ (0 < m.at_ ∧ termAt n.log (m.at_ - 1) ≠ m.before) := by rw [hp]; intro h; exact hb ⟨by omega, h.2⟩
      have hg : (0 < p ∧ ∃ (r : Rec) (b o : Nat), A = some ⟨b, o, none⟩ ∧ w.cell? ⟨b, o + (p - 1) * 45, none⟩ = some (.int .i64 r.term) ∧ (r.term != m.before) = false) ∨ ¬ 0 < p := by
        by_cases h0 : 0 < p
        · obtain ⟨r, hr⟩ : ∃ r, n.log[p - 1]? = some r := ⟨_, List.getElem?_eq_getElem (by omega)⟩
          obtain ⟨b, o, hA, hrec, -⟩ := hs.get hr
          refine .inl ⟨h0, r, b, o, hA, hrec.term, ?_⟩
          have he : termAt n.log ((p : Int) - 1) = m.before := by
            by_cases he : termAt n.log ((p : Int) - 1) = m.before
            · exact he
            · exact absurd ⟨h0, he⟩ hb
          rw [show ((p : Int) - 1) = ((p - 1 : Nat) : Int) by omega, termAt_get' hr] at he
          simpa using he
        · exact .inr h0
      have hat : m.at_.toNat = p := by omega
      by_cases h3 : keepN (n.log.drop m.at_.toNat) m.recs < m.recs.length ∧ m.at_ + keepN (n.log.drop m.at_.toNat) m.recs < min n.acked n.log.length
      · rw [hat, hp] at h3
        exact take_lost n A c m p B d w y0 hp hs hm h256 hrl hpl h2 hg h3.1 h3.2
      · exact take_main n A c m p B d w y0 hp hs hm h256 hrl hpl h2 hg h3
  · exact take_far n A c m p B d w y0 hp hs (by omega)
section
variable (n : Nod) (A : Option Addr) (c : Nat) (m : Msg) (B : Option Addr) (d : Nat) (w : World) (y0 : Gr)
set_option maxHeartbeats 6400000 in
set_option maxRecDepth 100000 in
theorem recd_old (k : Int) (hk : m.kind = k) (hs : RecsAt w A c n.log) (h : m.term < n.term) : Calls Tryz.prog 133 #[.pointer (some ⟨w.heap.size, 0, none⟩), .agg #[.int .i64 k, .int .i64 m.term, .int .i64 m.at_, .int .i64 m.before, .slice B m.recs.length d, .int .i64 m.acked]] (xt (w.alloc (.cells #[.int .i64 n.id, .int .i64 n.term, .bool n.speaks, .slice A n.log.length c, .int .i64 n.acked, .int .i64 n.next] 24)) y0) (RetBox w (xt (w.alloc (.cells #[.int .i64 n.id, .int .i64 n.term, .bool n.speaks, .slice A n.log.length c, .int .i64 n.acked, .int .i64 n.next] 24)) y0) (recdV n m)) := by
  have hl := hs.len
  have HS := Lib.hid hs
  have hd : decide (m.term < n.term) = true := decide_eq_true h
  have hdef : recdV n m = if k = 0 then (n, ansM n 2 0, true, 0) else (n, msg0, false, 0) := by unfold recdV; rw [if_pos h, hk]
  clear hs hk
  by_cases h0 : k = 0
  · have HR := Lib.hid (hdef.trans (if_pos h0))
    subst h0
    clear hdef
    go_enter Tryz.func133, Tryz.ntmps133
    go_wp2
    (refine wp_region_grows (by kernel_rfl) (by kernel_rfl) ?_; (repeat (go_big_quiet_step (fail))); refine wpQuiet_nil ?_; rintro _ ⟨y, rfl⟩)
    go_wp2_with (go_at_call 168; refine (rep_answer w.heap.size n.term _ _ _ (by simp [go_sem])).mono ?_; rintro e w' ⟨rfl, hx⟩; obtain ⟨y, rfl⟩ := hx.get; clear hx)
    refine bodyPost_ret (v := .tuple #[.agg #[.int .i64 2, .int .i64 n.term, .int .i64 0, .int .i64 0, .slice none 0 0, .int .i64 0], .bool true, .int .i64 0]) (by simp [results, Tryz.results133, go_sem]) rfl ?_
    exact RetBox.of (A := A) (c := c) (n := n) HR.out (ex) (.inl HS.out)
  · have HR := Lib.hid (hdef.trans (if_neg h0))
    have hz : (k == 0) = false := by simpa using h0
    clear hdef h0
    go_enter Tryz.func133, Tryz.ntmps133
    go_wp2
    (refine wp_region_grows (by kernel_rfl) (by kernel_rfl) ?_; (repeat (go_big_quiet_step (fail))); refine wpQuiet_nil ?_; rintro _ ⟨y, rfl⟩)
    go_wp2
    refine bodyPost_ret (v := .tuple #[.agg #[.int .i64 0, .int .i64 0, .int .i64 0, .int .i64 0, .slice none 0 0, .int .i64 0], .bool false, .int .i64 0]) (by simp [results, Tryz.results133, go_sem]) rfl ?_
    exact RetBox.of (A := A) (c := c) (n := n) HR.out (ex) (.inl HS.out)
set_option maxHeartbeats 6400000 in
set_option maxRecDepth 100000 in
theorem recd_0_same (hk : m.kind = 0) (hs : RecsAt w A c n.log) (hm : RecsAt w B d m.recs) (h256 : n.log.length ≤ 256) (hrl : m.kind = 0 → m.recs.length ≤ 16) (ha : 0 ≤ m.at_) (ht : n.term = m.term) : Calls Tryz.prog 133 #[.pointer (some ⟨w.heap.size, 0, none⟩), .agg #[.int .i64 0, .int .i64 m.term, .int .i64 m.at_, .int .i64 m.before, .slice B m.recs.length d, .int .i64 m.acked]] (xt (w.alloc (.cells #[.int .i64 n.id, .int .i64 n.term, .bool n.speaks, .slice A n.log.length c, .int .i64 n.acked, .int .i64 n.next] 24)) y0) (RetBox w (xt (w.alloc (.cells #[.int .i64 n.id, .int .i64 n.term, .bool n.speaks, .slice A n.log.length c, .int .i64 n.acked, .int .i64 n.next] 24)) y0) (recdV n m)) := by
  have hl := hs.len
  have hl2 := hm.len
  have HS := Lib.hid hs
  have hd1 : decide (m.term < n.term) = false := decide_eq_false (by omega)
  have hd2 : decide (n.term < m.term) = false := decide_eq_false (by omega)
  obtain ⟨v, hv⟩ : ∃ v, takeV n m = v := ⟨_, rfl⟩
  have HR := Lib.hid (show recdV n m = v by
    rw [← hv]
    have hi : inTerm n m = n := by exact inTerm_same ht
    unfold recdV
    rw [if_neg (by omega), hi, hk]
    rfl)
  have HC := Lib.hid (fun (W : World) (hx : Ext (w.alloc (.cells #[.int .i64 n.id, .int .i64 n.term, .bool n.speaks, .slice A n.log.length c, .int .i64 n.acked, .int .i64 n.next] 24)) W) => rep_take n A c m B d w W hs hm h256 (hrl hk) ha hx)
  rw [hv, hk] at HC
  clear hs hm hk hv hrl ha h256 ht
  go_enter Tryz.func133, Tryz.ntmps133
  go_wp2
  (refine wp_region_grows (by kernel_rfl) (by kernel_rfl) ?_; (repeat (go_big_quiet_step (fail))); refine wpQuiet_nil ?_; rintro _ ⟨y, rfl⟩)
  go_wp2
  (refine wp_region_grows (by kernel_rfl) (by kernel_rfl) ?_; (repeat (go_big_quiet_step (fail))); refine wpQuiet_nil ?_; rintro _ ⟨y, rfl⟩)
  go_wp2
  go_region_law ((go_simp; go_at_call 169; refine (HC.out _ (ex)).mono ?_; rintro e w' ⟨D, K, rfl, hx, hr⟩; have HRR := Lib.hid hr; (repeat (first | rw [turn_box w _ _ _ (by rfl)] at hx | rw [setCells_drew] at hx | rw [turn_xt _ w _ _ (by simp [go_sem] <;> omega)] at hx | rw [turn_alloc _ w _ _ (by simp [go_sem] <;> omega)] at hx)); obtain ⟨y9, rfl⟩ := hx.get; clear hx hr))
  all_goals
    go_wp2_with fail
    refine bodyPost_ret (v := .tuple #[.agg #[.int .i64 v.2.1.kind, .int .i64 v.2.1.term, .int .i64 v.2.1.at_, .int .i64 0, .slice none 0 0, .int .i64 0], .bool v.2.2.1, .int .i64 v.2.2.2]) (by simp [results, Tryz.results133, go_sem]) rfl ?_
    rw [HR.out]
    exact RetBox.fin (A := D) (c := K) (ex) (LogIn.base (LogIn.along (LogIn.base HRR.out (by simp [go_sem])) (ex) (by simp [go_sem])) (by simp [go_sem] <;> omega))
set_option maxHeartbeats 6400000 in
set_option maxRecDepth 100000 in
theorem recd_0_up (hk : m.kind = 0) (hs : RecsAt w A c n.log) (hm : RecsAt w B d m.recs) (h256 : n.log.length ≤ 256) (hrl : m.kind = 0 → m.recs.length ≤ 16) (ha : 0 ≤ m.at_) (ht : n.term < m.term) : Calls Tryz.prog 133 #[.pointer (some ⟨w.heap.size, 0, none⟩), .agg #[.int .i64 0, .int .i64 m.term, .int .i64 m.at_, .int .i64 m.before, .slice B m.recs.length d, .int .i64 m.acked]] (xt (w.alloc (.cells #[.int .i64 n.id, .int .i64 n.term, .bool n.speaks, .slice A n.log.length c, .int .i64 n.acked, .int .i64 n.next] 24)) y0) (RetBox w (xt (w.alloc (.cells #[.int .i64 n.id, .int .i64 n.term, .bool n.speaks, .slice A n.log.length c, .int .i64 n.acked, .int .i64 n.next] 24)) y0) (recdV n m)) := by
  have hl := hs.len
  have hl2 := hm.len
  have HS := Lib.hid hs
  have hd1 : decide (m.term < n.term) = false := decide_eq_false (by omega)
  have hd2 : decide (n.term < m.term) = true := decide_eq_true ht
  obtain ⟨v, hv⟩ : ∃ v, takeV ⟨n.id, m.term, false, n.log, n.acked, 0⟩ m = v := ⟨_, rfl⟩
  have HR := Lib.hid (show recdV n m = v by
    rw [← hv]
    have hi : inTerm n m = ⟨n.id, m.term, false, n.log, n.acked, 0⟩ := by unfold inTerm; rw [if_pos ht]
    unfold recdV
    rw [if_neg (by omega), hi, hk]
    rfl)
  have HC := Lib.hid (fun (W : World) (hx : Ext (w.alloc (.cells #[.int .i64 n.id, .int .i64 m.term, .bool false, .slice A n.log.length c, .int .i64 n.acked, .int .i64 0] 24)) W) => rep_take ⟨n.id, m.term, false, n.log, n.acked, 0⟩ A c m B d w W hs hm h256 (hrl hk) ha hx)
  rw [hv, hk] at HC
  clear hs hm hk hv hrl ha h256 
  go_enter Tryz.func133, Tryz.ntmps133
  go_wp2
  (refine wp_region_grows (by kernel_rfl) (by kernel_rfl) ?_; (repeat (go_big_quiet_step (fail))); refine wpQuiet_nil ?_; rintro _ ⟨y, rfl⟩)
  go_wp2
  (refine wp_region_grows (by kernel_rfl) (by kernel_rfl) ?_; (repeat (go_big_quiet_step (fail))); refine wpQuiet_nil ?_; rintro _ ⟨y, rfl⟩)
  go_wp2
  go_region_law ((go_simp; go_at_call 169; refine (HC.out _ (ex)).mono ?_; rintro e w' ⟨D, K, rfl, hx, hr⟩; have HRR := Lib.hid hr; (repeat (first | rw [turn_box w _ _ _ (by rfl)] at hx | rw [setCells_drew] at hx | rw [turn_xt _ w _ _ (by simp [go_sem] <;> omega)] at hx | rw [turn_alloc _ w _ _ (by simp [go_sem] <;> omega)] at hx)); obtain ⟨y9, rfl⟩ := hx.get; clear hx hr))
  all_goals
    go_wp2_with fail
    refine bodyPost_ret (v := .tuple #[.agg #[.int .i64 v.2.1.kind, .int .i64 v.2.1.term, .int .i64 v.2.1.at_, .int .i64 0, .slice none 0 0, .int .i64 0], .bool v.2.2.1, .int .i64 v.2.2.2]) (by simp [results, Tryz.results133, go_sem]) rfl ?_
    rw [HR.out]
    exact RetBox.fin (A := D) (c := K) (ex) (LogIn.base (LogIn.along (LogIn.base HRR.out (by simp [go_sem])) (ex) (by simp [go_sem])) (by simp [go_sem] <;> omega))
set_option maxHeartbeats 6400000 in
set_option maxRecDepth 100000 in
theorem recd_1_same (hk : m.kind = 1) (hs : RecsAt w A c n.log) (hm : RecsAt w B d m.recs) (_h256 : n.log.length ≤ 256) (_hrl : m.kind = 0 → m.recs.length ≤ 16) (_ha : 0 ≤ m.at_) (ht : n.term = m.term) : Calls Tryz.prog 133 #[.pointer (some ⟨w.heap.size, 0, none⟩), .agg #[.int .i64 1, .int .i64 m.term, .int .i64 m.at_, .int .i64 m.before, .slice B m.recs.length d, .int .i64 m.acked]] (xt (w.alloc (.cells #[.int .i64 n.id, .int .i64 n.term, .bool n.speaks, .slice A n.log.length c, .int .i64 n.acked, .int .i64 n.next] 24)) y0) (RetBox w (xt (w.alloc (.cells #[.int .i64 n.id, .int .i64 n.term, .bool n.speaks, .slice A n.log.length c, .int .i64 n.acked, .int .i64 n.next] 24)) y0) (recdV n m)) := by
  have hl := hs.len
  have hl2 := hm.len
  have HS := Lib.hid hs
  have hd1 : decide (m.term < n.term) = false := decide_eq_false (by omega)
  have hd2 : decide (n.term < m.term) = false := decide_eq_false (by omega)
  obtain ⟨v, hv⟩ : ∃ v, (ackN n m, msg0, false, (0 : Int)) = v := ⟨_, rfl⟩
  have HR := Lib.hid (show recdV n m = v by
    rw [← hv]
    have hi : inTerm n m = n := by exact inTerm_same ht
    unfold recdV
    rw [if_neg (by omega), hi, hk]
    rfl)
  have HC := Lib.hid (fun (W : World) (hx : Ext (w.alloc (.cells #[.int .i64 n.id, .int .i64 n.term, .bool n.speaks, .slice A n.log.length c, .int .i64 n.acked, .int .i64 n.next] 24)) W) => rep_ack n A c m B d w W hs hx)
  rw [hv, hk] at HC
  clear hs hm hk hv _hrl _ha _h256 ht
  go_enter Tryz.func133, Tryz.ntmps133
  go_wp2
  (refine wp_region_grows (by kernel_rfl) (by kernel_rfl) ?_; (repeat (go_big_quiet_step (fail))); refine wpQuiet_nil ?_; rintro _ ⟨y, rfl⟩)
  go_wp2
  (refine wp_region_grows (by kernel_rfl) (by kernel_rfl) ?_; (repeat (go_big_quiet_step (fail))); refine wpQuiet_nil ?_; rintro _ ⟨y, rfl⟩)
  go_wp2
  go_region_law ((go_simp; go_at_call 170; refine (HC.out _ (ex)).mono ?_; rintro e w' ⟨D, K, rfl, hx, hr⟩; have HRR := Lib.hid hr; (repeat (first | rw [turn_box w _ _ _ (by rfl)] at hx | rw [setCells_drew] at hx | rw [turn_xt _ w _ _ (by simp [go_sem] <;> omega)] at hx | rw [turn_alloc _ w _ _ (by simp [go_sem] <;> omega)] at hx)); obtain ⟨y9, rfl⟩ := hx.get; clear hx hr))
  all_goals
    go_wp2_with fail
    refine bodyPost_ret (v := .tuple #[.agg #[.int .i64 v.2.1.kind, .int .i64 v.2.1.term, .int .i64 v.2.1.at_, .int .i64 0, .slice none 0 0, .int .i64 0], .bool v.2.2.1, .int .i64 v.2.2.2]) (by simp [results, Tryz.results133, go_sem]) rfl ?_
    rw [HR.out]
    exact RetBox.fin (A := D) (c := K) (ex) (LogIn.base (LogIn.along (LogIn.base HRR.out (by simp [go_sem])) (ex) (by simp [go_sem])) (by simp [go_sem] <;> omega))
set_option maxHeartbeats 6400000 in
set_option maxRecDepth 100000 in
theorem recd_1_up (hk : m.kind = 1) (hs : RecsAt w A c n.log) (hm : RecsAt w B d m.recs) (_h256 : n.log.length ≤ 256) (_hrl : m.kind = 0 → m.recs.length ≤ 16) (_ha : 0 ≤ m.at_) (ht : n.term < m.term) : Calls Tryz.prog 133 #[.pointer (some ⟨w.heap.size, 0, none⟩), .agg #[.int .i64 1, .int .i64 m.term, .int .i64 m.at_, .int .i64 m.before, .slice B m.recs.length d, .int .i64 m.acked]] (xt (w.alloc (.cells #[.int .i64 n.id, .int .i64 n.term, .bool n.speaks, .slice A n.log.length c, .int .i64 n.acked, .int .i64 n.next] 24)) y0) (RetBox w (xt (w.alloc (.cells #[.int .i64 n.id, .int .i64 n.term, .bool n.speaks, .slice A n.log.length c, .int .i64 n.acked, .int .i64 n.next] 24)) y0) (recdV n m)) := by
  have hl := hs.len
  have hl2 := hm.len
  have HS := Lib.hid hs
  have hd1 : decide (m.term < n.term) = false := decide_eq_false (by omega)
  have hd2 : decide (n.term < m.term) = true := decide_eq_true ht
  obtain ⟨v, hv⟩ : ∃ v, (ackN ⟨n.id, m.term, false, n.log, n.acked, 0⟩ m, msg0, false, (0 : Int)) = v := ⟨_, rfl⟩
  have HR := Lib.hid (show recdV n m = v by
    rw [← hv]
    have hi : inTerm n m = ⟨n.id, m.term, false, n.log, n.acked, 0⟩ := by unfold inTerm; rw [if_pos ht]
    unfold recdV
    rw [if_neg (by omega), hi, hk]
    rfl)
  have HC := Lib.hid (fun (W : World) (hx : Ext (w.alloc (.cells #[.int .i64 n.id, .int .i64 m.term, .bool false, .slice A n.log.length c, .int .i64 n.acked, .int .i64 0] 24)) W) => rep_ack ⟨n.id, m.term, false, n.log, n.acked, 0⟩ A c m B d w W hs hx)
  rw [hv, hk] at HC
  clear hs hm hk hv _hrl _ha _h256 
  go_enter Tryz.func133, Tryz.ntmps133
  go_wp2
  (refine wp_region_grows (by kernel_rfl) (by kernel_rfl) ?_; (repeat (go_big_quiet_step (fail))); refine wpQuiet_nil ?_; rintro _ ⟨y, rfl⟩)
  go_wp2
  (refine wp_region_grows (by kernel_rfl) (by kernel_rfl) ?_; (repeat (go_big_quiet_step (fail))); refine wpQuiet_nil ?_; rintro _ ⟨y, rfl⟩)
  go_wp2
  go_region_law ((go_simp; go_at_call 170; refine (HC.out _ (ex)).mono ?_; rintro e w' ⟨D, K, rfl, hx, hr⟩; have HRR := Lib.hid hr; (repeat (first | rw [turn_box w _ _ _ (by rfl)] at hx | rw [setCells_drew] at hx | rw [turn_xt _ w _ _ (by simp [go_sem] <;> omega)] at hx | rw [turn_alloc _ w _ _ (by simp [go_sem] <;> omega)] at hx)); obtain ⟨y9, rfl⟩ := hx.get; clear hx hr))
  all_goals
    go_wp2_with fail
    refine bodyPost_ret (v := .tuple #[.agg #[.int .i64 v.2.1.kind, .int .i64 v.2.1.term, .int .i64 v.2.1.at_, .int .i64 0, .slice none 0 0, .int .i64 0], .bool v.2.2.1, .int .i64 v.2.2.2]) (by simp [results, Tryz.results133, go_sem]) rfl ?_
    rw [HR.out]
    exact RetBox.fin (A := D) (c := K) (ex) (LogIn.base (LogIn.along (LogIn.base HRR.out (by simp [go_sem])) (ex) (by simp [go_sem])) (by simp [go_sem] <;> omega))
set_option maxHeartbeats 6400000 in
set_option maxRecDepth 100000 in
theorem recd_2_same (hk : m.kind = 2) (hs : RecsAt w A c n.log) (hm : RecsAt w B d m.recs) (_h256 : n.log.length ≤ 256) (_hrl : m.kind = 0 → m.recs.length ≤ 16) (_ha : 0 ≤ m.at_) (ht : n.term = m.term) : Calls Tryz.prog 133 #[.pointer (some ⟨w.heap.size, 0, none⟩), .agg #[.int .i64 2, .int .i64 m.term, .int .i64 m.at_, .int .i64 m.before, .slice B m.recs.length d, .int .i64 m.acked]] (xt (w.alloc (.cells #[.int .i64 n.id, .int .i64 n.term, .bool n.speaks, .slice A n.log.length c, .int .i64 n.acked, .int .i64 n.next] 24)) y0) (RetBox w (xt (w.alloc (.cells #[.int .i64 n.id, .int .i64 n.term, .bool n.speaks, .slice A n.log.length c, .int .i64 n.acked, .int .i64 n.next] 24)) y0) (recdV n m)) := by
  have hl := hs.len
  have hl2 := hm.len
  have HS := Lib.hid hs
  have hd1 : decide (m.term < n.term) = false := decide_eq_false (by omega)
  have hd2 : decide (n.term < m.term) = false := decide_eq_false (by omega)
  obtain ⟨v, hv⟩ : ∃ v, (refuseN n m, msg0, false, (0 : Int)) = v := ⟨_, rfl⟩
  have HR := Lib.hid (show recdV n m = v by
    rw [← hv]
    have hi : inTerm n m = n := by exact inTerm_same ht
    unfold recdV
    rw [if_neg (by omega), hi, hk]
    rfl)
  have HC := Lib.hid (fun (W : World) (hx : Ext (w.alloc (.cells #[.int .i64 n.id, .int .i64 n.term, .bool n.speaks, .slice A n.log.length c, .int .i64 n.acked, .int .i64 n.next] 24)) W) => rep_refuse n A c m B d w W hs hx)
  rw [hv, hk] at HC
  clear hs hm hk hv _hrl _ha _h256 ht
  go_enter Tryz.func133, Tryz.ntmps133
  go_wp2
  (refine wp_region_grows (by kernel_rfl) (by kernel_rfl) ?_; (repeat (go_big_quiet_step (fail))); refine wpQuiet_nil ?_; rintro _ ⟨y, rfl⟩)
  go_wp2
  (refine wp_region_grows (by kernel_rfl) (by kernel_rfl) ?_; (repeat (go_big_quiet_step (fail))); refine wpQuiet_nil ?_; rintro _ ⟨y, rfl⟩)
  go_wp2
  go_region_law ((go_simp; go_at_call 171; refine (HC.out _ (ex)).mono ?_; rintro e w' ⟨D, K, rfl, hx, hr⟩; have HRR := Lib.hid hr; (repeat (first | rw [turn_box w _ _ _ (by rfl)] at hx | rw [setCells_drew] at hx | rw [turn_xt _ w _ _ (by simp [go_sem] <;> omega)] at hx | rw [turn_alloc _ w _ _ (by simp [go_sem] <;> omega)] at hx)); obtain ⟨y9, rfl⟩ := hx.get; clear hx hr))
  all_goals
    go_wp2_with fail
    refine bodyPost_ret (v := .tuple #[.agg #[.int .i64 v.2.1.kind, .int .i64 v.2.1.term, .int .i64 v.2.1.at_, .int .i64 0, .slice none 0 0, .int .i64 0], .bool v.2.2.1, .int .i64 v.2.2.2]) (by simp [results, Tryz.results133, go_sem]) rfl ?_
    rw [HR.out]
    exact RetBox.fin (A := D) (c := K) (ex) (LogIn.base (LogIn.along (LogIn.base HRR.out (by simp [go_sem])) (ex) (by simp [go_sem])) (by simp [go_sem] <;> omega))
set_option maxHeartbeats 6400000 in
set_option maxRecDepth 100000 in
theorem recd_2_up (hk : m.kind = 2) (hs : RecsAt w A c n.log) (hm : RecsAt w B d m.recs) (_h256 : n.log.length ≤ 256) (_hrl : m.kind = 0 → m.recs.length ≤ 16) (_ha : 0 ≤ m.at_) (ht : n.term < m.term) : Calls Tryz.prog 133 #[.pointer (some ⟨w.heap.size, 0, none⟩), .agg #[.int .i64 2, .int .i64 m.term, .int .i64 m.at_, .int .i64 m.before, .slice B m.recs.length d, .int .i64 m.acked]] (xt (w.alloc (.cells #[.int .i64 n.id, .int .i64 n.term, .bool n.speaks, .slice A n.log.length c, .int .i64 n.acked, .int .i64 n.next] 24)) y0) (RetBox w (xt (w.alloc (.cells #[.int .i64 n.id, .int .i64 n.term, .bool n.speaks, .slice A n.log.length c, .int .i64 n.acked, .int .i64 n.next] 24)) y0) (recdV n m)) := by
  have hl := hs.len
  have hl2 := hm.len
  have HS := Lib.hid hs
  have hd1 : decide (m.term < n.term) = false := decide_eq_false (by omega)
  have hd2 : decide (n.term < m.term) = true := decide_eq_true ht
  obtain ⟨v, hv⟩ : ∃ v, (refuseN ⟨n.id, m.term, false, n.log, n.acked, 0⟩ m, msg0, false, (0 : Int)) = v := ⟨_, rfl⟩
  have HR := Lib.hid (show recdV n m = v by
    rw [← hv]
    have hi : inTerm n m = ⟨n.id, m.term, false, n.log, n.acked, 0⟩ := by unfold inTerm; rw [if_pos ht]
    unfold recdV
    rw [if_neg (by omega), hi, hk]
    rfl)
  have HC := Lib.hid (fun (W : World) (hx : Ext (w.alloc (.cells #[.int .i64 n.id, .int .i64 m.term, .bool false, .slice A n.log.length c, .int .i64 n.acked, .int .i64 0] 24)) W) => rep_refuse ⟨n.id, m.term, false, n.log, n.acked, 0⟩ A c m B d w W hs hx)
  rw [hv, hk] at HC
  clear hs hm hk hv _hrl _ha _h256 
  go_enter Tryz.func133, Tryz.ntmps133
  go_wp2
  (refine wp_region_grows (by kernel_rfl) (by kernel_rfl) ?_; (repeat (go_big_quiet_step (fail))); refine wpQuiet_nil ?_; rintro _ ⟨y, rfl⟩)
  go_wp2
  (refine wp_region_grows (by kernel_rfl) (by kernel_rfl) ?_; (repeat (go_big_quiet_step (fail))); refine wpQuiet_nil ?_; rintro _ ⟨y, rfl⟩)
  go_wp2
  go_region_law ((go_simp; go_at_call 171; refine (HC.out _ (ex)).mono ?_; rintro e w' ⟨D, K, rfl, hx, hr⟩; have HRR := Lib.hid hr; (repeat (first | rw [turn_box w _ _ _ (by rfl)] at hx | rw [setCells_drew] at hx | rw [turn_xt _ w _ _ (by simp [go_sem] <;> omega)] at hx | rw [turn_alloc _ w _ _ (by simp [go_sem] <;> omega)] at hx)); obtain ⟨y9, rfl⟩ := hx.get; clear hx hr))
  all_goals
    go_wp2_with fail
    refine bodyPost_ret (v := .tuple #[.agg #[.int .i64 v.2.1.kind, .int .i64 v.2.1.term, .int .i64 v.2.1.at_, .int .i64 0, .slice none 0 0, .int .i64 0], .bool v.2.2.1, .int .i64 v.2.2.2]) (by simp [results, Tryz.results133, go_sem]) rfl ?_
    rw [HR.out]
    exact RetBox.fin (A := D) (c := K) (ex) (LogIn.base (LogIn.along (LogIn.base HRR.out (by simp [go_sem])) (ex) (by simp [go_sem])) (by simp [go_sem] <;> omega))
end
end Go.Proofs.YtmhinhgflehkaaaGreat

/-
  Chapter 54: to receive a message.
-/
namespace Go.Proofs.YtmhinhgflehkaaaGreat
open Go.RowKit

theorem rep_received (n : Nod) (A : Option Addr) (c : Nat) (m : Msg) (B : Option Addr) (d : Nat) (w W : World) (hs : RecsAt w A c n.log) (hm : RecsAt w B d m.recs) (h256 : n.log.length ≤ 256) (hok : MsgOk m) (hx : Ext (w.alloc (.cells #[.int .i64 n.id, .int .i64 n.term, .bool n.speaks, .slice A n.log.length c, .int .i64 n.acked, .int .i64 n.next] 24)) W) :
    Calls Tryz.prog 133 #[.pointer (some ⟨w.heap.size, 0, none⟩), .agg #[.int .i64 m.kind, .int .i64 m.term, .int .i64 m.at_, .int .i64 m.before, .slice B m.recs.length d, .int .i64 m.acked]] W (RetBox w W (recdV n m)) := by
  obtain ⟨y0, rfl⟩ := hx.get
  have ha := hok.at0
  have hrl : m.kind = 0 → m.recs.length ≤ 16 := fun h => (hok.app h).len
  have k0 := hok.k0; have k1 := hok.k1
  by_cases ht : m.term < n.term
  · exact recd_old n A c m B d w y0 m.kind rfl hs ht
  · have hk : m.kind = 0 ∨ m.kind = 1 ∨ m.kind = 2 := by omega
    by_cases he : n.term = m.term
    · rcases hk with hk | hk | hk <;> rw [hk]
      · exact recd_0_same n A c m B d w y0 hk hs hm h256 hrl ha he
      · exact recd_1_same n A c m B d w y0 hk hs hm h256 hrl ha he
      · exact recd_2_same n A c m B d w y0 hk hs hm h256 hrl ha he
    · have hl : n.term < m.term := by omega
      rcases hk with hk | hk | hk <;> rw [hk]
      · exact recd_0_up n A c m B d w y0 hk hs hm h256 hrl ha hl
      · exact recd_1_up n A c m B d w y0 hk hs hm h256 hrl ha hl
      · exact recd_2_up n A c m B d w y0 hk hs hm h256 hrl ha hl
/-- What is received: a node, an answer, whether there is one, an error's number. -/
def RetRecv (w : World) (v : Nod × Msg × Bool × Int) (e : Ending) (w' : World) : Prop := ∃ A c, e = .returned (.tuple #[.agg #[.int .i64 v.1.id, .int .i64 v.1.term, .bool v.1.speaks, .slice A v.1.log.length c, .int .i64 v.1.acked, .int .i64 v.1.next], .agg #[.int .i64 v.2.1.kind, .int .i64 v.2.1.term, .int .i64 v.2.1.at_, .int .i64 0, .slice none 0 0, .int .i64 0], .bool v.2.2.1, .int .i64 v.2.2.2]) ∧ Ext w w' ∧ LogIn w w w' A v.1.log.length c v.1.log
theorem RetRecv.err {w w' : World} {v : Nod × Msg × Bool × Int} {x : Int} (h : v = (nod0, msg0, false, x)) (hx : Ext w w') :
    RetRecv w v (.returned (.tuple #[.agg #[.int .i64 0, .int .i64 0, .bool false, .slice none 0 0, .int .i64 0, .int .i64 0], .agg #[.int .i64 0, .int .i64 0, .int .i64 0, .int .i64 0, .slice none 0 0, .int .i64 0], .bool false, .int .i64 x])) w' := by
  subst h
  exact ⟨none, 0, rfl, hx, .inl (RecsAt.nil _)⟩
section
variable {n : Nod} {m : Msg}
theorem recvV_a (h : nodE n ≠ 0) : recvV n m = (nod0, msg0, false, nodE n) := by unfold recvV; rw [if_pos h]
theorem recvV_b (h : nodE n = 0) (h2 : msgE m ≠ 0) : recvV n m = (nod0, msg0, false, msgE m) := by unfold recvV; rw [if_neg (by simpa using h), if_pos h2]
theorem recvV_c (h : nodE n = 0) (h2 : msgE m = 0) (h3 : m.kind = 0 ∧ ownB n.id m.term = true) : recvV n m = (nod0, msg0, false, 11) := by unfold recvV; rw [if_neg (by simpa using h), if_neg (by simpa using h2), if_pos h3]
theorem recvV_d (h : nodE n = 0) (h2 : msgE m = 0) (h3 : ¬ (m.kind = 0 ∧ ownB n.id m.term = true)) {v : Nod × Msg × Bool × Int} (hv : recdV n m = v) (h4 : v.2.2.2 ≠ 0) : recvV n m = (nod0, msg0, false, v.2.2.2) := by
  subst hv; unfold recvV; rw [if_neg (by simpa using h), if_neg (by simpa using h2), if_neg h3, if_pos h4]
theorem recvV_e (h : nodE n = 0) (h2 : msgE m = 0) (h3 : ¬ (m.kind = 0 ∧ ownB n.id m.term = true)) {v : Nod × Msg × Bool × Int} (hv : recdV n m = v) (h4 : v.2.2.2 = 0) : recvV n m = v := by
  subst hv; unfold recvV; rw [if_neg (by simpa using h), if_neg (by simpa using h2), if_neg h3, if_neg (by simpa using h4)]
end
section
variable (n : Nod) (A : Option Addr) (c : Nat) (m : Msg) (B : Option Addr) (d : Nat) (w : World)
set_option maxHeartbeats 3200000 in
set_option maxRecDepth 100000 in
theorem Receive_wrong (hs : RecsAt w A c n.log) (hm : RecsAt w B d m.recs) (h : nodE n ≠ 0 ∨ msgE m ≠ 0) : Calls Tryz.prog 102 #[.agg #[.int .i64 n.id, .int .i64 n.term, .bool n.speaks, .slice A n.log.length c, .int .i64 n.acked, .int .i64 n.next], .agg #[.int .i64 m.kind, .int .i64 m.term, .int .i64 m.at_, .int .i64 m.before, .slice B m.recs.length d, .int .i64 m.acked]] w (RetRecv w (recvV n m)) := by
  have HS := Lib.hid hs
  have HM := Lib.hid hm
  clear hs hm
  by_cases h1 : nodE n = 0
  · have h2 : msgE m ≠ 0 := by rcases h with h | h; exact absurd h1 h; exact h
    have hz : (nodE n != 0) = false := by simpa using h1
    have hz2 : (msgE m != 0) = true := by simpa using h2
    have HR := Lib.hid (recvV_b h1 h2)
    clear h h1 h2
    go_enter Tryz.func102, Tryz.ntmps102
    go_wp2_with (first | (go_at_call 103; refine (rep_Check n A c _ (HS.out.mono (ex))).mono ?_; rintro e w' ⟨rfl, hx⟩; obtain ⟨y, rfl⟩ := hx.get; clear hx) | (go_at_call 109; refine (rep_Right m B d _ (HM.out.mono (ex))).mono ?_; rintro e w' ⟨rfl, hx⟩; obtain ⟨y, rfl⟩ := hx.get; clear hx))
    exact bodyPost_ret (v := .tuple #[.agg #[.int .i64 0, .int .i64 0, .bool false, .slice none 0 0, .int .i64 0, .int .i64 0], .agg #[.int .i64 0, .int .i64 0, .int .i64 0, .int .i64 0, .slice none 0 0, .int .i64 0], .bool false, .int .i64 (msgE m)]) (by simp [results, Tryz.results102, go_sem]) rfl (RetRecv.err HR.out (ex))
  · have hz : (nodE n != 0) = true := by simpa using h1
    have HR := Lib.hid (recvV_a (m := m) h1)
    clear h h1
    go_enter Tryz.func102, Tryz.ntmps102
    go_wp2_with (go_at_call 103; refine (rep_Check n A c _ (HS.out.mono (ex))).mono ?_; rintro e w' ⟨rfl, hx⟩; obtain ⟨y, rfl⟩ := hx.get; clear hx)
    exact bodyPost_ret (v := .tuple #[.agg #[.int .i64 0, .int .i64 0, .bool false, .slice none 0 0, .int .i64 0, .int .i64 0], .agg #[.int .i64 0, .int .i64 0, .int .i64 0, .int .i64 0, .slice none 0 0, .int .i64 0], .bool false, .int .i64 (nodE n)]) (by simp [results, Tryz.results102, go_sem]) rfl (RetRecv.err HR.out (ex))
set_option maxHeartbeats 3200000 in
set_option maxRecDepth 100000 in
theorem Receive_own (hs : RecsAt w A c n.log) (hm : RecsAt w B d m.recs) (h1 : nodE n = 0) (h2 : msgE m = 0) (h3 : m.kind = 0 ∧ ownB n.id m.term = true) : Calls Tryz.prog 102 #[.agg #[.int .i64 n.id, .int .i64 n.term, .bool n.speaks, .slice A n.log.length c, .int .i64 n.acked, .int .i64 n.next], .agg #[.int .i64 m.kind, .int .i64 m.term, .int .i64 m.at_, .int .i64 m.before, .slice B m.recs.length d, .int .i64 m.acked]] w (RetRecv w (recvV n m)) := by
  have HS := Lib.hid hs
  have HM := Lib.hid hm
  have hn := (nodE_iff n).1 h1
  have hk := (msgE_iff m).1 h2
  have i1 := hn.id1; have i2 := hn.id2; have i3 := hk.t0; have i4 := hk.t1
  have i5 : 0 ≤ m.term := by omega
  have hz : (nodE n != 0) = false := by simpa using h1
  have hz2 : (msgE m != 0) = false := by simpa using h2
  have hz3 : (m.kind == 0) = true := by simpa using h3.1
  have HO := Lib.hid h3.2
  have HR := Lib.hid (recvV_c h1 h2 h3)
  clear hs hm h1 h2 h3 hn hk
  go_enter Tryz.func102, Tryz.ntmps102
  go_wp2_with (first | (go_at_call 103; refine (rep_Check n A c _ (HS.out.mono (ex))).mono ?_; rintro e w' ⟨rfl, hx⟩; obtain ⟨y, rfl⟩ := hx.get; clear hx) | (go_at_call 109; refine (rep_Right m B d _ (HM.out.mono (ex))).mono ?_; rintro e w' ⟨rfl, hx⟩; obtain ⟨y, rfl⟩ := hx.get; clear hx) | (go_at_call 104; refine (rep_owns _ _ _ i1 i2 i5 i4).mono ?_; rintro e w' ⟨he, rfl⟩; rw [HO.out] at he; subst he))
  exact bodyPost_ret (v := .tuple #[.agg #[.int .i64 0, .int .i64 0, .bool false, .slice none 0 0, .int .i64 0, .int .i64 0], .agg #[.int .i64 0, .int .i64 0, .int .i64 0, .int .i64 0, .slice none 0 0, .int .i64 0], .bool false, .int .i64 11]) (by simp [results, Tryz.results102, go_sem]) rfl (RetRecv.err HR.out (ex))
set_option maxHeartbeats 6400000 in
set_option maxRecDepth 100000 in
theorem Receive_go_app1 (hs : RecsAt w A c n.log) (hm : RecsAt w B d m.recs) (h1 : nodE n = 0) (h2 : msgE m = 0) (hz0 : (m.kind == 0) = true) (ho : ownB n.id m.term = false) (h4 : (recdV n m).2.2.2 = 0) : Calls Tryz.prog 102 #[.agg #[.int .i64 n.id, .int .i64 n.term, .bool n.speaks, .slice A n.log.length c, .int .i64 n.acked, .int .i64 n.next], .agg #[.int .i64 m.kind, .int .i64 m.term, .int .i64 m.at_, .int .i64 m.before, .slice B m.recs.length d, .int .i64 m.acked]] w (RetRecv w (recvV n m)) := by
  have HS := Lib.hid hs
  have HM := Lib.hid hm
  have hn := (nodE_iff n).1 h1
  have hk := (msgE_iff m).1 h2
  have h256 := hn.len
  have i1 := hn.id1; have i2 := hn.id2; have i3 := hk.t0; have i4 := hk.t1
  have i5 : 0 ≤ m.term := by omega
  have hz : (nodE n != 0) = false := by simpa using h1
  have hz2 : (msgE m != 0) = false := by simpa using h2
  have HO := Lib.hid ho
  have h3 : ¬ (m.kind = 0 ∧ ownB n.id m.term = true) := by rw [ho]; simp
  obtain ⟨v, hv⟩ : ∃ v, recdV n m = v := ⟨_, rfl⟩
  rw [hv] at h4
  have HC := Lib.hid (fun (W : World) (hx : Ext (w.alloc (.cells #[.int .i64 n.id, .int .i64 n.term, .bool n.speaks, .slice A n.log.length c, .int .i64 n.acked, .int .i64 n.next] 24)) W) => rep_received n A c m B d w W hs hm h256 hk hx)
  rw [hv] at HC
  have hz4 : (v.2.2.2 != 0) = false := by simpa using h4
  have HR := Lib.hid (recvV_e h1 h2 h3 hv h4)
  have H4 := Lib.hid h4
  clear hs hm h1 h2 h3 hn hk hv h4 ho
  go_enter Tryz.func102, Tryz.ntmps102
  go_wp2_with (first | (go_at_call 103; refine (rep_Check n A c _ (HS.out.mono (ex))).mono ?_; rintro e w' ⟨rfl, hx⟩; obtain ⟨y, rfl⟩ := hx.get; clear hx) | (go_at_call 109; refine (rep_Right m B d _ (HM.out.mono (ex))).mono ?_; rintro e w' ⟨rfl, hx⟩; obtain ⟨y, rfl⟩ := hx.get; clear hx) | (go_at_call 104; refine (rep_owns _ _ _ i1 i2 i5 i4).mono ?_; rintro e w' ⟨he, rfl⟩; rw [HO.out] at he; subst he) | (go_at_call 133; refine (HC.out _ (ex)).mono ?_; rintro e w' ⟨D, K, rfl, hx, hr⟩; have HRR := Lib.hid hr; (repeat (first | rw [turn_box w _ _ _ (by rfl)] at hx | rw [setCells_drew] at hx | rw [turn_xt _ w _ _ (by simp [go_sem] <;> omega)] at hx | rw [turn_alloc _ w _ _ (by simp [go_sem] <;> omega)] at hx)); obtain ⟨y9, rfl⟩ := hx.get; clear hx hr))
  go_region_law (fail)
  all_goals
    go_wp2_with fail
    refine bodyPost_ret (v := .tuple #[.agg #[.int .i64 v.1.id, .int .i64 v.1.term, .bool v.1.speaks, .slice D v.1.log.length K, .int .i64 v.1.acked, .int .i64 v.1.next], .agg #[.int .i64 v.2.1.kind, .int .i64 v.2.1.term, .int .i64 v.2.1.at_, .int .i64 0, .slice none 0 0, .int .i64 0], .bool v.2.2.1, .int .i64 0]) (by simp [results, Tryz.results102, go_sem]) rfl ?_
    rw [HR.out]
    exact ⟨D, K, by rw [H4.out], ex, LogIn.base (LogIn.along (LogIn.base HRR.out (by simp [go_sem])) (ex) (by simp [go_sem])) (by simp [go_sem] <;> omega)⟩
set_option maxHeartbeats 6400000 in
set_option maxRecDepth 100000 in
theorem Receive_go_app0 (hs : RecsAt w A c n.log) (hm : RecsAt w B d m.recs) (h1 : nodE n = 0) (h2 : msgE m = 0) (hz0 : (m.kind == 0) = true) (ho : ownB n.id m.term = false) (h4 : (recdV n m).2.2.2 ≠ 0) : Calls Tryz.prog 102 #[.agg #[.int .i64 n.id, .int .i64 n.term, .bool n.speaks, .slice A n.log.length c, .int .i64 n.acked, .int .i64 n.next], .agg #[.int .i64 m.kind, .int .i64 m.term, .int .i64 m.at_, .int .i64 m.before, .slice B m.recs.length d, .int .i64 m.acked]] w (RetRecv w (recvV n m)) := by
  have HS := Lib.hid hs
  have HM := Lib.hid hm
  have hn := (nodE_iff n).1 h1
  have hk := (msgE_iff m).1 h2
  have h256 := hn.len
  have i1 := hn.id1; have i2 := hn.id2; have i3 := hk.t0; have i4 := hk.t1
  have i5 : 0 ≤ m.term := by omega
  have hz : (nodE n != 0) = false := by simpa using h1
  have hz2 : (msgE m != 0) = false := by simpa using h2
  have HO := Lib.hid ho
  have h3 : ¬ (m.kind = 0 ∧ ownB n.id m.term = true) := by rw [ho]; simp
  obtain ⟨v, hv⟩ : ∃ v, recdV n m = v := ⟨_, rfl⟩
  rw [hv] at h4
  have HC := Lib.hid (fun (W : World) (hx : Ext (w.alloc (.cells #[.int .i64 n.id, .int .i64 n.term, .bool n.speaks, .slice A n.log.length c, .int .i64 n.acked, .int .i64 n.next] 24)) W) => rep_received n A c m B d w W hs hm h256 hk hx)
  rw [hv] at HC
  have hz4 : (v.2.2.2 != 0) = true := by simpa using h4
  have HR := Lib.hid (recvV_d h1 h2 h3 hv h4)
  have H4 := Lib.hid h4
  clear hs hm h1 h2 h3 hn hk hv h4 ho
  go_enter Tryz.func102, Tryz.ntmps102
  go_wp2_with (first | (go_at_call 103; refine (rep_Check n A c _ (HS.out.mono (ex))).mono ?_; rintro e w' ⟨rfl, hx⟩; obtain ⟨y, rfl⟩ := hx.get; clear hx) | (go_at_call 109; refine (rep_Right m B d _ (HM.out.mono (ex))).mono ?_; rintro e w' ⟨rfl, hx⟩; obtain ⟨y, rfl⟩ := hx.get; clear hx) | (go_at_call 104; refine (rep_owns _ _ _ i1 i2 i5 i4).mono ?_; rintro e w' ⟨he, rfl⟩; rw [HO.out] at he; subst he) | (go_at_call 133; refine (HC.out _ (ex)).mono ?_; rintro e w' ⟨D, K, rfl, hx, hr⟩; have HRR := Lib.hid hr; (repeat (first | rw [turn_box w _ _ _ (by rfl)] at hx | rw [setCells_drew] at hx | rw [turn_xt _ w _ _ (by simp [go_sem] <;> omega)] at hx | rw [turn_alloc _ w _ _ (by simp [go_sem] <;> omega)] at hx)); obtain ⟨y9, rfl⟩ := hx.get; clear hx hr))
  exact bodyPost_ret (v := .tuple #[.agg #[.int .i64 0, .int .i64 0, .bool false, .slice none 0 0, .int .i64 0, .int .i64 0], .agg #[.int .i64 0, .int .i64 0, .int .i64 0, .int .i64 0, .slice none 0 0, .int .i64 0], .bool false, .int .i64 v.2.2.2]) (by simp [results, Tryz.results102, go_sem]) rfl (RetRecv.err HR.out (ex))
set_option maxHeartbeats 6400000 in
set_option maxRecDepth 100000 in
theorem Receive_go_ans1 (hs : RecsAt w A c n.log) (hm : RecsAt w B d m.recs) (h1 : nodE n = 0) (h2 : msgE m = 0) (hz0 : (m.kind == 0) = false) (h4 : (recdV n m).2.2.2 = 0) : Calls Tryz.prog 102 #[.agg #[.int .i64 n.id, .int .i64 n.term, .bool n.speaks, .slice A n.log.length c, .int .i64 n.acked, .int .i64 n.next], .agg #[.int .i64 m.kind, .int .i64 m.term, .int .i64 m.at_, .int .i64 m.before, .slice B m.recs.length d, .int .i64 m.acked]] w (RetRecv w (recvV n m)) := by
  have HS := Lib.hid hs
  have HM := Lib.hid hm
  have hn := (nodE_iff n).1 h1
  have hk := (msgE_iff m).1 h2
  have h256 := hn.len
  have i1 := hn.id1; have i2 := hn.id2; have i3 := hk.t0; have i4 := hk.t1
  have i5 : 0 ≤ m.term := by omega
  have hz : (nodE n != 0) = false := by simpa using h1
  have hz2 : (msgE m != 0) = false := by simpa using h2
  skip
  have h3 : ¬ (m.kind = 0 ∧ ownB n.id m.term = true) := by intro hh; rw [hh.1] at hz0; cases hz0
  obtain ⟨v, hv⟩ : ∃ v, recdV n m = v := ⟨_, rfl⟩
  rw [hv] at h4
  have HC := Lib.hid (fun (W : World) (hx : Ext (w.alloc (.cells #[.int .i64 n.id, .int .i64 n.term, .bool n.speaks, .slice A n.log.length c, .int .i64 n.acked, .int .i64 n.next] 24)) W) => rep_received n A c m B d w W hs hm h256 hk hx)
  rw [hv] at HC
  have hz4 : (v.2.2.2 != 0) = false := by simpa using h4
  have HR := Lib.hid (recvV_e h1 h2 h3 hv h4)
  have H4 := Lib.hid h4
  clear hs hm h1 h2 h3 hn hk hv h4
  go_enter Tryz.func102, Tryz.ntmps102
  go_wp2_with (first | (go_at_call 103; refine (rep_Check n A c _ (HS.out.mono (ex))).mono ?_; rintro e w' ⟨rfl, hx⟩; obtain ⟨y, rfl⟩ := hx.get; clear hx) | (go_at_call 109; refine (rep_Right m B d _ (HM.out.mono (ex))).mono ?_; rintro e w' ⟨rfl, hx⟩; obtain ⟨y, rfl⟩ := hx.get; clear hx) | (go_at_call 133; refine (HC.out _ (ex)).mono ?_; rintro e w' ⟨D, K, rfl, hx, hr⟩; have HRR := Lib.hid hr; (repeat (first | rw [turn_box w _ _ _ (by rfl)] at hx | rw [setCells_drew] at hx | rw [turn_xt _ w _ _ (by simp [go_sem] <;> omega)] at hx | rw [turn_alloc _ w _ _ (by simp [go_sem] <;> omega)] at hx)); obtain ⟨y9, rfl⟩ := hx.get; clear hx hr))
  go_region_law (fail)
  all_goals
    go_wp2_with fail
    refine bodyPost_ret (v := .tuple #[.agg #[.int .i64 v.1.id, .int .i64 v.1.term, .bool v.1.speaks, .slice D v.1.log.length K, .int .i64 v.1.acked, .int .i64 v.1.next], .agg #[.int .i64 v.2.1.kind, .int .i64 v.2.1.term, .int .i64 v.2.1.at_, .int .i64 0, .slice none 0 0, .int .i64 0], .bool v.2.2.1, .int .i64 0]) (by simp [results, Tryz.results102, go_sem]) rfl ?_
    rw [HR.out]
    exact ⟨D, K, by rw [H4.out], ex, LogIn.base (LogIn.along (LogIn.base HRR.out (by simp [go_sem])) (ex) (by simp [go_sem])) (by simp [go_sem] <;> omega)⟩
set_option maxHeartbeats 6400000 in
set_option maxRecDepth 100000 in
theorem Receive_go_ans0 (hs : RecsAt w A c n.log) (hm : RecsAt w B d m.recs) (h1 : nodE n = 0) (h2 : msgE m = 0) (hz0 : (m.kind == 0) = false) (h4 : (recdV n m).2.2.2 ≠ 0) : Calls Tryz.prog 102 #[.agg #[.int .i64 n.id, .int .i64 n.term, .bool n.speaks, .slice A n.log.length c, .int .i64 n.acked, .int .i64 n.next], .agg #[.int .i64 m.kind, .int .i64 m.term, .int .i64 m.at_, .int .i64 m.before, .slice B m.recs.length d, .int .i64 m.acked]] w (RetRecv w (recvV n m)) := by
  have HS := Lib.hid hs
  have HM := Lib.hid hm
  have hn := (nodE_iff n).1 h1
  have hk := (msgE_iff m).1 h2
  have h256 := hn.len
  have i1 := hn.id1; have i2 := hn.id2; have i3 := hk.t0; have i4 := hk.t1
  have i5 : 0 ≤ m.term := by omega
  have hz : (nodE n != 0) = false := by simpa using h1
  have hz2 : (msgE m != 0) = false := by simpa using h2
  skip
  have h3 : ¬ (m.kind = 0 ∧ ownB n.id m.term = true) := by intro hh; rw [hh.1] at hz0; cases hz0
  obtain ⟨v, hv⟩ : ∃ v, recdV n m = v := ⟨_, rfl⟩
  rw [hv] at h4
  have HC := Lib.hid (fun (W : World) (hx : Ext (w.alloc (.cells #[.int .i64 n.id, .int .i64 n.term, .bool n.speaks, .slice A n.log.length c, .int .i64 n.acked, .int .i64 n.next] 24)) W) => rep_received n A c m B d w W hs hm h256 hk hx)
  rw [hv] at HC
  have hz4 : (v.2.2.2 != 0) = true := by simpa using h4
  have HR := Lib.hid (recvV_d h1 h2 h3 hv h4)
  have H4 := Lib.hid h4
  clear hs hm h1 h2 h3 hn hk hv h4
  go_enter Tryz.func102, Tryz.ntmps102
  go_wp2_with (first | (go_at_call 103; refine (rep_Check n A c _ (HS.out.mono (ex))).mono ?_; rintro e w' ⟨rfl, hx⟩; obtain ⟨y, rfl⟩ := hx.get; clear hx) | (go_at_call 109; refine (rep_Right m B d _ (HM.out.mono (ex))).mono ?_; rintro e w' ⟨rfl, hx⟩; obtain ⟨y, rfl⟩ := hx.get; clear hx) | (go_at_call 133; refine (HC.out _ (ex)).mono ?_; rintro e w' ⟨D, K, rfl, hx, hr⟩; have HRR := Lib.hid hr; (repeat (first | rw [turn_box w _ _ _ (by rfl)] at hx | rw [setCells_drew] at hx | rw [turn_xt _ w _ _ (by simp [go_sem] <;> omega)] at hx | rw [turn_alloc _ w _ _ (by simp [go_sem] <;> omega)] at hx)); obtain ⟨y9, rfl⟩ := hx.get; clear hx hr))
  exact bodyPost_ret (v := .tuple #[.agg #[.int .i64 0, .int .i64 0, .bool false, .slice none 0 0, .int .i64 0, .int .i64 0], .agg #[.int .i64 0, .int .i64 0, .int .i64 0, .int .i64 0, .slice none 0 0, .int .i64 0], .bool false, .int .i64 v.2.2.2]) (by simp [results, Tryz.results102, go_sem]) rfl (RetRecv.err HR.out (ex))
theorem rep_Receive (hs : RecsAt w A c n.log) (hm : RecsAt w B d m.recs) : Calls Tryz.prog 102 #[.agg #[.int .i64 n.id, .int .i64 n.term, .bool n.speaks, .slice A n.log.length c, .int .i64 n.acked, .int .i64 n.next], .agg #[.int .i64 m.kind, .int .i64 m.term, .int .i64 m.at_, .int .i64 m.before, .slice B m.recs.length d, .int .i64 m.acked]] w (RetRecv w (recvV n m)) := by
  by_cases h1 : nodE n = 0
  · by_cases h2 : msgE m = 0
    · by_cases h3 : m.kind = 0 ∧ ownB n.id m.term = true
      · exact Receive_own n A c m B d w hs hm h1 h2 h3
      · by_cases hk : m.kind = 0
        · have ho : ownB n.id m.term = false := by
            cases h : ownB n.id m.term with
            | false => rfl
            | true => exact absurd ⟨hk, h⟩ h3
          by_cases h4 : (recdV n m).2.2.2 = 0
          · exact Receive_go_app1 n A c m B d w hs hm h1 h2 (by simpa using hk) ho h4
          · exact Receive_go_app0 n A c m B d w hs hm h1 h2 (by simpa using hk) ho h4
        · by_cases h4 : (recdV n m).2.2.2 = 0
          · exact Receive_go_ans1 n A c m B d w hs hm h1 h2 (by simpa using hk) h4
          · exact Receive_go_ans0 n A c m B d w hs hm h1 h2 (by simpa using hk) h4
    · exact Receive_wrong n A c m B d w hs hm (.inr h2)
  · exact Receive_wrong n A c m B d w hs hm (.inl h1)
end
end Go.Proofs.YtmhinhgflehkaaaGreat
