/-
 Chapter 54: what two lists have in common, and one list behind another.
-/
import Derived.Test.YtmhinhgflehkaaaGreatGrpe
import Derived.Lib.AppendZeros
namespace Go.Proofs.YtmhinhgflehkaaaGreat
open Go.RowKit

set_option maxHeartbeats 400000 in
set_option maxRecDepth 100000 in
theorem rep_take1 (x y : Rec) (b : Bool) (hb : decide (x.term = y.term) = b) (w : World) : Calls Tryz.prog 214 #[.agg (recR x).toArray, .agg (recR y).toArray] w fun e w' => e = .returned (.bool b) ∧ Ext w w' := by
 have HB := Lib.hid hb
 clear hb
 go_enter Tryz.func214, Tryz.ntmps214
 go_wp2
 go_ret
 exact ⟨ret_b HB.out, ex⟩
theorem keepN_is {l r : List Rec} {k : Nat} (h1 : k ≤ l.length) (h2 : k ≤ r.length) (h : ∀ i, i < k → (l[i]?).map (·.term) = (r[i]?).map (·.term)) (h3 : k = l.length ∨ k = r.length ∨ (l[k]?).map (·.term) ≠ (r[k]?).map (·.term)) : keepN l r = k := by
 have hg := keepN_ge l r k h1 h2 h
 have hl := keepN_le l r
 refine Nat.le_antisymm (Nat.not_lt.1 fun hlt => ?_) hg
 rcases h3 with h3 | h3 | h3
 ·omega
 ·omega
 ·exact h3 (keepN_term l r k hlt)
theorem same_more {l r : List Rec} {k : Nat} {x y : Rec} (h : ∀ i, i < k → (l[i]?).map (·.term) = (r[i]?).map (·.term)) (hx : l[k]? = some x) (hy : r[k]? = some y) (he : x.term = y.term) : ∀ i, i < k + 1 → (l[i]?).map (·.term) = (r[i]?).map (·.term) := fun i hi => by
 by_cases h0 : i < k
 ·exact h i h0
 ·obtain rfl : i = k := by omega
  rw [hx, hy]; simp [he]
set_option maxHeartbeats 3200000 in
set_option maxRecDepth 100000 in
theorem common_take (A : Option Addr) (c n : Nat) (l : List Rec) (hn : l.length = n) (B : Option Addr) (d k : Nat) (r : List Rec) (hk : r.length = k) (w : World) (h1 : RecsAt w A c l) (h2 : RecsAt w B d r) :
  Calls Tryz.prog 135 #[.slice A n c, .slice B k d, .func (Fn.func 214) #[] #[]] w fun e w' => e = .returned (.int .i64 (keepN l r : Nat)) ∧ Ext w w' := by
 subst hn hk
 have hl1 := h1.len
 have hl2 := h2.len
 have H1 := Lib.hid h1
 have H2 := Lib.hid h2
 clear h1 h2
 go_enter Tryz.func135, Tryz.ntmps135
 go_wp2
 go_loopw [7] (fun i wr => ∃ k : Nat, k ≤ l.length ∧ k ≤ r.length ∧ i = .int .i64 k ∧ Ext w wr ∧ Hid (∀ i, i < k → (l[i]?).map (·.term) = (r[i]?).map (·.term))) (fun i _ => l.length - (intOf i).toNat)
 case atStart => exact ⟨0, by omega, by omega, rfl, Ext.refl _, Lib.hid (by omega)⟩
 case round =>
  obtain ⟨k, hk1, hk2, rfl, hx, HE⟩ := hrel
  obtain ⟨y0, rfl⟩ := hx.get
  clear hx
  by_cases hlt1 : k < l.length
  ·by_cases hlt2 : k < r.length
   ·obtain ⟨x, hx⟩ : ∃ x, l[k]? = some x := ⟨_, List.getElem?_eq_getElem hlt1⟩
    obtain ⟨z, hz⟩ : ∃ z, r[k]? = some z := ⟨_, List.getElem?_eq_getElem hlt2⟩
    obtain ⟨b1, o1, rfl, hr1, -⟩ := H1.out.get hx
    obtain ⟨b2, o2, rfl, hr2, -⟩ := H2.out.get hz
    have hq1 := hr1.row
    have hq2 := hr2.row
    have hb0 : (0 : Int) ≤ (k : Int) := by omega
    have hb1 : (k : Int) < (l.length : Int) := by omega
    have hb2 : (k : Int) < (r.length : Int) := by omega
    have hw : IntKind.i64.wrap ((k : Int) + 1) = (k : Int) + 1 := IntWalk.i64_in _ (by omega)
    clear hr1 hr2
    by_cases he : x.term = z.term
    ·have HM := Lib.hid (same_more HE.out hx hz he)
     have HT := Lib.hid (decide_eq_true he)
     clear hx hz he hw
     go_wp2
     (refine wp_region_grows (by kernel_rfl) (by kernel_rfl) ?_; (repeat (go_big_quiet_step ((go_at_call 214; exact Calls.grows (rep_take1 x z true HT.out _))))); refine wpQuiet_nil ?_; rintro _ ⟨y, rfl⟩)
     go_wp2
     go_light
     exact ⟨⟨k + 1, by omega, by omega, by go_num, ex, HM⟩, by simp [intOf]; omega⟩
    ·have HV := Lib.hid (keepN_is hk1 hk2 HE.out (.inr (.inr (by rw [hx, hz]; simpa using he))))
     have HT := Lib.hid (decide_eq_false he)
     clear hx hz he hw
     go_wp2
     (refine wp_region_grows (by kernel_rfl) (by kernel_rfl) ?_; (repeat (go_big_quiet_step ((go_at_call 214; exact Calls.grows (rep_take1 x z false HT.out _))))); refine wpQuiet_nil ?_; rintro _ ⟨y, rfl⟩)
     go_wp2
     go_ret
     exact ⟨ret_i (by rw [HV.out]), ex⟩
   ·have HV := Lib.hid (keepN_is hk1 hk2 HE.out (.inr (.inl (by omega))))
    have hb1 : (k : Int) < (l.length : Int) := by omega
    have hd : decide (k < r.length) = false := decide_eq_false hlt2
    go_wp2
    (refine wp_region_grows (by kernel_rfl) (by kernel_rfl) ?_; (repeat (go_big_quiet_step (fail))); refine wpQuiet_nil ?_; rintro _ ⟨y, rfl⟩)
    go_wp2
    go_ret
    exact ⟨ret_i (by rw [HV.out]), ex⟩
  ·have HV := Lib.hid (keepN_is hk1 hk2 HE.out (.inl (by omega)))
   have hd : decide (k < l.length) = false := decide_eq_false hlt1
   go_wp2
   (refine wp_region_grows (by kernel_rfl) (by kernel_rfl) ?_; (repeat (go_big_quiet_step (fail))); refine wpQuiet_nil ?_; rintro _ ⟨y, rfl⟩)
   go_wp2
   go_ret
   exact ⟨ret_i (by rw [HV.out]), ex⟩

/-! ### One list behind another -/
set_option maxHeartbeats 800000 in
set_option maxRecDepth 100000 in
theorem Grow_R (n : Nat) (w : World) (hn : n ≤ 100000) : Calls Tryz.prog 238 #[.slice none 0 0, .int .i64 n] w (RetRecs w 0 []) := by
 by_cases h0 : 0 < n
 ·obtain ⟨I, z, e1, e2, e3, e4, e5⟩ := infoOk_get info_R
  have hrun := Lib.run_append_nil_zeros (P := Tryz.prog) w 22 3 22 170 I z .i64 .i64 Tryz.underlying22 Tryz.underlying3 e1 e2 n h0 (by omega) (by omega) (by rw [e4]; omega)
  obtain ⟨K, hK⟩ : ∃ K, grownCap w n 0 170 = K := ⟨_, rfl⟩
  have hKn : n ≤ K := by rw [← hK]; exact grownCap_ge _ _ _ _
  have hKm : K ≤ maxLen := by rw [← hK]; exact grownCap_le_maxLen _ _ _ _ (by unfold maxLen; omega)
  obtain ⟨cur, hcur⟩ : ∃ cur : Array Value, Builtin.zeroCells z.cells n ++ Builtin.zeroCells z.cells (K - n) = cur := ⟨_, rfl⟩
  have hsz : cur.size = K * 45 := by
   rw [← hcur, Array.size_append, size_zeroCells, size_zeroCells, e5, ← Nat.add_mul]
   congr 1; omega
  rw [hK, hcur] at hrun
  have HR := Lib.hid hrun
  have HO : Hid (Own w (w.drew.alloc (.cells cur 170)) 170 45 (some ⟨w.heap.size, 0, none⟩) 0 K []) :=
   Lib.hid ⟨rfl, by simp, by simp, Nat.zero_le _, hKm, .inr ⟨w.heap.size, cur, rfl, Nat.le_refl _, heap_alloc_new w.drew _, hsz, by simp⟩⟩
  clear hrun hK hcur hsz e1 e2 e3 e4 e5 hKm
  go_enter Tryz.func238, Tryz.ntmps238
  go_wp2_with (refine Lib.wpList_append_run _ rfl (.tmp 20) (.tmp 21) 22 3 rfl _ _ rfl rfl _ _ HR.out ?_)
  go_ret
  exact ⟨_, _, rfl, ex, HO.out⟩
 ·obtain rfl : n = 0 := by omega
  go_enter Tryz.func238, Tryz.ntmps238
  go_wp2
  go_ret
  exact ⟨none, 0, rfl, ex, Own.nil _⟩
set_option maxHeartbeats 3200000 in
set_option maxRecDepth 100000 in
theorem Concat_R (g : Nat) (A1 : Option Addr) (n1 c1 : Nat) (l1 : List Rec) (A2 : Option Addr) (n2 c2 : Nat) (l2 : List Rec) (w : World) (hc0 : w.cell? ⟨g, 0, none⟩ = some (.slice A1 n1 c1)) (hc1 : w.cell? ⟨g, 1, none⟩ = some (.slice A2 n2 c2))
  (h1 : Sl w A1 45 (l1.map recR)) (h2 : Sl w A2 45 (l2.map recR)) (hn1 : l1.length = n1) (hn2 : l2.length = n2) (hb1 : n1 ≤ 1000) (hb2 : n2 ≤ 1000) :
  Calls Tryz.prog 215 #[.slice (some ⟨g, 0, none⟩) 2 2] w (RetRecs w (n1 + n2) (l1 ++ l2)) := by
 have H1 := Lib.hid h1
 have H2 := Lib.hid h2
 have HN1 := Lib.hid hn1
 have HN2 := Lib.hid hn2
 clear h1 h2 hn1 hn2
 go_enter Tryz.func215, Tryz.ntmps215
 go_wp2
 go_loop [3, 11] (fun s i => (i = .int .i64 0 ∧ s = .int .i64 0) ∨ (i = .int .i64 1 ∧ s = .int .i64 n1) ∨ (i = .int .i64 2 ∧ s = .int .i64 ((n1 : Int) + n2))) (fun _ i => 2 - (intOf i).toNat)
 case atStart => exact .inl ⟨rfl, rfl⟩
 case round =>
  rcases hrel with ⟨rfl, rfl⟩ | ⟨rfl, rfl⟩ | ⟨rfl, rfl⟩
  ·go_wp2
   go_round
   case rel => exact .inr (.inl ⟨rfl, rfl⟩)
   case measure => simp [intOf]
  ·go_wp2
   go_round
   case rel => exact .inr (.inr ⟨rfl, rfl⟩)
   case measure => simp [intOf]
  ·go_wp2_with (go_at_call 238; refine (Grow_R (n1 + n2) _ (by omega)).mono ?_; rintro e w' ⟨D, n', rfl, hx, hown⟩; have HO := Lib.hid hown; obtain ⟨yc, rfl⟩ := hx.get; clear hx hown)
   go_loopw [6, 27] (fun v i wr => (i = .int .i64 0 ∧ ∃ D K, v = .slice D 0 K ∧ Ext w wr ∧ Hid (Own w wr 170 45 D 0 K [])) ∨ (i = .int .i64 1 ∧ ∃ D K, v = .slice D n1 K ∧ Ext w wr ∧ Hid (Own w wr 170 45 D n1 K (l1.map recR))) ∨ (i = .int .i64 2 ∧ ∃ D K, v = .slice D (n1 + n2) K ∧ Ext w wr ∧ Hid (Own w wr 170 45 D (n1 + n2) K ((l1 ++ l2).map recR)))) (fun _ i _ => 2 - (intOf i).toNat)
   case atStart => exact .inl ⟨rfl, D, n', rfl, ex, HO⟩
   case round =>
    clear HO
    rcases hrel with ⟨rfl, D, K, rfl, hx, HOW⟩ | ⟨rfl, D, K, rfl, hx, HOW⟩ | ⟨rfl, D, K, rfl, hx, HOW⟩
    ·obtain ⟨y, rfl⟩ := hx.get
     clear hx
     go_wp2_with (at_builtin; refine wpList_append_mine (w0 := w) rfl _ _ 22 22 rfl 170 170 45 552 Tryz.underlying22 Tryz.underlying22 info_R (by decide) (ex) D 0 K [] rfl (HOW.out.mono (ex)) _ n1 _ (l1.map recR) rfl (H1.out.mono (ex)) (by rw [List.length_map]; exact HN1.out) (recR_ones _) (by unfold maxLen; omega) (by omega) n1 (by omega) (l1.map recR) (by simp) ?_; intro D2 K2 w2 hx2 hown hg hA; have HO2 := Lib.hid hown; obtain ⟨y2, rfl⟩ := hx2.get; clear hown hx2 hg hA)
     go_light
     exact ⟨.inr (.inl ⟨rfl, D2, K2, rfl, ex, HO2⟩), by simp [intOf]⟩
    ·obtain ⟨y, rfl⟩ := hx.get
     clear hx
     go_wp2_with (at_builtin; refine wpList_append_mine (w0 := w) rfl _ _ 22 22 rfl 170 170 45 552 Tryz.underlying22 Tryz.underlying22 info_R (by decide) (ex) D n1 K (l1.map recR) rfl (HOW.out.mono (ex)) _ n2 _ (l2.map recR) rfl (H2.out.mono (ex)) (by rw [List.length_map]; exact HN2.out) (recR_ones _) (by unfold maxLen; omega) (by omega) (n1 + n2) (by omega) ((l1 ++ l2).map recR) (by simp) ?_; intro D2 K2 w2 hx2 hown hg hA; have HO2 := Lib.hid hown; obtain ⟨y2, rfl⟩ := hx2.get; clear hown hx2 hg hA)
     go_light
     exact ⟨.inr (.inr ⟨rfl, D2, K2, rfl, ex, HO2⟩), by simp [intOf]⟩
    ·obtain ⟨y, rfl⟩ := hx.get
     clear hx
     go_wp2
     go_ret
     exact ⟨D, K, rfl, ex, HOW.out⟩
end Go.Proofs.YtmhinhgflehkaaaGreat

/-
 Chapter 54: what an Append does.
-/
namespace Go.Proofs.YtmhinhgflehkaaaGreat
open Go.RowKit

theorem takeV_lost {n : Nod} {m : Msg} (h1 : m.at_ ≤ n.log.length) (h2 : ¬ (0 < m.at_ ∧ termAt n.log (m.at_ - 1) ≠ m.before)) (h3 : keepN (n.log.drop m.at_.toNat) m.recs < m.recs.length ∧ m.at_ + keepN (n.log.drop m.at_.toNat) m.recs < min n.acked n.log.length) : takeV n m = (n, msg0, false, 19) := by
 unfold takeV
 simp only
 rw [if_neg (by omega), if_neg h2, if_pos h3]
theorem takeV_many {n : Nod} {m : Msg} (h1 : m.at_ ≤ n.log.length) (h2 : ¬ (0 < m.at_ ∧ termAt n.log (m.at_ - 1) ≠ m.before)) (h3 : ¬ (keepN (n.log.drop m.at_.toNat) m.recs < m.recs.length ∧ m.at_ + keepN (n.log.drop m.at_.toNat) m.recs < min n.acked n.log.length)) (h4 : 256 < (tookL n m).length) : takeV n m = (n, msg0, false, 5) := by
 unfold takeV
 simp only
 rw [if_neg (by omega), if_neg h2, if_neg h3, if_pos h4]
theorem takeV_order {n : Nod} {m : Msg} (h1 : m.at_ ≤ n.log.length) (h2 : ¬ (0 < m.at_ ∧ termAt n.log (m.at_ - 1) ≠ m.before)) (h3 : ¬ (keepN (n.log.drop m.at_.toNat) m.recs < m.recs.length ∧ m.at_ + keepN (n.log.drop m.at_.toNat) m.recs < min n.acked n.log.length)) (h4 : ¬ 256 < (tookL n m).length) (h5 : recsE 1 n.term (tookL n m) ≠ 0) : takeV n m = (n, msg0, false, 9) := by
 unfold takeV
 simp only
 rw [if_neg (by omega), if_neg h2, if_neg h3, if_neg h4, if_pos h5]
theorem takeV_fine {n : Nod} {m : Msg} (h1 : m.at_ ≤ n.log.length) (h2 : ¬ (0 < m.at_ ∧ termAt n.log (m.at_ - 1) ≠ m.before)) (h3 : ¬ (keepN (n.log.drop m.at_.toNat) m.recs < m.recs.length ∧ m.at_ + keepN (n.log.drop m.at_.toNat) m.recs < min n.acked n.log.length)) (h4 : ¬ 256 < (tookL n m).length) (h5 : recsE 1 n.term (tookL n m) = 0) : takeV n m = (tookN n m, ansM n 1 (m.at_ + m.recs.length), true, 0) := by
 unfold takeV
 simp only
 rw [if_neg (by omega), if_neg h2, if_neg h3, if_neg h4, if_neg (by simpa using h5)]
 rfl
section
variable (n : Nod) (A : Option Addr) (c : Nat) (m : Msg) (p : Nat) (B : Option Addr) (d : Nat) (w : World) (y0 : Gr)
set_option maxHeartbeats 6400000 in
set_option maxRecDepth 100000 in
theorem take_far (hp : m.at_ = p) (hs : RecsAt w A c n.log) (h : n.log.length < p) : Calls Tryz.prog 169 #[.pointer (some ⟨w.heap.size, 0, none⟩), .agg #[.int .i64 m.kind, .int .i64 m.term, .int .i64 p, .int .i64 m.before, .slice B m.recs.length d, .int .i64 m.acked]] (xt (w.alloc (.cells #[.int .i64 n.id, .int .i64 n.term, .bool n.speaks, .slice A n.log.length c, .int .i64 n.acked, .int .i64 n.next] 24)) y0) (RetBox w (xt (w.alloc (.cells #[.int .i64 n.id, .int .i64 n.term, .bool n.speaks, .slice A n.log.length c, .int .i64 n.acked, .int .i64 n.next] 24)) y0) (takeV n m)) := by
 have hl := hs.len
 have HS := Lib.hid hs
 have HR := Lib.hid (takeV_far (n := n) (m := m) (by omega))
 clear hs hp
 go_enter Tryz.func169, Tryz.ntmps169
 go_wp2
 (refine wp_region_grows (by kernel_rfl) (by kernel_rfl) ?_; (repeat (go_big_quiet_step (fail))); refine wpQuiet_nil ?_; rintro _ ⟨y, rfl⟩)
 go_wp2_with (go_at_call 168; refine (rep_answer w.heap.size n.term _ _ _ (by simp [go_sem])).mono ?_; rintro e w' ⟨rfl, hx⟩; obtain ⟨y, rfl⟩ := hx.get; clear hx)
 refine bodyPost_ret (v := .tuple #[.agg #[.int .i64 2, .int .i64 n.term, .int .i64 n.log.length, .int .i64 0, .slice none 0 0, .int .i64 0], .bool true, .int .i64 0]) (by simp [results, Tryz.results169, go_sem]) rfl ?_
 exact RetBox.of (A := A) (c := c) (n := n) HR.out (ex) (.inl HS.out)
set_option maxHeartbeats 6400000 in
set_option maxRecDepth 100000 in
theorem take_other (hp : m.at_ = p) (hs : RecsAt w A c n.log) (h : p ≤ n.log.length) (h0 : 0 < p) (r : Rec) (hr : n.log[p - 1]? = some r) (hne : r.term ≠ m.before) : Calls Tryz.prog 169 #[.pointer (some ⟨w.heap.size, 0, none⟩), .agg #[.int .i64 m.kind, .int .i64 m.term, .int .i64 p, .int .i64 m.before, .slice B m.recs.length d, .int .i64 m.acked]] (xt (w.alloc (.cells #[.int .i64 n.id, .int .i64 n.term, .bool n.speaks, .slice A n.log.length c, .int .i64 n.acked, .int .i64 n.next] 24)) y0) (RetBox w (xt (w.alloc (.cells #[.int .i64 n.id, .int .i64 n.term, .bool n.speaks, .slice A n.log.length c, .int .i64 n.acked, .int .i64 n.next] 24)) y0) (takeV n m)) := by
 have hl := hs.len
 have HR := Lib.hid (takeV_other (n := n) (m := m) (by omega) (by omega) (by rw [hp, show ((p : Int) - 1) = ((p - 1 : Nat) : Int) by omega, termAt_get' hr]; exact hne))
 obtain ⟨b, o, rfl, hrec, -⟩ := hs.get hr
 have HS := Lib.hid hs
 have HP := Lib.hid hp
 have ht := hrec.term
 have hz : (r.term != m.before) = true := by simpa using hne
 have hd : decide (n.log.length < p) = false := decide_eq_false (by omega)
 have hi1 : (0 : Int) ≤ (p : Int) - 1 := by omega
 have hi2 : (p : Int) - 1 < (n.log.length : Int) := by omega
 have hi3 : ((p : Int) - 1).toNat = p - 1 := by omega
 have hw : IntKind.i64.wrap ((p : Int) - 1) = (p : Int) - 1 := IntWalk.i64_in _ (by omega)
 clear hs hp hrec hr hne
 go_enter Tryz.func169, Tryz.ntmps169
 go_wp2
 (refine wp_region_grows (by kernel_rfl) (by kernel_rfl) ?_; (repeat (go_big_quiet_step (fail))); refine wpQuiet_nil ?_; rintro _ ⟨y, rfl⟩)
 go_wp2
 (refine wp_region_grows (by kernel_rfl) (by kernel_rfl) ?_; (repeat (go_big_quiet_step (fail))); refine wpQuiet_nil ?_; rintro _ ⟨y, rfl⟩)
 go_wp2_with (go_at_call 168; refine (rep_answer w.heap.size n.term _ _ _ (by simp [go_sem])).mono ?_; rintro e w' ⟨rfl, hx⟩; obtain ⟨y, rfl⟩ := hx.get; clear hx)
 refine bodyPost_ret (v := .tuple #[.agg #[.int .i64 2, .int .i64 n.term, .int .i64 ((p : Int) - 1), .int .i64 0, .slice none 0 0, .int .i64 0], .bool true, .int .i64 0]) (by simp [results, Tryz.results169, go_sem]) rfl ?_
 refine RetBox.of (A := some ⟨b, o, none⟩) (c := c) (n := n) ?_ (ex) (.inl HS.out)
 rw [HR.out, HP.out]; rfl
set_option maxHeartbeats 6400000 in
set_option maxRecDepth 100000 in
theorem take_lost (hp : m.at_ = p) (hs : RecsAt w A c n.log) (hm : RecsAt w B d m.recs) (h256 : n.log.length ≤ 256) (hrl : m.recs.length ≤ 16) (hpl : p ≤ n.log.length) (h2 : ¬ (0 < m.at_ ∧ termAt n.log (m.at_ - 1) ≠ m.before)) (hg : (0 < p ∧ ∃ (r : Rec) (b o : Nat), A = some ⟨b, o, none⟩ ∧ w.cell? ⟨b, o + (p - 1) * 45, none⟩ = some (.int .i64 r.term) ∧ (r.term != m.before) = false) ∨ ¬ 0 < p) (h3 : keepN (n.log.drop p) m.recs < m.recs.length) (h4 : (p : Int) + keepN (n.log.drop p) m.recs < min n.acked n.log.length) : Calls Tryz.prog 169 #[.pointer (some ⟨w.heap.size, 0, none⟩), .agg #[.int .i64 m.kind, .int .i64 m.term, .int .i64 p, .int .i64 m.before, .slice B m.recs.length d, .int .i64 m.acked]] (xt (w.alloc (.cells #[.int .i64 n.id, .int .i64 n.term, .bool n.speaks, .slice A n.log.length c, .int .i64 n.acked, .int .i64 n.next] 24)) y0) (RetBox w (xt (w.alloc (.cells #[.int .i64 n.id, .int .i64 n.term, .bool n.speaks, .slice A n.log.length c, .int .i64 n.acked, .int .i64 n.next] 24)) y0) (takeV n m)) := by
 have hl := hs.len
 have hl2 := hm.len
 have hcap := hs.le
 have hcap2 := hm.le
 have hd : decide (n.log.length < p) = false := decide_eq_false (by omega)
 obtain ⟨k, hk⟩ : ∃ k, keepN (n.log.drop p) m.recs = k := ⟨_, rfl⟩
 have hkl := keepN_le (n.log.drop p) m.recs
 rw [hk, List.length_drop] at hkl
 obtain ⟨hk1, hk2⟩ := hkl
 have hpt := hs.part p n.log.length (Nat.le_refl _) (n.log.length - p) rfl
 rw [List.take_length] at hpt
 have HD1 := Lib.hid hpt.1
 have HD2 := Lib.hid hpt.2
 have HS := Lib.hid hs
 have HM := Lib.hid hm
 have HK := Lib.hid hk
 have hpn : (0 : Int) ≤ (p : Int) := by omega
 have hpc : (p : Int) ≤ (n.log.length : Int) := by omega
 have hat : m.at_.toNat = p := by omega
 have HR := Lib.hid (takeV_lost (n := n) (m := m) (by omega) h2 (by rw [hat]; exact ⟨h3, by rw [hp]; exact h4⟩))
 rw [hk] at h3 h4
 have hlt : (p : Int) + (k : Int) < min n.acked (n.log.length : Int) := h4
 have hdl : decide ((p : Int) + (k : Int) < min n.acked (n.log.length : Int)) = true := decide_eq_true h4
 clear hs hm hp hk hpt h2 h4
 rcases hg with ⟨h0, r, b, o, rfl, ht, hz⟩ | h0
 ·have hi1 : (0 : Int) ≤ (p : Int) - 1 := by omega
  have hi2 : (p : Int) - 1 < (n.log.length : Int) := by omega
  have hi3 : ((p : Int) - 1).toNat = p - 1 := by omega
  have hw : IntKind.i64.wrap ((p : Int) - 1) = (p : Int) - 1 := IntWalk.i64_in _ (by omega)
  go_enter Tryz.func169, Tryz.ntmps169
  go_wp2
  (refine wp_region_grows (by kernel_rfl) (by kernel_rfl) ?_; (repeat (go_big_quiet_step (fail))); refine wpQuiet_nil ?_; rintro _ ⟨y, rfl⟩)
  go_wp2
  (refine wp_region_grows (by kernel_rfl) (by kernel_rfl) ?_; (repeat (go_big_quiet_step (fail))); refine wpQuiet_nil ?_; rintro _ ⟨y, rfl⟩)
  go_wp2
  (refine wp_region_grows (by kernel_rfl) (by kernel_rfl) ?_; (repeat (go_big_quiet_step ((go_at_call 135; exact Calls.grows (common_take _ _ _ (n.log.drop p) HD2.out _ _ _ m.recs rfl _ (HD1.out.mono (ex)) (HM.out.mono (ex))))))); refine wpQuiet_nil ?_; rintro _ ⟨y, rfl⟩)
  rw [HK.out]
  go_wp2
  (refine wp_region_grows (by kernel_rfl) (by kernel_rfl) ?_; (repeat (go_big_quiet_step (fail))); refine wpQuiet_nil ?_; rintro _ ⟨y, rfl⟩)
  go_wp2
  (refine wp_region_grows (by kernel_rfl) (by kernel_rfl) ?_; (repeat (go_big_quiet_step (fail))); refine wpQuiet_nil ?_; rintro _ ⟨y, rfl⟩)
  go_wp2
  refine bodyPost_ret (v := .tuple #[.agg #[.int .i64 0, .int .i64 0, .int .i64 0, .int .i64 0, .slice none 0 0, .int .i64 0], .bool false, .int .i64 19]) (by simp [results, Tryz.results169, go_sem]) rfl ?_
  exact RetBox.of (n := n) HR.out (ex) (.inl HS.out)
 ·go_enter Tryz.func169, Tryz.ntmps169
  go_wp2
  (refine wp_region_grows (by kernel_rfl) (by kernel_rfl) ?_; (repeat (go_big_quiet_step (fail))); refine wpQuiet_nil ?_; rintro _ ⟨y, rfl⟩)
  go_wp2
  (refine wp_region_grows (by kernel_rfl) (by kernel_rfl) ?_; (repeat (go_big_quiet_step (fail))); refine wpQuiet_nil ?_; rintro _ ⟨y, rfl⟩)
  go_wp2
  (refine wp_region_grows (by kernel_rfl) (by kernel_rfl) ?_; (repeat (go_big_quiet_step ((go_at_call 135; exact Calls.grows (common_take _ _ _ (n.log.drop p) HD2.out _ _ _ m.recs rfl _ (HD1.out.mono (ex)) (HM.out.mono (ex))))))); refine wpQuiet_nil ?_; rintro _ ⟨y, rfl⟩)
  rw [HK.out]
  go_wp2
  (refine wp_region_grows (by kernel_rfl) (by kernel_rfl) ?_; (repeat (go_big_quiet_step (fail))); refine wpQuiet_nil ?_; rintro _ ⟨y, rfl⟩)
  go_wp2
  (refine wp_region_grows (by kernel_rfl) (by kernel_rfl) ?_; (repeat (go_big_quiet_step (fail))); refine wpQuiet_nil ?_; rintro _ ⟨y, rfl⟩)
  go_wp2
  refine bodyPost_ret (v := .tuple #[.agg #[.int .i64 0, .int .i64 0, .int .i64 0, .int .i64 0, .slice none 0 0, .int .i64 0], .bool false, .int .i64 19]) (by simp [results, Tryz.results169, go_sem]) rfl ?_
  exact RetBox.of (n := n) HR.out (ex) (.inl HS.out)
end
end Go.Proofs.YtmhinhgflehkaaaGreat
