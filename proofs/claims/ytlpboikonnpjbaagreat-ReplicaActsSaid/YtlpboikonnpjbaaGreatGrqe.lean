/-
  Chapter 54, the reference: new nodes, leading, joining lists, what a speaker sends, answers.
-/
import Derived.Test.YtlpboikonnpjbaaGreatGrpe
import Derived.Test.YtlpboikonnpjbaaGreatGrpn
import Derived.Test.YtlpboikonnpjbaaGreatGrqa
import Derived.Test.YtlpboikonnpjbaaGreatGopq
import Derived.Test.YtlpboikonnpjbaaGreatGrpg
import Derived.Test.YtlpboikonnpjbaaGreatRep9
namespace Go.Proofs.YtlpboikonnpjbaaGreat
open Go.RowKit

def none60 (ps : Array (Nat × Value)) : Sem Value := Instr.buildSlice 60 0 ps
@[go_sem ↓ high] theorem none60_at (ps : Array (Nat × Value)) : Instr.buildSlice 60 0 ps = none60 ps := rfl
theorem run_buildNone {P : Program} (w : World) (t e : TypeId) (n : Nat) (hu : P.underlying t = some (.slice e)) (hsz : (P.info? e).map (·.size) = some n) :
    (Instr.buildSlice t 0 #[]).run P w = .ok (.slice (some ⟨w.heap.size, 0, none⟩) 0 0) (w.alloc (.cells #[] e)) := by
  cases hie : P.info? e with
  | none => simp [hie] at hsz
  | some ie =>
    have e : ∀ f : Nat → Value, Array.map f (Array.range 0) = #[] := fun f => Array.eq_empty_of_size_eq_zero (by simp)
    simp [Instr.buildSlice, run_underlying hu, sizeOf, typeInfo, hie, newRow, Instr.fill, e]
@[go_sem] theorem none60_run (w : World) : (none60 #[]).run Tryz.prog w = .ok (.slice (some ⟨w.heap.size, 0, none⟩) 0 0) (w.alloc (.cells #[] 137)) :=
  run_buildNone w _ _ 45 Tryz.underlying60 (by kernel_rfl)
set_option maxHeartbeats 1600000 in
set_option maxRecDepth 100000 in
theorem r54_joined (A : Option Addr) (c n : Nat) (a : List Rec) (hn : a.length = n) (B : Option Addr) (d k : Nat) (b : List Rec) (hk : b.length = k) (w : World) (h1 : Sl w A 45 (a.map recR)) (h2 : Sl w B 45 (b.map recR)) (hb : n + k ≤ 1000000) :
    Calls Tryz.prog 76 #[.slice A n c, .slice B k d] w (RetQ w (n + k) (a ++ b)) := by
  subst hn hk
  have H1 := Lib.hid h1
  have H2 := Lib.hid h2
  clear h1 h2
  go_enter Tryz.func76, Tryz.ntmps76
  go_wp2_with (first
    | (have hh := HO1; clear hh; at_builtin; refine wpList_append_mine (w0 := w) rfl _ _ 60 60 rfl 137 137 45 552 Tryz.underlying60 Tryz.underlying60 info_Q (by decide) (by repeat (first | exact Ext.refl _ | assumption | apply Ext.xt | apply Ext.alloc | apply Ext.drew | apply Ext.drewN)) _ a.length _ (a.map recR) rfl (HO1.out.mono (by repeat (first | exact Ext.refl _ | assumption | apply Ext.xt | apply Ext.alloc | apply Ext.drew | apply Ext.drewN))) _ b.length _ (b.map recR) rfl (H2.out.mono (by repeat (first | exact Ext.refl _ | assumption | apply Ext.xt | apply Ext.alloc | apply Ext.drew | apply Ext.drewN))) (by simp) (recR_ones b) (by unfold maxLen; omega) (by omega) (a.length + b.length) rfl ((a ++ b).map recR) (by simp) ?_; intro D2 K2 w2 hx2 hown hg hA; have HO2 := Lib.hid hown; obtain ⟨y2, rfl⟩ := hx2.get; clear hown hx2 hg hA)
    | (at_builtin; refine wpList_append_mine (w0 := w) rfl _ _ 60 60 rfl 137 137 45 552 Tryz.underlying60 Tryz.underlying60 info_Q (by decide) (by repeat (first | exact Ext.refl _ | assumption | apply Ext.xt | apply Ext.alloc | apply Ext.drew | apply Ext.drewN)) _ 0 0 [] rfl (Own.nil _) _ a.length _ (a.map recR) rfl (H1.out.mono (by repeat (first | exact Ext.refl _ | assumption | apply Ext.xt | apply Ext.alloc | apply Ext.drew | apply Ext.drewN))) (by simp) (recR_ones a) (by unfold maxLen; omega) (by omega) a.length (by omega) (a.map recR) rfl ?_; intro D1 K1 w1 hx1 hown hg hA; have HO1 := Lib.hid hown; obtain ⟨y1, rfl⟩ := hx1.get; clear hown hx1 hg hA))
  go_ret
  exact ⟨_, _, rfl, by repeat (first | exact Ext.refl _ | assumption | apply Ext.xt | apply Ext.alloc | apply Ext.drew | apply Ext.drewN), HO2.out⟩
set_option maxHeartbeats 800000 in
theorem r54_answer (i t : Int) (sp : Bool) (A : Option Addr) (N c : Nat) (ak nx : Int) (k a : Int) (w : World) :
    Calls Tryz.prog 129 #[.agg #[.int .i64 i, .int .i64 t, .bool sp, .slice A N c, .int .i64 ak, .int .i64 nx], .int .i64 k, .int .i64 a] w fun e w' => e = .returned (.agg #[.int .i64 k, .int .i64 t, .int .i64 a, .int .i64 0, .slice none 0 0, .int .i64 0]) ∧ Ext w w' := by
  go_enter Tryz.func129, Tryz.ntmps129
  go_wp2
  exact bodyPost_ret (v := .agg #[.int .i64 k, .int .i64 t, .int .i64 a, .int .i64 0, .slice none 0 0, .int .i64 0]) (by simp [results, Tryz.results129, go_sem]) rfl ⟨rfl, by repeat (first | exact Ext.refl _ | assumption | apply Ext.xt | apply Ext.alloc | apply Ext.drew | apply Ext.drewN)⟩
set_option maxHeartbeats 800000 in
theorem r54_New (id : Int) (w : World) : Calls Tryz.prog 42 #[.int .i64 id] w (RetNod w (newV id)) := by
  cases h : withinB id 1 2 with
  | false =>
    have HR := Lib.hid (newV_no h)
    have := withinB_no h
    clear h
    by_cases h1 : id < 1
    · go_enter Tryz.func42, Tryz.ntmps42
      go_wp2
      exact bodyPost_ret (v := .tuple #[.agg #[.int .i64 0, .int .i64 0, .bool false, .slice none 0 0, .int .i64 0, .int .i64 0], .int .i64 2]) (by simp [results, Tryz.results42, go_sem]) rfl (RetNod.err HR.out (by repeat (first | exact Ext.refl _ | assumption | apply Ext.xt | apply Ext.alloc | apply Ext.drew | apply Ext.drewN)))
    · have h2 : 2 < id := by omega
      go_enter Tryz.func42, Tryz.ntmps42
      go_wp2
      exact bodyPost_ret (v := .tuple #[.agg #[.int .i64 0, .int .i64 0, .bool false, .slice none 0 0, .int .i64 0, .int .i64 0], .int .i64 2]) (by simp [results, Tryz.results42, go_sem]) rfl (RetNod.err HR.out (by repeat (first | exact Ext.refl _ | assumption | apply Ext.xt | apply Ext.alloc | apply Ext.drew | apply Ext.drewN)))
  | true =>
    have HR := Lib.hid (newV_yes h)
    have := withinB_yes h
    have h1 : ¬ id < 1 := by omega
    have h2 : ¬ 2 < id := by omega
    clear h
    go_enter Tryz.func42, Tryz.ntmps42
    go_wp2
    refine bodyPost_ret (v := .tuple #[.agg #[.int .i64 id, .int .i64 0, .bool false, .slice none 0 0, .int .i64 0, .int .i64 0], .int .i64 0]) (by simp [results, Tryz.results42, go_sem]) rfl ?_
    rw [HR.out]
    exact ⟨none, 0, rfl, by repeat (first | exact Ext.refl _ | assumption | apply Ext.xt | apply Ext.alloc | apply Ext.drew | apply Ext.drewN), RecsAt.nil _⟩
set_option maxHeartbeats 1600000 in
set_option maxRecDepth 100000 in
theorem r54_Led (n : Nod) (A : Option Addr) (c : Nat) (t : Int) (w : World) : Calls Tryz.prog 74 #[.agg #[.int .i64 n.id, .int .i64 n.term, .bool n.speaks, .slice A n.log.length c, .int .i64 n.acked, .int .i64 n.next], .int .i64 t] w fun e w' => e = .returned (.agg #[.int .i64 n.id, .int .i64 t, .bool true, .slice A n.log.length c, .int .i64 n.acked, .int .i64 n.log.length]) ∧ Ext w w' := by
  go_enter Tryz.func74, Tryz.ntmps74
  go_wp2
  exact bodyPost_ret (v := .agg #[.int .i64 n.id, .int .i64 t, .bool true, .slice A n.log.length c, .int .i64 n.acked, .int .i64 n.log.length]) (by simp [results, Tryz.results74, go_sem]) rfl ⟨rfl, by repeat (first | exact Ext.refl _ | assumption | apply Ext.xt | apply Ext.alloc | apply Ext.drew | apply Ext.drewN)⟩
set_option maxHeartbeats 3200000 in
set_option maxRecDepth 100000 in
theorem r54_Lead (n : Nod) (A : Option Addr) (c : Nat) (t : Int) (w : World) (hs : RecsAt w A c n.log) : Calls Tryz.prog 33 #[.agg #[.int .i64 n.id, .int .i64 n.term, .bool n.speaks, .slice A n.log.length c, .int .i64 n.acked, .int .i64 n.next], .int .i64 t] w (RetNod w (leadV n t)) := by
  have hl := hs.len
  have HS := Lib.hid hs
  clear hs
  by_cases h : nodE n = 0
  · have hz : (nodE n != 0) = false := by simpa using h
    have HN := Lib.hid h
    have hok := (nodE_iff n).1 h
    have j1 := hok.id1; have j2 := hok.id2
    clear h hok
    cases h1 : withinB t 1 1048576 with
    | false =>
      have HR := Lib.hid (leadV_b HN.out h1)
      have := withinB_no h1
      clear h1
      by_cases k1 : t < 1
      · go_enter Tryz.func33, Tryz.ntmps33
        go_wp2_with (go_at_call 27; refine (r54_Check n A c _ (HS.out.mono (by repeat (first | exact Ext.refl _ | assumption | apply Ext.xt | apply Ext.alloc | apply Ext.drew | apply Ext.drewN)))).mono ?_; rintro e w' ⟨rfl, hx⟩; obtain ⟨y, rfl⟩ := hx.get; clear hx)
        exact bodyPost_ret (v := .tuple #[.agg #[.int .i64 0, .int .i64 0, .bool false, .slice none 0 0, .int .i64 0, .int .i64 0], .int .i64 2]) (by simp [results, Tryz.results33, go_sem]) rfl (RetNod.err HR.out (by repeat (first | exact Ext.refl _ | assumption | apply Ext.xt | apply Ext.alloc | apply Ext.drew | apply Ext.drewN)))
      · have k2 : 1048576 < t := by omega
        go_enter Tryz.func33, Tryz.ntmps33
        go_wp2_with (go_at_call 27; refine (r54_Check n A c _ (HS.out.mono (by repeat (first | exact Ext.refl _ | assumption | apply Ext.xt | apply Ext.alloc | apply Ext.drew | apply Ext.drewN)))).mono ?_; rintro e w' ⟨rfl, hx⟩; obtain ⟨y, rfl⟩ := hx.get; clear hx)
        exact bodyPost_ret (v := .tuple #[.agg #[.int .i64 0, .int .i64 0, .bool false, .slice none 0 0, .int .i64 0, .int .i64 0], .int .i64 2]) (by simp [results, Tryz.results33, go_sem]) rfl (RetNod.err HR.out (by repeat (first | exact Ext.refl _ | assumption | apply Ext.xt | apply Ext.alloc | apply Ext.drew | apply Ext.drewN)))
    | true =>
      have i1 := (withinB_yes h1).1; have i2 := (withinB_yes h1).2
      have i3 : 0 ≤ t := by omega
      have k1 : ¬ t < 1 := by omega
      have k2 : ¬ 1048576 < t := by omega
      cases h2 : ownB n.id t with
      | false =>
        have HR := Lib.hid (leadV_c HN.out h1 h2)
        have H2 := Lib.hid h2
        clear h1 h2
        go_enter Tryz.func33, Tryz.ntmps33
        go_wp2_with (first | (go_at_call 27; refine (r54_Check n A c _ (HS.out.mono (by repeat (first | exact Ext.refl _ | assumption | apply Ext.xt | apply Ext.alloc | apply Ext.drew | apply Ext.drewN)))).mono ?_; rintro e w' ⟨rfl, hx⟩; obtain ⟨y, rfl⟩ := hx.get; clear hx) | (go_at_call 66; refine (r54_Own _ _ _ j1 j2 i3).mono ?_; rintro e w' ⟨he, rfl⟩; rw [H2.out] at he; subst he))
        exact bodyPost_ret (v := .tuple #[.agg #[.int .i64 0, .int .i64 0, .bool false, .slice none 0 0, .int .i64 0, .int .i64 0], .int .i64 11]) (by simp [results, Tryz.results33, go_sem]) rfl (RetNod.err HR.out (by repeat (first | exact Ext.refl _ | assumption | apply Ext.xt | apply Ext.alloc | apply Ext.drew | apply Ext.drewN)))
      | true =>
        by_cases h3 : t ≤ n.term
        · have HR := Lib.hid (leadV_d HN.out h1 h2 h3)
          have H2 := Lib.hid h2
          clear h1 h2
          go_enter Tryz.func33, Tryz.ntmps33
          go_wp2_with (first | (go_at_call 27; refine (r54_Check n A c _ (HS.out.mono (by repeat (first | exact Ext.refl _ | assumption | apply Ext.xt | apply Ext.alloc | apply Ext.drew | apply Ext.drewN)))).mono ?_; rintro e w' ⟨rfl, hx⟩; obtain ⟨y, rfl⟩ := hx.get; clear hx) | (go_at_call 66; refine (r54_Own _ _ _ j1 j2 i3).mono ?_; rintro e w' ⟨he, rfl⟩; rw [H2.out] at he; subst he))
          exact bodyPost_ret (v := .tuple #[.agg #[.int .i64 0, .int .i64 0, .bool false, .slice none 0 0, .int .i64 0, .int .i64 0], .int .i64 9]) (by simp [results, Tryz.results33, go_sem]) rfl (RetNod.err HR.out (by repeat (first | exact Ext.refl _ | assumption | apply Ext.xt | apply Ext.alloc | apply Ext.drew | apply Ext.drewN)))
        · have HR := Lib.hid (leadV_e HN.out h1 h2 h3)
          have H2 := Lib.hid h2
          clear h1 h2
          go_enter Tryz.func33, Tryz.ntmps33
          go_wp2_with (first | (go_at_call 27; refine (r54_Check n A c _ (HS.out.mono (by repeat (first | exact Ext.refl _ | assumption | apply Ext.xt | apply Ext.alloc | apply Ext.drew | apply Ext.drewN)))).mono ?_; rintro e w' ⟨rfl, hx⟩; obtain ⟨y, rfl⟩ := hx.get; clear hx) | (go_at_call 66; refine (r54_Own _ _ _ j1 j2 i3).mono ?_; rintro e w' ⟨he, rfl⟩; rw [H2.out] at he; subst he) | (go_at_call 74; refine (r54_Led n A c t _).mono ?_; rintro e w' ⟨rfl, hx⟩; obtain ⟨y, rfl⟩ := hx.get; clear hx))
          refine bodyPost_ret (v := .tuple #[.agg #[.int .i64 n.id, .int .i64 t, .bool true, .slice A n.log.length c, .int .i64 n.acked, .int .i64 n.log.length], .int .i64 0]) (by simp [results, Tryz.results33, go_sem]) rfl ?_
          rw [HR.out]
          exact ⟨A, c, rfl, by repeat (first | exact Ext.refl _ | assumption | apply Ext.xt | apply Ext.alloc | apply Ext.drew | apply Ext.drewN), HS.out.mono (by repeat (first | exact Ext.refl _ | assumption | apply Ext.xt | apply Ext.alloc | apply Ext.drew | apply Ext.drewN))⟩
  · have hz : (nodE n != 0) = true := by simpa using h
    have HR := Lib.hid (leadV_a (t := t) h)
    clear h
    go_enter Tryz.func33, Tryz.ntmps33
    go_wp2_with (go_at_call 27; refine (r54_Check n A c _ (HS.out.mono (by repeat (first | exact Ext.refl _ | assumption | apply Ext.xt | apply Ext.alloc | apply Ext.drew | apply Ext.drewN)))).mono ?_; rintro e w' ⟨rfl, hx⟩; obtain ⟨y, rfl⟩ := hx.get; clear hx)
    exact bodyPost_ret (v := .tuple #[.agg #[.int .i64 0, .int .i64 0, .bool false, .slice none 0 0, .int .i64 0, .int .i64 0], .int .i64 (nodE n)]) (by simp [results, Tryz.results33, go_sem]) rfl (RetNod.err HR.out (by repeat (first | exact Ext.refl _ | assumption | apply Ext.xt | apply Ext.alloc | apply Ext.drew | apply Ext.drewN)))
/-- A message whose records the call made itself. -/
def RetMsgQ (w : World) (m : Msg) (e : Ending) (w' : World) : Prop := ∃ A c, e = .returned (.agg #[.int .i64 m.kind, .int .i64 m.term, .int .i64 m.at_, .int .i64 m.before, .slice A m.recs.length c, .int .i64 m.acked]) ∧ Ext w w' ∧ Own w w' 137 45 A m.recs.length c (m.recs.map recR) ∧ ∀ r ∈ m.recs, AcnAt w r.act
theorem RetMsgQ.of {w w' : World} {m : Msg} {k t a b d : Int} {len c : Nat} {D : Option Addr} {l : List Rec} (hm : m = ⟨k, t, a, b, l, d⟩) (hl : l.length = len) (hx : Ext w w') (hr : Own w w' 137 45 D len c (l.map recR)) (he : ∀ r ∈ l, AcnAt w r.act) :
    RetMsgQ w m (.returned (.agg #[.int .i64 k, .int .i64 t, .int .i64 a, .int .i64 b, .slice D len c, .int .i64 d])) w' := by
  subst hm hl
  exact ⟨D, c, rfl, hx, hr, he⟩
set_option maxHeartbeats 3200000 in
set_option maxRecDepth 100000 in
theorem r54_Sent (n : Nod) (A : Option Addr) (c : Nat) (w : World) (hs : RecsAt w A c n.log) (hn : NodOk n) : Calls Tryz.prog 78 #[.agg #[.int .i64 n.id, .int .i64 n.term, .bool n.speaks, .slice A n.log.length c, .int .i64 n.acked, .int .i64 n.next]] w (RetMsgQ w (sentM n)) := by
  have hl := hs.len
  have h256 := hn.len
  have h0 := hn.n0; have h1 := hn.n1
  obtain ⟨j, hj⟩ : ∃ j : Nat, n.next = j := ⟨n.next.toNat, by omega⟩
  have hcap := hs.le
  obtain ⟨q, hq⟩ : ∃ q : Nat, min (j + 16) n.log.length = q := ⟨_, rfl⟩
  have hjq : j ≤ q := by omega
  have hjc : (j : Int) ≤ (q : Int) := by omega
  have hqc : (q : Int) ≤ (c : Int) := by omega
  have hql : q ≤ n.log.length := by omega
  by_cases hj0 : 0 < j
  · obtain ⟨r, hr⟩ : ∃ r, n.log[j - 1]? = some r := ⟨_, List.getElem?_eq_getElem (by omega)⟩
    have HE := Lib.hid (sentM_eq n j q hj hq r.term (by rw [if_pos (by omega), hj, show ((j : Int) - 1) = ((j - 1 : Nat) : Int) by omega, termAt_get' hr]))
    obtain ⟨hp1, hp2⟩ := hs.part j q hql (q - j) rfl
    obtain ⟨b, o, rfl, hrec, -⟩ := hs.get hr
    have HP1 := Lib.hid hp1
    have HP2 := Lib.hid hp2
    have ht := hrec.term
    have hi1 : (0 : Int) ≤ (j : Int) - 1 := by omega
    have hi2 : (j : Int) - 1 < (n.log.length : Int) := by omega
    have hmin : min ((j : Int) + 16) (n.log.length : Int) = (q : Int) := by omega
    rw [hj] at h0 h1 ⊢
    clear hp1 hp2 hn hr hrec hq hj hs
    go_enter Tryz.func78, Tryz.ntmps78
    go_wp2_with (go_at_call 76; refine (r54_joined none 0 0 [] rfl _ _ (q - j) ((n.log.take q).drop j) HP2.out _ (Sl.nil _ _ _) (HP1.out.sl.mono (by repeat (first | exact Ext.refl _ | assumption | apply Ext.xt | apply Ext.alloc | apply Ext.drew | apply Ext.drewN))) (by omega)).mono ?_; rintro e w' ⟨D, n', rfl, hx, hown⟩; rw [Nat.zero_add] at hown; simp only [Nat.zero_add]; have HO := Lib.hid hown; obtain ⟨yc, rfl⟩ := hx.get; clear hx hown)
    refine bodyPost_ret (v := .agg #[.int .i64 0, .int .i64 n.term, .int .i64 j, .int .i64 r.term, .slice D (q - j) n', .int .i64 n.acked]) (by simp [results, Tryz.results78, go_sem]) rfl ?_
    exact RetMsgQ.of HE.out HP2.out (by repeat (first | exact Ext.refl _ | assumption | apply Ext.xt | apply Ext.alloc | apply Ext.drew | apply Ext.drewN)) (Own.older (Own.shift HO.out (by simp [go_sem])) (by repeat (first | exact Ext.refl _ | assumption | apply Ext.xt | apply Ext.alloc | apply Ext.drew | apply Ext.drewN))) HP1.out.el
  · obtain rfl : j = 0 := by omega
    have HE := Lib.hid (sentM_eq n 0 q hj hq 0 (by rw [if_neg (by omega)]))
    obtain ⟨hp1, hp2⟩ := hs.part 0 q hql q (Nat.sub_zero q)
    have HP1 := Lib.hid hp1
    have HP2 := Lib.hid hp2
    rw [partA_zero] at HP1
    have hmin : min 16 (n.log.length : Int) = (q : Int) := by omega
    rw [hj] at h0 h1 ⊢
    clear hp1 hp2 hn hq hj hs hj0
    go_enter Tryz.func78, Tryz.ntmps78
    go_wp2_with (go_at_call 76; refine (r54_joined none 0 0 [] rfl _ _ q ((n.log.take q).drop 0) HP2.out _ (Sl.nil _ _ _) (HP1.out.sl.mono (by repeat (first | exact Ext.refl _ | assumption | apply Ext.xt | apply Ext.alloc | apply Ext.drew | apply Ext.drewN))) (by omega)).mono ?_; rintro e w' ⟨D, n', rfl, hx, hown⟩; rw [Nat.zero_add] at hown; simp only [Nat.zero_add]; have HO := Lib.hid hown; obtain ⟨yc, rfl⟩ := hx.get; clear hx hown)
    refine bodyPost_ret (v := .agg #[.int .i64 0, .int .i64 n.term, .int .i64 0, .int .i64 0, .slice D q n', .int .i64 n.acked]) (by simp [results, Tryz.results78, go_sem]) rfl ?_
    exact RetMsgQ.of HE.out HP2.out (by repeat (first | exact Ext.refl _ | assumption | apply Ext.xt | apply Ext.alloc | apply Ext.drew | apply Ext.drewN)) (Own.older (Own.shift HO.out (by simp [go_sem])) (by repeat (first | exact Ext.refl _ | assumption | apply Ext.xt | apply Ext.alloc | apply Ext.drew | apply Ext.drewN))) HP1.out.el
theorem r54_Sent_as (n : Nod) (m : Msg) (hm : sentM n = m) (A : Option Addr) (c : Nat) (w : World) (hs : RecsAt w A c n.log) (hn : NodOk n) : Calls Tryz.prog 78 #[.agg #[.int .i64 n.id, .int .i64 n.term, .bool n.speaks, .slice A n.log.length c, .int .i64 n.acked, .int .i64 n.next]] w (RetMsgQ w m) := by
  subst hm
  exact r54_Sent n A c w hs hn
/-- A message, and an error's number. -/
def RetMsgEQ (w : World) (v : Msg × Int) (e : Ending) (w' : World) : Prop := ∃ A c, e = .returned (.tuple #[.agg #[.int .i64 v.1.kind, .int .i64 v.1.term, .int .i64 v.1.at_, .int .i64 v.1.before, .slice A v.1.recs.length c, .int .i64 v.1.acked], .int .i64 v.2]) ∧ Ext w w' ∧ Own w w' 137 45 A v.1.recs.length c (v.1.recs.map recR) ∧ ∀ r ∈ v.1.recs, AcnAt w r.act
theorem RetMsgEQ.err {w w' : World} {v : Msg × Int} {x : Int} (h : v = (msg0, x)) (hx : Ext w w') : RetMsgEQ w v (.returned (.tuple #[.agg #[.int .i64 0, .int .i64 0, .int .i64 0, .int .i64 0, .slice none 0 0, .int .i64 0], .int .i64 x])) w' := by
  subst h
  exact ⟨none, 0, rfl, hx, Own.nil _, by simp [msg0]⟩
set_option maxHeartbeats 3200000 in
set_option maxRecDepth 100000 in
theorem r54_Send (n : Nod) (A : Option Addr) (c : Nat) (w : World) (hs : RecsAt w A c n.log) : Calls Tryz.prog 37 #[.agg #[.int .i64 n.id, .int .i64 n.term, .bool n.speaks, .slice A n.log.length c, .int .i64 n.acked, .int .i64 n.next]] w (RetMsgEQ w (sendV n)) := by
  have hl := hs.len
  have HS := Lib.hid hs
  clear hs
  by_cases h : nodE n = 0
  · have hz : (nodE n != 0) = false := by simpa using h
    have HN := Lib.hid h
    clear h
    obtain ⟨b, hb⟩ : ∃ b, n.speaks = b := ⟨_, rfl⟩
    have HC := Lib.hid (fun (w' : World) (h : RecsAt w' A c n.log) => r54_Check n A c w' h)
    rw [hb] at HC ⊢
    cases b with
    | false =>
      have HR := Lib.hid (sendV_b HN.out hb)
      clear hb
      go_enter Tryz.func37, Tryz.ntmps37
      go_wp2_with (go_at_call 27; refine (HC.out _ (HS.out.mono (by repeat (first | exact Ext.refl _ | assumption | apply Ext.xt | apply Ext.alloc | apply Ext.drew | apply Ext.drewN)))).mono ?_; rintro e w' ⟨rfl, hx⟩; obtain ⟨y, rfl⟩ := hx.get; clear hx)
      exact bodyPost_ret (v := .tuple #[.agg #[.int .i64 0, .int .i64 0, .int .i64 0, .int .i64 0, .slice none 0 0, .int .i64 0], .int .i64 16]) (by simp [results, Tryz.results37, go_sem]) rfl (RetMsgEQ.err HR.out (by repeat (first | exact Ext.refl _ | assumption | apply Ext.xt | apply Ext.alloc | apply Ext.drew | apply Ext.drewN)))
    | true =>
      obtain ⟨m, hm⟩ : ∃ m, sentM n = m := ⟨_, rfl⟩
      have HR := Lib.hid (sendV_c hm HN.out hb)
      have HD := Lib.hid (fun (w' : World) (h : RecsAt w' A c n.log) => r54_Sent_as n m hm A c w' h ((nodE_iff n).1 HN.out))
      rw [hb] at HD
      have HM := Lib.hid hm
      clear hm hb
      go_enter Tryz.func37, Tryz.ntmps37
      go_wp2_with (first | (go_at_call 27; refine (HC.out _ (HS.out.mono (by repeat (first | exact Ext.refl _ | assumption | apply Ext.xt | apply Ext.alloc | apply Ext.drew | apply Ext.drewN)))).mono ?_; rintro e w' ⟨rfl, hx⟩; obtain ⟨y, rfl⟩ := hx.get; clear hx) | (go_at_call 78; refine (HD.out _ (HS.out.mono (by repeat (first | exact Ext.refl _ | assumption | apply Ext.xt | apply Ext.alloc | apply Ext.drew | apply Ext.drewN)))).mono ?_; rintro e w' ⟨D, n', rfl, hx, hown, -⟩; have HO := Lib.hid hown; obtain ⟨yc, rfl⟩ := hx.get; clear hx hown))
      refine bodyPost_ret (v := .tuple #[.agg #[.int .i64 m.kind, .int .i64 m.term, .int .i64 m.at_, .int .i64 m.before, .slice D m.recs.length n', .int .i64 m.acked], .int .i64 0]) (by simp [results, Tryz.results37, go_sem]) rfl ?_
      rw [HR.out]
      have hel2 : ∀ r ∈ m.recs, AcnAt w r.act := by rw [← HM.out]; exact fun r hr => HS.out.el r (List.mem_of_mem_drop (List.mem_of_mem_take hr))
      exact ⟨D, n', rfl, by repeat (first | exact Ext.refl _ | assumption | apply Ext.xt | apply Ext.alloc | apply Ext.drew | apply Ext.drewN), Own.older (Own.shift HO.out (by simp [go_sem])) (by repeat (first | exact Ext.refl _ | assumption | apply Ext.xt | apply Ext.alloc | apply Ext.drew | apply Ext.drewN)), hel2⟩
  · have hz : (nodE n != 0) = true := by simpa using h
    have HR := Lib.hid (sendV_a h)
    clear h
    go_enter Tryz.func37, Tryz.ntmps37
    go_wp2_with (go_at_call 27; refine (r54_Check n A c _ (HS.out.mono (by repeat (first | exact Ext.refl _ | assumption | apply Ext.xt | apply Ext.alloc | apply Ext.drew | apply Ext.drewN)))).mono ?_; rintro e w' ⟨rfl, hx⟩; obtain ⟨y, rfl⟩ := hx.get; clear hx)
    exact bodyPost_ret (v := .tuple #[.agg #[.int .i64 0, .int .i64 0, .int .i64 0, .int .i64 0, .slice none 0 0, .int .i64 0], .int .i64 (nodE n)]) (by simp [results, Tryz.results37, go_sem]) rfl (RetMsgEQ.err HR.out (by repeat (first | exact Ext.refl _ | assumption | apply Ext.xt | apply Ext.alloc | apply Ext.drew | apply Ext.drewN)))
end Go.Proofs.YtlpboikonnpjbaaGreat

/-
  Chapter 54, the reference: which records an Append would leave out; the log behind it.
-/
namespace Go.Proofs.YtlpboikonnpjbaaGreat
open Go.RowKit

theorem keep_more {l r : List Rec} {p i : Nat} {x y : Rec} (h : i ≤ keepN (l.drop p) r) (hx : l[p + i]? = some x) (hy : r[i]? = some y) (ht : x.term = y.term) : i + 1 ≤ keepN (l.drop p) r := by
  have h1 := (List.getElem?_eq_some_iff.1 hx).1
  have h2 := (List.getElem?_eq_some_iff.1 hy).1
  refine keepN_ge _ _ _ (by rw [List.length_drop]; omega) (by omega) fun j hj => ?_
  by_cases hji : j < i
  · exact keepN_term _ _ j (by omega)
  · obtain rfl : j = i := by omega
    rw [List.getElem?_drop, hx, hy]; simp [ht]
theorem keep_other {l r : List Rec} {p i : Nat} {x y : Rec} (h : i ≤ keepN (l.drop p) r) (hx : l[p + i]? = some x) (hy : r[i]? = some y) (ht : ¬ x.term = y.term) : keepN (l.drop p) r = i := by
  by_cases hlt : i < keepN (l.drop p) r
  · have := keepN_term _ _ i hlt
    rw [List.getElem?_drop, hx, hy] at this
    exact absurd (by simpa using this) ht
  · omega
theorem keep_past {l r : List Rec} {p i : Nat} (hp : p ≤ l.length) (h : i ≤ keepN (l.drop p) r) (hl : l.length ≤ p + i) : keepN (l.drop p) r = i := by
  have := (keepN_le (l.drop p) r).1
  rw [List.length_drop] at this
  omega
theorem keep_end {l r : List Rec} {p i : Nat} (h : i ≤ keepN (l.drop p) r) (hl : r.length ≤ i) : keepN (l.drop p) r = r.length := by
  have := (keepN_le (l.drop p) r).2
  omega
/-- Whether an Append that fits would leave out one of the first records. -/
def lostB (p : Nat) (l r : List Rec) (f : Int) : Bool := decide (keepN (l.drop p) r < r.length ∧ (p : Int) + keepN (l.drop p) r < min f l.length)
/-- The log behind an Append that fits. -/
def mergedL (p : Nat) (l r : List Rec) : List Rec := if keepN (l.drop p) r < r.length then l.take (p + keepN (l.drop p) r) ++ r.drop (keepN (l.drop p) r) else l
theorem mergedL_eq (n : Nod) (m : Msg) (p : Nat) (hp : m.at_ = p) : mergedL p n.log m.recs = tookL n m := by
  unfold mergedL tookL
  rw [show m.at_.toNat = p by omega]
/-- A log that the call found, or made behind its boxes. -/
def LogQ (w X W : World) (D : Option Addr) (N K : Nat) (l : List Rec) : Prop := RecsAt w D K l ∨ (Own X W 137 45 D N K (l.map recR) ∧ ∀ r ∈ l, AcnAt w r.act)
theorem LogQ.recs {w X W : World} {D : Option Addr} {N K : Nat} {l : List Rec} (h : LogQ w X W D N K l) (hn : l.length = N) (hx : Ext w W) : RecsAt W D K l := by
  rcases h with h | ⟨h, he⟩
  · exact h.mono hx
  · exact Own.recs h hn fun r hr => (he r hr).mono hx
theorem LogQ.base {w X X' W : World} {D : Option Addr} {N K : Nat} {l : List Rec} (h : LogQ w X' W D N K l) (hs : X.heap.size ≤ X'.heap.size) : LogQ w X W D N K l := by
  rcases h with h | ⟨h, he⟩
  · exact .inl h
  · refine .inr ⟨⟨h.len, h.row, h.one, h.le, h.cap, ?_⟩, he⟩
    rcases h.at_ with h0 | ⟨g, cur, h1, h2, h3⟩
    · exact .inl h0
    · exact .inr ⟨g, cur, h1, by omega, h3⟩
theorem LogQ.mono {w X W W' : World} {D : Option Addr} {N K : Nat} {l : List Rec} (h : LogQ w X W D N K l) (hx : Ext W W') : LogQ w X W' D N K l := by
  rcases h with h | ⟨h, he⟩
  · exact .inl h
  · exact .inr ⟨h.mono hx, he⟩
theorem LogQ.along {w X X' W : World} {y : Gr} {D : Option Addr} {N K : Nat} {l : List Rec} (h : LogQ w X (xt X y) D N K l) (hx : Ext (xt X' y) W) (hs : X.heap.size = X'.heap.size) : LogQ w X' W D N K l := by
  rcases h with h | ⟨h, he⟩
  · exact .inl h
  · exact .inr ⟨h.along hx hs, he⟩
/-- A log that the call found, or made. -/
def RetLogQ (w : World) (A : Option Addr) (c : Nat) (l L : List Rec) (e : Ending) (w' : World) : Prop := ∃ D K, e = .returned (.slice D L.length K) ∧ Ext w w' ∧ ((D = A ∧ K = c ∧ L = l) ∨ Own w w' 137 45 D L.length K (L.map recR))
theorem mergedL_mem {p : Nat} {l r : List Rec} {P : Rec → Prop} (h1 : ∀ x ∈ l, P x) (h2 : ∀ x ∈ r, P x) : ∀ x ∈ mergedL p l r, P x := by
  intro x hx
  unfold mergedL at hx
  split at hx
  · rcases List.mem_append.1 hx with hx | hx
    · exact h1 x (List.mem_of_mem_take hx)
    · exact h2 x (List.mem_of_mem_drop hx)
  · exact h1 x hx
theorem LogQ.got {w X W : World} {A D : Option Addr} {c K N : Nat} {l L : List Rec} (h : (D = A ∧ K = c ∧ L = l) ∨ Own X W 137 45 D N K (L.map recR)) (hs : RecsAt w A c l) (hel : ∀ r ∈ L, AcnAt w r.act) : LogQ w X W D N K L := by
  rcases h with ⟨rfl, rfl, rfl⟩ | h
  · exact .inl hs
  · exact .inr ⟨h, hel⟩
/-- A list of records that the call made behind X. -/
def Stab.ownQ (X : World) (n : Nat) (l : List Rec) : Stab := ⟨fun v W => ∃ D K, v = .slice D n K ∧ Own X W 137 45 D n K (l.map recR), fun _ _ _ hx ⟨D, K, e, h⟩ => ⟨D, K, e, h.mono hx⟩⟩
section
variable (A : Option Addr) (c : Nat) (l : List Rec) (m : Msg) (B : Option Addr) (d : Nat) (w : World) (p : Nat)
set_option maxHeartbeats 6400000 in
set_option maxRecDepth 100000 in
theorem r54_lost (hs : RecsAt w A c l) (hm : RecsAt w B d m.recs) (hpl : p ≤ l.length) (h256 : l.length ≤ 256) (hrl : m.recs.length ≤ 16) (f : Int) :
    Calls Tryz.prog 173 #[.slice A l.length c, .agg #[.int .i64 m.kind, .int .i64 m.term, .int .i64 p, .int .i64 m.before, .slice B m.recs.length d, .int .i64 m.acked], .int .i64 f] w fun e w' => e = .returned (.bool (lostB p l m.recs f)) ∧ Ext w w' := by
  have hl := hs.len
  have HS := Lib.hid hs
  have HM := Lib.hid hm
  obtain ⟨v, hv⟩ : ∃ v, lostB p l m.recs f = v := ⟨_, rfl⟩
  have HV := Lib.hid hv
  rw [hv]
  clear hv hs hm
  go_enter Tryz.func173, Tryz.ntmps173
  go_wp2
  go_loopw [7] (fun i wr => ∃ k : Nat, k ≤ m.recs.length ∧ i = .int .i64 k ∧ Ext w wr ∧ Hid (k ≤ keepN (l.drop p) m.recs) ∧ wr.cell? ⟨w.heap.size, 2, none⟩ = some (.int .i64 p) ∧ wr.cell? ⟨w.heap.size, 4, none⟩ = some (.slice B m.recs.length d)) (fun i _ => m.recs.length - (intOf i).toNat)
  case atStart => exact ⟨0, by omega, rfl, by repeat (first | exact Ext.refl _ | assumption | apply Ext.xt | apply Ext.alloc | apply Ext.drew | apply Ext.drewN), Lib.hid (Nat.zero_le _), by simp [go_sem], by simp [go_sem]⟩
  case round =>
    obtain ⟨k, hk, rfl, hx, HK, c2, c4⟩ := hrel
    obtain ⟨y0, rfl⟩ := hx.get
    clear hx
    by_cases hlt : k < m.recs.length
    · obtain ⟨y, hy⟩ : ∃ y, m.recs[k]? = some y := ⟨_, List.getElem?_eq_getElem hlt⟩
      have hw : IntKind.i64.wrap ((p : Int) + (k : Int)) = (p : Int) + (k : Int) := IntWalk.i64_in _ (by omega)
      by_cases hll : p + k < l.length
      · obtain ⟨x, hx⟩ : ∃ x, l[p + k]? = some x := ⟨_, List.getElem?_eq_getElem hll⟩
        obtain ⟨b, o, rfl, hrx, -⟩ := HS.out.get hx
        obtain ⟨b2, o2, rfl, hry, -⟩ := HM.out.get hy
        have t1 := hrx.term
        have t2 := hry.term
        have i1 : (0 : Int) ≤ (k : Int) := by omega
        have i2 : (k : Int) < (m.recs.length : Int) := by omega
        have i3 : (0 : Int) ≤ (p : Int) + (k : Int) := by omega
        have i4 : (p : Int) + (k : Int) < (l.length : Int) := by omega
        have i5 : ((p : Int) + (k : Int)).toNat = p + k := by omega
        have i6 : ¬ (l.length : Int) ≤ (p : Int) + (k : Int) := by omega
        clear hrx hry
        by_cases ht : x.term = y.term
        · have hz : (x.term != y.term) = false := by simpa using ht
          have HK2 := Lib.hid (keep_more HK.out hx hy ht)
          clear hx hy ht
          go_wp2_with fail
          (refine wp_region_grows (by kernel_rfl) (by kernel_rfl) ?_; (repeat (go_big_quiet_step (fail))); refine wpQuiet_nil ?_; rintro _ ⟨y, rfl⟩)
          go_wp2
          go_light
          exact ⟨⟨k + 1, by omega, by go_num, by repeat (first | exact Ext.refl _ | assumption | apply Ext.xt | apply Ext.alloc | apply Ext.drew | apply Ext.drewN), HK2, by simp [go_sem, c2], by simp [go_sem, c4]⟩, by simp [intOf]; omega⟩
        · have hz : (x.term != y.term) = true := by simpa using ht
          have he := keep_other HK.out hx hy ht
          have HR := Lib.hid (show decide ((p : Int) + (k : Int) < f) = v by
            rw [← HV.out]; unfold lostB; rw [he]; apply decide_eq_decide.2; omega)
          clear hx hy ht he
          go_wp2_with fail
          (refine wp_region_grows (by kernel_rfl) (by kernel_rfl) ?_; (repeat (go_big_quiet_step (fail))); refine wpQuiet_nil ?_; rintro _ ⟨y, rfl⟩)
          go_wp2
          go_ret
          exact ⟨ret_b HR.out, by repeat (first | exact Ext.refl _ | assumption | apply Ext.xt | apply Ext.alloc | apply Ext.drew | apply Ext.drewN)⟩
      · have he := keep_past hpl HK.out (by omega)
        have HR := Lib.hid (show false = v by
          rw [← HV.out]; unfold lostB; rw [he]; symm; apply decide_eq_false; omega)
        have i6 : (l.length : Int) ≤ (p : Int) + (k : Int) := by omega
        clear he hy
        go_wp2
        go_ret
        exact ⟨ret_b HR.out, by repeat (first | exact Ext.refl _ | assumption | apply Ext.xt | apply Ext.alloc | apply Ext.drew | apply Ext.drewN)⟩
    · have he := keep_end HK.out (by omega)
      have HR := Lib.hid (show false = v by
        rw [← HV.out]; unfold lostB; rw [he]; symm; apply decide_eq_false; omega)
      clear he
      go_wp2
      go_ret
      exact ⟨ret_b HR.out, by repeat (first | exact Ext.refl _ | assumption | apply Ext.xt | apply Ext.alloc | apply Ext.drew | apply Ext.drewN)⟩
set_option maxHeartbeats 6400000 in
set_option maxRecDepth 100000 in
theorem r54_merged (hs : RecsAt w A c l) (hm : RecsAt w B d m.recs) (hpl : p ≤ l.length) (h256 : l.length ≤ 256) (hrl : m.recs.length ≤ 16) :
    Calls Tryz.prog 174 #[.slice A l.length c, .agg #[.int .i64 m.kind, .int .i64 m.term, .int .i64 p, .int .i64 m.before, .slice B m.recs.length d, .int .i64 m.acked]] w (RetLogQ w A c l (mergedL p l m.recs)) := by
  have hl := hs.len
  have hcap := hs.le
  have hcap2 := hm.le
  have HS := Lib.hid hs
  have HM := Lib.hid hm
  obtain ⟨v, hv⟩ : ∃ v, mergedL p l m.recs = v := ⟨_, rfl⟩
  have HV := Lib.hid hv
  rw [hv]
  have hs0 := hs
  have hm0 := hm
  clear hv hs hm
  go_enter Tryz.func174, Tryz.ntmps174
  go_wp2
  go_loopw [5] (fun i wr => ∃ k : Nat, k ≤ m.recs.length ∧ i = .int .i64 k ∧ Ext w wr ∧ Hid (k ≤ keepN (l.drop p) m.recs) ∧ wr.cell? ⟨w.heap.size, 2, none⟩ = some (.int .i64 p) ∧ wr.cell? ⟨w.heap.size, 4, none⟩ = some (.slice B m.recs.length d)) (fun i _ => m.recs.length - (intOf i).toNat)
  case atStart => exact ⟨0, by omega, rfl, by repeat (first | exact Ext.refl _ | assumption | apply Ext.xt | apply Ext.alloc | apply Ext.drew | apply Ext.drewN), Lib.hid (Nat.zero_le _), by simp [go_sem], by simp [go_sem]⟩
  case round =>
    obtain ⟨k, hk, rfl, hx, HK, c2, c4⟩ := hrel
    obtain ⟨y0, rfl⟩ := hx.get
    clear hx
    by_cases hlt : k < m.recs.length
    · obtain ⟨y, hy⟩ : ∃ y, m.recs[k]? = some y := ⟨_, List.getElem?_eq_getElem hlt⟩
      have hw : IntKind.i64.wrap ((p : Int) + (k : Int)) = (p : Int) + (k : Int) := IntWalk.i64_in _ (by omega)
      have i1 : (0 : Int) ≤ (k : Int) := by omega
      have i2 : (k : Int) < (m.recs.length : Int) := by omega
      have i3 : (0 : Int) ≤ (p : Int) + (k : Int) := by omega
      have i5 : ((p : Int) + (k : Int)).toNat = p + k := by omega
      have i7 : (k : Int) ≤ (m.recs.length : Int) := by omega
      have i8 : (m.recs.length : Int) ≤ (d : Int) := by omega
      have hq2 := hm0.part k m.recs.length (Nat.le_refl _) (m.recs.length - k) rfl
      rw [List.take_length] at hq2
      have HQ2 := Lib.hid hq2.1
      have HL2 := Lib.hid hq2.2
      clear hq2
      by_cases hll : p + k < l.length
      · obtain ⟨x, hx⟩ : ∃ x, l[p + k]? = some x := ⟨_, List.getElem?_eq_getElem hll⟩
        have hq1 := hs0.part 0 (p + k) (by omega) (p + k) (Nat.sub_zero _)
        rw [List.drop_zero, partA_zero, Nat.sub_zero] at hq1
        have HQ1 := Lib.hid hq1.1
        have HL1 := Lib.hid hq1.2
        clear hq1
        obtain ⟨b, o, rfl, hrx, -⟩ := HS.out.get hx
        obtain ⟨b2, o2, rfl, hry, -⟩ := HM.out.get hy
        have t1 := hrx.term
        have t2 := hry.term
        have i4 : (p : Int) + (k : Int) < (l.length : Int) := by omega
        have i6 : ¬ (l.length : Int) ≤ (p : Int) + (k : Int) := by omega
        have i6d : decide ((l.length : Int) ≤ (p : Int) + (k : Int)) = false := decide_eq_false i6
        have i9 : (p : Int) + (k : Int) ≤ (c : Int) := by omega
        clear hrx hry
        by_cases ht : x.term = y.term
        · have hz : (x.term != y.term) = false := by simpa using ht
          have HK2 := Lib.hid (keep_more HK.out hx hy ht)
          clear hx hy ht
          go_wp2_with fail
          (refine wp_region_grows (by kernel_rfl) (by kernel_rfl) ?_; (repeat (go_big_quiet_step (fail))); refine wpQuiet_nil ?_; rintro _ ⟨y, rfl⟩)
          go_wp2
          go_light
          exact ⟨⟨k + 1, by omega, by go_num, by repeat (first | exact Ext.refl _ | assumption | apply Ext.xt | apply Ext.alloc | apply Ext.drew | apply Ext.drewN), HK2, by simp [go_sem, c2], by simp [go_sem, c4]⟩, by simp [intOf]; omega⟩
        · have hz : (x.term != y.term) = true := by simpa using ht
          have he := keep_other HK.out hx hy ht
          have HR := Lib.hid (show v = l.take (p + k) ++ m.recs.drop k by rw [← HV.out]; unfold mergedL; rw [he, if_pos hlt])
          clear hx hy ht he
          go_wp2_with fail
          (refine wp_region_grows (by kernel_rfl) (by kernel_rfl) ?_; (repeat (go_big_quiet_step (fail))); refine wpQuiet_nil ?_; rintro _ ⟨y, rfl⟩)
          go_wp2
          refine wp_region_stab 9 [] [Stab.is (.slice (some ⟨b, o, none⟩) l.length c), Stab.is (.int .i64 ((p : Int) + (k : Int))), Stab.is (.slice (some ⟨b, o, none⟩) (p + k) c), Stab.is (.pointer (some ⟨w.heap.size, 4, none⟩)), Stab.is (.slice (some ⟨b2, o2, none⟩) m.recs.length d), Stab.is (.int .i64 k), Stab.is (.slice (partA (some ⟨b2, o2, none⟩) k d 45) (m.recs.length - k) (d - k)), Stab.ownQ w (p + k + (m.recs.length - k)) (l.take (p + k) ++ m.recs.drop k), Stab.ownQ w (p + k + (m.recs.length - k)) (l.take (p + k) ++ m.recs.drop k)] (fun u => by (simp only [putAll, List.take_succ_cons, List.take_zero, Act.put, Nat.zero_add, Nat.reduceAdd]); (try simp only [List.setIfInBounds_toArray]); (repeat (first | simp only [List.set_cons_succ] | simp only [List.set_cons_zero])); exact rfl) (by kernel_rfl) (by kernel_rfl) (fun _ _ _ _ _ h => h) ?_ ?_
          · refine ⟨?_, ?_, ?_, ?_, ?_, ?_, ?_, ?_, ?_, trivial⟩
            · (show SlotA _ _ _ _ _ _ _); intro u w1 hx1 hd; obtain ⟨y9, rfl⟩ := hx1.get; clear hx1
              refine slot_run rfl rfl rfl ?_; intro K hK
              go_simp; exact hK _ _ rfl (by repeat (first | exact Ext.refl _ | assumption | apply Ext.xt | apply Ext.alloc | apply Ext.drew | apply Ext.drewN)) rfl
            · (show SlotA _ _ _ _ _ _ _); intro u w1 hx1 hd; obtain ⟨y9, rfl⟩ := hx1.get; clear hx1
              refine slot_run rfl rfl rfl ?_; intro K hK
              go_simp; exact hK _ _ rfl (by repeat (first | exact Ext.refl _ | assumption | apply Ext.xt | apply Ext.alloc | apply Ext.drew | apply Ext.drewN)) rfl
            · (show SlotA _ _ _ _ _ _ _); intro u w1 hx1 hd; obtain ⟨y9, rfl⟩ := hx1.get; clear hx1
              have e0 : u 0 = .slice (some ⟨b, o, none⟩) l.length c := hd 0 (by kernel_rfl)
              have e1 : u 1 = .int .i64 ((p : Int) + (k : Int)) := hd 1 (by kernel_rfl)
              simp only [e0, e1]
              refine slot_run rfl rfl rfl ?_; intro K hK
              go_simp; exact hK _ _ rfl (by repeat (first | exact Ext.refl _ | assumption | apply Ext.xt | apply Ext.alloc | apply Ext.drew | apply Ext.drewN)) rfl
            · (show SlotA _ _ _ _ _ _ _); intro u w1 hx1 hd; obtain ⟨y9, rfl⟩ := hx1.get; clear hx1
              refine slot_run rfl rfl rfl ?_; intro K hK
              go_simp; exact hK _ _ rfl (by repeat (first | exact Ext.refl _ | assumption | apply Ext.xt | apply Ext.alloc | apply Ext.drew | apply Ext.drewN)) rfl
            · (show SlotA _ _ _ _ _ _ _); intro u w1 hx1 hd; obtain ⟨y9, rfl⟩ := hx1.get; clear hx1
              have e3 : u 3 = .pointer (some ⟨w.heap.size, 4, none⟩) := hd 3 (by kernel_rfl)
              simp only [e3]
              refine slot_run rfl rfl rfl ?_; intro K hK
              go_simp; exact hK _ _ rfl (by repeat (first | exact Ext.refl _ | assumption | apply Ext.xt | apply Ext.alloc | apply Ext.drew | apply Ext.drewN)) rfl
            · (show SlotA _ _ _ _ _ _ _); intro u w1 hx1 hd; obtain ⟨y9, rfl⟩ := hx1.get; clear hx1
              refine slot_run rfl rfl rfl ?_; intro K hK
              go_simp; exact hK _ _ rfl (by repeat (first | exact Ext.refl _ | assumption | apply Ext.xt | apply Ext.alloc | apply Ext.drew | apply Ext.drewN)) rfl
            · (show SlotA _ _ _ _ _ _ _); intro u w1 hx1 hd; obtain ⟨y9, rfl⟩ := hx1.get; clear hx1
              have e4 : u 4 = .slice (some ⟨b2, o2, none⟩) m.recs.length d := hd 4 (by kernel_rfl)
              have e5 : u 5 = .int .i64 k := hd 5 (by kernel_rfl)
              simp only [e4, e5]
              refine slot_run rfl rfl rfl ?_; intro K hK
              go_simp; exact hK _ _ rfl (by repeat (first | exact Ext.refl _ | assumption | apply Ext.xt | apply Ext.alloc | apply Ext.drew | apply Ext.drewN)) rfl
            · (show SlotA _ _ _ _ _ _ _); intro u w1 hx1 hd; obtain ⟨y9, rfl⟩ := hx1.get; clear hx1
              have e2 : u 2 = .slice (some ⟨b, o, none⟩) (p + k) c := hd 2 (by kernel_rfl)
              have e6 : u 6 = .slice (partA (some ⟨b2, o2, none⟩) k d 45) (m.recs.length - k) (d - k) := hd 6 (by kernel_rfl)
              simp only [e2, e6]
              refine slot_run rfl rfl rfl ?_; intro K hK
              go_simp; go_at_call 76; refine (r54_joined _ _ (p + k) (l.take (p + k)) HL1.out _ _ (m.recs.length - k) (m.recs.drop k) HL2.out _ (HQ1.out.sl.mono (by repeat (first | exact Ext.refl _ | assumption | apply Ext.xt | apply Ext.alloc | apply Ext.drew | apply Ext.drewN))) (HQ2.out.sl.mono (by repeat (first | exact Ext.refl _ | assumption | apply Ext.xt | apply Ext.alloc | apply Ext.drew | apply Ext.drewN))) (by omega)).mono ?_; rintro e w' ⟨D, K, rfl, hx, hown⟩; exact hK _ _ rfl hx ⟨D, K, rfl, Own.older hown (by repeat (first | exact Ext.refl _ | assumption | apply Ext.xt | apply Ext.alloc | apply Ext.drew | apply Ext.drewN))⟩
            · (show SlotA _ _ _ _ _ _ _); intro u w1 hx1 hd; obtain ⟨y9, rfl⟩ := hx1.get; clear hx1
              obtain ⟨D7, K7, e7, h7⟩ := hd 7 (by kernel_rfl)
              simp only [e7]
              refine slot_run rfl rfl rfl ?_; intro K hK
              go_simp; exact hK _ _ rfl (by repeat (first | exact Ext.refl _ | assumption | apply Ext.xt | apply Ext.alloc | apply Ext.drew | apply Ext.drewN)) ⟨D7, K7, rfl, h7⟩
          · intro u w2 hx2 hT; obtain ⟨t0, t1, t2, t3, t4, t5, t6, t7, t8, -⟩ := hT; obtain ⟨y9, rfl⟩ := hx2.get; clear hx2
            obtain ⟨D7, K7, e8, h7⟩ := t8
            simp only [e8]
            clear e8 t0 t1 t2 t3 t4 t5 t6 t7
            simp only [List.drop_succ_cons, List.drop_zero]
            refine wpList_nil ?_
            go_wp2_with fail
            go_ret
            rw [HR.out]
            exact ⟨D7, K7, by simp; omega, by repeat (first | exact Ext.refl _ | assumption | apply Ext.xt | apply Ext.alloc | apply Ext.drew | apply Ext.drewN), .inr (by rw [show (l.take (p + k) ++ m.recs.drop k).length = p + k + (m.recs.length - k) by simp; omega]; exact h7.mono (by repeat (first | exact Ext.refl _ | assumption | apply Ext.xt | apply Ext.alloc | apply Ext.drew | apply Ext.drewN)))⟩
      · have he := keep_past hpl HK.out (by omega)
        have hpe : p + k = l.length := by have := (keepN_le (l.drop p) m.recs).1; rw [he, List.length_drop] at this; omega
        have HR := Lib.hid (show v = l.take (p + k) ++ m.recs.drop k by rw [← HV.out]; unfold mergedL; rw [he, if_pos hlt])
        have hq1 := hs0.part 0 (p + k) (by omega) (p + k) (Nat.sub_zero _)
        rw [List.drop_zero, partA_zero, Nat.sub_zero] at hq1
        have HQ1 := Lib.hid hq1.1
        have HL1 := Lib.hid hq1.2
        have i6 : (l.length : Int) ≤ (p : Int) + (k : Int) := by omega
        have i6d : decide ((l.length : Int) ≤ (p : Int) + (k : Int)) = true := decide_eq_true i6
        have HPE := Lib.hid hpe
        have i9 : (p : Int) + (k : Int) ≤ (c : Int) := by omega
        clear he hy hq1 hpe
        go_wp2_with fail
        (refine wp_region_grows (by kernel_rfl) (by kernel_rfl) ?_; (repeat (go_big_quiet_step (fail))); refine wpQuiet_nil ?_; rintro _ ⟨y, rfl⟩)
        go_wp2
        refine wp_region_stab 9 [] [Stab.is (.slice A l.length c), Stab.is (.int .i64 ((p : Int) + (k : Int))), Stab.is (.slice A (p + k) c), Stab.is (.pointer (some ⟨w.heap.size, 4, none⟩)), Stab.is (.slice B m.recs.length d), Stab.is (.int .i64 k), Stab.is (.slice (partA B k d 45) (m.recs.length - k) (d - k)), Stab.ownQ w (p + k + (m.recs.length - k)) (l.take (p + k) ++ m.recs.drop k), Stab.ownQ w (p + k + (m.recs.length - k)) (l.take (p + k) ++ m.recs.drop k)] (fun u => by (simp only [putAll, List.take_succ_cons, List.take_zero, Act.put, Nat.zero_add, Nat.reduceAdd]); (try simp only [List.setIfInBounds_toArray]); (repeat (first | simp only [List.set_cons_succ] | simp only [List.set_cons_zero])); exact rfl) (by kernel_rfl) (by kernel_rfl) (fun _ _ _ _ _ h => h) ?_ ?_
        · refine ⟨?_, ?_, ?_, ?_, ?_, ?_, ?_, ?_, ?_, trivial⟩
          · (show SlotA _ _ _ _ _ _ _); intro u w1 hx1 hd; obtain ⟨y9, rfl⟩ := hx1.get; clear hx1
            refine slot_run rfl rfl rfl ?_; intro K hK
            go_simp; exact hK _ _ rfl (by repeat (first | exact Ext.refl _ | assumption | apply Ext.xt | apply Ext.alloc | apply Ext.drew | apply Ext.drewN)) rfl
          · (show SlotA _ _ _ _ _ _ _); intro u w1 hx1 hd; obtain ⟨y9, rfl⟩ := hx1.get; clear hx1
            refine slot_run rfl rfl rfl ?_; intro K hK
            go_simp; exact hK _ _ rfl (by repeat (first | exact Ext.refl _ | assumption | apply Ext.xt | apply Ext.alloc | apply Ext.drew | apply Ext.drewN)) rfl
          · (show SlotA _ _ _ _ _ _ _); intro u w1 hx1 hd; obtain ⟨y9, rfl⟩ := hx1.get; clear hx1
            have e0 : u 0 = .slice A l.length c := hd 0 (by kernel_rfl)
            have e1 : u 1 = .int .i64 ((p : Int) + (k : Int)) := hd 1 (by kernel_rfl)
            simp only [e0, e1]
            refine slot_run rfl rfl rfl ?_; intro K hK
            go_simp; exact hK _ _ rfl (by repeat (first | exact Ext.refl _ | assumption | apply Ext.xt | apply Ext.alloc | apply Ext.drew | apply Ext.drewN)) rfl
          · (show SlotA _ _ _ _ _ _ _); intro u w1 hx1 hd; obtain ⟨y9, rfl⟩ := hx1.get; clear hx1
            refine slot_run rfl rfl rfl ?_; intro K hK
            go_simp; exact hK _ _ rfl (by repeat (first | exact Ext.refl _ | assumption | apply Ext.xt | apply Ext.alloc | apply Ext.drew | apply Ext.drewN)) rfl
          · (show SlotA _ _ _ _ _ _ _); intro u w1 hx1 hd; obtain ⟨y9, rfl⟩ := hx1.get; clear hx1
            have e3 : u 3 = .pointer (some ⟨w.heap.size, 4, none⟩) := hd 3 (by kernel_rfl)
            simp only [e3]
            refine slot_run rfl rfl rfl ?_; intro K hK
            go_simp; exact hK _ _ rfl (by repeat (first | exact Ext.refl _ | assumption | apply Ext.xt | apply Ext.alloc | apply Ext.drew | apply Ext.drewN)) rfl
          · (show SlotA _ _ _ _ _ _ _); intro u w1 hx1 hd; obtain ⟨y9, rfl⟩ := hx1.get; clear hx1
            refine slot_run rfl rfl rfl ?_; intro K hK
            go_simp; exact hK _ _ rfl (by repeat (first | exact Ext.refl _ | assumption | apply Ext.xt | apply Ext.alloc | apply Ext.drew | apply Ext.drewN)) rfl
          · (show SlotA _ _ _ _ _ _ _); intro u w1 hx1 hd; obtain ⟨y9, rfl⟩ := hx1.get; clear hx1
            have e4 : u 4 = .slice B m.recs.length d := hd 4 (by kernel_rfl)
            have e5 : u 5 = .int .i64 k := hd 5 (by kernel_rfl)
            simp only [e4, e5]
            refine slot_run rfl rfl rfl ?_; intro K hK
            go_simp; exact hK _ _ rfl (by repeat (first | exact Ext.refl _ | assumption | apply Ext.xt | apply Ext.alloc | apply Ext.drew | apply Ext.drewN)) rfl
          · (show SlotA _ _ _ _ _ _ _); intro u w1 hx1 hd; obtain ⟨y9, rfl⟩ := hx1.get; clear hx1
            have e2 : u 2 = .slice A (p + k) c := hd 2 (by kernel_rfl)
            have e6 : u 6 = .slice (partA B k d 45) (m.recs.length - k) (d - k) := hd 6 (by kernel_rfl)
            simp only [e2, e6]
            refine slot_run rfl rfl rfl ?_; intro K hK
            go_simp; go_at_call 76; refine (r54_joined _ _ (p + k) (l.take (p + k)) HL1.out _ _ (m.recs.length - k) (m.recs.drop k) HL2.out _ (HQ1.out.sl.mono (by repeat (first | exact Ext.refl _ | assumption | apply Ext.xt | apply Ext.alloc | apply Ext.drew | apply Ext.drewN))) (HQ2.out.sl.mono (by repeat (first | exact Ext.refl _ | assumption | apply Ext.xt | apply Ext.alloc | apply Ext.drew | apply Ext.drewN))) (by have := HPE.out; omega)).mono ?_; rintro e w' ⟨D, K, rfl, hx, hown⟩; exact hK _ _ rfl hx ⟨D, K, rfl, Own.older hown (by repeat (first | exact Ext.refl _ | assumption | apply Ext.xt | apply Ext.alloc | apply Ext.drew | apply Ext.drewN))⟩
          · (show SlotA _ _ _ _ _ _ _); intro u w1 hx1 hd; obtain ⟨y9, rfl⟩ := hx1.get; clear hx1
            obtain ⟨D7, K7, e7, h7⟩ := hd 7 (by kernel_rfl)
            simp only [e7]
            refine slot_run rfl rfl rfl ?_; intro K hK
            go_simp; exact hK _ _ rfl (by repeat (first | exact Ext.refl _ | assumption | apply Ext.xt | apply Ext.alloc | apply Ext.drew | apply Ext.drewN)) ⟨D7, K7, rfl, h7⟩
        · intro u w2 hx2 hT; obtain ⟨t0, t1, t2, t3, t4, t5, t6, t7, t8, -⟩ := hT; obtain ⟨y9, rfl⟩ := hx2.get; clear hx2
          obtain ⟨D7, K7, e8, h7⟩ := t8
          simp only [e8]
          clear e8 t0 t1 t2 t3 t4 t5 t6 t7
          simp only [List.drop_succ_cons, List.drop_zero]
          refine wpList_nil ?_
          go_wp2_with fail
          go_ret
          rw [HR.out]
          exact ⟨D7, K7, by have := HPE.out; simp; omega, by repeat (first | exact Ext.refl _ | assumption | apply Ext.xt | apply Ext.alloc | apply Ext.drew | apply Ext.drewN), .inr (by rw [show (l.take (p + k) ++ m.recs.drop k).length = p + k + (m.recs.length - k) by have := HPE.out; simp; omega]; exact h7.mono (by repeat (first | exact Ext.refl _ | assumption | apply Ext.xt | apply Ext.alloc | apply Ext.drew | apply Ext.drewN)))⟩
    · have he := keep_end HK.out (by omega)
      have HR := Lib.hid (show v = l by rw [← HV.out]; unfold mergedL; rw [if_neg (by omega)])
      clear he
      go_wp2
      go_ret
      rw [HR.out]
      exact ⟨A, c, rfl, by repeat (first | exact Ext.refl _ | assumption | apply Ext.xt | apply Ext.alloc | apply Ext.drew | apply Ext.drewN), .inl ⟨rfl, rfl, rfl⟩⟩
end
end Go.Proofs.YtlpboikonnpjbaaGreat

/-
  Chapter 54, the reference: what an Append does.
-/
namespace Go.Proofs.YtlpboikonnpjbaaGreat
open Go.RowKit

/-- What an Append leaves: a node, an answer, an error's number. -/
def RetTake (w W : World) (v : Nod × Msg × Bool × Int) (e : Ending) (w' : World) : Prop := ∃ A c, e = .returned (.tuple #[.agg #[.int .i64 v.1.id, .int .i64 v.1.term, .bool v.1.speaks, .slice A v.1.log.length c, .int .i64 v.1.acked, .int .i64 v.1.next], .agg #[.int .i64 v.2.1.kind, .int .i64 v.2.1.term, .int .i64 v.2.1.at_, .int .i64 0, .slice none 0 0, .int .i64 0], .int .i64 v.2.2.2]) ∧ Ext W w' ∧ LogQ w W w' A v.1.log.length c v.1.log
theorem RetTake.old {w W w' : World} {v : Nod × Msg × Bool × Int} {n : Nod} {k t a : Int} {ok : Bool} {x : Int} (hv : v = (n, ⟨k, t, a, 0, [], 0⟩, ok, x)) {A : Option Addr} {c : Nat} (hx : Ext W w') (hr : RecsAt w A c n.log) :
    RetTake w W v (.returned (.tuple #[.agg #[.int .i64 n.id, .int .i64 n.term, .bool n.speaks, .slice A n.log.length c, .int .i64 n.acked, .int .i64 n.next], .agg #[.int .i64 k, .int .i64 t, .int .i64 a, .int .i64 0, .slice none 0 0, .int .i64 0], .int .i64 x])) w' := by
  subst hv
  exact ⟨A, c, rfl, hx, .inl hr⟩
theorem r54_records_n (A : Option Addr) (c n : Nat) (l : List Rec) (hn : l.length = n) (low high v : Int) (hv : recsE low high l = v) (w : World) (hs : RecsAt w A c l) :
    Calls Tryz.prog 68 #[.slice A n c, .int .i64 low, .int .i64 high] w fun e w' => e = .returned (.int .i64 v) ∧ Ext w w' := by
  subst hn hv
  exact r54_records A c l low high w hs
theorem r54_lost_as (A : Option Addr) (c : Nat) (l : List Rec) (m : Msg) (B : Option Addr) (d : Nat) (w : World) (p : Nat) (hs : RecsAt w A c l) (hm : RecsAt w B d m.recs) (hpl : p ≤ l.length) (h256 : l.length ≤ 256) (hrl : m.recs.length ≤ 16) (f : Int) (v : Bool) (hv : lostB p l m.recs f = v) :
    Calls Tryz.prog 173 #[.slice A l.length c, .agg #[.int .i64 m.kind, .int .i64 m.term, .int .i64 p, .int .i64 m.before, .slice B m.recs.length d, .int .i64 m.acked], .int .i64 f] w fun e w' => e = .returned (.bool v) ∧ Ext w w' := by
  subst hv
  exact r54_lost A c l m B d w p hs hm hpl h256 hrl f
theorem r54_merged_as (A : Option Addr) (c : Nat) (l : List Rec) (m : Msg) (B : Option Addr) (d : Nat) (w : World) (p : Nat) (hs : RecsAt w A c l) (hm : RecsAt w B d m.recs) (hpl : p ≤ l.length) (h256 : l.length ≤ 256) (hrl : m.recs.length ≤ 16) (L : List Rec) (N : Nat) (hL : mergedL p l m.recs = L) (hN : L.length = N) :
    Calls Tryz.prog 174 #[.slice A l.length c, .agg #[.int .i64 m.kind, .int .i64 m.term, .int .i64 p, .int .i64 m.before, .slice B m.recs.length d, .int .i64 m.acked]] w fun e w' => ∃ D K, e = .returned (.slice D N K) ∧ Ext w w' ∧ ((D = A ∧ K = c ∧ L = l) ∨ Own w w' 137 45 D N K (L.map recR)) := by
  subst hL hN
  exact r54_merged A c l m B d w p hs hm hpl h256 hrl
section
variable (n : Nod) (A : Option Addr) (c : Nat) (m : Msg) (p : Nat) (B : Option Addr) (d : Nat) (w : World) (y0 : Gr)
set_option maxHeartbeats 6400000 in
set_option maxRecDepth 100000 in
theorem qtake_far (hp : m.at_ = p) (hs : RecsAt w A c n.log) (h : n.log.length < p) : Calls Tryz.prog 130 #[.agg #[.int .i64 n.id, .int .i64 n.term, .bool n.speaks, .slice A n.log.length c, .int .i64 n.acked, .int .i64 n.next], .agg #[.int .i64 m.kind, .int .i64 m.term, .int .i64 p, .int .i64 m.before, .slice B m.recs.length d, .int .i64 m.acked]] (xt w y0) (RetTake w (xt w y0) (takeV n m)) := by
  have hl := hs.len
  have HS := Lib.hid hs
  have HR := Lib.hid (takeV_far (n := n) (m := m) (by omega))
  clear hs hp
  go_enter Tryz.func130, Tryz.ntmps130
  go_wp2
  (refine wp_region_tail 6 (by kernel_rfl) (by kernel_rfl) ?_; simp only [List.take_succ_cons, List.take_zero, List.drop_succ_cons, List.drop_zero]; (repeat (go_big_quiet_step ((go_at_call 129; exact Calls.grows (r54_answer _ _ _ _ _ _ _ _ _ _ _))))); refine wpQuiet_nil ?_; rintro _ ⟨y, rfl⟩)
  go_wp2_with fail
  refine bodyPost_ret (v := .tuple #[.agg #[.int .i64 n.id, .int .i64 n.term, .bool n.speaks, .slice A n.log.length c, .int .i64 n.acked, .int .i64 n.next], .agg #[.int .i64 2, .int .i64 n.term, .int .i64 n.log.length, .int .i64 0, .slice none 0 0, .int .i64 0], .int .i64 0]) (by simp [results, Tryz.results130, go_sem]) rfl ?_
  exact RetTake.old HR.out (by repeat (first | exact Ext.refl _ | assumption | apply Ext.xt | apply Ext.alloc | apply Ext.drew | apply Ext.drewN)) HS.out
set_option maxHeartbeats 6400000 in
set_option maxRecDepth 100000 in
theorem qtake_other (hp : m.at_ = p) (hs : RecsAt w A c n.log) (h : p ≤ n.log.length) (h0 : 0 < p) (r : Rec) (hr : n.log[p - 1]? = some r) (hne : r.term ≠ m.before) : Calls Tryz.prog 130 #[.agg #[.int .i64 n.id, .int .i64 n.term, .bool n.speaks, .slice A n.log.length c, .int .i64 n.acked, .int .i64 n.next], .agg #[.int .i64 m.kind, .int .i64 m.term, .int .i64 p, .int .i64 m.before, .slice B m.recs.length d, .int .i64 m.acked]] (xt w y0) (RetTake w (xt w y0) (takeV n m)) := by
  have hl := hs.len
  have HR := Lib.hid (takeV_other (n := n) (m := m) (by omega) (by omega) (by rw [hp, show ((p : Int) - 1) = ((p - 1 : Nat) : Int) by omega, termAt_get' hr]; exact hne))
  rw [hp] at HR
  obtain ⟨b, o, rfl, hrec, -⟩ := hs.get hr
  have HS := Lib.hid hs
  have ht := hrec.term
  have hz : (r.term != m.before) = true := by simpa using hne
  have hd : decide (n.log.length < p) = false := decide_eq_false (by omega)
  have hi1 : (0 : Int) ≤ (p : Int) - 1 := by omega
  have hi2 : (p : Int) - 1 < (n.log.length : Int) := by omega
  have hi3 : ((p : Int) - 1).toNat = p - 1 := by omega
  have hw : IntKind.i64.wrap ((p : Int) - 1) = (p : Int) - 1 := IntWalk.i64_in _ (by omega)
  clear hs hp hrec hr hne
  go_enter Tryz.func130, Tryz.ntmps130
  go_wp2
  (refine wp_region_grows (by kernel_rfl) (by kernel_rfl) ?_; (repeat (go_big_quiet_step (fail))); refine wpQuiet_nil ?_; rintro _ ⟨y, rfl⟩)
  go_wp2
  (refine wp_region_tail 6 (by kernel_rfl) (by kernel_rfl) ?_; simp only [List.take_succ_cons, List.take_zero, List.drop_succ_cons, List.drop_zero]; (repeat (go_big_quiet_step ((go_at_call 129; exact Calls.grows (r54_answer _ _ _ _ _ _ _ _ _ _ _))))); refine wpQuiet_nil ?_; rintro _ ⟨y, rfl⟩)
  go_wp2_with fail
  refine bodyPost_ret (v := .tuple #[.agg #[.int .i64 n.id, .int .i64 n.term, .bool n.speaks, .slice (some ⟨b, o, none⟩) n.log.length c, .int .i64 n.acked, .int .i64 n.next], .agg #[.int .i64 2, .int .i64 n.term, .int .i64 ((p : Int) - 1), .int .i64 0, .slice none 0 0, .int .i64 0], .int .i64 0]) (by simp [results, Tryz.results130, go_sem]) rfl ?_
  exact RetTake.old HR.out (by repeat (first | exact Ext.refl _ | assumption | apply Ext.xt | apply Ext.alloc | apply Ext.drew | apply Ext.drewN)) HS.out
set_option maxHeartbeats 12800000 in
set_option maxRecDepth 100000 in
theorem qtake_lost (hp : m.at_ = p) (hs : RecsAt w A c n.log) (hm : RecsAt w B d m.recs) (h256 : n.log.length ≤ 256) (hrl : m.recs.length ≤ 16) (hpl : p ≤ n.log.length) (h2 : ¬ (0 < m.at_ ∧ termAt n.log (m.at_ - 1) ≠ m.before)) (hg : (0 < p ∧ ∃ (r : Rec) (b o : Nat), A = some ⟨b, o, none⟩ ∧ w.cell? ⟨b, o + (p - 1) * 45, none⟩ = some (.int .i64 r.term) ∧ (r.term != m.before) = false) ∨ ¬ 0 < p) (h3 : keepN (n.log.drop m.at_.toNat) m.recs < m.recs.length ∧ m.at_ + keepN (n.log.drop m.at_.toNat) m.recs < min n.acked n.log.length) : Calls Tryz.prog 130 #[.agg #[.int .i64 n.id, .int .i64 n.term, .bool n.speaks, .slice A n.log.length c, .int .i64 n.acked, .int .i64 n.next], .agg #[.int .i64 m.kind, .int .i64 m.term, .int .i64 p, .int .i64 m.before, .slice B m.recs.length d, .int .i64 m.acked]] (xt w y0) (RetTake w (xt w y0) (takeV n m)) := by
  have hl := hs.len
  have hl2 := hm.len
  have HS := Lib.hid hs
  have HM := Lib.hid hm
  have hat : m.at_.toNat = p := by omega
  obtain ⟨L, hL⟩ : ∃ L, tookL n m = L := ⟨_, rfl⟩
  obtain ⟨N, hN⟩ : ∃ N, L.length = N := ⟨_, rfl⟩
  have HL := Lib.hid (show mergedL p n.log m.recs = L by rw [mergedL_eq n m p hp]; exact hL)
  have HN := Lib.hid hN
  have hd : decide (n.log.length < p) = false := decide_eq_false (by omega)
  have hpn : (0 : Int) ≤ (p : Int) := by omega
  have HEL := Lib.hid (show ∀ r ∈ L, AcnAt w r.act by rw [← HL.out]; exact mergedL_mem hs.el hm.el)
  have HR := Lib.hid (takeV_lost (n := n) (m := m) (by omega) h2 h3)
  have HB := Lib.hid (show lostB p n.log m.recs n.acked = true by unfold lostB; rw [hat, hp] at h3; exact decide_eq_true h3)
  clear hs hm hp h2 h3 hL hN hat
  rcases hg with ⟨h0, r, b, o, rfl, ht, hz⟩ | h0
  · have hi1 : (0 : Int) ≤ (p : Int) - 1 := by omega
    have hi2 : (p : Int) - 1 < (n.log.length : Int) := by omega
    have hi3 : ((p : Int) - 1).toNat = p - 1 := by omega
    have hw : IntKind.i64.wrap ((p : Int) - 1) = (p : Int) - 1 := IntWalk.i64_in _ (by omega)
    go_enter Tryz.func130, Tryz.ntmps130
    go_wp2
    (refine wp_region_grows (by kernel_rfl) (by kernel_rfl) ?_; (repeat (go_big_quiet_step (fail))); refine wpQuiet_nil ?_; rintro _ ⟨y, rfl⟩)
    go_wp2_with (first | (go_at_call 173; refine (r54_lost_as _ c n.log m B d _ p (HS.out.mono (by repeat (first | exact Ext.refl _ | assumption | apply Ext.xt | apply Ext.alloc | apply Ext.drew | apply Ext.drewN))) (HM.out.mono (by repeat (first | exact Ext.refl _ | assumption | apply Ext.xt | apply Ext.alloc | apply Ext.drew | apply Ext.drewN))) hpl h256 hrl n.acked true HB.out).mono ?_; rintro e w' ⟨rfl, hx⟩; obtain ⟨y, rfl⟩ := hx.get; clear hx))
    refine bodyPost_ret (v := .tuple #[.agg #[.int .i64 n.id, .int .i64 n.term, .bool n.speaks, .slice (some ⟨b, o, none⟩) n.log.length c, .int .i64 n.acked, .int .i64 n.next], .agg #[.int .i64 0, .int .i64 0, .int .i64 0, .int .i64 0, .slice none 0 0, .int .i64 0], .int .i64 19]) (by simp [results, Tryz.results130, go_sem]) rfl ?_
    exact RetTake.old HR.out (by repeat (first | exact Ext.refl _ | assumption | apply Ext.xt | apply Ext.alloc | apply Ext.drew | apply Ext.drewN)) HS.out
  · have h0' : ¬ (0 : Int) < (p : Int) := by omega
    go_enter Tryz.func130, Tryz.ntmps130
    go_wp2
    (refine wp_region_grows (by kernel_rfl) (by kernel_rfl) ?_; (repeat (go_big_quiet_step (fail))); refine wpQuiet_nil ?_; rintro _ ⟨y, rfl⟩)
    go_wp2_with (first | (go_at_call 173; refine (r54_lost_as _ c n.log m B d _ p (HS.out.mono (by repeat (first | exact Ext.refl _ | assumption | apply Ext.xt | apply Ext.alloc | apply Ext.drew | apply Ext.drewN))) (HM.out.mono (by repeat (first | exact Ext.refl _ | assumption | apply Ext.xt | apply Ext.alloc | apply Ext.drew | apply Ext.drewN))) hpl h256 hrl n.acked true HB.out).mono ?_; rintro e w' ⟨rfl, hx⟩; obtain ⟨y, rfl⟩ := hx.get; clear hx))
    refine bodyPost_ret (v := .tuple #[.agg #[.int .i64 n.id, .int .i64 n.term, .bool n.speaks, .slice A n.log.length c, .int .i64 n.acked, .int .i64 n.next], .agg #[.int .i64 0, .int .i64 0, .int .i64 0, .int .i64 0, .slice none 0 0, .int .i64 0], .int .i64 19]) (by simp [results, Tryz.results130, go_sem]) rfl ?_
    exact RetTake.old HR.out (by repeat (first | exact Ext.refl _ | assumption | apply Ext.xt | apply Ext.alloc | apply Ext.drew | apply Ext.drewN)) HS.out
set_option maxHeartbeats 12800000 in
set_option maxRecDepth 100000 in
theorem qtake_many (hp : m.at_ = p) (hs : RecsAt w A c n.log) (hm : RecsAt w B d m.recs) (h256 : n.log.length ≤ 256) (hrl : m.recs.length ≤ 16) (hpl : p ≤ n.log.length) (h2 : ¬ (0 < m.at_ ∧ termAt n.log (m.at_ - 1) ≠ m.before)) (hg : (0 < p ∧ ∃ (r : Rec) (b o : Nat), A = some ⟨b, o, none⟩ ∧ w.cell? ⟨b, o + (p - 1) * 45, none⟩ = some (.int .i64 r.term) ∧ (r.term != m.before) = false) ∨ ¬ 0 < p) (h3 : ¬ (keepN (n.log.drop m.at_.toNat) m.recs < m.recs.length ∧ m.at_ + keepN (n.log.drop m.at_.toNat) m.recs < min n.acked n.log.length)) (h4 : 256 < (tookL n m).length) : Calls Tryz.prog 130 #[.agg #[.int .i64 n.id, .int .i64 n.term, .bool n.speaks, .slice A n.log.length c, .int .i64 n.acked, .int .i64 n.next], .agg #[.int .i64 m.kind, .int .i64 m.term, .int .i64 p, .int .i64 m.before, .slice B m.recs.length d, .int .i64 m.acked]] (xt w y0) (RetTake w (xt w y0) (takeV n m)) := by
  have hl := hs.len
  have hl2 := hm.len
  have HS := Lib.hid hs
  have HM := Lib.hid hm
  have hat : m.at_.toNat = p := by omega
  obtain ⟨L, hL⟩ : ∃ L, tookL n m = L := ⟨_, rfl⟩
  obtain ⟨N, hN⟩ : ∃ N, L.length = N := ⟨_, rfl⟩
  have HL := Lib.hid (show mergedL p n.log m.recs = L by rw [mergedL_eq n m p hp]; exact hL)
  have HN := Lib.hid hN
  have hd : decide (n.log.length < p) = false := decide_eq_false (by omega)
  have hpn : (0 : Int) ≤ (p : Int) := by omega
  have HEL := Lib.hid (show ∀ r ∈ L, AcnAt w r.act by rw [← HL.out]; exact mergedL_mem hs.el hm.el)
  have HR := Lib.hid (takeV_many (n := n) (m := m) (by omega) h2 h3 h4)
  rw [hL, hN] at h4
  have HB := Lib.hid (show lostB p n.log m.recs n.acked = false by unfold lostB; rw [hat, hp] at h3; exact decide_eq_false h3)
  clear hs hm hp h2 h3 hL hN hat
  rcases hg with ⟨h0, r, b, o, rfl, ht, hz⟩ | h0
  · have hi1 : (0 : Int) ≤ (p : Int) - 1 := by omega
    have hi2 : (p : Int) - 1 < (n.log.length : Int) := by omega
    have hi3 : ((p : Int) - 1).toNat = p - 1 := by omega
    have hw : IntKind.i64.wrap ((p : Int) - 1) = (p : Int) - 1 := IntWalk.i64_in _ (by omega)
    go_enter Tryz.func130, Tryz.ntmps130
    go_wp2
    (refine wp_region_grows (by kernel_rfl) (by kernel_rfl) ?_; (repeat (go_big_quiet_step (fail))); refine wpQuiet_nil ?_; rintro _ ⟨y, rfl⟩)
    go_wp2_with (first | (go_at_call 173; refine (r54_lost_as _ c n.log m B d _ p (HS.out.mono (by repeat (first | exact Ext.refl _ | assumption | apply Ext.xt | apply Ext.alloc | apply Ext.drew | apply Ext.drewN))) (HM.out.mono (by repeat (first | exact Ext.refl _ | assumption | apply Ext.xt | apply Ext.alloc | apply Ext.drew | apply Ext.drewN))) hpl h256 hrl n.acked false HB.out).mono ?_; rintro e w' ⟨rfl, hx⟩; obtain ⟨y, rfl⟩ := hx.get; clear hx) | (go_at_call 174; refine (r54_merged_as _ c n.log m B d _ p (HS.out.mono (by repeat (first | exact Ext.refl _ | assumption | apply Ext.xt | apply Ext.alloc | apply Ext.drew | apply Ext.drewN))) (HM.out.mono (by repeat (first | exact Ext.refl _ | assumption | apply Ext.xt | apply Ext.alloc | apply Ext.drew | apply Ext.drewN))) hpl h256 hrl L N HL.out HN.out).mono ?_; rintro e w' ⟨D, K, rfl, hx, hlog⟩; have HLG := Lib.hid (LogQ.got hlog HS.out HEL.out); obtain ⟨ym, rfl⟩ := hx.get; clear hx hlog))
    refine bodyPost_ret (v := .tuple #[.agg #[.int .i64 n.id, .int .i64 n.term, .bool n.speaks, .slice (some ⟨b, o, none⟩) n.log.length c, .int .i64 n.acked, .int .i64 n.next], .agg #[.int .i64 0, .int .i64 0, .int .i64 0, .int .i64 0, .slice none 0 0, .int .i64 0], .int .i64 5]) (by simp [results, Tryz.results130, go_sem]) rfl ?_
    exact RetTake.old HR.out (by repeat (first | exact Ext.refl _ | assumption | apply Ext.xt | apply Ext.alloc | apply Ext.drew | apply Ext.drewN)) HS.out
  · have h0' : ¬ (0 : Int) < (p : Int) := by omega
    go_enter Tryz.func130, Tryz.ntmps130
    go_wp2
    (refine wp_region_grows (by kernel_rfl) (by kernel_rfl) ?_; (repeat (go_big_quiet_step (fail))); refine wpQuiet_nil ?_; rintro _ ⟨y, rfl⟩)
    go_wp2_with (first | (go_at_call 173; refine (r54_lost_as _ c n.log m B d _ p (HS.out.mono (by repeat (first | exact Ext.refl _ | assumption | apply Ext.xt | apply Ext.alloc | apply Ext.drew | apply Ext.drewN))) (HM.out.mono (by repeat (first | exact Ext.refl _ | assumption | apply Ext.xt | apply Ext.alloc | apply Ext.drew | apply Ext.drewN))) hpl h256 hrl n.acked false HB.out).mono ?_; rintro e w' ⟨rfl, hx⟩; obtain ⟨y, rfl⟩ := hx.get; clear hx) | (go_at_call 174; refine (r54_merged_as _ c n.log m B d _ p (HS.out.mono (by repeat (first | exact Ext.refl _ | assumption | apply Ext.xt | apply Ext.alloc | apply Ext.drew | apply Ext.drewN))) (HM.out.mono (by repeat (first | exact Ext.refl _ | assumption | apply Ext.xt | apply Ext.alloc | apply Ext.drew | apply Ext.drewN))) hpl h256 hrl L N HL.out HN.out).mono ?_; rintro e w' ⟨D, K, rfl, hx, hlog⟩; have HLG := Lib.hid (LogQ.got hlog HS.out HEL.out); obtain ⟨ym, rfl⟩ := hx.get; clear hx hlog))
    refine bodyPost_ret (v := .tuple #[.agg #[.int .i64 n.id, .int .i64 n.term, .bool n.speaks, .slice A n.log.length c, .int .i64 n.acked, .int .i64 n.next], .agg #[.int .i64 0, .int .i64 0, .int .i64 0, .int .i64 0, .slice none 0 0, .int .i64 0], .int .i64 5]) (by simp [results, Tryz.results130, go_sem]) rfl ?_
    exact RetTake.old HR.out (by repeat (first | exact Ext.refl _ | assumption | apply Ext.xt | apply Ext.alloc | apply Ext.drew | apply Ext.drewN)) HS.out
set_option maxHeartbeats 12800000 in
set_option maxRecDepth 100000 in
theorem qtake_order (hp : m.at_ = p) (hs : RecsAt w A c n.log) (hm : RecsAt w B d m.recs) (h256 : n.log.length ≤ 256) (hrl : m.recs.length ≤ 16) (hpl : p ≤ n.log.length) (h2 : ¬ (0 < m.at_ ∧ termAt n.log (m.at_ - 1) ≠ m.before)) (hg : (0 < p ∧ ∃ (r : Rec) (b o : Nat), A = some ⟨b, o, none⟩ ∧ w.cell? ⟨b, o + (p - 1) * 45, none⟩ = some (.int .i64 r.term) ∧ (r.term != m.before) = false) ∨ ¬ 0 < p) (h3 : ¬ (keepN (n.log.drop m.at_.toNat) m.recs < m.recs.length ∧ m.at_ + keepN (n.log.drop m.at_.toNat) m.recs < min n.acked n.log.length)) (h4 : ¬ 256 < (tookL n m).length) (h5 : recsE 1 n.term (tookL n m) ≠ 0) : Calls Tryz.prog 130 #[.agg #[.int .i64 n.id, .int .i64 n.term, .bool n.speaks, .slice A n.log.length c, .int .i64 n.acked, .int .i64 n.next], .agg #[.int .i64 m.kind, .int .i64 m.term, .int .i64 p, .int .i64 m.before, .slice B m.recs.length d, .int .i64 m.acked]] (xt w y0) (RetTake w (xt w y0) (takeV n m)) := by
  have hl := hs.len
  have hl2 := hm.len
  have HS := Lib.hid hs
  have HM := Lib.hid hm
  have hat : m.at_.toNat = p := by omega
  obtain ⟨L, hL⟩ : ∃ L, tookL n m = L := ⟨_, rfl⟩
  obtain ⟨N, hN⟩ : ∃ N, L.length = N := ⟨_, rfl⟩
  have HL := Lib.hid (show mergedL p n.log m.recs = L by rw [mergedL_eq n m p hp]; exact hL)
  have HN := Lib.hid hN
  have hd : decide (n.log.length < p) = false := decide_eq_false (by omega)
  have hpn : (0 : Int) ≤ (p : Int) := by omega
  have HEL := Lib.hid (show ∀ r ∈ L, AcnAt w r.act by rw [← HL.out]; exact mergedL_mem hs.el hm.el)
  have HR := Lib.hid (takeV_order (n := n) (m := m) (by omega) h2 h3 h4 h5)
  rw [hL] at h5
  rw [hL, hN] at h4
  have hz5 : (recsE 1 n.term L != 0) = true := by simpa using h5
  clear h5
  have HB := Lib.hid (show lostB p n.log m.recs n.acked = false by unfold lostB; rw [hat, hp] at h3; exact decide_eq_false h3)
  clear hs hm hp h2 h3 hL hN hat
  rcases hg with ⟨h0, r, b, o, rfl, ht, hz⟩ | h0
  · have hi1 : (0 : Int) ≤ (p : Int) - 1 := by omega
    have hi2 : (p : Int) - 1 < (n.log.length : Int) := by omega
    have hi3 : ((p : Int) - 1).toNat = p - 1 := by omega
    have hw : IntKind.i64.wrap ((p : Int) - 1) = (p : Int) - 1 := IntWalk.i64_in _ (by omega)
    go_enter Tryz.func130, Tryz.ntmps130
    go_wp2
    (refine wp_region_grows (by kernel_rfl) (by kernel_rfl) ?_; (repeat (go_big_quiet_step (fail))); refine wpQuiet_nil ?_; rintro _ ⟨y, rfl⟩)
    go_wp2_with (first | (go_at_call 173; refine (r54_lost_as _ c n.log m B d _ p (HS.out.mono (by repeat (first | exact Ext.refl _ | assumption | apply Ext.xt | apply Ext.alloc | apply Ext.drew | apply Ext.drewN))) (HM.out.mono (by repeat (first | exact Ext.refl _ | assumption | apply Ext.xt | apply Ext.alloc | apply Ext.drew | apply Ext.drewN))) hpl h256 hrl n.acked false HB.out).mono ?_; rintro e w' ⟨rfl, hx⟩; obtain ⟨y, rfl⟩ := hx.get; clear hx) | (go_at_call 174; refine (r54_merged_as _ c n.log m B d _ p (HS.out.mono (by repeat (first | exact Ext.refl _ | assumption | apply Ext.xt | apply Ext.alloc | apply Ext.drew | apply Ext.drewN))) (HM.out.mono (by repeat (first | exact Ext.refl _ | assumption | apply Ext.xt | apply Ext.alloc | apply Ext.drew | apply Ext.drewN))) hpl h256 hrl L N HL.out HN.out).mono ?_; rintro e w' ⟨D, K, rfl, hx, hlog⟩; have HLG := Lib.hid (LogQ.got hlog HS.out HEL.out); obtain ⟨ym, rfl⟩ := hx.get; clear hx hlog) | (go_at_call 68; refine (r54_records_n D K N L HN.out 1 n.term _ rfl _ (LogQ.recs (HLG.out.mono (by repeat (first | exact Ext.refl _ | assumption | apply Ext.xt | apply Ext.alloc | apply Ext.drew | apply Ext.drewN))) HN.out (by repeat (first | exact Ext.refl _ | assumption | apply Ext.xt | apply Ext.alloc | apply Ext.drew | apply Ext.drewN)))).mono ?_; rintro e w' ⟨rfl, hx⟩; obtain ⟨y, rfl⟩ := hx.get; clear hx))
    refine bodyPost_ret (v := .tuple #[.agg #[.int .i64 n.id, .int .i64 n.term, .bool n.speaks, .slice (some ⟨b, o, none⟩) n.log.length c, .int .i64 n.acked, .int .i64 n.next], .agg #[.int .i64 0, .int .i64 0, .int .i64 0, .int .i64 0, .slice none 0 0, .int .i64 0], .int .i64 9]) (by simp [results, Tryz.results130, go_sem]) rfl ?_
    exact RetTake.old HR.out (by repeat (first | exact Ext.refl _ | assumption | apply Ext.xt | apply Ext.alloc | apply Ext.drew | apply Ext.drewN)) HS.out
  · have h0' : ¬ (0 : Int) < (p : Int) := by omega
    go_enter Tryz.func130, Tryz.ntmps130
    go_wp2
    (refine wp_region_grows (by kernel_rfl) (by kernel_rfl) ?_; (repeat (go_big_quiet_step (fail))); refine wpQuiet_nil ?_; rintro _ ⟨y, rfl⟩)
    go_wp2_with (first | (go_at_call 173; refine (r54_lost_as _ c n.log m B d _ p (HS.out.mono (by repeat (first | exact Ext.refl _ | assumption | apply Ext.xt | apply Ext.alloc | apply Ext.drew | apply Ext.drewN))) (HM.out.mono (by repeat (first | exact Ext.refl _ | assumption | apply Ext.xt | apply Ext.alloc | apply Ext.drew | apply Ext.drewN))) hpl h256 hrl n.acked false HB.out).mono ?_; rintro e w' ⟨rfl, hx⟩; obtain ⟨y, rfl⟩ := hx.get; clear hx) | (go_at_call 174; refine (r54_merged_as _ c n.log m B d _ p (HS.out.mono (by repeat (first | exact Ext.refl _ | assumption | apply Ext.xt | apply Ext.alloc | apply Ext.drew | apply Ext.drewN))) (HM.out.mono (by repeat (first | exact Ext.refl _ | assumption | apply Ext.xt | apply Ext.alloc | apply Ext.drew | apply Ext.drewN))) hpl h256 hrl L N HL.out HN.out).mono ?_; rintro e w' ⟨D, K, rfl, hx, hlog⟩; have HLG := Lib.hid (LogQ.got hlog HS.out HEL.out); obtain ⟨ym, rfl⟩ := hx.get; clear hx hlog) | (go_at_call 68; refine (r54_records_n D K N L HN.out 1 n.term _ rfl _ (LogQ.recs (HLG.out.mono (by repeat (first | exact Ext.refl _ | assumption | apply Ext.xt | apply Ext.alloc | apply Ext.drew | apply Ext.drewN))) HN.out (by repeat (first | exact Ext.refl _ | assumption | apply Ext.xt | apply Ext.alloc | apply Ext.drew | apply Ext.drewN)))).mono ?_; rintro e w' ⟨rfl, hx⟩; obtain ⟨y, rfl⟩ := hx.get; clear hx))
    refine bodyPost_ret (v := .tuple #[.agg #[.int .i64 n.id, .int .i64 n.term, .bool n.speaks, .slice A n.log.length c, .int .i64 n.acked, .int .i64 n.next], .agg #[.int .i64 0, .int .i64 0, .int .i64 0, .int .i64 0, .slice none 0 0, .int .i64 0], .int .i64 9]) (by simp [results, Tryz.results130, go_sem]) rfl ?_
    exact RetTake.old HR.out (by repeat (first | exact Ext.refl _ | assumption | apply Ext.xt | apply Ext.alloc | apply Ext.drew | apply Ext.drewN)) HS.out
set_option maxHeartbeats 12800000 in
set_option maxRecDepth 100000 in
theorem qtake_fine (hp : m.at_ = p) (hs : RecsAt w A c n.log) (hm : RecsAt w B d m.recs) (h256 : n.log.length ≤ 256) (hrl : m.recs.length ≤ 16) (hpl : p ≤ n.log.length) (h2 : ¬ (0 < m.at_ ∧ termAt n.log (m.at_ - 1) ≠ m.before)) (hg : (0 < p ∧ ∃ (r : Rec) (b o : Nat), A = some ⟨b, o, none⟩ ∧ w.cell? ⟨b, o + (p - 1) * 45, none⟩ = some (.int .i64 r.term) ∧ (r.term != m.before) = false) ∨ ¬ 0 < p) (h3 : ¬ (keepN (n.log.drop m.at_.toNat) m.recs < m.recs.length ∧ m.at_ + keepN (n.log.drop m.at_.toNat) m.recs < min n.acked n.log.length)) (h4 : ¬ 256 < (tookL n m).length) (h5 : recsE 1 n.term (tookL n m) = 0) : Calls Tryz.prog 130 #[.agg #[.int .i64 n.id, .int .i64 n.term, .bool n.speaks, .slice A n.log.length c, .int .i64 n.acked, .int .i64 n.next], .agg #[.int .i64 m.kind, .int .i64 m.term, .int .i64 p, .int .i64 m.before, .slice B m.recs.length d, .int .i64 m.acked]] (xt w y0) (RetTake w (xt w y0) (takeV n m)) := by
  have hl := hs.len
  have hl2 := hm.len
  have HS := Lib.hid hs
  have HM := Lib.hid hm
  have hat : m.at_.toNat = p := by omega
  obtain ⟨L, hL⟩ : ∃ L, tookL n m = L := ⟨_, rfl⟩
  obtain ⟨N, hN⟩ : ∃ N, L.length = N := ⟨_, rfl⟩
  have HL := Lib.hid (show mergedL p n.log m.recs = L by rw [mergedL_eq n m p hp]; exact hL)
  have HN := Lib.hid hN
  have hd : decide (n.log.length < p) = false := decide_eq_false (by omega)
  have hpn : (0 : Int) ≤ (p : Int) := by omega
  have HEL := Lib.hid (show ∀ r ∈ L, AcnAt w r.act by rw [← HL.out]; exact mergedL_mem hs.el hm.el)
  have HR := Lib.hid (takeV_fine (n := n) (m := m) (by omega) h2 h3 h4 h5)
  unfold tookN ansM at HR
  rw [hL, hp] at HR
  rw [hL] at h5
  rw [hL, hN] at h4
  have hz5 : (recsE 1 n.term L != 0) = false := by simpa using h5
  clear h5
  have hrb : (m.recs.length : Int) ≤ 16 := by omega
  have hpb : (p : Int) ≤ 256 := by omega
  have hwe : IntKind.i64.wrap ((p : Int) + (m.recs.length : Int)) = (p : Int) + (m.recs.length : Int) := IntWalk.i64_in _ (by omega)
  have HB := Lib.hid (show lostB p n.log m.recs n.acked = false by unfold lostB; rw [hat, hp] at h3; exact decide_eq_false h3)
  clear hs hm hp h2 h3 hL hN hat
  rcases hg with ⟨h0, r, b, o, rfl, ht, hz⟩ | h0
  · have hi1 : (0 : Int) ≤ (p : Int) - 1 := by omega
    have hi2 : (p : Int) - 1 < (n.log.length : Int) := by omega
    have hi3 : ((p : Int) - 1).toNat = p - 1 := by omega
    have hw : IntKind.i64.wrap ((p : Int) - 1) = (p : Int) - 1 := IntWalk.i64_in _ (by omega)
    go_enter Tryz.func130, Tryz.ntmps130
    go_wp2
    (refine wp_region_grows (by kernel_rfl) (by kernel_rfl) ?_; (repeat (go_big_quiet_step (fail))); refine wpQuiet_nil ?_; rintro _ ⟨y, rfl⟩)
    go_wp2_with (first | (go_at_call 173; refine (r54_lost_as _ c n.log m B d _ p (HS.out.mono (by repeat (first | exact Ext.refl _ | assumption | apply Ext.xt | apply Ext.alloc | apply Ext.drew | apply Ext.drewN))) (HM.out.mono (by repeat (first | exact Ext.refl _ | assumption | apply Ext.xt | apply Ext.alloc | apply Ext.drew | apply Ext.drewN))) hpl h256 hrl n.acked false HB.out).mono ?_; rintro e w' ⟨rfl, hx⟩; obtain ⟨y, rfl⟩ := hx.get; clear hx) | (go_at_call 174; refine (r54_merged_as _ c n.log m B d _ p (HS.out.mono (by repeat (first | exact Ext.refl _ | assumption | apply Ext.xt | apply Ext.alloc | apply Ext.drew | apply Ext.drewN))) (HM.out.mono (by repeat (first | exact Ext.refl _ | assumption | apply Ext.xt | apply Ext.alloc | apply Ext.drew | apply Ext.drewN))) hpl h256 hrl L N HL.out HN.out).mono ?_; rintro e w' ⟨D, K, rfl, hx, hlog⟩; have HLG := Lib.hid (LogQ.got hlog HS.out HEL.out); obtain ⟨ym, rfl⟩ := hx.get; clear hx hlog) | (go_at_call 68; refine (r54_records_n D K N L HN.out 1 n.term _ rfl _ (LogQ.recs (HLG.out.mono (by repeat (first | exact Ext.refl _ | assumption | apply Ext.xt | apply Ext.alloc | apply Ext.drew | apply Ext.drewN))) HN.out (by repeat (first | exact Ext.refl _ | assumption | apply Ext.xt | apply Ext.alloc | apply Ext.drew | apply Ext.drewN)))).mono ?_; rintro e w' ⟨rfl, hx⟩; obtain ⟨y, rfl⟩ := hx.get; clear hx))
    (refine wp_region_tail 4 (by kernel_rfl) (by kernel_rfl) ?_; simp only [List.take_succ_cons, List.take_zero, List.drop_succ_cons, List.drop_zero]; (repeat (go_big_quiet_step ((go_at_call 129; exact Calls.grows (r54_answer _ _ _ _ _ _ _ _ _ _ _))))); refine wpQuiet_nil ?_; rintro _ ⟨y, rfl⟩)
    go_wp2_with fail
    refine bodyPost_ret (v := .tuple #[.agg #[.int .i64 n.id, .int .i64 n.term, .bool n.speaks, .slice D N K, .int .i64 (max n.acked (min m.acked ((p : Int) + (m.recs.length : Int)))), .int .i64 n.next], .agg #[.int .i64 1, .int .i64 n.term, .int .i64 ((p : Int) + (m.recs.length : Int)), .int .i64 0, .slice none 0 0, .int .i64 0], .int .i64 0]) (by simp [results, Tryz.results130, go_sem]) rfl ?_
    have hz9 := HR.out
    rw [hz9]
    clear hz9
    rw [← HN.out] at HLG ⊢
    exact ⟨D, K, rfl, by repeat (first | exact Ext.refl _ | assumption | apply Ext.xt | apply Ext.alloc | apply Ext.drew | apply Ext.drewN), LogQ.base (LogQ.along HLG.out (by repeat (first | exact Ext.refl _ | assumption | apply Ext.xt | apply Ext.alloc | apply Ext.drew | apply Ext.drewN)) (by simp [go_sem])) (by simp [go_sem] <;> omega)⟩
  · have h0' : ¬ (0 : Int) < (p : Int) := by omega
    go_enter Tryz.func130, Tryz.ntmps130
    go_wp2
    (refine wp_region_grows (by kernel_rfl) (by kernel_rfl) ?_; (repeat (go_big_quiet_step (fail))); refine wpQuiet_nil ?_; rintro _ ⟨y, rfl⟩)
    go_wp2_with (first | (go_at_call 173; refine (r54_lost_as _ c n.log m B d _ p (HS.out.mono (by repeat (first | exact Ext.refl _ | assumption | apply Ext.xt | apply Ext.alloc | apply Ext.drew | apply Ext.drewN))) (HM.out.mono (by repeat (first | exact Ext.refl _ | assumption | apply Ext.xt | apply Ext.alloc | apply Ext.drew | apply Ext.drewN))) hpl h256 hrl n.acked false HB.out).mono ?_; rintro e w' ⟨rfl, hx⟩; obtain ⟨y, rfl⟩ := hx.get; clear hx) | (go_at_call 174; refine (r54_merged_as _ c n.log m B d _ p (HS.out.mono (by repeat (first | exact Ext.refl _ | assumption | apply Ext.xt | apply Ext.alloc | apply Ext.drew | apply Ext.drewN))) (HM.out.mono (by repeat (first | exact Ext.refl _ | assumption | apply Ext.xt | apply Ext.alloc | apply Ext.drew | apply Ext.drewN))) hpl h256 hrl L N HL.out HN.out).mono ?_; rintro e w' ⟨D, K, rfl, hx, hlog⟩; have HLG := Lib.hid (LogQ.got hlog HS.out HEL.out); obtain ⟨ym, rfl⟩ := hx.get; clear hx hlog) | (go_at_call 68; refine (r54_records_n D K N L HN.out 1 n.term _ rfl _ (LogQ.recs (HLG.out.mono (by repeat (first | exact Ext.refl _ | assumption | apply Ext.xt | apply Ext.alloc | apply Ext.drew | apply Ext.drewN))) HN.out (by repeat (first | exact Ext.refl _ | assumption | apply Ext.xt | apply Ext.alloc | apply Ext.drew | apply Ext.drewN)))).mono ?_; rintro e w' ⟨rfl, hx⟩; obtain ⟨y, rfl⟩ := hx.get; clear hx))
    (refine wp_region_tail 4 (by kernel_rfl) (by kernel_rfl) ?_; simp only [List.take_succ_cons, List.take_zero, List.drop_succ_cons, List.drop_zero]; (repeat (go_big_quiet_step ((go_at_call 129; exact Calls.grows (r54_answer _ _ _ _ _ _ _ _ _ _ _))))); refine wpQuiet_nil ?_; rintro _ ⟨y, rfl⟩)
    go_wp2_with fail
    refine bodyPost_ret (v := .tuple #[.agg #[.int .i64 n.id, .int .i64 n.term, .bool n.speaks, .slice D N K, .int .i64 (max n.acked (min m.acked ((p : Int) + (m.recs.length : Int)))), .int .i64 n.next], .agg #[.int .i64 1, .int .i64 n.term, .int .i64 ((p : Int) + (m.recs.length : Int)), .int .i64 0, .slice none 0 0, .int .i64 0], .int .i64 0]) (by simp [results, Tryz.results130, go_sem]) rfl ?_
    have hz9 := HR.out
    rw [hz9]
    clear hz9
    rw [← HN.out] at HLG ⊢
    exact ⟨D, K, rfl, by repeat (first | exact Ext.refl _ | assumption | apply Ext.xt | apply Ext.alloc | apply Ext.drew | apply Ext.drewN), LogQ.base (LogQ.along HLG.out (by repeat (first | exact Ext.refl _ | assumption | apply Ext.xt | apply Ext.alloc | apply Ext.drew | apply Ext.drewN)) (by simp [go_sem])) (by simp [go_sem] <;> omega)⟩
end
theorem r54_take (n : Nod) (A : Option Addr) (c : Nat) (m : Msg) (B : Option Addr) (d : Nat) (w W : World) (hx : Ext w W) (hs : RecsAt w A c n.log) (hm : RecsAt w B d m.recs) (h256 : n.log.length ≤ 256) (hrl : m.recs.length ≤ 16) (ha : 0 ≤ m.at_) :
    Calls Tryz.prog 130 #[.agg #[.int .i64 n.id, .int .i64 n.term, .bool n.speaks, .slice A n.log.length c, .int .i64 n.acked, .int .i64 n.next], .agg #[.int .i64 m.kind, .int .i64 m.term, .int .i64 m.at_, .int .i64 m.before, .slice B m.recs.length d, .int .i64 m.acked]] W (RetTake w W (takeV n m)) := by
  obtain ⟨y0, rfl⟩ := hx.get
  obtain ⟨p, hp⟩ : ∃ p : Nat, m.at_ = p := ⟨m.at_.toNat, by omega⟩
  rw [hp]
  by_cases hpl : p ≤ n.log.length
  · by_cases hb : 0 < p ∧ termAt n.log ((p : Int) - 1) ≠ m.before
    · obtain ⟨r, hr⟩ : ∃ r, n.log[p - 1]? = some r := ⟨_, List.getElem?_eq_getElem (by omega)⟩
      exact qtake_other n A c m p B d w y0 hp hs hpl hb.1 r hr (by have := hb.2; rwa [show ((p : Int) - 1) = ((p - 1 : Nat) : Int) by omega, termAt_get' hr] at this)
    · have h2 : ¬ (0 < m.at_ ∧ termAt n.log (m.at_ - 1) ≠ m.before) := by rw [hp]; intro h; exact hb ⟨by omega, h.2⟩
      have hg : (0 < p ∧ ∃ (r : Rec) (b o : Nat), A = some ⟨b, o, none⟩ ∧ w.cell? ⟨b, o + (p - 1) * 45, none⟩ = some (.int .i64 r.term) ∧ (r.term != m.before) = false) ∨ ¬ 0 < p := by
        by_cases h0 : 0 < p
        · obtain ⟨r, hr⟩ : ∃ r, n.log[p - 1]? = some r := ⟨_, List.getElem?_eq_getElem (by omega)⟩
          obtain ⟨b, o, hA, hrec, -⟩ := hs.get hr
          refine .inl ⟨h0, r, b, o, hA, hrec.term, ?_⟩
          have he : termAt n.log ((p : Int) - 1) = m.before := by
            by_cases he : termAt n.log ((p : Int) - 1) = m.before
            · exact he
            · exact absurd ⟨h0, he⟩ hb
          rw [show ((p : Int) - 1) = ((p - 1 : Nat) : Int) by omega, termAt_get' hr] at he
          simpa using he
        · exact .inr h0
      by_cases h3 : keepN (n.log.drop m.at_.toNat) m.recs < m.recs.length ∧ m.at_ + keepN (n.log.drop m.at_.toNat) m.recs < min n.acked n.log.length
      · exact qtake_lost n A c m p B d w y0 hp hs hm h256 hrl hpl h2 hg h3
      · by_cases h4 : 256 < (tookL n m).length
        · exact qtake_many n A c m p B d w y0 hp hs hm h256 hrl hpl h2 hg h3 h4
        · by_cases h5 : recsE 1 n.term (tookL n m) = 0
          · exact qtake_fine n A c m p B d w y0 hp hs hm h256 hrl hpl h2 hg h3 h4 h5
          · exact qtake_order n A c m p B d w y0 hp hs hm h256 hrl hpl h2 hg h3 h4 h5
  · exact qtake_far n A c m p B d w y0 hp hs (by omega)
end Go.Proofs.YtlpboikonnpjbaaGreat
