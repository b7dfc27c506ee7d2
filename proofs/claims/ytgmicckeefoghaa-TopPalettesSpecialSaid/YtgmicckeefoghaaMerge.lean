/-
  Merging lists of moves: the reference's.
-/
import Derived.Test.YtgmicckeefoghaaPut
import Derived.Test.YtgmicckeefoghaaSet
import Derived.Test.YtgmicckeefoghaaIns2
namespace Go.Proofs.Ytgmicckeefoghaa
open Go.RowKit

@[go_sem high] theorem neq_prm (a b c d : Int) (w : World) : (binOp .neq 40 (.agg #[.int .i64 a, .int .i64 b]) (.agg #[.int .i64 c, .int .i64 d])).run Try.prog w = .ok (.bool (!eqP a b c d)) w := by
  have hS : Try.prog.underlying 40 = some (.struct (Try.prog.fieldsOf 40)) := by kernel_rfl
  have hp : Try.prog.stoodInHeld 40 = false := by kernel_rfl
  rw [run_neq_struct, show (10000 : Nat) = 9999 + 1 from rfl, run_equalIn_agg w 9999 40 _ _ hS hp]
  simp only [Program.fieldsOf, Try.underlying40]
  go_simp
  unfold eqP
  by_cases h1 : a = c <;> by_cases h2 : b = d <;> simp [h1, h2]

set_option maxHeartbeats 400000 in
set_option maxRecDepth 100000 in
theorem Clone_M (A : Option Addr) (k : Nat) (l : List Move) (w : World) (hs : Sl w A 5 (l.map mv)) (hl : l.length ≤ 1000000) : Calls Try.prog 98 #[.slice A l.length k] w (RetSl w 90 5 l.length (l.map mv)) := by
  cases A with
  | none =>
    have hnil : l = [] := by simpa using hs.none_nil
    subst hnil
    go_enter Try.func98, Try.ntmps98
    go_wp2
    go_ret
    exact ⟨_, _, rfl, by repeat (first | exact Ext.refl _ | assumption | apply Ext.xt | apply Ext.alloc | apply Ext.drew | apply Ext.drewN), Own.nil _⟩
  | some a =>
    go_enter Try.func98, Try.ntmps98
    go_wp2_with (at_builtin; refine wpList_append_mine (w0 := w) rfl _ _ 35 35 rfl 90 90 5 40 Try.underlying35 Try.underlying35 info_M (by decide) (by repeat (first | exact Ext.refl _ | assumption | apply Ext.xt | apply Ext.alloc | apply Ext.drew | apply Ext.drewN)) _ 0 0 [] rfl (Own.nil _) (some a) l.length _ (l.map mv) rfl (hs.mono (by repeat (first | exact Ext.refl _ | assumption | apply Ext.xt | apply Ext.alloc | apply Ext.drew | apply Ext.drewN))) (by simp) (mv_one l) (by unfold maxLen; omega) (by omega) l.length (by omega) (l.map mv) rfl ?_; intro A' k' w1 hx1 hown hg hA; have HO := Lib.hid hown; obtain ⟨y, rfl⟩ := hx1.get; clear hown hx1 hg hA)
    go_ret
    exact ⟨_, _, rfl, by repeat (first | exact Ext.refl _ | assumption | apply Ext.xt | apply Ext.alloc | apply Ext.drew | apply Ext.drewN), HO.out⟩

theorem mv_app (o : List Move) (x : Move) : o.map mv ++ [mv x] = (o ++ [x]).map mv := by simp

set_option maxHeartbeats 3200000 in
set_option maxRecDepth 100000 in
theorem r16_put (A : Option Addr) (k : Nat) (l : List Move) (m : Move) (w : World) (hs : Sl w A 5 (l.map mv)) (hl : l.length ≤ 1000000) :
    Calls Try.prog 146 #[.slice A l.length k, .agg (mv m).toArray] w (RetSl w 90 5 (putL l m).length ((putL l m).map mv)) := by
  have HP := Lib.hid (putGo_eq m l)
  simp only [mv]
  go_enter Try.func146, Try.ntmps146
  go_wp2
  go_loopw [5, 6, 7] (fun s d i wr => ∃ (j : Nat) (D : Option Addr) (n c : Nat) (o : List Move) (b : Bool), j ≤ l.length ∧ i = .int .i64 j ∧ d = .bool b ∧ s = .slice D n c ∧ Hid (n = o.length) ∧ n ≤ j + 1 ∧ (b = false → n ≤ j) ∧ Ext (w.alloc (.cells (mv m).toArray 90)) wr ∧ Hid (Own (w.alloc (.cells (mv m).toArray 90)) wr 90 5 D n c (o.map mv)) ∧ Hid (o ++ putGo m b (l.drop j) = putGo m false l)) (fun _ _ i _ => l.length - (intOf i).toNat)
  case atStart => exact ⟨0, none, 0, 0, [], false, by omega, rfl, rfl, rfl, Lib.hid rfl, by omega, fun _ => by omega, Ext.refl _, Lib.hid (Own.nil _), Lib.hid (by simp)⟩
  case round =>
    obtain ⟨j, D, n, c, o, b, hj, rfl, rfl, rfl, HN, hn1, hn2, hx, HO, HG⟩ := hrel
    obtain ⟨y, rfl⟩ := hx.get
    clear hx
    simp only [mv] at HO ⊢
    by_cases hlt : j < l.length
    · obtain ⟨x, hx⟩ : ∃ x, l[j]? = some x := ⟨_, List.getElem?_eq_getElem hlt⟩
      have HD := Lib.hid (show l.drop j = x :: l.drop (j + 1) by rw [List.drop_eq_getElem_cons hlt, (List.getElem?_eq_some_iff.1 hx).2])
      obtain ⟨b', of, rfl, hc0, hc1, hc2, hc3, hc4⟩ := hs.row5 (i := j) (by rw [List.getElem?_map, hx]; rfl)
      have hb0 : (0 : Int) ≤ (j : Int) := by omega
      have hb1 : (j : Int) < (l.length : Int) := by omega
      clear hx hs
      cases b
      · have hn3 := hn2 rfl
        clear hn2
        go_wp2
        (refine wp_region_grows (by kernel_rfl) (by kernel_rfl) ?_; (repeat (go_big_quiet_step ((go_at_call 125; exact Calls.grows (r15_Before x.p m.p _))))); refine wpQuiet_nil ?_; rintro _ ⟨y, rfl⟩)
        cases hbf : before x.p m.p
        · by_cases hp : x.p = m.p
          · have hz : eqP x.p.ch x.p.attr m.p.ch m.p.attr = true := by rw [eqP_def]; simpa using hp
            have H := Lib.hid (And.intro hbf hp)
            clear hbf hp
            go_wp2_with (at_builtin; refine wpList_append_mine (w0 := _) rfl _ _ 35 35 rfl 90 90 5 40 Try.underlying35 Try.underlying35 info_M (by decide) (by repeat (first | exact Ext.refl _ | assumption | apply Ext.xt | apply Ext.alloc | apply Ext.drew | apply Ext.drewN)) _ _ _ _ rfl (HO.out.mono (by repeat (first | exact Ext.refl _ | assumption | apply Ext.xt | apply Ext.alloc | apply Ext.drew | apply Ext.drewN))) _ 1 1 [mv m] rfl (Sl.alloc' (by simp [go_sem]) rfl (by simp [mv])) rfl (mv_one [m]) (by unfold maxLen; omega) (by omega) _ rfl _ rfl ?_; intro D1 c1 w1 hx1 hown hg hA; have HO := Lib.hid hown; obtain ⟨y1, rfl⟩ := hx1.get; clear hown hx1 hg hA)
            (refine wp_region_grows (by kernel_rfl) (by kernel_rfl) ?_; (repeat (go_big_quiet_step (fail))); refine wpQuiet_nil ?_; rintro _ ⟨y, rfl⟩)
            go_wp2
            go_light
            refine ⟨⟨j + 1, D1, n + 1, c1, o ++ [m], true, by omega, by go_num, rfl, rfl, Lib.hid (by have := HN.out; simp; omega), by omega, by simp, by repeat (first | exact Ext.refl _ | assumption | apply Ext.xt | apply Ext.alloc | apply Ext.drew | apply Ext.drewN), Lib.hid (by rw [← mv_app]; exact HO.out.mono (by repeat (first | exact Ext.refl _ | assumption | apply Ext.xt | apply Ext.alloc | apply Ext.drew | apply Ext.drewN))), Lib.hid ?_⟩, by simp [intOf]; omega⟩
            have h := HG.out
            rw [HD.out] at h
            simp only [putGo, H.out.1, if_pos H.out.2] at h
            simpa [List.append_assoc] using h
          · have hz : eqP x.p.ch x.p.attr m.p.ch m.p.attr = false := by rw [eqP_def]; simpa using hp
            have H := Lib.hid (And.intro hbf hp)
            clear hbf hp
            go_wp2_with (at_builtin; refine wpList_append_mine (w0 := _) rfl _ _ 35 35 rfl 90 90 5 40 Try.underlying35 Try.underlying35 info_M (by decide) (by repeat (first | exact Ext.refl _ | assumption | apply Ext.xt | apply Ext.alloc | apply Ext.drew | apply Ext.drewN)) _ _ _ _ rfl (HO.out.mono (by repeat (first | exact Ext.refl _ | assumption | apply Ext.xt | apply Ext.alloc | apply Ext.drew | apply Ext.drewN))) _ 1 1 [mv m] rfl (Sl.alloc' (by simp [go_sem]) rfl (by simp [mv])) rfl (mv_one [m]) (by unfold maxLen; omega) (by omega) _ rfl _ rfl ?_; intro D1 c1 w1 hx1 hown hg hA; have HO := Lib.hid hown; obtain ⟨y1, rfl⟩ := hx1.get; clear hown hx1 hg hA)
            (refine wp_region_grows (by kernel_rfl) (by kernel_rfl) ?_; (repeat (go_big_quiet_step (fail))); refine wpQuiet_nil ?_; rintro _ ⟨y, rfl⟩)
            go_wp2_with (at_builtin; refine wpList_append_mine (w0 := _) rfl _ _ 35 35 rfl 90 90 5 40 Try.underlying35 Try.underlying35 info_M (by decide) (by repeat (first | exact Ext.refl _ | assumption | apply Ext.xt | apply Ext.alloc | apply Ext.drew | apply Ext.drewN)) _ _ _ _ rfl (HO.out.mono (by repeat (first | exact Ext.refl _ | assumption | apply Ext.xt | apply Ext.alloc | apply Ext.drew | apply Ext.drewN))) _ 1 1 [mv x] rfl (Sl.alloc' (by simp [go_sem]) rfl (by simp [mv])) rfl (mv_one [x]) (by unfold maxLen; omega) (by omega) _ rfl _ rfl ?_; intro D1 c1 w1 hx1 hown hg hA; have HO := Lib.hid hown; obtain ⟨y1, rfl⟩ := hx1.get; clear hown hx1 hg hA)
            go_light
            refine ⟨⟨j + 1, D1, n + 1 + 1, c1, o ++ [m] ++ [x], true, by omega, by go_num, rfl, rfl, Lib.hid (by have := HN.out; simp; omega), by omega, by simp, by repeat (first | exact Ext.refl _ | assumption | apply Ext.xt | apply Ext.alloc | apply Ext.drew | apply Ext.drewN), Lib.hid (by rw [← mv_app, ← mv_app]; exact HO.out.mono (by repeat (first | exact Ext.refl _ | assumption | apply Ext.xt | apply Ext.alloc | apply Ext.drew | apply Ext.drewN))), Lib.hid ?_⟩, by simp [intOf]; omega⟩
            have h := HG.out
            rw [HD.out] at h
            simp only [putGo, H.out.1, if_neg H.out.2] at h
            simpa [List.append_assoc] using h
        · have hp : x.p ≠ m.p := fun e => by rw [e, before_irrefl] at hbf; cases hbf
          have hz : eqP x.p.ch x.p.attr m.p.ch m.p.attr = false := by rw [eqP_def]; simpa using hp
          have H := Lib.hid (And.intro hbf hp)
          clear hbf hp
          go_wp2
          (refine wp_region_grows (by kernel_rfl) (by kernel_rfl) ?_; (repeat (go_big_quiet_step (fail))); refine wpQuiet_nil ?_; rintro _ ⟨y, rfl⟩)
          go_wp2_with (at_builtin; refine wpList_append_mine (w0 := _) rfl _ _ 35 35 rfl 90 90 5 40 Try.underlying35 Try.underlying35 info_M (by decide) (by repeat (first | exact Ext.refl _ | assumption | apply Ext.xt | apply Ext.alloc | apply Ext.drew | apply Ext.drewN)) _ _ _ _ rfl (HO.out.mono (by repeat (first | exact Ext.refl _ | assumption | apply Ext.xt | apply Ext.alloc | apply Ext.drew | apply Ext.drewN))) _ 1 1 [mv x] rfl (Sl.alloc' (by simp [go_sem]) rfl (by simp [mv])) rfl (mv_one [x]) (by unfold maxLen; omega) (by omega) _ rfl _ rfl ?_; intro D1 c1 w1 hx1 hown hg hA; have HO := Lib.hid hown; obtain ⟨y1, rfl⟩ := hx1.get; clear hown hx1 hg hA)
          go_light
          refine ⟨⟨j + 1, D1, n + 1, c1, o ++ [x], false, by omega, by go_num, rfl, rfl, Lib.hid (by have := HN.out; simp; omega), by omega, by simp; omega, by repeat (first | exact Ext.refl _ | assumption | apply Ext.xt | apply Ext.alloc | apply Ext.drew | apply Ext.drewN), Lib.hid (by rw [← mv_app]; exact HO.out.mono (by repeat (first | exact Ext.refl _ | assumption | apply Ext.xt | apply Ext.alloc | apply Ext.drew | apply Ext.drewN))), Lib.hid ?_⟩, by simp [intOf]; omega⟩
          have h := HG.out
          rw [HD.out] at h
          simp only [putGo, H.out.1, if_neg H.out.2] at h
          simpa [List.append_assoc] using h
      · clear hn2
        go_wp2
        (refine wp_region_grows (by kernel_rfl) (by kernel_rfl) ?_; (repeat (go_big_quiet_step (fail))); refine wpQuiet_nil ?_; rintro _ ⟨y, rfl⟩)
        go_wp2
        (refine wp_region_grows (by kernel_rfl) (by kernel_rfl) ?_; (repeat (go_big_quiet_step (fail))); refine wpQuiet_nil ?_; rintro _ ⟨y, rfl⟩)
        by_cases hp : x.p = m.p
        · have hz : eqP x.p.ch x.p.attr m.p.ch m.p.attr = true := by rw [eqP_def]; simpa using hp
          have H := Lib.hid hp
          clear hp
          rw [hz]
          go_wp2
          go_light
          refine ⟨⟨j + 1, D, n, c, o, true, by omega, by go_num, rfl, rfl, HN, by omega, by simp, by repeat (first | exact Ext.refl _ | assumption | apply Ext.xt | apply Ext.alloc | apply Ext.drew | apply Ext.drewN), Lib.hid (HO.out.mono (by repeat (first | exact Ext.refl _ | assumption | apply Ext.xt | apply Ext.alloc | apply Ext.drew | apply Ext.drewN))), Lib.hid ?_⟩, by simp [intOf]; omega⟩
          have h := HG.out
          rw [HD.out] at h
          simp only [putGo, if_pos H.out] at h
          simpa [List.append_assoc] using h
        · have hz : eqP x.p.ch x.p.attr m.p.ch m.p.attr = false := by rw [eqP_def]; simpa using hp
          have H := Lib.hid hp
          clear hp
          rw [hz]
          go_wp2_with (at_builtin; refine wpList_append_mine (w0 := _) rfl _ _ 35 35 rfl 90 90 5 40 Try.underlying35 Try.underlying35 info_M (by decide) (by repeat (first | exact Ext.refl _ | assumption | apply Ext.xt | apply Ext.alloc | apply Ext.drew | apply Ext.drewN)) _ _ _ _ rfl (HO.out.mono (by repeat (first | exact Ext.refl _ | assumption | apply Ext.xt | apply Ext.alloc | apply Ext.drew | apply Ext.drewN))) _ 1 1 [mv x] rfl (Sl.alloc' (by simp [go_sem]) rfl (by simp [mv])) rfl (mv_one [x]) (by unfold maxLen; omega) (by omega) _ rfl _ rfl ?_; intro D1 c1 w1 hx1 hown hg hA; have HO := Lib.hid hown; obtain ⟨y1, rfl⟩ := hx1.get; clear hown hx1 hg hA)
          go_light
          refine ⟨⟨j + 1, D1, n + 1, c1, o ++ [x], true, by omega, by go_num, rfl, rfl, Lib.hid (by have := HN.out; simp; omega), by omega, by simp, by repeat (first | exact Ext.refl _ | assumption | apply Ext.xt | apply Ext.alloc | apply Ext.drew | apply Ext.drewN), Lib.hid (by rw [← mv_app]; exact HO.out.mono (by repeat (first | exact Ext.refl _ | assumption | apply Ext.xt | apply Ext.alloc | apply Ext.drew | apply Ext.drewN))), Lib.hid ?_⟩, by simp [intOf]; omega⟩
          have h := HG.out
          rw [HD.out] at h
          simp only [putGo, if_neg H.out] at h
          simpa [List.append_assoc] using h
    · have HD := Lib.hid (show l.drop j = [] from List.drop_eq_nil_of_le (by omega))
      cases b
      · go_wp2_with (at_builtin; refine wpList_append_mine (w0 := _) rfl _ _ 35 35 rfl 90 90 5 40 Try.underlying35 Try.underlying35 info_M (by decide) (by repeat (first | exact Ext.refl _ | assumption | apply Ext.xt | apply Ext.alloc | apply Ext.drew | apply Ext.drewN)) _ _ _ _ rfl (HO.out.mono (by repeat (first | exact Ext.refl _ | assumption | apply Ext.xt | apply Ext.alloc | apply Ext.drew | apply Ext.drewN))) _ 1 1 [mv m] rfl (Sl.alloc' (by simp [go_sem]) rfl (by simp [mv])) rfl (mv_one [m]) (by unfold maxLen; omega) (by omega) _ rfl _ rfl ?_; intro D1 c1 w1 hx1 hown hg hA; have HO := Lib.hid hown; obtain ⟨y1, rfl⟩ := hx1.get; clear hown hx1 hg hA)
        go_ret
        have h := HG.out
        rw [HD.out, HP.out] at h
        have h2 : putL l m = o ++ [m] := by rw [← h]; simp [putGo]
        have h3 : (putL l m).length = n + 1 := by rw [h2]; have := HN.out; simp; omega
        refine ⟨D1, c1, by rw [h3]; rfl, by repeat (first | exact Ext.refl _ | assumption | apply Ext.xt | apply Ext.alloc | apply Ext.drew | apply Ext.drewN), ?_⟩
        rw [h3, h2, ← mv_app]
        exact Own.base (by repeat (first | exact Ext.refl _ | assumption | apply Ext.xt | apply Ext.alloc | apply Ext.drew | apply Ext.drewN)) (HO.out.mono (by repeat (first | exact Ext.refl _ | assumption | apply Ext.xt | apply Ext.alloc | apply Ext.drew | apply Ext.drewN)))
      · go_wp2
        go_ret
        have h := HG.out
        rw [HD.out, HP.out] at h
        have h2 : putL l m = o := by rw [← h]; simp [putGo]
        have h3 : (putL l m).length = n := by rw [h2]; exact HN.out.symm
        refine ⟨D, c, by rw [h3]; rfl, by repeat (first | exact Ext.refl _ | assumption | apply Ext.xt | apply Ext.alloc | apply Ext.drew | apply Ext.drewN), ?_⟩
        rw [h3, h2]
        exact Own.base (by repeat (first | exact Ext.refl _ | assumption | apply Ext.xt | apply Ext.alloc | apply Ext.drew | apply Ext.drewN)) (HO.out.mono (by repeat (first | exact Ext.refl _ | assumption | apply Ext.xt | apply Ext.alloc | apply Ext.drew | apply Ext.drewN)))
end Go.Proofs.Ytgmicckeefoghaa

/-
  Merging lists of moves: the program's; Merge on both sides.
-/
namespace Go.Proofs.Ytgmicckeefoghaa
open Go.RowKit

theorem heap_new {w : World} {o : Obj} {n : Nat} (h : w.heap.size = n) : (w.alloc o).heap[n]? = some o := by subst h; exact heap_alloc_new w o
theorem Own.lt {w0 w : World} {E : TypeId} {size : Nat} {A : Option Addr} {n k : Nat} {rows : List (List Value)} (h : Own w0 w E size A n k rows) (hk : k ≠ 0) : ∀ a, A = some a → a.block < w.heap.size := fun a ha => by
  rcases h.at_ with h0 | ⟨g, cur, h1, _, h3, _⟩
  · exact absurd h0 hk
  · rw [h1] at ha; injection ha with ha; subst ha; exact (Array.getElem?_eq_some_iff.1 h3).1
/-- Moves and an error come back. -/
def RetMoves (w : World) (R : List Move × Int) (e : Ending) (w' : World) : Prop := ∃ A k, e = .returned (.tuple #[.slice A R.1.length k, .int .i64 R.2]) ∧ Ext w w' ∧ Sl w' A 5 (R.1.map mv) ∧ R.1.length ≤ k ∧ k ≤ maxLen
/-- They lie in a slice that the call made itself. -/
def RetMovesO (w : World) (R : List Move × Int) (e : Ending) (w' : World) : Prop := ∃ A k, e = .returned (.tuple #[.slice A R.1.length k, .int .i64 R.2]) ∧ Ext w w' ∧ Own w w' 90 5 A R.1.length k (R.1.map mv)

set_option maxHeartbeats 1600000 in
set_option maxRecDepth 100000 in
theorem r16_Merged (A : Option Addr) (k : Nat) (a : List Move) (B : Option Addr) (m : Nat) (b : List Move) (w : World) (hs : Sl w A 5 (a.map mv)) (hl : a.length ≤ 5000) (hs' : Sl w B 5 (b.map mv)) (hl' : b.length ≤ 5000) :
    Calls Try.prog 92 #[.slice A a.length k, .slice B b.length m] w (RetSl w 90 5 (mergeL a b).length ((mergeL a b).map mv)) := by
  go_enter Try.func92, Try.ntmps92
  go_wp2_with (at_builtin; refine wpList_append_mine (w0 := w) rfl _ _ 35 35 rfl 90 90 5 40 Try.underlying35 Try.underlying35 info_M (by decide) (by repeat (first | exact Ext.refl _ | assumption | apply Ext.xt | apply Ext.alloc | apply Ext.drew | apply Ext.drewN)) _ 0 0 [] rfl (Own.nil _) A a.length _ (a.map mv) rfl (hs.mono (by repeat (first | exact Ext.refl _ | assumption | apply Ext.xt | apply Ext.alloc | apply Ext.drew | apply Ext.drewN))) (by simp) (mv_one a) (by unfold maxLen; omega) (by omega) a.length (by omega) (a.map mv) rfl ?_; intro A' k' w1 hx1 hown hg hA; have HO := Lib.hid hown; obtain ⟨y, rfl⟩ := hx1.get; clear hown hx1 hg hA)
  go_loopw [5, 6] (fun s i wr => ∃ (j : Nat) (D : Option Addr) (c : Nat) (o : List Move), j ≤ b.length ∧ i = .int .i64 j ∧ s = .slice D o.length c ∧ o.length ≤ a.length + j ∧ Hid (o = mergeL a (b.take j)) ∧ Ext w wr ∧ Hid (Own w wr 90 5 D o.length c (o.map mv))) (fun _ i _ => b.length - (intOf i).toNat)
  case atStart => exact ⟨0, A', k', a, by omega, rfl, rfl, by omega, Lib.hid (by simp [mergeL]), by repeat (first | exact Ext.refl _ | assumption | apply Ext.xt | apply Ext.alloc | apply Ext.drew | apply Ext.drewN), HO⟩
  case round =>
    obtain ⟨j, D, c, o, hj, rfl, rfl, ho, HE, hx, HO⟩ := hrel
    obtain ⟨y, rfl⟩ := hx.get
    clear hx
    by_cases hlt : j < b.length
    · obtain ⟨x, hx⟩ : ∃ x, b[j]? = some x := ⟨_, List.getElem?_eq_getElem hlt⟩
      have HS := Lib.hid (mergeL_step a hx)
      have HL := Lib.hid (putL_len o x)
      obtain ⟨b', of, rfl, hc0, hc1, hc2, hc3, hc4⟩ := hs'.row5 (i := j) (by rw [List.getElem?_map, hx]; rfl)
      have hb0 : (0 : Int) ≤ (j : Int) := by omega
      have hb1 : (j : Int) < (b.length : Int) := by omega
      clear hx hs' hs
      go_wp2_with (go_at_call 146; refine (r16_put D c o x _ (HO.out.sl) (by omega)).mono ?_; rintro e w' ⟨D1, c1, rfl, hx, hown⟩; have HO1 := Lib.hid (Own.base (show Ext w _ from by repeat (first | exact Ext.refl _ | assumption | apply Ext.xt | apply Ext.alloc | apply Ext.drew | apply Ext.drewN)) hown); obtain ⟨y1, rfl⟩ := hx.get; clear hx hown)
      go_light
      exact ⟨⟨j + 1, D1, c1, putL o x, by omega, by go_num, rfl, by have := HL.out; omega, Lib.hid (by rw [HS.out, HE.out]), by repeat (first | exact Ext.refl _ | assumption | apply Ext.xt | apply Ext.alloc | apply Ext.drew | apply Ext.drewN), Lib.hid (HO1.out.mono (by repeat (first | exact Ext.refl _ | assumption | apply Ext.xt | apply Ext.alloc | apply Ext.drew | apply Ext.drewN)))⟩, by simp [intOf]; omega⟩
    · have HE' := Lib.hid (show o = mergeL a b by rw [HE.out, List.take_of_length_le (by omega)])
      go_wp2
      go_ret
      have h := HE'.out
      subst h
      exact ⟨D, c, rfl, by repeat (first | exact Ext.refl _ | assumption | apply Ext.xt | apply Ext.alloc | apply Ext.drew | apply Ext.drewN), HO.out⟩

set_option maxHeartbeats 3200000 in
set_option maxRecDepth 100000 in
theorem cue_mergedO (A : Option Addr) (k : Nat) (a : List Move) (B : Option Addr) (m : Nat) (b : List Move) (w : World) (hs : Sl w A 5 (a.map mv)) (hl : a.length ≤ 5000) (hs' : Sl w B 5 (b.map mv)) (hl' : b.length ≤ 5000) (hok : okM a) (hok' : ∀ x ∈ b, moveE1 x = 0) :
    Calls Try.prog 91 #[.slice A a.length k, .slice B b.length m] w (RetMovesO w (mergedV a b)) := by
  have HK := Lib.hid hok'
  have HA := Lib.hid hok
  clear hok hok'
  go_enter Try.func91, Try.ntmps91
  go_wp2_with (go_at_call 98; refine (Clone_M A k a _ hs (by omega)).mono ?_; rintro e w' ⟨A1, k1, rfl, hx, hown⟩; have HO := Lib.hid hown; obtain ⟨y, rfl⟩ := hx.get; clear hx hown)
  go_loopw [6, 15] (fun s i wr => ∃ (j : Nat) (D : Option Addr) (c : Nat) (o : List Move), j ≤ b.length ∧ i = .int .i64 j ∧ s = .slice D o.length c ∧ o.length ≤ a.length + j ∧ Hid (o = mergeL a (b.take j)) ∧ Hid (okM o) ∧ Ext w wr ∧ Hid (Own w wr 90 5 D o.length c (o.map mv))) (fun _ i _ => b.length - (intOf i).toNat)
  case atStart => exact ⟨0, A1, k1, a, by omega, rfl, rfl, by omega, Lib.hid (by simp [mergeL]), HA, by repeat (first | exact Ext.refl _ | assumption | apply Ext.xt | apply Ext.alloc | apply Ext.drew | apply Ext.drewN), HO⟩
  case round =>
    obtain ⟨j, D, c, o, hj, rfl, rfl, ho, HE, HQ, hx, HO⟩ := hrel
    obtain ⟨y, rfl⟩ := hx.get
    clear hx
    by_cases hlt : j < b.length
    · obtain ⟨x, hx⟩ : ∃ x, b[j]? = some x := ⟨_, List.getElem?_eq_getElem hlt⟩
      have HS := Lib.hid (mergeL_step a hx)
      have hx1 := HK.out x (List.mem_of_getElem? hx)
      have HP := Lib.hid (show paramE x.p = 0 by unfold moveE1 at hx1; by_cases h : paramE x.p = 0; exact h; simp [h] at hx1)
      have HQ' := Lib.hid (okM_put HQ.out hx1)
      have hpl := posP_le o x.p
      obtain ⟨b', of, rfl, hc0, hc1, hc2, hc3, hc4⟩ := hs'.row5 (i := j) (by rw [List.getElem?_map, hx]; rfl)
      have hb0 : (0 : Int) ≤ (j : Int) := by omega
      have hb1 : (j : Int) < (b.length : Int) := by omega
      clear hx hs' hs hx1
      cases hf : foundP o x.p
      · have HN := Lib.hid (putL_new HQ.out x hf)
        have HC := Lib.hid (HO.out.cap)
        go_wp2_with (first
          | (go_at_call 126; refine (cue_find D c o x.p _ (HO.out.sl.mono (by repeat (first | exact Ext.refl _ | assumption | apply Ext.xt | apply Ext.alloc | apply Ext.drew | apply Ext.drewN))) (by omega) ((okM_iff o).2 HQ.out) HP.out).mono ?_; rintro e w' ⟨rfl, hx⟩; obtain ⟨y, rfl⟩ := hx.get; clear hx)
          | (go_at_call 145; refine (Insert_M w D c o (posP o x.p) x _ _ (by repeat (first | exact Ext.refl _ | assumption | apply Ext.xt | apply Ext.alloc | apply Ext.drew | apply Ext.drewN)) (HO.out.mono (by repeat (first | exact Ext.refl _ | assumption | apply Ext.xt | apply Ext.alloc | apply Ext.drew | apply Ext.drewN))) (by omega) hpl (heap_new (by simp [go_sem])) (fun hk a ha => by have := (HO.out.lt hk a ha); simp [go_sem] at this ⊢; omega)).mono ?_; rintro e w' ⟨D1, c1, rfl, hx, hown, hgr⟩; have HO1 := Lib.hid hown; obtain ⟨y1, rfl⟩ := hx.get; clear hx hown hgr))
        go_light
        have hln : (putL o x).length = o.length + 1 := by rw [HN.out]; exact insAt_len _ _ _
        exact ⟨⟨j + 1, D1, c1, putL o x, by omega, by go_num, by rw [hln], by omega, Lib.hid (by rw [HS.out, HE.out]), HQ', by repeat (first | exact Ext.refl _ | assumption | apply Ext.xt | apply Ext.alloc | apply Ext.drew | apply Ext.drewN), Lib.hid (by rw [hln, HN.out]; exact HO1.out.mono (by repeat (first | exact Ext.refl _ | assumption | apply Ext.xt | apply Ext.alloc | apply Ext.drew | apply Ext.drewN)))⟩, by simp [intOf]; omega⟩
      · obtain ⟨hput, hpos⟩ := putL_found HQ.out x hf
        have HN := Lib.hid hput
        obtain ⟨g, rfl, _, _⟩ := HO.out.there hpos
        have hb2 : (0 : Int) ≤ (posP o x.p : Int) := by omega
        have hb3 : (posP o x.p : Int) < (o.length : Int) := by omega
        clear hput
        go_wp2_with (first
          | (go_at_call 126; refine (cue_find _ c o x.p _ (HO.out.sl.mono (by repeat (first | exact Ext.refl _ | assumption | apply Ext.xt | apply Ext.alloc | apply Ext.drew | apply Ext.drewN))) (by omega) ((okM_iff o).2 HQ.out) HP.out).mono ?_; rintro e w' ⟨rfl, hx⟩; obtain ⟨y, rfl⟩ := hx.get; clear hx)
          | (refine wpList_store_mine (w0 := w) rfl 90 _ _ rfl 90 5 (by repeat (first | exact Ext.refl _ | assumption | apply Ext.xt | apply Ext.alloc | apply Ext.drew | apply Ext.drewN)) g o.length c (posP o x.p) (o.map mv) (HO.out.mono (by repeat (first | exact Ext.refl _ | assumption | apply Ext.xt | apply Ext.alloc | apply Ext.drew | apply Ext.drewN))) hpos (mv x) (by rfl) (by rfl) rfl (mv_one [x] _ (by simp)) (by kernel_rfl) ?_; intro w1 hx1 hown hg; have HO1 := Lib.hid hown; obtain ⟨y1, rfl⟩ := hx1.get; clear hown hx1 hg))
        go_light
        have hln : (putL o x).length = o.length := by rw [HN.out]; simp
        exact ⟨⟨j + 1, some ⟨g, 0, none⟩, c, putL o x, by omega, by go_num, by rw [hln], by omega, Lib.hid (by rw [HS.out, HE.out]), HQ', by repeat (first | exact Ext.refl _ | assumption | apply Ext.xt | apply Ext.alloc | apply Ext.drew | apply Ext.drewN), Lib.hid (by rw [hln, HN.out, List.map_set]; exact HO1.out.mono (by repeat (first | exact Ext.refl _ | assumption | apply Ext.xt | apply Ext.alloc | apply Ext.drew | apply Ext.drewN)))⟩, by simp [intOf]; omega⟩
    · have HE' := Lib.hid (show o = mergeL a b by rw [HE.out, List.take_of_length_le (by omega)])
      go_wp2
      · go_ret2
        have h : mergedV a b = ([], 5) := by unfold mergedV; rw [← HE'.out, if_pos (by omega)]
        exact ⟨none, 0, by rw [h]; rfl, by repeat (first | exact Ext.refl _ | assumption | apply Ext.xt | apply Ext.alloc | apply Ext.drew | apply Ext.drewN), by rw [h]; exact Own.nil _⟩
      · go_ret2
        have h : mergedV a b = (o, 0) := by unfold mergedV; rw [← HE'.out, if_neg (by omega)]
        exact ⟨D, c, by rw [h]; rfl, by repeat (first | exact Ext.refl _ | assumption | apply Ext.xt | apply Ext.alloc | apply Ext.drew | apply Ext.drewN), by rw [h]; exact HO.out.mono (by repeat (first | exact Ext.refl _ | assumption | apply Ext.xt | apply Ext.alloc | apply Ext.drew | apply Ext.drewN))⟩
theorem cue_merged (A : Option Addr) (k : Nat) (a : List Move) (B : Option Addr) (m : Nat) (b : List Move) (w : World) (hs : Sl w A 5 (a.map mv)) (hl : a.length ≤ 5000) (hs' : Sl w B 5 (b.map mv)) (hl' : b.length ≤ 5000) (hok : okM a) (hok' : ∀ x ∈ b, moveE1 x = 0) :
    Calls Try.prog 91 #[.slice A a.length k, .slice B b.length m] w (RetMoves w (mergedV a b)) :=
  (cue_mergedO A k a B m b w hs hl hs' hl' hok hok').mono fun _ _ ⟨D, c, h1, h2, h3⟩ => ⟨D, c, h1, h2, h3.sl, h3.le, h3.cap⟩

theorem ret_nil {w w' : World} {R : List Move × Int} {x : Int} {e : Ending} (hR : R = ([], x)) (he : e = .returned (.tuple #[.slice none 0 0, .int .i64 x])) (hx : Ext w w') : RetMoves w R e w' := by
  subst hR; exact ⟨none, 0, he, hx, Sl.nil _ _ _, by simp, by unfold maxLen; omega⟩

section
variable (A : Option Addr) (k : Nat) (a : List Move) (B : Option Addr) (m : Nat) (b : List Move) (w : World) (hs : Sl w A 5 (a.map mv)) (hk : a.length ≤ k) (hkm : k ≤ maxLen) (hs' : Sl w B 5 (b.map mv)) (hm : b.length ≤ m) (hmm : m ≤ maxLen)
include hs hk hkm hs' hm hmm
set_option maxHeartbeats 800000 in
set_option maxRecDepth 100000 in
theorem r16_Merge : Calls Try.prog 44 #[.slice A a.length k, .slice B b.length m] w (RetMoves w (mergeV a b)) := by
  have hl : a.length ≤ maxLen := Nat.le_trans hk hkm
  have hl' : b.length ≤ maxLen := Nat.le_trans hm hmm
  by_cases ha : movesE a = 0
  · by_cases hb : movesE b = 0
    · have ha' : (movesE a != 0) = false := by simpa using ha
      have hb' : (movesE b != 0) = false := by simpa using hb
      have HV := Lib.hid (show mergeV a b = mergedV a b by unfold mergeV; rw [if_neg (by omega), if_neg (by omega)])
      have h1 := (movesE_scan ha).1
      have h2 := (movesE_scan hb).1
      clear ha hb
      go_enter Try.func44, Try.ntmps44
      go_wp2_with (first
        | (go_at_call 64; refine (r16_Moves _ _ _ _ (by first | exact hs.mono (by repeat (first | exact Ext.refl _ | assumption | apply Ext.xt | apply Ext.alloc | apply Ext.drew | apply Ext.drewN)) | exact hs'.mono (by repeat (first | exact Ext.refl _ | assumption | apply Ext.xt | apply Ext.alloc | apply Ext.drew | apply Ext.drewN))) (by assumption)).mono ?_; rintro e w' ⟨rfl, hx⟩; obtain ⟨y, rfl⟩ := hx.get; clear hx)
        | (go_at_call 92; refine (r16_Merged A k a B m b _ (hs.mono (by repeat (first | exact Ext.refl _ | assumption | apply Ext.xt | apply Ext.alloc | apply Ext.drew | apply Ext.drewN))) (by omega) (hs'.mono (by repeat (first | exact Ext.refl _ | assumption | apply Ext.xt | apply Ext.alloc | apply Ext.drew | apply Ext.drewN))) (by omega)).mono ?_; rintro e w' ⟨D, c, rfl, hx, hown⟩; have HO := Lib.hid hown; obtain ⟨y1, rfl⟩ := hx.get; clear hx hown))
      · go_ret2
        rw [HV.out]
        have h : mergedV a b = ([], 5) := by unfold mergedV; rw [if_pos (by omega)]
        exact ret_nil h rfl (by repeat (first | exact Ext.refl _ | assumption | apply Ext.xt | apply Ext.alloc | apply Ext.drew | apply Ext.drewN))
      · go_ret2
        rw [HV.out]
        have h : mergedV a b = (mergeL a b, 0) := by unfold mergedV; rw [if_neg (by omega)]
        exact ⟨D, c, by rw [h]; rfl, by repeat (first | exact Ext.refl _ | assumption | apply Ext.xt | apply Ext.alloc | apply Ext.drew | apply Ext.drewN), by rw [h]; exact HO.out.sl.mono (by repeat (first | exact Ext.refl _ | assumption | apply Ext.xt | apply Ext.alloc | apply Ext.drew | apply Ext.drewN)), by rw [h]; exact HO.out.le, HO.out.cap⟩
    · have ha' : (movesE a != 0) = false := by simpa using ha
      have hb' : (movesE b != 0) = true := by simpa using hb
      have HV := Lib.hid (show mergeV a b = ([], movesE b) by unfold mergeV; rw [if_neg (by omega), if_pos hb])
      clear ha hb
      go_enter Try.func44, Try.ntmps44
      go_wp2_with (first
        | (go_at_call 64; refine (r16_Moves _ _ _ _ (by first | exact hs.mono (by repeat (first | exact Ext.refl _ | assumption | apply Ext.xt | apply Ext.alloc | apply Ext.drew | apply Ext.drewN)) | exact hs'.mono (by repeat (first | exact Ext.refl _ | assumption | apply Ext.xt | apply Ext.alloc | apply Ext.drew | apply Ext.drewN))) (by assumption)).mono ?_; rintro e w' ⟨rfl, hx⟩; obtain ⟨y, rfl⟩ := hx.get; clear hx))
      go_ret2
      exact ret_nil HV.out rfl (by repeat (first | exact Ext.refl _ | assumption | apply Ext.xt | apply Ext.alloc | apply Ext.drew | apply Ext.drewN))
  · have ha' : (movesE a != 0) = true := by simpa using ha
    have HV := Lib.hid (show mergeV a b = ([], movesE a) by unfold mergeV; rw [if_pos ha])
    clear ha
    go_enter Try.func44, Try.ntmps44
    go_wp2_with (go_at_call 64; refine (r16_Moves _ _ a _ (hs.mono (by repeat (first | exact Ext.refl _ | assumption | apply Ext.xt | apply Ext.alloc | apply Ext.drew | apply Ext.drewN))) hl).mono ?_; rintro e w' ⟨rfl, hx⟩; obtain ⟨y, rfl⟩ := hx.get; clear hx)
    go_ret2
    exact ret_nil HV.out rfl (by repeat (first | exact Ext.refl _ | assumption | apply Ext.xt | apply Ext.alloc | apply Ext.drew | apply Ext.drewN))
set_option maxHeartbeats 800000 in
set_option maxRecDepth 100000 in
theorem cue_Merge : Calls Try.prog 43 #[.slice A a.length k, .slice B b.length m] w (RetMoves w (mergeV a b)) := by
  have hl : a.length ≤ maxLen := Nat.le_trans hk hkm
  have hl' : b.length ≤ maxLen := Nat.le_trans hm hmm
  by_cases ha : movesE a = 0
  · by_cases hb : movesE b = 0
    · have ha' : (movesE a != 0) = false := by simpa using ha
      have hb' : (movesE b != 0) = false := by simpa using hb
      have HV := Lib.hid (show mergeV a b = mergedV a b by unfold mergeV; rw [if_neg (by omega), if_neg (by omega)])
      have h1 := (movesE_scan ha).1
      have h2 := (movesE_scan hb).1
      have HA := Lib.hid ((okM_iff a).1 (movesE_scan ha).2)
      have HB := Lib.hid ((okM_iff b).1 (movesE_scan hb).2).1
      clear ha hb
      go_enter Try.func43, Try.ntmps43
      go_wp2_with (first
        | (go_at_call 63; refine (cue_Moves _ _ _ _ (by first | exact hs.mono (by repeat (first | exact Ext.refl _ | assumption | apply Ext.xt | apply Ext.alloc | apply Ext.drew | apply Ext.drewN)) | exact hs'.mono (by repeat (first | exact Ext.refl _ | assumption | apply Ext.xt | apply Ext.alloc | apply Ext.drew | apply Ext.drewN))) (by assumption) (by assumption) (by assumption)).mono ?_; rintro e w' ⟨rfl, hx⟩; obtain ⟨y, rfl⟩ := hx.get; clear hx)
        | (go_at_call 91; refine (cue_merged A k a B m b _ (hs.mono (by repeat (first | exact Ext.refl _ | assumption | apply Ext.xt | apply Ext.alloc | apply Ext.drew | apply Ext.drewN))) (by omega) (hs'.mono (by repeat (first | exact Ext.refl _ | assumption | apply Ext.xt | apply Ext.alloc | apply Ext.drew | apply Ext.drewN))) (by omega) HA.out HB.out).mono ?_; rintro e w' ⟨D, c, rfl, hx, h1, h2, h3⟩; have HO := Lib.hid (And.intro h1 (And.intro h2 h3)); obtain ⟨y1, rfl⟩ := hx.get; clear hx h1 h2 h3))
      go_ret2
      rw [HV.out]
      exact ⟨D, c, rfl, by repeat (first | exact Ext.refl _ | assumption | apply Ext.xt | apply Ext.alloc | apply Ext.drew | apply Ext.drewN), HO.out.1.mono (by repeat (first | exact Ext.refl _ | assumption | apply Ext.xt | apply Ext.alloc | apply Ext.drew | apply Ext.drewN)), HO.out.2.1, HO.out.2.2⟩
    · have ha' : (movesE a != 0) = false := by simpa using ha
      have hb' : (movesE b != 0) = true := by simpa using hb
      have HV := Lib.hid (show mergeV a b = ([], movesE b) by unfold mergeV; rw [if_neg (by omega), if_pos hb])
      clear ha hb
      go_enter Try.func43, Try.ntmps43
      go_wp2_with (first
        | (go_at_call 63; refine (cue_Moves _ _ _ _ (by first | exact hs.mono (by repeat (first | exact Ext.refl _ | assumption | apply Ext.xt | apply Ext.alloc | apply Ext.drew | apply Ext.drewN)) | exact hs'.mono (by repeat (first | exact Ext.refl _ | assumption | apply Ext.xt | apply Ext.alloc | apply Ext.drew | apply Ext.drewN))) (by assumption) (by assumption) (by assumption)).mono ?_; rintro e w' ⟨rfl, hx⟩; obtain ⟨y, rfl⟩ := hx.get; clear hx))
      go_ret2
      exact ret_nil HV.out rfl (by repeat (first | exact Ext.refl _ | assumption | apply Ext.xt | apply Ext.alloc | apply Ext.drew | apply Ext.drewN))
  · have ha' : (movesE a != 0) = true := by simpa using ha
    have HV := Lib.hid (show mergeV a b = ([], movesE a) by unfold mergeV; rw [if_pos ha])
    clear ha
    go_enter Try.func43, Try.ntmps43
    go_wp2_with (go_at_call 63; refine (cue_Moves _ _ a _ (hs.mono (by repeat (first | exact Ext.refl _ | assumption | apply Ext.xt | apply Ext.alloc | apply Ext.drew | apply Ext.drewN))) hl hk hkm).mono ?_; rintro e w' ⟨rfl, hx⟩; obtain ⟨y, rfl⟩ := hx.get; clear hx)
    go_ret2
    exact ret_nil HV.out rfl (by repeat (first | exact Ext.refl _ | assumption | apply Ext.xt | apply Ext.alloc | apply Ext.drew | apply Ext.drewN))
end
end Go.Proofs.Ytgmicckeefoghaa
