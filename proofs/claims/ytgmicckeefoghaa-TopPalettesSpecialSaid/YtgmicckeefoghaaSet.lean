/-
  Copies of slices; a cue with another part: the program's and the reference's.
-/
import Derived.Test.YtgmicckeefoghaaOwn
import Derived.Test.YtgmicckeefoghaaFew
import Derived.Test.YtgmicckeefoghaaSame
import Derived.Deep.RegionLaw
import Derived.Deep.DrawnRows
namespace Go.Proofs.Ytgmicckeefoghaa
open Go.RowKit
attribute [local go_sem ↓] Go.wp_at_zero Go.wp_at_succ

theorem tmg_one : ∀ (l : List Timing), ∀ r ∈ l.map tmg, ∀ u ∈ r, u.oneCell' = true := fun l r hr u hu => by
  obtain ⟨t, _, rfl⟩ := List.mem_map.1 hr
  simp only [tmg, List.mem_cons, List.not_mem_nil, or_false] at hu
  rcases hu with rfl | rfl | rfl | rfl | rfl | rfl <;> rfl
theorem mv_one : ∀ (l : List Move), ∀ r ∈ l.map mv, ∀ u ∈ r, u.oneCell' = true := fun l r hr u hu => by
  obtain ⟨t, _, rfl⟩ := List.mem_map.1 hr
  simp only [mv, List.mem_cons, List.not_mem_nil, or_false] at hu
  rcases hu with rfl | rfl | rfl | rfl | rfl <;> rfl
theorem info_T : infoOk Try.prog 23 6 48 = true := by kernel_rfl
theorem info_M : infoOk Try.prog 90 5 40 = true := by kernel_rfl

set_option maxHeartbeats 400000 in
set_option maxRecDepth 100000 in
theorem Clip_T (A : Option Addr) (n k : Nat) (w : World) (hn : n ≤ k) (_hk : k ≤ maxLen) : Calls Try.prog 86 #[.slice A n k] w fun e w' => e = .returned (.slice A n n) ∧ w = w' := by
  unfold maxLen at _hk
  go_enter Try.func86, Try.ntmps86
  go_wp2
  go_ret
  exact ⟨rfl, rfl⟩

@[go_sem] theorem nil_T (A : Option Addr) (n c n' c' : Nat) (w : World) : (binOp .eql 36 (.slice A n c) (.slice none n' c')).run Try.prog w = .ok (.bool A.isNone) w := Lib.run_eql_slice_nil w _ _ A n c n' c' Try.underlying36
@[go_sem] theorem nil_M (A : Option Addr) (n c n' c' : Nat) (w : World) : (binOp .eql 35 (.slice A n c) (.slice none n' c')).run Try.prog w = .ok (.bool A.isNone) w := Lib.run_eql_slice_nil w _ _ A n c n' c' Try.underlying35

def RetSl (w : World) (E : TypeId) (size n : Nat) (rows : List (List Value)) (e : Ending) (w' : World) : Prop := ∃ A k, e = .returned (.slice A n k) ∧ Ext w w' ∧ Own w w' E size A n k rows
theorem Sl.none_nil {w : World} {size : Nat} {rows : List (List Value)} (h : Sl w none size rows) : rows = [] := by
  cases rows with
  | nil => rfl
  | cons r rs =>
    obtain ⟨_, b, o, h, _⟩ := h.at_ 0 r rfl
    cases h

set_option maxHeartbeats 400000 in
set_option maxRecDepth 100000 in
theorem Clone_T (A : Option Addr) (k : Nat) (l : List Timing) (w : World) (hs : Sl w A 6 (l.map tmg)) (hl : l.length ≤ 1000000) : Calls Try.prog 87 #[.slice A l.length k] w (RetSl w 23 6 l.length (l.map tmg)) := by
  cases A with
  | none =>
    have hnil : l = [] := by simpa using hs.none_nil
    subst hnil
    go_enter Try.func87, Try.ntmps87
    go_wp2
    go_ret
    exact ⟨_, _, rfl, by repeat (first | exact Ext.refl _ | assumption | apply Ext.xt | apply Ext.alloc | apply Ext.drew | apply Ext.drewN), Own.nil _⟩
  | some a =>
    go_enter Try.func87, Try.ntmps87
    go_wp2_with (at_builtin; refine wpList_append_mine (w0 := w) rfl _ _ 36 36 rfl 23 23 6 48 Try.underlying36 Try.underlying36 info_T (by decide) (by repeat (first | exact Ext.refl _ | assumption | apply Ext.xt | apply Ext.alloc | apply Ext.drew | apply Ext.drewN)) _ 0 0 [] rfl (Own.nil _) (some a) l.length _ (l.map tmg) rfl (hs.mono (by repeat (first | exact Ext.refl _ | assumption | apply Ext.xt | apply Ext.alloc | apply Ext.drew | apply Ext.drewN))) (by simp) (tmg_one l) (by unfold maxLen; omega) (by omega) l.length (by omega) (l.map tmg) rfl ?_; intro A' k' w1 hx1 hown hg hA; have HO := Lib.hid hown; obtain ⟨y, rfl⟩ := hx1.get; clear hown hx1 hg hA)
    go_ret
    exact ⟨_, _, rfl, by repeat (first | exact Ext.refl _ | assumption | apply Ext.xt | apply Ext.alloc | apply Ext.drew | apply Ext.drewN), HO.out⟩

theorem Own.base {w w0 w1 : World} {E : TypeId} {size : Nat} {A : Option Addr} {n k : Nat} {rows : List (List Value)} (hx : Ext w w0) (h : Own w0 w1 E size A n k rows) : Own w w1 E size A n k rows := by
  refine ⟨h.len, h.row, h.one, h.le, h.cap, ?_⟩
  rcases h.at_ with h0 | ⟨g, cur, h1, h2, h3⟩
  · exact .inl h0
  · exact .inr ⟨g, cur, h1, Nat.le_trans hx.size h2, h3⟩
/-- A store into an old block leaves what is new. -/
theorem Own.setOld {w0 w1 : World} {E : TypeId} {size : Nat} {A : Option Addr} {n k : Nat} {rows : List (List Value)} (h : Own w0 w1 E size A n k rows) {p : Addr} (hp : p.block < w0.heap.size) (u : Value) : Own w0 (w1.setCell p u) E size A n k rows := by
  refine ⟨h.len, h.row, h.one, h.le, h.cap, ?_⟩
  rcases h.at_ with h0 | ⟨g, cur, h1, h2, h3, h4⟩
  · exact .inl h0
  · exact .inr ⟨g, cur, h1, h2, (heap_setCell_other w1 p g u (by omega)).trans h3, h4⟩

/-- What was stored into old blocks does not matter to what is new. -/
theorem Own.swapped {w X X' : World} {y : Gr} {E : TypeId} {size : Nat} {A : Option Addr} {n k : Nat} {rows : List (List Value)} (h : Own X (xt X y) E size A n k rows) (hs : X.heap.size = X'.heap.size) (hx : Ext w X') : Own w (xt X' y) E size A n k rows := by
  refine Own.base hx ⟨h.len, h.row, h.one, h.le, h.cap, ?_⟩
  rcases h.at_ with h0 | ⟨g, cur, h1, h2, h3⟩
  · exact .inl h0
  · exact .inr ⟨g, cur, h1, by omega, by rw [← xt_high X X' y g hs h2]; exact h3⟩

theorem Sl.allocD {w : World} {n size : Nat} {cells : Array Value} {rows : List (List Value)} {T : TypeId} (hs : w.heap.size = n) (hc : cells = rows.flatten.toArray) (h : ∀ r ∈ rows, r.length = size) : Sl (w.alloc (.cells cells T)).drew (some ⟨n, 0, none⟩) size rows :=
  (Sl.alloc' hs hc h).mono ((Ext.refl _).drew)
def RetCopied (w : World) (c : Cue) (A : Option Addr) (k : Nat) (e : Ending) (w' : World) : Prop := ∃ B m, e = .returned (.agg (cueV c A k B m).toArray) ∧ Ext w w' ∧ Own w w' 23 6 B c.parts.length m (c.parts.map tmg)

set_option maxHeartbeats 800000 in
set_option maxRecDepth 100000 in
theorem r16_Copied (c : Cue) (A : Option Addr) (k : Nat) (B : Option Addr) (m : Nat) (A' : Option Addr) (k' : Nat) (l : List Move) (w : World) (hs : Sl w B 6 (c.parts.map tmg)) (hl : c.parts.length ≤ 1000000) :
    Calls Try.prog 88 #[.agg (cueV c A k B m).toArray, .slice A' l.length k'] w (RetCopied w { c with moves := l } A' k') := by
  simp only [cueV]
  go_enter Try.func88, Try.ntmps88
  go_wp2_with (at_builtin; refine wpList_append_mine (w0 := _) rfl _ _ 36 36 rfl 23 23 6 48 Try.underlying36 Try.underlying36 info_T (by decide) (Ext.refl _) _ 0 0 [] rfl (Own.nil _) B c.parts.length _ (c.parts.map tmg) rfl (hs.mono (by repeat (first | exact Ext.refl _ | assumption | apply Ext.xt | apply Ext.alloc | apply Ext.drew | apply Ext.drewN))) (by simp) (tmg_one _) (by unfold maxLen; omega) (by omega) c.parts.length (by omega) (c.parts.map tmg) rfl ?_; intro D n' w1 hx1 hown hg hA; have HO := Lib.hid hown; obtain ⟨y, rfl⟩ := hx1.get; clear hown hx1 hg hA)
  refine bodyPost_ret (v := .agg (cueV { c with moves := l } A' k' D n').toArray) (by simp [results, Try.results88, go_sem, cueV]) rfl ⟨_, _, rfl, by repeat (first | exact Ext.refl _ | assumption | apply Ext.xt | apply Ext.alloc | apply Ext.drew | apply Ext.drewN), ?_⟩
  exact Own.swapped HO.out (by simp) (by repeat (first | exact Ext.refl _ | assumption | apply Ext.xt | apply Ext.alloc | apply Ext.drew | apply Ext.drewN))

/-- A cue without anything. -/
def emptyC : Cue := ⟨⟨#[]⟩, ⟨#[]⟩, [], [], false, false, 0, ⟨#[]⟩, 0⟩
theorem emptyC_at (w : World) : CueAt w emptyC none 0 none 0 := ⟨Sl.nil _ _ _, Sl.nil _ _ _, by decide, by decide, by decide, by decide, by decide, by decide, by decide⟩
def setV (c : Cue) (part : Int) (t : Timing) : Cue × Int :=
  if cueE c ≠ 0 then (emptyC, cueE c) else if timingE t ≠ 0 then (emptyC, timingE t)
  else if part = (c.parts.length : Int) + 1 then (if c.parts.length = 4 then (emptyC, 5) else ({ c with parts := c.parts ++ [t] }, 0))
  else if part < 1 ∨ (c.parts.length : Int) < part then (emptyC, 6) else ({ c with parts := c.parts.set (part.toNat - 1) t }, 0)
/-- A cue and an error come back. -/
def RetCue (w : World) (R : Cue × Int) (e : Ending) (w' : World) : Prop := ∃ A k B m, e = .returned (.tuple #[.agg (cueV R.1 A k B m).toArray, .int .i64 R.2]) ∧ Ext w w' ∧ CueAt w' R.1 A k B m
theorem parts_len {c : Cue} (h : cueE c = 0) : 1 ≤ c.parts.length ∧ c.parts.length ≤ 4 := by
  have := part_range h ⟨0, 0⟩
  exact ⟨this.2.2.2, this.2.2.1⟩
theorem CueAt.parted {w w' : World} {c : Cue} {A : Option Addr} {k : Nat} {B : Option Addr} {m : Nat} (h : CueAt w c A k B m) (hx : Ext w w') {l : List Timing} {D : Option Addr} {n n' : Nat} (hn : l.length = n) (ho : Own w w' 23 6 D n n' (l.map tmg)) : CueAt w' { c with parts := l } A k D n' :=
  ⟨h.mv.mono hx, ho.sl, h.hk, by rw [hn]; exact ho.le, h.hk', ho.cap, h.num, h.lab, h.lnk⟩
theorem RetCue.empty {w w' : World} {R : Cue × Int} {x : Int} {e : Ending} (hR : R = (emptyC, x)) (he : e = .returned (.tuple #[.agg (cueV emptyC none 0 none 0).toArray, .int .i64 x])) (hx : Ext w w') : RetCue w R e w' := by
  subst hR; exact ⟨none, 0, none, 0, he, hx, emptyC_at w'⟩

section
variable (c : Cue) (A : Option Addr) (k : Nat) (B : Option Addr) (m : Nat) (part : Int) (t : Timing) (w : World) (hc : CueAt w c A k B m)
include hc
set_option maxHeartbeats 3200000 in
set_option maxRecDepth 100000 in
theorem tim_Set : Calls Try.prog 38 #[.agg (cueV c A k B m).toArray, .int .i64 part, .agg (tmg t).toArray] w (RetCue w (setV c part t)) := by
  have HC := Lib.hid hc
  have hmk : c.parts.length ≤ m := hc.hm
  have hmm : m ≤ maxLen := hc.hm'
  by_cases hE : cueE c = 0
  · have h4 := (parts_len hE).2
    have hE' : (cueE c != 0) = false := by simpa using hE
    have HE := Lib.hid hE
    clear hc hE
    simp only [cueV, tmg]
    go_enter Try.func38, Try.ntmps38
    go_wp2_with (first | (go_at_call 54; refine (cue_Check c A k B m _ (HC.out.mono (by repeat (first | exact Ext.refl _ | assumption | apply Ext.xt | apply Ext.alloc | apply Ext.drew | apply Ext.drewN)))).mono ?_; rintro e w' ⟨rfl, hx⟩; obtain ⟨ya, rfl⟩ := hx.get; clear hx) | (go_at_call 24; refine (tim_Check t _).mono ?_; rintro e w' ⟨rfl, hx⟩; obtain ⟨yb, rfl⟩ := hx.get; clear hx))
    · refine bodyPost_ret (v := .tuple #[.agg (cueV emptyC none 0 none 0).toArray, .int .i64 (timingE t)]) (by simp [results, Try.results38, go_sem, cueV, emptyC]) rfl (RetCue.empty (by have := HE.out; unfold setV; grind) rfl (by repeat (first | exact Ext.refl _ | assumption | apply Ext.xt | apply Ext.alloc | apply Ext.drew | apply Ext.drewN)))
    · refine bodyPost_ret (v := .tuple #[.agg (cueV emptyC none 0 none 0).toArray, .int .i64 5]) (by simp [results, Try.results38, go_sem, cueV, emptyC]) rfl (RetCue.empty (by have := HE.out; unfold setV; grind) rfl (by repeat (first | exact Ext.refl _ | assumption | apply Ext.xt | apply Ext.alloc | apply Ext.drew | apply Ext.drewN)))
    · have HV : Hid (setV c part t = ({ c with parts := c.parts ++ [t] }, 0)) := Lib.hid (by have := HE.out; unfold setV; grind)
      have hpt := HC.out.pt
      go_region_law (first
        | (go_simp; (go_at_call 86; refine (Clip_T B c.parts.length m _ hmk hmm).mono ?_; rintro e w' ⟨rfl, rfl⟩))
        | ((refine step_append_full (w0 := _) rfl _ _ 36 36 rfl 23 23 6 48 Try.underlying36 Try.underlying36 info_T (by decide) (Ext.refl _) B c.parts.length (c.parts.map tmg) (by rfl) (hpt.mono (by repeat (first | exact Ext.refl _ | assumption | apply Ext.xt | apply Ext.alloc | apply Ext.drew | apply Ext.drewN))) (by simp) (tmg_one _) _ 1 1 [tmg t] (by rfl) (by first | exact Sl.allocD (by simp [go_sem]) rfl (by simp [tmg]) | exact Sl.alloc' (by simp [go_sem]) rfl (by simp [tmg])) rfl (by decide) (tmg_one [t]) (by unfold maxLen; omega) (by omega) (c.parts.length + 1) rfl ((c.parts ++ [t]).map tmg) (by simp) ?_; intro D n' w1 hx1 hown hx2; have HO := Lib.hid hown; obtain ⟨yc, rfl⟩ := hx1.get; clear hown hx1 hx2)))
      all_goals
        go_wp2
        refine bodyPost_ret (v := .tuple #[.agg (cueV { c with parts := c.parts ++ [t] } A k D n').toArray, .int .i64 0]) (by simp [results, Try.results38, go_sem, cueV]) rfl ?_
        rw [HV.out]
        exact ⟨_, _, _, _, rfl, by repeat (first | exact Ext.refl _ | assumption | apply Ext.xt | apply Ext.alloc | apply Ext.drew | apply Ext.drewN), CueAt.parted HC.out (by repeat (first | exact Ext.refl _ | assumption | apply Ext.xt | apply Ext.alloc | apply Ext.drew | apply Ext.drewN)) (by simp) (Own.swapped HO.out (by simp [go_sem]) (by repeat (first | exact Ext.refl _ | assumption | apply Ext.xt | apply Ext.alloc | apply Ext.drew | apply Ext.drewN)))⟩
    · refine bodyPost_ret (v := .tuple #[.agg (cueV emptyC none 0 none 0).toArray, .int .i64 6]) (by simp [results, Try.results38, go_sem, cueV, emptyC]) rfl (RetCue.empty (by have := HE.out; unfold setV; grind) rfl (by repeat (first | exact Ext.refl _ | assumption | apply Ext.xt | apply Ext.alloc | apply Ext.drew | apply Ext.drewN)))
    · obtain ⟨j, rfl⟩ : ∃ j : Nat, part = (j : Int) + 1 := ⟨(part - 1).toNat, by omega⟩
      have hj : j < c.parts.length := by omega
      have HV : Hid (setV c ((j : Int) + 1) t = ({ c with parts := c.parts.set j t }, 0)) := Lib.hid (by have := HE.out; unfold setV; simp; grind)
      go_wp2_with (first
        | (go_at_call 87; refine (Clone_T B m c.parts _ (HC.out.pt.mono (by repeat (first | exact Ext.refl _ | assumption | apply Ext.xt | apply Ext.alloc | apply Ext.drew | apply Ext.drewN))) (by omega)).mono ?_; rintro e w' ⟨D, n', rfl, hx, hown⟩; obtain ⟨g, rfl, hge, hth⟩ := hown.there (i := j) hj; have HO := Lib.hid hown; obtain ⟨yc, rfl⟩ := hx.get; clear hx hown hge hth)
        | (refine wpList_store_mine (w0 := _) rfl 23 _ _ rfl 23 6 (Ext.xt (Ext.refl _) _) g c.parts.length n' j (c.parts.map tmg) (Own.swapped HO.out (by simp [go_sem]) (Ext.refl _)) hj (tmg t) (by rfl) (by rfl) rfl (tmg_one [t] _ (by simp)) (by kernel_rfl) ?_; intro w1 hx1 hown hg; have HS := Lib.hid hown; obtain ⟨yd, rfl⟩ := hx1.get; clear hown hx1 hg))
      refine bodyPost_ret (v := .tuple #[.agg (cueV { c with parts := c.parts.set j t } A k (some ⟨g, 0, none⟩) n').toArray, .int .i64 0]) (by simp [results, Try.results38, go_sem, cueV]) rfl ?_
      rw [HV.out]
      exact ⟨_, _, _, _, rfl, by repeat (first | exact Ext.refl _ | assumption | apply Ext.xt | apply Ext.alloc | apply Ext.drew | apply Ext.drewN), CueAt.parted (n := c.parts.length) HC.out (by repeat (first | exact Ext.refl _ | assumption | apply Ext.xt | apply Ext.alloc | apply Ext.drew | apply Ext.drewN)) (by simp) (by rw [List.map_set]; exact Own.swapped HS.out (by simp [go_sem]) (by repeat (first | exact Ext.refl _ | assumption | apply Ext.xt | apply Ext.alloc | apply Ext.drew | apply Ext.drewN)))⟩
    · refine bodyPost_ret (v := .tuple #[.agg (cueV emptyC none 0 none 0).toArray, .int .i64 6]) (by simp [results, Try.results38, go_sem, cueV, emptyC]) rfl (RetCue.empty (by have := HE.out; unfold setV; grind) rfl (by repeat (first | exact Ext.refl _ | assumption | apply Ext.xt | apply Ext.alloc | apply Ext.drew | apply Ext.drewN)))
  · have hE' : (cueE c != 0) = true := by simpa using hE
    have HV := Lib.hid (show setV c part t = (emptyC, cueE c) by unfold setV; rw [if_pos hE])
    clear hc hE
    simp only [cueV, tmg]
    go_enter Try.func38, Try.ntmps38
    go_wp2_with (first | (go_at_call 54; refine (cue_Check c A k B m _ (HC.out.mono (by repeat (first | exact Ext.refl _ | assumption | apply Ext.xt | apply Ext.alloc | apply Ext.drew | apply Ext.drewN)))).mono ?_; rintro e w' ⟨rfl, hx⟩; obtain ⟨ya, rfl⟩ := hx.get; clear hx) | (go_at_call 24; refine (tim_Check t _).mono ?_; rintro e w' ⟨rfl, hx⟩; obtain ⟨yb, rfl⟩ := hx.get; clear hx))
    refine bodyPost_ret (v := .tuple #[.agg (cueV emptyC none 0 none 0).toArray, .int .i64 (cueE c)]) (by simp [results, Try.results38, go_sem, cueV, emptyC]) rfl (RetCue.empty HV.out rfl (by repeat (first | exact Ext.refl _ | assumption | apply Ext.xt | apply Ext.alloc | apply Ext.drew | apply Ext.drewN)))
end
end Go.Proofs.Ytgmicckeefoghaa
