/-
  Chapter 54: a speaker's own action.
-/
import Derived.Test.YtmhinhgflehkaaaGreatGrpe
import Derived.Test.YtmhinhgflehkaaaGreatGrpn
import Derived.Test.YtmhinhgflehkaaaGreatGtail
namespace Go.Proofs.YtmhinhgflehkaaaGreat
open Go.RowKit

-- MADE
/-! ### A record made of a term and an action -/
def madeR (ps : Array (Nat × Value)) : Sem Value := Instr.build 170 ps
@[go_sem ↓ high] theorem madeR_at (ps : Array (Nat × Value)) : Instr.build 170 ps = madeR ps := rfl
@[go_sem] theorem madeR_run (w : World) (t : Int) (a : Acn) : (madeR #[(0, .int .i64 t), (1, .agg (acnR a).toArray)]).run Tryz.prog w = .ok (.agg (recR ⟨t, a⟩).toArray) w :=
  run_build w _ _ _ (by kernel_rfl)
def madeQ (ps : Array (Nat × Value)) : Sem Value := Instr.build 191 ps
@[go_sem ↓ high] theorem madeQ_at (ps : Array (Nat × Value)) : Instr.build 191 ps = madeQ ps := rfl
@[go_sem] theorem madeQ_run (w : World) (t : Int) (a : Acn) : (madeQ #[(0, .int .i64 t), (1, .agg (acnR a).toArray)]).run Tryz.prog w = .ok (.agg (recR ⟨t, a⟩).toArray) w :=
  run_build w _ _ _ (by kernel_rfl)
section
variable {P : Program} {ops : Array Oper} {Q : Exit → Act → World → Prop} {md : Region.Mode} {S : Array Bool → World → Prop}
/-- Two may come up. -/
theorem wpAnyL_two {i j : Nat} {o o' : Oper} {f : Nat} {L : Array Bool} {a : Act} {w : World} (hr : Region.ready md ops L = [i, j]) (ho : ops[i]? = some o) (ho' : ops[j]? = some o') (hg : o.guard = none) (hg' : o'.guard = none) (hcl : ShutL md ops L)
    (h : ∀ K : Act → World → Prop, (∀ a w, S (L.setIfInBounds i true) w → (ShutL md ops (L.setIfInBounds i true) → S (L.setIfInBounds i true) w → wpAnyL P md ops Q S f (L.setIfInBounds i true) a w) → K a w) → Oper.wp P o a w K Q)
    (h' : ∀ K : Act → World → Prop, (∀ a w, S (L.setIfInBounds j true) w → (ShutL md ops (L.setIfInBounds j true) → S (L.setIfInBounds j true) w → wpAnyL P md ops Q S f (L.setIfInBounds j true) a w) → K a w) → Oper.wp P o' a w K Q) : wpAnyL P md ops Q S (f + 1) L a w := by
  have hi : i ∈ Region.ready md ops L := by rw [hr]; simp
  have hj : j ∈ Region.ready md ops L := by rw [hr]; simp
  refine ⟨fun h0 => (by rw [h0] at hr; cases hr), fun k hk => ?_⟩
  rw [hr] at hk
  have hk : k = i ∨ k = j := by simpa using hk
  unfold wpOp
  rcases hk with rfl | rfl
  · simp only [ho]
    rw [if_pos (by simp [Region.wanted, hg])]
    exact .inl (Oper.wp_mono (fun a' w' h' => h') (h _ fun a w h1 h2 => ⟨h1, h2 (hcl.set hi) h1⟩))
  · simp only [ho']
    rw [if_pos (by simp [Region.wanted, hg'])]
    exact .inl (Oper.wp_mono (fun a' w' h' => h') (h' _ fun a w h1 h2 => ⟨h1, h2 (hcl.set hj) h1⟩))
theorem opwp_of_if {o : Oper} {a : Act} {w : World} {K : Act → World → Prop} {F : Prop} (hg : o.guard = none) (h : if Region.wanted o (yielded #[] a.tmps) = true then Oper.wp P o a w K Q else F) : Oper.wp P o a w K Q := by
  rwa [if_pos (by simp [Region.wanted, hg])] at h
theorem wpAnyL_sl (row : List Value) (h45 : row.length = 45) {T : TypeId} {X : World} {f : Nat} {L : Array Bool} {a : Act} (h : (∀ b, X.heap.size = b → Sl (X.alloc (.cells row.toArray T)) (some ⟨b, 0, none⟩) 45 [row]) → wpAnyL P md ops Q S f L a (X.alloc (.cells row.toArray T))) :
    wpAnyL P md ops Q S f L a (X.alloc (.cells row.toArray T)) := h fun b hb => Sl.alloc' hb (by simp) (by simpa using h45)
theorem wpAnyL_sld (row : List Value) (h45 : row.length = 45) {T : TypeId} {X : World} {f : Nat} {L : Array Bool} {a : Act} (h : (∀ b, X.heap.size = b → Sl (X.alloc (.cells row.toArray T)).drew (some ⟨b, 0, none⟩) 45 [row]) → wpAnyL P md ops Q S f L a (X.alloc (.cells row.toArray T)).drew) :
    wpAnyL P md ops Q S f L a (X.alloc (.cells row.toArray T)).drew := h fun b hb => (Sl.alloc' hb (by simp) (by simpa using h45)).mono (Ext.refl _).drew
end
section
variable {n : Nod} {a : Acn}
theorem actV_a (h : nodE n ≠ 0) : actV n a = (nod0, nodE n) := by unfold actV; rw [if_pos h]
theorem actV_b (h : nodE n = 0) (h1 : n.speaks = false) : actV n a = (nod0, 16) := by unfold actV; rw [if_neg (by simpa using h), if_pos h1]
theorem actV_c (h : nodE n = 0) (h1 : n.speaks = true) (h2 : acnE a ≠ 0) : actV n a = (nod0, acnE a) := by unfold actV; rw [if_neg (by simpa using h), if_neg (by simp [h1]), if_pos h2]
theorem actV_d (h : nodE n = 0) (h1 : n.speaks = true) (h2 : acnE a = 0) (h3 : early n.log a = true) : actV n a = (nod0, 9) := by
  unfold actV; rw [if_neg (by simpa using h), if_neg (by simp [h1]), if_neg (by simpa using h2), if_pos h3]
theorem actV_e (h : nodE n = 0) (h1 : n.speaks = true) (h2 : acnE a = 0) (h3 : early n.log a = false) (h4 : n.log.length = 256) : actV n a = (nod0, 5) := by
  unfold actV; rw [if_neg (by simpa using h), if_neg (by simp [h1]), if_neg (by simpa using h2), if_neg (by simp [h3]), if_pos h4]
theorem actV_f (h : nodE n = 0) (h1 : n.speaks = true) (h2 : acnE a = 0) (h3 : early n.log a = false) (h4 : ¬ n.log.length = 256) : actV n a = (actN n a, 0) := by
  unfold actV; rw [if_neg (by simpa using h), if_neg (by simp [h1]), if_neg (by simpa using h2), if_neg (by simp [h3]), if_neg h4]
theorem early_last {l : List Rec} {r : Rec} (hr : l[l.length - 1]? = some r) : early l a = decide (a.at_ < r.act.at_) := by
  unfold early; rw [List.getLast?_eq_getElem?, hr]
theorem early_nil {l : List Rec} (h : ¬ 0 < l.length) : early l a = false := by
  have : l = [] := List.eq_nil_of_length_eq_zero (by omega)
  subst this; rfl
end
section
variable (n : Nod) (A : Option Addr) (c : Nat) (a : Acn) (w : World) (hs : RecsAt w A c n.log) (ha : AcnAt w a)
include hs
set_option maxHeartbeats 3200000 in
set_option maxRecDepth 100000 in
theorem rep_Act_a (h : nodE n ≠ 0) : Calls Tryz.prog 99 #[.agg #[.int .i64 n.id, .int .i64 n.term, .bool n.speaks, .slice A n.log.length c, .int .i64 n.acked, .int .i64 n.next], .agg (acnR a).toArray] w (RetNod w (actV n a)) := by
  have HS := Lib.hid hs
  have hz : (nodE n != 0) = true := by simpa using h
  have HR := Lib.hid (actV_a (a := a) h)
  clear h hs
  go_enter Tryz.func99, Tryz.ntmps99
  go_wp2_with (go_at_call 103; refine (rep_Check n A c _ (HS.out.mono (ex))).mono ?_; rintro e w' ⟨rfl, hx⟩; obtain ⟨y, rfl⟩ := hx.get; clear hx)
  exact bodyPost_ret (v := .tuple #[.agg #[.int .i64 0, .int .i64 0, .bool false, .slice none 0 0, .int .i64 0, .int .i64 0], .int .i64 (nodE n)]) (by simp [results, Tryz.results99, go_sem]) rfl (RetNod.err HR.out (ex))
set_option maxHeartbeats 3200000 in
set_option maxRecDepth 100000 in
theorem rep_Act_b (h : nodE n = 0) (h1 : n.speaks = false) : Calls Tryz.prog 99 #[.agg #[.int .i64 n.id, .int .i64 n.term, .bool n.speaks, .slice A n.log.length c, .int .i64 n.acked, .int .i64 n.next], .agg (acnR a).toArray] w (RetNod w (actV n a)) := by
  have HS := Lib.hid hs
  have hz : (nodE n != 0) = false := by simpa using h
  have HR := Lib.hid (actV_b (a := a) h h1)
  have HC := Lib.hid (fun W (hx : Ext w W) => rep_Check n A c W (hs.mono hx))
  rw [h1] at HC ⊢
  clear h hs h1
  go_enter Tryz.func99, Tryz.ntmps99
  go_wp2_with (go_at_call 103; refine (HC.out _ (ex)).mono ?_; rintro e w' ⟨rfl, hx⟩; obtain ⟨y, rfl⟩ := hx.get; clear hx)
  exact bodyPost_ret (v := .tuple #[.agg #[.int .i64 0, .int .i64 0, .bool false, .slice none 0 0, .int .i64 0, .int .i64 0], .int .i64 16]) (by simp [results, Tryz.results99, go_sem]) rfl (RetNod.err HR.out (ex))
include ha
set_option maxHeartbeats 3200000 in
set_option maxRecDepth 100000 in
theorem rep_Act_c (h : nodE n = 0) (h1 : n.speaks = true) (h2 : acnE a ≠ 0) : Calls Tryz.prog 99 #[.agg #[.int .i64 n.id, .int .i64 n.term, .bool n.speaks, .slice A n.log.length c, .int .i64 n.acked, .int .i64 n.next], .agg (acnR a).toArray] w (RetNod w (actV n a)) := by
  have HS := Lib.hid hs
  have HA := Lib.hid ha
  have hz : (nodE n != 0) = false := by simpa using h
  have hz2 : (acnE a != 0) = true := by simpa using h2
  have HR := Lib.hid (actV_c (a := a) h h1 h2)
  have HC := Lib.hid (fun W (hx : Ext w W) => rep_Check n A c W (hs.mono hx))
  rw [h1] at HC ⊢
  clear h hs h1 h2 ha
  go_enter Tryz.func99, Tryz.ntmps99
  go_wp2_with (first | (go_at_call 103; refine (HC.out _ (ex)).mono ?_; rintro e w' ⟨rfl, hx⟩; obtain ⟨y, rfl⟩ := hx.get; clear hx) | (go_at_call 111; refine (act_Check a _ (HA.out.mono (ex))).mono ?_; rintro e w' ⟨rfl, hx⟩; obtain ⟨y, rfl⟩ := hx.get; clear hx))
  exact bodyPost_ret (v := .tuple #[.agg #[.int .i64 0, .int .i64 0, .bool false, .slice none 0 0, .int .i64 0, .int .i64 0], .int .i64 (acnE a)]) (by simp [results, Tryz.results99, go_sem]) rfl (RetNod.err HR.out (ex))
set_option maxHeartbeats 3200000 in
set_option maxRecDepth 100000 in
theorem rep_Act_d (h : nodE n = 0) (h1 : n.speaks = true) (h2 : acnE a = 0) (h3 : early n.log a = true) : Calls Tryz.prog 99 #[.agg #[.int .i64 n.id, .int .i64 n.term, .bool n.speaks, .slice A n.log.length c, .int .i64 n.acked, .int .i64 n.next], .agg (acnR a).toArray] w (RetNod w (actV n a)) := by
  have HS := Lib.hid hs
  have HA := Lib.hid ha
  have hl := hs.len
  have hz : (nodE n != 0) = false := by simpa using h
  have hz2 : (acnE a != 0) = false := by simpa using h2
  have HR := Lib.hid (actV_d (a := a) h h1 h2 h3)
  have hpos : 0 < n.log.length := by
    by_cases h0 : 0 < n.log.length
    · exact h0
    · rw [early_nil h0] at h3; cases h3
  obtain ⟨r, hr⟩ : ∃ r, n.log[n.log.length - 1]? = some r := ⟨_, List.getElem?_eq_getElem (by omega)⟩
  rw [early_last hr] at h3
  have HC := Lib.hid (fun W (hx : Ext w W) => rep_Check n A c W (hs.mono hx))
  obtain ⟨b, o, rfl, hrec, -⟩ := hs.get hr
  have hr1 := hrec.act
  have hat : w.cell? ⟨b, o + (n.log.length - 1) * 45 + 1, none⟩ = some (.int .i64 r.act.at_) := hrec.at_
  have hd : decide (0 < (n.log.length : Int)) = true := decide_eq_true (by omega)
  have hi1 : (0 : Int) ≤ (n.log.length : Int) - 1 := by omega
  have hi2 : (n.log.length : Int) - 1 < (n.log.length : Int) := by omega
  have hi3 : ((n.log.length : Int) - 1).toNat = n.log.length - 1 := by omega
  have hw : IntKind.i64.wrap ((n.log.length : Int) - 1) = (n.log.length : Int) - 1 := IntWalk.i64_in _ (by omega)
  rw [h1] at HC ⊢
  clear h hs h1 h2 ha hr hrec
  go_enter Tryz.func99, Tryz.ntmps99
  go_wp2_with (first | (go_at_call 103; refine (HC.out _ (ex)).mono ?_; rintro e w' ⟨rfl, hx⟩; obtain ⟨y, rfl⟩ := hx.get; clear hx) | (go_at_call 111; refine (act_Check a _ (HA.out.mono (ex))).mono ?_; rintro e w' ⟨rfl, hx⟩; obtain ⟨y, rfl⟩ := hx.get; clear hx))
  (refine wp_region_grows (by kernel_rfl) (by kernel_rfl) ?_; (repeat (go_big_quiet_step (fail))); refine wpQuiet_nil ?_; rintro _ ⟨y, rfl⟩)
  go_wp2
  exact bodyPost_ret (v := .tuple #[.agg #[.int .i64 0, .int .i64 0, .bool false, .slice none 0 0, .int .i64 0, .int .i64 0], .int .i64 9]) (by simp [results, Tryz.results99, go_sem]) rfl (RetNod.err HR.out (ex))
set_option maxHeartbeats 6400000 in
set_option maxRecDepth 100000 in
theorem rep_Act_f1 (h : nodE n = 0) (h1 : n.speaks = true) (h2 : acnE a = 0) (h3 : early n.log a = false) (hpos : 0 < n.log.length) : Calls Tryz.prog 99 #[.agg #[.int .i64 n.id, .int .i64 n.term, .bool n.speaks, .slice A n.log.length c, .int .i64 n.acked, .int .i64 n.next], .agg (acnR a).toArray] w (RetNod w (actV n a)) := by
  have HS := Lib.hid hs
  have HA := Lib.hid ha
  have hl := hs.len
  have hz : (nodE n != 0) = false := by simpa using h
  have hz2 : (acnE a != 0) = false := by simpa using h2
  have H5 := Lib.hid (fun h4 : n.log.length = 256 => actV_e (a := a) h h1 h2 h3 h4)
  have H6 := Lib.hid (fun h4 : ¬ n.log.length = 256 => actV_f (a := a) h h1 h2 h3 h4)
  have h256 := ((nodE_iff n).1 h).len
  have HEl := Lib.hid (show ∀ r ∈ n.log ++ [⟨n.term, a⟩], AcnAt w r.act from fun r hr => by
    rcases List.mem_append.1 hr with hr | hr
    · exact hs.el r hr
    · rw [List.mem_singleton.1 hr]; exact ha)
  obtain ⟨r, hr⟩ : ∃ r, n.log[n.log.length - 1]? = some r := ⟨_, List.getElem?_eq_getElem (by omega)⟩
  rw [early_last hr] at h3
  have HC := Lib.hid (fun W (hx : Ext w W) => rep_Check n A c W (hs.mono hx))
  obtain ⟨b, o, rfl, hrec, -⟩ := hs.get hr
  have hr1 := hrec.act
  have hat : w.cell? ⟨b, o + (n.log.length - 1) * 45 + 1, none⟩ = some (.int .i64 r.act.at_) := hrec.at_
  have hd : decide (0 < (n.log.length : Int)) = true := decide_eq_true (by omega)
  have hi1 : (0 : Int) ≤ (n.log.length : Int) - 1 := by omega
  have hi2 : (n.log.length : Int) - 1 < (n.log.length : Int) := by omega
  have hi3 : ((n.log.length : Int) - 1).toNat = n.log.length - 1 := by omega
  have hw : IntKind.i64.wrap ((n.log.length : Int) - 1) = (n.log.length : Int) - 1 := IntWalk.i64_in _ (by omega)
  have HSp := Lib.hid h1
  rw [h1] at HC ⊢
  clear h hs h1 h2 ha hr hrec
  go_enter Tryz.func99, Tryz.ntmps99
  go_wp2_with (first | (go_at_call 103; refine (HC.out _ (ex)).mono ?_; rintro e w' ⟨rfl, hx⟩; obtain ⟨y, rfl⟩ := hx.get; clear hx) | (go_at_call 111; refine (act_Check a _ (HA.out.mono (ex))).mono ?_; rintro e w' ⟨rfl, hx⟩; obtain ⟨y, rfl⟩ := hx.get; clear hx))
  (refine wp_region_grows (by kernel_rfl) (by kernel_rfl) ?_; (repeat (go_big_quiet_step (fail))); refine wpQuiet_nil ?_; rintro _ ⟨y, rfl⟩)
  go_wp2
  · exact bodyPost_ret (v := .tuple #[.agg #[.int .i64 0, .int .i64 0, .bool false, .slice none 0 0, .int .i64 0, .int .i64 0], .int .i64 5]) (by simp [results, Tryz.results99, go_sem]) rfl (RetNod.err (H5.out (by first | omega | (simp_all; omega))) (ex))
  · have H4 := Lib.hid (H6.out (by first | omega | (simp_all; omega)))
    clear H5 H6
    refine wp_region_L (S := SS 10 99 (fun w' => w'.cell? ⟨w.heap.size, 3, none⟩ = some (.slice (some ⟨b, o, none⟩) n.log.length c)) (fun _ => True) (fun w' => w'.cell? ⟨w.heap.size, 1, none⟩ = some (.int .i64 n.term) ∧ rowQ w' (w.heap.size + 1) 0 44 = some (acnR a))) (by kernel_rfl) ⟨fun _ => by simp [go_sem], fun _ => trivial, by simp [go_sem], by simp [go_sem]⟩ (fun hcl hS => ?_)
    refine wpAnyL_take (i := 0) (T := (fun _ => True)) (v := ?_) rfl (by kernel_rfl) (by kernel_rfl) (by kernel_rfl) (fun _ _ _ h => h) (fun _ _ _ _ _ => trivial) (SS.up (by decide) (by decide)) (SS.down (by decide) (by decide)) (Or.inl ⟨by rfl, ?_⟩) hcl hS ?_
    rotate_left
    · (intro w' hw'; (try dsimp only at hw'); (try have hw1 := hw'.1); (try have hw2 := hw'.2); go_simp; try with_reducible rfl)
    clear hcl hS
    intro hcl hS
    (try simp only [Act.put]); (try simp only [List.setIfInBounds_toArray]); (repeat (first | simp only [List.set_cons_succ] | simp only [List.set_cons_zero]))
    refine wpAnyL_take (i := 1) (T := (fun w' => w'.cell? ⟨w.heap.size, 3, none⟩ = some (.slice (some ⟨b, o, none⟩) n.log.length c))) (v := ?_) rfl (by kernel_rfl) (by kernel_rfl) (by kernel_rfl) (fun _ _ _ h => h) (fun _ _ hc hi hS => hS.1 (hc.not (k := 10) (by kernel_rfl) hi)) (SS.up (by decide) (by decide)) (SS.down (by decide) (by decide)) (Or.inl ⟨by rfl, ?_⟩) hcl hS ?_
    rotate_left
    · (intro w' hw'; (try dsimp only at hw'); (try have hw1 := hw'.1); (try have hw2 := hw'.2); go_simp; try with_reducible rfl)
    clear hcl hS
    intro hcl hS
    (try simp only [Act.put]); (try simp only [List.setIfInBounds_toArray]); (repeat (first | simp only [List.set_cons_succ] | simp only [List.set_cons_zero]))
    refine wpAnyL_take (i := 3) (T := (fun _ => True)) (v := ?_) rfl (by kernel_rfl) (by kernel_rfl) (by kernel_rfl) (fun _ _ _ h => h) (fun _ _ _ _ _ => trivial) (SS.up (by decide) (by decide)) (SS.down (by decide) (by decide)) (Or.inl ⟨by rfl, ?_⟩) hcl hS ?_
    rotate_left
    · (intro w' hw'; (try dsimp only at hw'); (try have hw1 := hw'.1); (try have hw2 := hw'.2); go_simp; try with_reducible rfl)
    clear hcl hS
    intro hcl hS
    (try simp only [Act.put]); (try simp only [List.setIfInBounds_toArray]); (repeat (first | simp only [List.set_cons_succ] | simp only [List.set_cons_zero]))
    refine wpAnyL_take (i := 4) (T := (fun w' => w'.cell? ⟨w.heap.size, 1, none⟩ = some (.int .i64 n.term) ∧ rowQ w' (w.heap.size + 1) 0 44 = some (acnR a))) (v := ?_) rfl (by kernel_rfl) (by kernel_rfl) (by kernel_rfl) (fun _ _ _ h => h) (fun _ _ _ _ hS => hS.2.2) (SS.up (by decide) (by decide)) (SS.down (by decide) (by decide)) (Or.inl ⟨by rfl, ?_⟩) hcl hS ?_
    rotate_left
    · (intro w' hw'; (try dsimp only at hw'); (try have hw1 := hw'.1); (try have hw2 := hw'.2); go_simp; try with_reducible rfl)
    clear hcl hS
    intro hcl hS
    (try simp only [Act.put]); (try simp only [List.setIfInBounds_toArray]); (repeat (first | simp only [List.set_cons_succ] | simp only [List.set_cons_zero]))
    refine wpAnyL_take (i := 5) (T := (fun w' => w'.cell? ⟨w.heap.size, 1, none⟩ = some (.int .i64 n.term) ∧ rowQ w' (w.heap.size + 1) 0 44 = some (acnR a))) (v := ?_) rfl (by kernel_rfl) (by kernel_rfl) (by kernel_rfl) (fun _ _ _ h => h) (fun _ _ _ _ hS => hS.2.2) (SS.up (by decide) (by decide)) (SS.down (by decide) (by decide)) (Or.inl ⟨by rfl, ?_⟩) hcl hS ?_
    rotate_left
    · (intro w' hw'; (try dsimp only at hw'); (try have hw1 := hw'.1); (try have hw2 := hw'.2); go_simp; try with_reducible rfl)
    clear hcl hS
    intro hcl hS
    (try simp only [Act.put]); (try simp only [List.setIfInBounds_toArray]); (repeat (first | simp only [List.set_cons_succ] | simp only [List.set_cons_zero]))
    refine wpAnyL_take (i := 6) (T := (fun _ => True)) (v := ?_) rfl (by kernel_rfl) (by kernel_rfl) (by kernel_rfl) (fun _ _ _ h => h) (fun _ _ _ _ _ => trivial) (SS.up (by decide) (by decide)) (SS.down (by decide) (by decide)) (Or.inl ⟨by rfl, ?_⟩) hcl hS ?_
    rotate_left
    · (intro w' hw'; (try dsimp only at hw'); (try have hw1 := hw'.1); (try have hw2 := hw'.2); go_simp; try with_reducible rfl)
    clear hcl hS
    intro hcl hS
    (try simp only [Act.put]); (try simp only [List.setIfInBounds_toArray]); (repeat (first | simp only [List.set_cons_succ] | simp only [List.set_cons_zero]))
    refine wpAnyL_two (i := 2) (j := 7) (by kernel_rfl) rfl rfl rfl rfl hcl (fun K hK => ?_) (fun K hK => ?_)
    · go_simp; go_at_call 132; refine (Clone_R _ _ _ n.log _ rfl (HS.out.sl.mono (ex)) (by first | omega | simp)).mono ?_; rintro e w' ⟨D, n', rfl, hx, hown⟩; have HO := Lib.hid hown; obtain ⟨yc, rfl⟩ := hx.get; clear hx hown
      clear hS hcl
      refine hK _ _ ⟨fun _ => by simp [go_sem], fun _ => trivial, by simp [go_sem], by simp [go_sem]⟩ (fun hcl hS => ?_)
      clear hK
      refine wpAnyL_only (i := 7) (by kernel_rfl) rfl rfl hcl (fun K hK => ?_)
      go_simp
      clear hS hcl
      refine hK _ _ ⟨fun _ => by simp [go_sem], fun _ => trivial, by simp [go_sem], by simp [go_sem]⟩ (fun hcl hS => ?_)
      clear hK
      first | refine wpAnyL_sl (recR ⟨n.term, a⟩) rfl (fun HB0 => ?_) | refine wpAnyL_sld (recR ⟨n.term, a⟩) rfl (fun HB0 => ?_)
      have HB := Lib.hid HB0
      clear HB0
      refine wpAnyL_only (i := 8) (by kernel_rfl) rfl rfl hcl (fun K hK => ?_)
      refine opwp_of_if (F := False) rfl ?_
      (refine step_append_mine (w0 := ((w.alloc (.cells #[.int .i64 n.id, .int .i64 n.term, .bool true, .slice (some ⟨b, o, none⟩) n.log.length c, .int .i64 n.acked, .int .i64 n.next] 24)).alloc (.cells (acnR a).toArray 87)).alloc (.cells #[.int .i64 0, .int .i64 0, .bool false, .slice none 0 0, .int .i64 0, .int .i64 0] 24)) rfl _ _ 22 22 rfl 170 170 45 552 Tryz.underlying22 Tryz.underlying22 info_R (by decide) (ex) _ n.log.length _ (n.log.map recR) (by rfl) (Own.older (HO.out.mono (ex)) (ex)) _ 1 1 [recR ⟨n.term, a⟩] (by rfl) ((HB.out _ (by simp [go_sem])).mono (ex)) rfl (recR_ones1 _) (by unfold maxLen; omega) (by omega) (n.log.length + 1) rfl (n.log.map recR ++ [recR ⟨n.term, a⟩]) rfl ?_; intro D1 c1 w1 hx1 hown hg hA; have HO1 := Lib.hid hown; obtain ⟨y1, rfl⟩ := hx1.get; clear hown hx1 hg hA)
      clear hS hcl
      refine hK _ _ ⟨fun _ => by simp [go_sem], fun _ => trivial, by simp [go_sem], by simp [go_sem]⟩ (fun hcl hS => ?_)
      clear hK
      refine wpAnyL_take (i := 9) (T := (fun _ => True)) (v := ?_) rfl (by kernel_rfl) (by kernel_rfl) (by kernel_rfl) (fun _ _ _ h => h) (fun _ _ _ _ _ => trivial) (SS.up (by decide) (by decide)) (SS.down (by decide) (by decide)) (Or.inl ⟨by rfl, ?_⟩) hcl hS ?_
      rotate_left
      · (intro w' hw'; (try dsimp only at hw'); (try have hw1 := hw'.1); (try have hw2 := hw'.2); go_simp; try with_reducible rfl)
      clear hcl hS
      intro hcl hS
      (try simp only [Act.put]); (try simp only [List.setIfInBounds_toArray]); (repeat (first | simp only [List.set_cons_succ] | simp only [List.set_cons_zero]))
      refine wpAnyL_only (i := 10) (by kernel_rfl) rfl rfl hcl (fun K hK => ?_)
      go_simp
      clear hS hcl
      refine hK _ _ ⟨fun hh => absurd hh (by decide), fun _ => trivial, by simp [go_sem], by simp [go_sem]⟩ (fun hcl hS => ?_)
      clear hK hcl hS
      refine wpAnyL_done (by kernel_rfl) ?_ _
      go_wp2_with fail
      refine bodyPost_ret (v := .tuple #[.agg #[.int .i64 n.id, .int .i64 n.term, .bool true, .slice D1 (n.log.length + 1) c1, .int .i64 n.acked, .int .i64 n.next], .int .i64 0]) (by simp [results, Tryz.results99, go_sem]) rfl ?_
      rw [H4.out]
      have HO9 := HO1.out
      rw [show List.map recR n.log ++ [recR ⟨n.term, a⟩] = (actN n a).log.map recR by simp [actN]] at HO9
      exact ⟨D1, c1, by first | (simp [actN]; done) | simp [actN, HSp.out], ex, Own.recs (Own.along HO9 (ex) (by simp [go_sem])) (by simp [actN]) (fun r hr => (HEl.out r hr).mono (ex))⟩
    · go_simp
      clear hS hcl
      refine hK _ _ ⟨fun _ => by simp [go_sem], fun _ => trivial, by simp [go_sem], by simp [go_sem]⟩ (fun hcl hS => ?_)
      clear hK
      first | refine wpAnyL_sl (recR ⟨n.term, a⟩) rfl (fun HB0 => ?_) | refine wpAnyL_sld (recR ⟨n.term, a⟩) rfl (fun HB0 => ?_)
      have HB := Lib.hid HB0
      clear HB0
      refine wpAnyL_only (i := 2) (by kernel_rfl) rfl rfl hcl (fun K hK => ?_)
      go_simp; go_at_call 132; refine (Clone_R _ _ _ n.log _ rfl (HS.out.sl.mono (ex)) (by first | omega | simp)).mono ?_; rintro e w' ⟨D, n', rfl, hx, hown⟩; have HO := Lib.hid hown; obtain ⟨yc, rfl⟩ := hx.get; clear hx hown
      clear hS hcl
      refine hK _ _ ⟨fun _ => by simp [go_sem], fun _ => trivial, by simp [go_sem], by simp [go_sem]⟩ (fun hcl hS => ?_)
      clear hK
      refine wpAnyL_only (i := 8) (by kernel_rfl) rfl rfl hcl (fun K hK => ?_)
      refine opwp_of_if (F := False) rfl ?_
      (refine step_append_mine (w0 := ((w.alloc (.cells #[.int .i64 n.id, .int .i64 n.term, .bool true, .slice (some ⟨b, o, none⟩) n.log.length c, .int .i64 n.acked, .int .i64 n.next] 24)).alloc (.cells (acnR a).toArray 87)).alloc (.cells #[.int .i64 0, .int .i64 0, .bool false, .slice none 0 0, .int .i64 0, .int .i64 0] 24)) rfl _ _ 22 22 rfl 170 170 45 552 Tryz.underlying22 Tryz.underlying22 info_R (by decide) (ex) _ n.log.length _ (n.log.map recR) (by rfl) (Own.older (HO.out.mono (ex)) (ex)) _ 1 1 [recR ⟨n.term, a⟩] (by rfl) ((HB.out _ (by simp [go_sem])).mono (ex)) rfl (recR_ones1 _) (by unfold maxLen; omega) (by omega) (n.log.length + 1) rfl (n.log.map recR ++ [recR ⟨n.term, a⟩]) rfl ?_; intro D1 c1 w1 hx1 hown hg hA; have HO1 := Lib.hid hown; obtain ⟨y1, rfl⟩ := hx1.get; clear hown hx1 hg hA)
      clear hS hcl
      refine hK _ _ ⟨fun _ => by simp [go_sem], fun _ => trivial, by simp [go_sem], by simp [go_sem]⟩ (fun hcl hS => ?_)
      clear hK
      refine wpAnyL_take (i := 9) (T := (fun _ => True)) (v := ?_) rfl (by kernel_rfl) (by kernel_rfl) (by kernel_rfl) (fun _ _ _ h => h) (fun _ _ _ _ _ => trivial) (SS.up (by decide) (by decide)) (SS.down (by decide) (by decide)) (Or.inl ⟨by rfl, ?_⟩) hcl hS ?_
      rotate_left
      · (intro w' hw'; (try dsimp only at hw'); (try have hw1 := hw'.1); (try have hw2 := hw'.2); go_simp; try with_reducible rfl)
      clear hcl hS
      intro hcl hS
      (try simp only [Act.put]); (try simp only [List.setIfInBounds_toArray]); (repeat (first | simp only [List.set_cons_succ] | simp only [List.set_cons_zero]))
      refine wpAnyL_only (i := 10) (by kernel_rfl) rfl rfl hcl (fun K hK => ?_)
      go_simp
      clear hS hcl
      refine hK _ _ ⟨fun hh => absurd hh (by decide), fun _ => trivial, by simp [go_sem], by simp [go_sem]⟩ (fun hcl hS => ?_)
      clear hK hcl hS
      refine wpAnyL_done (by kernel_rfl) ?_ _
      go_wp2_with fail
      refine bodyPost_ret (v := .tuple #[.agg #[.int .i64 n.id, .int .i64 n.term, .bool true, .slice D1 (n.log.length + 1) c1, .int .i64 n.acked, .int .i64 n.next], .int .i64 0]) (by simp [results, Tryz.results99, go_sem]) rfl ?_
      rw [H4.out]
      have HO9 := HO1.out
      rw [show List.map recR n.log ++ [recR ⟨n.term, a⟩] = (actN n a).log.map recR by simp [actN]] at HO9
      exact ⟨D1, c1, by first | (simp [actN]; done) | simp [actN, HSp.out], ex, Own.recs (Own.along HO9 (ex) (by simp [go_sem])) (by simp [actN]) (fun r hr => (HEl.out r hr).mono (ex))⟩
set_option maxHeartbeats 6400000 in
set_option maxRecDepth 100000 in
theorem rep_Act_f0 (h : nodE n = 0) (h1 : n.speaks = true) (h2 : acnE a = 0) (h3 : early n.log a = false) (hpos : ¬ 0 < n.log.length) : Calls Tryz.prog 99 #[.agg #[.int .i64 n.id, .int .i64 n.term, .bool n.speaks, .slice A n.log.length c, .int .i64 n.acked, .int .i64 n.next], .agg (acnR a).toArray] w (RetNod w (actV n a)) := by
  obtain ⟨id, t, sp, l, ak, nx⟩ := n
  obtain rfl : l = [] := List.eq_nil_of_length_eq_zero (by simpa using hpos)
  obtain rfl : sp = true := h1
  have h1 : (⟨id, t, true, [], ak, nx⟩ : Nod).speaks = true := rfl
  have HSp := Lib.hid (show true = true from rfl)
  clear hpos
  have HS := Lib.hid hs
  have HA := Lib.hid ha
  have hz : (nodE (⟨id, t, true, [], ak, nx⟩ : Nod) != 0) = false := by simpa using h
  have hz2 : (acnE a != 0) = false := by simpa using h2
  have H4 := Lib.hid (actV_f (a := a) h h1 h2 h3 (by simp))
  have HEl := Lib.hid (show ∀ r ∈ ([] : List Rec) ++ [(⟨t, a⟩ : Rec)], AcnAt w r.act from fun r hr => by
    rcases List.mem_append.1 hr with hr | hr
    · exact hs.el r hr
    · rw [List.mem_singleton.1 hr]; exact ha)
  have HC := Lib.hid (fun W (hx : Ext w W) => rep_Check (⟨id, t, true, [], ak, nx⟩ : Nod) A c W (hs.mono hx))
  clear h hs h1 h2 ha h3
  go_enter Tryz.func99, Tryz.ntmps99
  go_wp2_with (first | (go_at_call 103; refine (HC.out _ (ex)).mono ?_; rintro e w' ⟨rfl, hx⟩; obtain ⟨y, rfl⟩ := hx.get; clear hx) | (go_at_call 111; refine (act_Check a _ (HA.out.mono (ex))).mono ?_; rintro e w' ⟨rfl, hx⟩; obtain ⟨y, rfl⟩ := hx.get; clear hx))
  (refine wp_region_grows (by kernel_rfl) (by kernel_rfl) ?_; (repeat (go_big_quiet_step (fail))); refine wpQuiet_nil ?_; rintro _ ⟨y, rfl⟩)
  go_wp2
  refine wp_region_L (S := SS 10 99 (fun w' => w'.cell? ⟨w.heap.size, 3, none⟩ = some (.slice A 0 c)) (fun _ => True) (fun w' => w'.cell? ⟨w.heap.size, 1, none⟩ = some (.int .i64 t) ∧ rowQ w' (w.heap.size + 1) 0 44 = some (acnR a))) (by kernel_rfl) ⟨fun _ => by simp [go_sem], fun _ => trivial, by simp [go_sem], by simp [go_sem]⟩ (fun hcl hS => ?_)
  refine wpAnyL_take (i := 0) (T := (fun _ => True)) (v := ?_) rfl (by kernel_rfl) (by kernel_rfl) (by kernel_rfl) (fun _ _ _ h => h) (fun _ _ _ _ _ => trivial) (SS.up (by decide) (by decide)) (SS.down (by decide) (by decide)) (Or.inl ⟨by rfl, ?_⟩) hcl hS ?_
  rotate_left
  · (intro w' hw'; (try dsimp only at hw'); (try have hw1 := hw'.1); (try have hw2 := hw'.2); go_simp; try with_reducible rfl)
  clear hcl hS
  intro hcl hS
  (try simp only [Act.put]); (try simp only [List.setIfInBounds_toArray]); (repeat (first | simp only [List.set_cons_succ] | simp only [List.set_cons_zero]))
  refine wpAnyL_take (i := 1) (T := (fun w' => w'.cell? ⟨w.heap.size, 3, none⟩ = some (.slice A 0 c))) (v := ?_) rfl (by kernel_rfl) (by kernel_rfl) (by kernel_rfl) (fun _ _ _ h => h) (fun _ _ hc hi hS => hS.1 (hc.not (k := 10) (by kernel_rfl) hi)) (SS.up (by decide) (by decide)) (SS.down (by decide) (by decide)) (Or.inl ⟨by rfl, ?_⟩) hcl hS ?_
  rotate_left
  · (intro w' hw'; (try dsimp only at hw'); (try have hw1 := hw'.1); (try have hw2 := hw'.2); go_simp; try with_reducible rfl)
  clear hcl hS
  intro hcl hS
  (try simp only [Act.put]); (try simp only [List.setIfInBounds_toArray]); (repeat (first | simp only [List.set_cons_succ] | simp only [List.set_cons_zero]))
  refine wpAnyL_take (i := 3) (T := (fun _ => True)) (v := ?_) rfl (by kernel_rfl) (by kernel_rfl) (by kernel_rfl) (fun _ _ _ h => h) (fun _ _ _ _ _ => trivial) (SS.up (by decide) (by decide)) (SS.down (by decide) (by decide)) (Or.inl ⟨by rfl, ?_⟩) hcl hS ?_
  rotate_left
  · (intro w' hw'; (try dsimp only at hw'); (try have hw1 := hw'.1); (try have hw2 := hw'.2); go_simp; try with_reducible rfl)
  clear hcl hS
  intro hcl hS
  (try simp only [Act.put]); (try simp only [List.setIfInBounds_toArray]); (repeat (first | simp only [List.set_cons_succ] | simp only [List.set_cons_zero]))
  refine wpAnyL_take (i := 4) (T := (fun w' => w'.cell? ⟨w.heap.size, 1, none⟩ = some (.int .i64 t) ∧ rowQ w' (w.heap.size + 1) 0 44 = some (acnR a))) (v := ?_) rfl (by kernel_rfl) (by kernel_rfl) (by kernel_rfl) (fun _ _ _ h => h) (fun _ _ _ _ hS => hS.2.2) (SS.up (by decide) (by decide)) (SS.down (by decide) (by decide)) (Or.inl ⟨by rfl, ?_⟩) hcl hS ?_
  rotate_left
  · (intro w' hw'; (try dsimp only at hw'); (try have hw1 := hw'.1); (try have hw2 := hw'.2); go_simp; try with_reducible rfl)
  clear hcl hS
  intro hcl hS
  (try simp only [Act.put]); (try simp only [List.setIfInBounds_toArray]); (repeat (first | simp only [List.set_cons_succ] | simp only [List.set_cons_zero]))
  refine wpAnyL_take (i := 5) (T := (fun w' => w'.cell? ⟨w.heap.size, 1, none⟩ = some (.int .i64 t) ∧ rowQ w' (w.heap.size + 1) 0 44 = some (acnR a))) (v := ?_) rfl (by kernel_rfl) (by kernel_rfl) (by kernel_rfl) (fun _ _ _ h => h) (fun _ _ _ _ hS => hS.2.2) (SS.up (by decide) (by decide)) (SS.down (by decide) (by decide)) (Or.inl ⟨by rfl, ?_⟩) hcl hS ?_
  rotate_left
  · (intro w' hw'; (try dsimp only at hw'); (try have hw1 := hw'.1); (try have hw2 := hw'.2); go_simp; try with_reducible rfl)
  clear hcl hS
  intro hcl hS
  (try simp only [Act.put]); (try simp only [List.setIfInBounds_toArray]); (repeat (first | simp only [List.set_cons_succ] | simp only [List.set_cons_zero]))
  refine wpAnyL_take (i := 6) (T := (fun _ => True)) (v := ?_) rfl (by kernel_rfl) (by kernel_rfl) (by kernel_rfl) (fun _ _ _ h => h) (fun _ _ _ _ _ => trivial) (SS.up (by decide) (by decide)) (SS.down (by decide) (by decide)) (Or.inl ⟨by rfl, ?_⟩) hcl hS ?_
  rotate_left
  · (intro w' hw'; (try dsimp only at hw'); (try have hw1 := hw'.1); (try have hw2 := hw'.2); go_simp; try with_reducible rfl)
  clear hcl hS
  intro hcl hS
  (try simp only [Act.put]); (try simp only [List.setIfInBounds_toArray]); (repeat (first | simp only [List.set_cons_succ] | simp only [List.set_cons_zero]))
  refine wpAnyL_two (i := 2) (j := 7) (by kernel_rfl) rfl rfl rfl rfl hcl (fun K hK => ?_) (fun K hK => ?_)
  · go_simp; go_at_call 132; refine (Clone_R _ _ _ ([] : List Rec) _ rfl (HS.out.sl.mono (ex)) (by first | omega | simp)).mono ?_; rintro e w' ⟨D, n', rfl, hx, hown⟩; have HO := Lib.hid hown; obtain ⟨yc, rfl⟩ := hx.get; clear hx hown
    clear hS hcl
    refine hK _ _ ⟨fun _ => by simp [go_sem], fun _ => trivial, by simp [go_sem], by simp [go_sem]⟩ (fun hcl hS => ?_)
    clear hK
    refine wpAnyL_only (i := 7) (by kernel_rfl) rfl rfl hcl (fun K hK => ?_)
    go_simp
    clear hS hcl
    refine hK _ _ ⟨fun _ => by simp [go_sem], fun _ => trivial, by simp [go_sem], by simp [go_sem]⟩ (fun hcl hS => ?_)
    clear hK
    first | refine wpAnyL_sl (recR ⟨t, a⟩) rfl (fun HB0 => ?_) | refine wpAnyL_sld (recR ⟨t, a⟩) rfl (fun HB0 => ?_)
    have HB := Lib.hid HB0
    clear HB0
    refine wpAnyL_only (i := 8) (by kernel_rfl) rfl rfl hcl (fun K hK => ?_)
    refine opwp_of_if (F := False) rfl ?_
    (refine step_append_mine (w0 := ((w.alloc (.cells #[.int .i64 id, .int .i64 t, .bool true, .slice A 0 c, .int .i64 ak, .int .i64 nx] 24)).alloc (.cells (acnR a).toArray 87)).alloc (.cells #[.int .i64 0, .int .i64 0, .bool false, .slice none 0 0, .int .i64 0, .int .i64 0] 24)) rfl _ _ 22 22 rfl 170 170 45 552 Tryz.underlying22 Tryz.underlying22 info_R (by decide) (ex) _ 0 _ (([] : List Rec).map recR) (by rfl) (Own.older (HO.out.mono (ex)) (ex)) _ 1 1 [recR ⟨t, a⟩] (by rfl) ((HB.out _ (by simp [go_sem])).mono (ex)) rfl (recR_ones1 _) (by unfold maxLen; omega) (by omega) (0 + 1) rfl (([] : List Rec).map recR ++ [recR ⟨t, a⟩]) rfl ?_; intro D1 c1 w1 hx1 hown hg hA; have HO1 := Lib.hid hown; obtain ⟨y1, rfl⟩ := hx1.get; clear hown hx1 hg hA)
    clear hS hcl
    refine hK _ _ ⟨fun _ => by simp [go_sem], fun _ => trivial, by simp [go_sem], by simp [go_sem]⟩ (fun hcl hS => ?_)
    clear hK
    refine wpAnyL_take (i := 9) (T := (fun _ => True)) (v := ?_) rfl (by kernel_rfl) (by kernel_rfl) (by kernel_rfl) (fun _ _ _ h => h) (fun _ _ _ _ _ => trivial) (SS.up (by decide) (by decide)) (SS.down (by decide) (by decide)) (Or.inl ⟨by rfl, ?_⟩) hcl hS ?_
    rotate_left
    · (intro w' hw'; (try dsimp only at hw'); (try have hw1 := hw'.1); (try have hw2 := hw'.2); go_simp; try with_reducible rfl)
    clear hcl hS
    intro hcl hS
    (try simp only [Act.put]); (try simp only [List.setIfInBounds_toArray]); (repeat (first | simp only [List.set_cons_succ] | simp only [List.set_cons_zero]))
    refine wpAnyL_only (i := 10) (by kernel_rfl) rfl rfl hcl (fun K hK => ?_)
    go_simp
    clear hS hcl
    refine hK _ _ ⟨fun hh => absurd hh (by decide), fun _ => trivial, by simp [go_sem], by simp [go_sem]⟩ (fun hcl hS => ?_)
    clear hK hcl hS
    refine wpAnyL_done (by kernel_rfl) ?_ _
    go_wp2_with fail
    refine bodyPost_ret (v := .tuple #[.agg #[.int .i64 id, .int .i64 t, .bool true, .slice D1 (0 + 1) c1, .int .i64 ak, .int .i64 nx], .int .i64 0]) (by simp [results, Tryz.results99, go_sem]) rfl ?_
    rw [H4.out]
    have HO9 := HO1.out
    rw [show List.map recR [] ++ [recR ⟨t, a⟩] = (actN (⟨id, t, true, [], ak, nx⟩ : Nod) a).log.map recR by simp [actN]] at HO9
    exact ⟨D1, c1, by first | (simp [actN]; done) | simp [actN, HSp.out], ex, Own.recs (Own.along HO9 (ex) (by simp [go_sem])) (by simp [actN]) (fun r hr => (HEl.out r hr).mono (ex))⟩
  · go_simp
    clear hS hcl
    refine hK _ _ ⟨fun _ => by simp [go_sem], fun _ => trivial, by simp [go_sem], by simp [go_sem]⟩ (fun hcl hS => ?_)
    clear hK
    first | refine wpAnyL_sl (recR ⟨t, a⟩) rfl (fun HB0 => ?_) | refine wpAnyL_sld (recR ⟨t, a⟩) rfl (fun HB0 => ?_)
    have HB := Lib.hid HB0
    clear HB0
    refine wpAnyL_only (i := 2) (by kernel_rfl) rfl rfl hcl (fun K hK => ?_)
    go_simp; go_at_call 132; refine (Clone_R _ _ _ ([] : List Rec) _ rfl (HS.out.sl.mono (ex)) (by first | omega | simp)).mono ?_; rintro e w' ⟨D, n', rfl, hx, hown⟩; have HO := Lib.hid hown; obtain ⟨yc, rfl⟩ := hx.get; clear hx hown
    clear hS hcl
    refine hK _ _ ⟨fun _ => by simp [go_sem], fun _ => trivial, by simp [go_sem], by simp [go_sem]⟩ (fun hcl hS => ?_)
    clear hK
    refine wpAnyL_only (i := 8) (by kernel_rfl) rfl rfl hcl (fun K hK => ?_)
    refine opwp_of_if (F := False) rfl ?_
    (refine step_append_mine (w0 := ((w.alloc (.cells #[.int .i64 id, .int .i64 t, .bool true, .slice A 0 c, .int .i64 ak, .int .i64 nx] 24)).alloc (.cells (acnR a).toArray 87)).alloc (.cells #[.int .i64 0, .int .i64 0, .bool false, .slice none 0 0, .int .i64 0, .int .i64 0] 24)) rfl _ _ 22 22 rfl 170 170 45 552 Tryz.underlying22 Tryz.underlying22 info_R (by decide) (ex) _ 0 _ (([] : List Rec).map recR) (by rfl) (Own.older (HO.out.mono (ex)) (ex)) _ 1 1 [recR ⟨t, a⟩] (by rfl) ((HB.out _ (by simp [go_sem])).mono (ex)) rfl (recR_ones1 _) (by unfold maxLen; omega) (by omega) (0 + 1) rfl (([] : List Rec).map recR ++ [recR ⟨t, a⟩]) rfl ?_; intro D1 c1 w1 hx1 hown hg hA; have HO1 := Lib.hid hown; obtain ⟨y1, rfl⟩ := hx1.get; clear hown hx1 hg hA)
    clear hS hcl
    refine hK _ _ ⟨fun _ => by simp [go_sem], fun _ => trivial, by simp [go_sem], by simp [go_sem]⟩ (fun hcl hS => ?_)
    clear hK
    refine wpAnyL_take (i := 9) (T := (fun _ => True)) (v := ?_) rfl (by kernel_rfl) (by kernel_rfl) (by kernel_rfl) (fun _ _ _ h => h) (fun _ _ _ _ _ => trivial) (SS.up (by decide) (by decide)) (SS.down (by decide) (by decide)) (Or.inl ⟨by rfl, ?_⟩) hcl hS ?_
    rotate_left
    · (intro w' hw'; (try dsimp only at hw'); (try have hw1 := hw'.1); (try have hw2 := hw'.2); go_simp; try with_reducible rfl)
    clear hcl hS
    intro hcl hS
    (try simp only [Act.put]); (try simp only [List.setIfInBounds_toArray]); (repeat (first | simp only [List.set_cons_succ] | simp only [List.set_cons_zero]))
    refine wpAnyL_only (i := 10) (by kernel_rfl) rfl rfl hcl (fun K hK => ?_)
    go_simp
    clear hS hcl
    refine hK _ _ ⟨fun hh => absurd hh (by decide), fun _ => trivial, by simp [go_sem], by simp [go_sem]⟩ (fun hcl hS => ?_)
    clear hK hcl hS
    refine wpAnyL_done (by kernel_rfl) ?_ _
    go_wp2_with fail
    refine bodyPost_ret (v := .tuple #[.agg #[.int .i64 id, .int .i64 t, .bool true, .slice D1 (0 + 1) c1, .int .i64 ak, .int .i64 nx], .int .i64 0]) (by simp [results, Tryz.results99, go_sem]) rfl ?_
    rw [H4.out]
    have HO9 := HO1.out
    rw [show List.map recR [] ++ [recR ⟨t, a⟩] = (actN (⟨id, t, true, [], ak, nx⟩ : Nod) a).log.map recR by simp [actN]] at HO9
    exact ⟨D1, c1, by first | (simp [actN]; done) | simp [actN, HSp.out], ex, Own.recs (Own.along HO9 (ex) (by simp [go_sem])) (by simp [actN]) (fun r hr => (HEl.out r hr).mono (ex))⟩
theorem rep_Act : Calls Tryz.prog 99 #[.agg #[.int .i64 n.id, .int .i64 n.term, .bool n.speaks, .slice A n.log.length c, .int .i64 n.acked, .int .i64 n.next], .agg (acnR a).toArray] w (RetNod w (actV n a)) := by
  by_cases h : nodE n = 0
  · cases h1 : n.speaks with
    | false =>
      have := rep_Act_b n A c a w hs h h1
      rwa [h1] at this
    | true =>
      rw [← h1]
      by_cases h2 : acnE a = 0
      · cases h3 : early n.log a with
        | true => exact rep_Act_d n A c a w hs ha h h1 h2 h3
        | false =>
          by_cases hpos : 0 < n.log.length
          · exact rep_Act_f1 n A c a w hs ha h h1 h2 h3 hpos
          · exact rep_Act_f0 n A c a w hs ha h h1 h2 h3 hpos
      · exact rep_Act_c n A c a w hs ha h h1 h2
  · exact rep_Act_a n A c a w hs h
end
end Go.Proofs.YtmhinhgflehkaaaGreat
