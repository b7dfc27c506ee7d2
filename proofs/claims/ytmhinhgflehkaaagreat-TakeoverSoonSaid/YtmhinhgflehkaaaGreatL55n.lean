/-
 TakeoverSoon, walked.
-/
import Derived.Test.YtmhinhgflehkaaaGreatAwk55
namespace Go.Proofs.YtmhinhgflehkaaaGreat
open Go.RowKit

set_option maxHeartbeats 12800000 in
set_option maxRecDepth 100000 in
theorem l55_Soon (x0 x1 x2 : Int) (w : World) (ha : 0 ≤ x0 ∧ x0 ≤ 255) (hb : 0 ≤ x1 ∧ x1 ≤ 255) (hc : 0 ≤ x2 ∧ x2 ≤ 255) : Calls Tryz.prog 4 #[.int .u8 x0, .int .u8 x1, .int .u8 x2] w fun e w' => e = .returned (.bool true) ∧ Ext w w' := by
 obtain ⟨ha0, ha1⟩ := ha
 obtain ⟨hb0, hb1⟩ := hb
 obtain ⟨hc0, hc1⟩ := hc
 obtain ⟨p, hp⟩ : ∃ p, x0 % 8 = p := ⟨_, rfl⟩
 obtain ⟨n, hn⟩ : ∃ n, 1 + p = n := ⟨_, rfl⟩
 obtain ⟨q, hq⟩ : ∃ q, x1 % n = q := ⟨_, rfl⟩
 obtain ⟨d, hd⟩ : ∃ d, 1 + q = d := ⟨_, rfl⟩
 obtain ⟨r, hr⟩ : ∃ r, x2 % 20 = r := ⟨_, rfl⟩
 obtain ⟨t, ht⟩ : ∃ t, d + 1 + r = t := ⟨_, rfl⟩
 obtain ⟨s, hs⟩ : ∃ s, t + d + n - 1 = s := ⟨_, rfl⟩
 obtain ⟨u, hu⟩ : ∃ u, s + 3 = u := ⟨_, rfl⟩
 obtain ⟨m, hm⟩ : ∃ m, 2 * n = m := ⟨_, rfl⟩
 obtain ⟨z, hz⟩ : ∃ z, s + m = z := ⟨_, rfl⟩
 have hp0 : 0 ≤ p := by omega
 have hp1 : p < 8 := by omega
 have hn0 : 1 ≤ n := by omega
 have hn1 : n ≤ 8 := by omega
 have hq0 : 0 ≤ q := by rw [← hq]; exact Int.emod_nonneg _ (by omega)
 have hq1 : q < n := by rw [← hq]; exact Int.emod_lt_of_pos _ (by omega)
 have hd0 : 1 ≤ d := by omega
 have hd1 : d ≤ n := by omega
 have hd2 : d ≤ 8 := by omega
 have hr0 : 0 ≤ r := by omega
 have hr1 : r < 20 := by omega
 have ht0 : 1 ≤ t := by omega
 have ht1 : t ≤ 40 := by omega
 have hs0 : 1 ≤ s := by omega
 have hs1 : s ≤ 60 := by omega
 have hu0 : 1 ≤ u := by omega
 have hu1 : u ≤ 63 := by omega
 have hm0 : 0 ≤ m := by omega
 have hm1 : m ≤ 16 := by omega
 have hz0 : 0 ≤ z := by omega
 have hz1 : z ≤ 80 := by omega
 obtain ⟨N, hN⟩ : ∃ N : Nat, z + 8 = (N : Int) := ⟨(z + 8).toNat, by omega⟩
 have hN1 : N ≤ 100 := by omega
 have hw1 : IntKind.i64.wrap x0 = x0 := IntWalk.i64_in _ (by omega)
 have hw2 : IntKind.i64.wrap x1 = x1 := IntWalk.i64_in _ (by omega)
 have hw3 : IntKind.i64.wrap x2 = x2 := IntWalk.i64_in _ (by omega)
 have hw4 : IntKind.i64.wrap u = u := IntWalk.i64_in _ (by omega)
 have hw5 : IntKind.i64.wrap m = m := IntWalk.i64_in _ (by omega)
 have hw6 : IntKind.i64.wrap z = z := IntWalk.i64_in _ (by omega)
 have hw7 : IntKind.i64.wrap (N : Int) = (N : Int) := IntWalk.i64_in _ (by omega)
 have hmin : min n 8 = n := by omega
 have hnz : ¬ n = 0 := by omega
 have hnz2 : (n == 0) = false := by simpa using hnz
 obtain ⟨v, hv⟩ : ∃ v, (newW n d).1 = v := ⟨_, rfl⟩
 have HV := Lib.hid hv
 have hok : WldOk v := by rw [← hv]; exact (newW_ok (by omega) (by omega) (by omega) (by omega)).2
 have hnow : v.now = 0 := by rw [← hv]; unfold newW; rw [if_neg (by omega)]
 have HTR := Lib.hid (fun (V : World) (A : Option Addr) (a : Nat) (B : Option Addr) (b : Nat) (M : Option Addr) (m : Nat) (h : WldAt V v A a B b M m []) (E : Option Addr) (hs2 : Sl V E 48 ((Tk.soonL t u).map evtR)) => (tak_Trace (T := N) (l := Tk.soonL t u) (ce := 2) h hok (evtsAt_two hs2 (acnN_at V) (acnN_at V)) (Tk.soonL_right (by omega) (by omega) (by omega)) (by omega) (by rw [hnow]; omega) : Calls Tryz.prog 28 #[.agg #[.int .i64 v.now, .int .i64 v.limit, .int .i64 v.delay, .bool v.cut, .int .i64 v.a.node.id, .int .i64 v.a.node.term, .bool v.a.node.speaks, .slice A v.a.node.log.length a, .int .i64 v.a.node.acked, .int .i64 v.a.node.next, .bool v.a.up, .int .i64 v.a.quiet, .int .i64 v.b.node.id, .int .i64 v.b.node.term, .bool v.b.node.speaks, .slice B v.b.node.log.length b, .int .i64 v.b.node.acked, .int .i64 v.b.node.next, .bool v.b.up, .int .i64 v.b.quiet, .slice M v.mail.length m], .slice E 2 2, .int .i64 N] V _))
 have HSP := Lib.hid (fun (i : Nat) (h2 : i < N) => (by have := Tk.soon_all (d := d) (n := n) (t := t) (u := u) hd0 hd1 hn1 ht0 ht1 (by omega) h2 hN1; rwa [hv, hs] at this : (traceW (Tk.soonL t u) N v)[i]? = some (if s ≤ (i : Int) then 2 else if t ≤ (i : Int) then 0 else 1)))
 obtain ⟨tr, htr⟩ : ∃ tr, traceW (Tk.soonL t u) N v = tr := ⟨_, rfl⟩
 rw [htr] at HTR HSP
 clear hv hok hnow htr
 go_enter Tryz.func4, Tryz.ntmps4
 go_wp2_with (first
  | (go_at_call 17; refine (tak_New_at (by omega) (by omega) (by omega) (by omega) HV.out).mono ?_; rintro e w' ⟨A, a, B, b, M, m0, rfl, hx, hw⟩; have HW := Lib.hid hw; obtain ⟨ya, rfl⟩ := hx.get; clear hx hw)
  | (refine wpList_store_top rfl 30 (.tmp 10) (.tmp 38) rfl rfl (by simp [go_sem]) [.int .i64 v.now, .int .i64 v.limit, .int .i64 v.delay, .bool v.cut, .int .i64 v.a.node.id, .int .i64 v.a.node.term, .bool v.a.node.speaks, .slice A v.a.node.log.length a, .int .i64 v.a.node.acked, .int .i64 v.a.node.next, .bool v.a.up, .int .i64 v.a.quiet, .int .i64 v.b.node.id, .int .i64 v.b.node.term, .bool v.b.node.speaks, .slice B v.b.node.log.length b, .int .i64 v.b.node.acked, .int .i64 v.b.node.next, .bool v.b.up, .int .i64 v.b.quiet, .slice M v.mail.length m0] rfl rfl (by kernel_rfl) (wld_one v A a B b M m0) ?_))
 refine wp_name (fun W9 hW9 => ?_)
 have q9 : BoxAt W9 (w.heap.size + ya.n) [.int .i64 v.now, .int .i64 v.limit, .int .i64 v.delay, .bool v.cut, .int .i64 v.a.node.id, .int .i64 v.a.node.term, .bool v.a.node.speaks, .slice A v.a.node.log.length a, .int .i64 v.a.node.acked, .int .i64 v.a.node.next, .bool v.a.up, .int .i64 v.a.quiet, .int .i64 v.b.node.id, .int .i64 v.b.node.term, .bool v.b.node.speaks, .slice B v.b.node.log.length b, .int .i64 v.b.node.acked, .int .i64 v.b.node.next, .bool v.b.up, .int .i64 v.b.quiet, .slice M v.mail.length m0] 30 := by rw [hW9]; exact (by repeat (first | exact BoxAt.new (by first | rfl | (simp [go_sem]; done) | (simp [go_sem]; omega)) _ _ | apply BoxAt.xt | apply BoxAt.drew | apply BoxAt.drewN | apply BoxAt.alloc))
 have x9 : Ext w W9 := by rw [hW9]; exact (ex)
 have w9 := HW.out.mono (show Ext _ W9 from by rw [hW9]; exact ex)
 clear hW9
 refine wp_region_L (S := fun _ w9 => Ext W9 w9) (by kernel_rfl) (ex) (fun hcl hS => ?_)
 refine wpAnyL_take (i := 0) (T := (fun w9 => Ext W9 w9)) (v := ?_) rfl (by kernel_rfl) (by kernel_rfl) (by kernel_rfl) (fun _ _ _ h => h) (fun _ _ _ _ hS => hS) (fun _ _ h => h) (fun _ _ h => h) (Or.inl ⟨by rfl, ?_⟩) hcl hS ?_
 rotate_left
 ·(intro w9 hw9; (try dsimp only at hw9); have z9 := (q9.mono hw9).row (n := 21) rfl; go_simp; try with_reducible rfl)
 clear hcl hS
 intro hcl hS
 (try simp only [Act.put]); (try simp only [List.setIfInBounds_toArray]); (repeat (first | simp only [List.set_cons_succ] | simp only [List.set_cons_zero]))
 refine wpAnyL_take (i := 1) (T := (fun w9 => Ext W9 w9)) (v := ?_) rfl (by kernel_rfl) (by kernel_rfl) (by kernel_rfl) (fun _ _ _ h => h) (fun _ _ _ _ hS => hS) (fun _ _ h => h) (fun _ _ h => h) (Or.inl ⟨by rfl, ?_⟩) hcl hS ?_
 rotate_left
 ·(intro w9 hw9; (try dsimp only at hw9); go_simp; try with_reducible rfl)
 clear hcl hS
 intro hcl hS
 (try simp only [Act.put]); (try simp only [List.setIfInBounds_toArray]); (repeat (first | simp only [List.set_cons_succ] | simp only [List.set_cons_zero]))
 refine wpAnyL_take (i := 3) (T := (fun w9 => Ext W9 w9)) (v := ?_) rfl (by kernel_rfl) (by kernel_rfl) (by kernel_rfl) (fun _ _ _ h => h) (fun _ _ _ _ hS => hS) (fun _ _ h => h) (fun _ _ h => h) (Or.inl ⟨by rfl, ?_⟩) hcl hS ?_
 rotate_left
 ·(intro w9 hw9; (try dsimp only at hw9); go_simp; try with_reducible rfl)
 clear hcl hS
 intro hcl hS
 (try simp only [Act.put]); (try simp only [List.setIfInBounds_toArray]); (repeat (first | simp only [List.set_cons_succ] | simp only [List.set_cons_zero]))
 refine wpAnyL_take (i := 4) (T := (fun w9 => Ext W9 w9)) (v := ?_) rfl (by kernel_rfl) (by kernel_rfl) (by kernel_rfl) (fun _ _ _ h => h) (fun _ _ _ _ hS => hS) (fun _ _ h => h) (fun _ _ h => h) (Or.inl ⟨by rfl, ?_⟩) hcl hS ?_
 rotate_left
 ·(intro w9 hw9; (try dsimp only at hw9); go_simp; try with_reducible rfl)
 clear hcl hS
 intro hcl hS
 (try simp only [Act.put]); (try simp only [List.setIfInBounds_toArray]); (repeat (first | simp only [List.set_cons_succ] | simp only [List.set_cons_zero]))
 refine wpAnyL_take (i := 5) (T := (fun w9 => Ext W9 w9)) (v := ?_) rfl (by kernel_rfl) (by kernel_rfl) (by kernel_rfl) (fun _ _ _ h => h) (fun _ _ _ _ hS => hS) (fun _ _ h => h) (fun _ _ h => h) (Or.inl ⟨by rfl, ?_⟩) hcl hS ?_
 rotate_left
 ·(intro w9 hw9; (try dsimp only at hw9); go_simp; try with_reducible rfl)
 clear hcl hS
 intro hcl hS
 (try simp only [Act.put]); (try simp only [List.setIfInBounds_toArray]); (repeat (first | simp only [List.set_cons_succ] | simp only [List.set_cons_zero]))
 refine wpAnyL_take (i := 7) (T := (fun w9 => Ext W9 w9)) (v := ?_) rfl (by kernel_rfl) (by kernel_rfl) (by kernel_rfl) (fun _ _ _ h => h) (fun _ _ _ _ hS => hS) (fun _ _ h => h) (fun _ _ h => h) (Or.inl ⟨by rfl, ?_⟩) hcl hS ?_
 rotate_left
 ·(intro w9 hw9; (try dsimp only at hw9); go_simp; try with_reducible rfl)
 clear hcl hS
 intro hcl hS
 (try simp only [Act.put]); (try simp only [List.setIfInBounds_toArray]); (repeat (first | simp only [List.set_cons_succ] | simp only [List.set_cons_zero]))
 refine wpAnyL_take (i := 8) (T := (fun w9 => Ext W9 w9)) (v := ?_) rfl (by kernel_rfl) (by kernel_rfl) (by kernel_rfl) (fun _ _ _ h => h) (fun _ _ _ _ hS => hS) (fun _ _ h => h) (fun _ _ h => h) (Or.inl ⟨by rfl, ?_⟩) hcl hS ?_
 rotate_left
 ·(intro w9 hw9; (try dsimp only at hw9); go_simp; try with_reducible rfl)
 clear hcl hS
 intro hcl hS
 (try simp only [Act.put]); (try simp only [List.setIfInBounds_toArray]); (repeat (first | simp only [List.set_cons_succ] | simp only [List.set_cons_zero]))
 refine wpAnyL_take (i := 9) (T := (fun w9 => Ext W9 w9)) (v := ?_) rfl (by kernel_rfl) (by kernel_rfl) (by kernel_rfl) (fun _ _ _ h => h) (fun _ _ _ _ hS => hS) (fun _ _ h => h) (fun _ _ h => h) (Or.inl ⟨by rfl, ?_⟩) hcl hS ?_
 rotate_left
 ·(intro w9 hw9; (try dsimp only at hw9); go_simp; try with_reducible rfl)
 clear hcl hS
 intro hcl hS
 (try simp only [Act.put]); (try simp only [List.setIfInBounds_toArray]); (repeat (first | simp only [List.set_cons_succ] | simp only [List.set_cons_zero]))
 refine wpAnyL_take (i := 10) (T := (fun w9 => Ext W9 w9)) (v := ?_) rfl (by kernel_rfl) (by kernel_rfl) (by kernel_rfl) (fun _ _ _ h => h) (fun _ _ _ _ hS => hS) (fun _ _ h => h) (fun _ _ h => h) (Or.inl ⟨by rfl, ?_⟩) hcl hS ?_
 rotate_left
 ·(intro w9 hw9; (try dsimp only at hw9); go_simp; try with_reducible rfl)
 clear hcl hS
 intro hcl hS
 (try simp only [Act.put]); (try simp only [List.setIfInBounds_toArray]); (repeat (first | simp only [List.set_cons_succ] | simp only [List.set_cons_zero]))
 refine wpAnyL_take (i := 11) (T := (fun w9 => Ext W9 w9)) (v := ?_) rfl (by kernel_rfl) (by kernel_rfl) (by kernel_rfl) (fun _ _ _ h => h) (fun _ _ _ _ hS => hS) (fun _ _ h => h) (fun _ _ h => h) (Or.inl ⟨by rfl, ?_⟩) hcl hS ?_
 rotate_left
 ·(intro w9 hw9; (try dsimp only at hw9); go_simp; try with_reducible rfl)
 clear hcl hS
 intro hcl hS
 (try simp only [Act.put]); (try simp only [List.setIfInBounds_toArray]); (repeat (first | simp only [List.set_cons_succ] | simp only [List.set_cons_zero]))
 refine wpAnyL_only (i := 2) (by kernel_rfl) rfl rfl hcl (fun K9 hK9 => ?_)
 clear hS hcl
 go_simp
 go_at_call 29; refine (l55_down t 1 _).mono ?_; rintro e w' ⟨rfl, hx⟩; obtain ⟨yc, rfl⟩ := hx.get; clear hx
 refine hK9 _ _ (by exact ex) (fun hcl hS => ?_)
 clear hK9
 refine wpAnyL_only (i := 6) (by kernel_rfl) rfl rfl hcl (fun K9 hK9 => ?_)
 clear hS hcl
 go_simp
 refine hK9 _ _ (by exact ex) (fun hcl hS => ?_)
 clear hK9
 refine wpAnyL_only (i := 12) (by kernel_rfl) rfl rfl hcl (fun K9 hK9 => ?_)
 clear hS hcl
 go_simp
 go_at_call 28; refine (HTR.out _ A a B b M m0 (w9.mono (ex)) _ (sl_two (by simp [go_sem]))).mono ?_; rintro e w' ⟨O, ko, rfl, hx, hsl, hko, hkm⟩; have HO := Lib.hid hsl; obtain ⟨yd, rfl⟩ := hx.get; clear hx hsl
 refine hK9 _ _ (by exact ex) (fun hcl hS => ?_)
 clear hK9
 refine wpAnyL_only (i := 13) (by kernel_rfl) rfl rfl hcl (fun K9 hK9 => ?_)
 clear hS hcl
 go_simp
 refine hK9 _ _ (by exact ex) (fun hcl hS => ?_)
 clear hK9
 refine wpAnyL_take (i := 14) (T := (fun w9 => Ext W9 w9)) (v := ?_) rfl (by kernel_rfl) (by kernel_rfl) (by kernel_rfl) (fun _ _ _ h => h) (fun _ _ _ _ hS => hS) (fun _ _ h => h) (fun _ _ h => h) (Or.inl ⟨by rfl, ?_⟩) hcl hS ?_
 rotate_left
 ·(intro w9 hw9; (try dsimp only at hw9); go_simp; try with_reducible rfl)
 clear hcl hS
 intro hcl hS
 (try simp only [Act.put]); (try simp only [List.setIfInBounds_toArray]); (repeat (first | simp only [List.set_cons_succ] | simp only [List.set_cons_zero]))
 refine wpAnyL_take (i := 15) (T := (fun w9 => Ext W9 w9)) (v := ?_) rfl (by kernel_rfl) (by kernel_rfl) (by kernel_rfl) (fun _ _ _ h => h) (fun _ _ _ _ hS => hS) (fun _ _ h => h) (fun _ _ h => h) (Or.inl ⟨by rfl, ?_⟩) hcl hS ?_
 rotate_left
 ·(intro w9 hw9; (try dsimp only at hw9); go_simp; try with_reducible rfl)
 clear hcl hS
 intro hcl hS
 (try simp only [Act.put]); (try simp only [List.setIfInBounds_toArray]); (repeat (first | simp only [List.set_cons_succ] | simp only [List.set_cons_zero]))
 refine wpAnyL_only (i := 16) (by kernel_rfl) rfl rfl hcl (fun K9 hK9 => ?_)
 clear hS hcl
 go_simp
 refine hK9 _ _ (by exact ex) (fun hcl hS => ?_)
 clear hK9
 refine wpAnyL_only (i := 17) (by kernel_rfl) rfl rfl hcl (fun K9 hK9 => ?_)
 clear hS hcl
 go_simp
 refine hK9 _ _ (by exact ex) (fun hcl hS => ?_)
 clear hK9
 clear hcl hS
 refine wpAnyL_done (by kernel_rfl) ?_ _
 go_wp2
 go_loopw [78] (fun i wr => ∃ j : Nat, j ≤ N ∧ i = .int .i64 j ∧ Ext w wr ∧ Hid (Sl wr O 1 (tr.map intRw))) (fun i _ => N - (intOf i).toNat)
 case atStart => exact ⟨0, by omega, rfl, x9.trans (ex), Lib.hid (HO.out.mono (ex))⟩
 case round =>
  clear q9 x9 w9
  obtain ⟨j, hj, rfl, hx, HS⟩ := hrel
  obtain ⟨y0, rfl⟩ := hx.get
  clear hx
  by_cases hlt : j < N
  ·have hb0 : (0 : Int) ≤ (j : Int) := by omega
   have hd3 : decide ((j : Int) < (N : Int)) = true := decide_eq_true (by omega)
   have hsp := HSP.out j hlt
   by_cases g1 : s ≤ (j : Int)
   ·rw [if_pos g1] at hsp
    have k1 : decide (s ≤ (j : Int)) = true := decide_eq_true g1
    have k2 : decide (t ≤ (j : Int)) = true := decide_eq_true (by omega)
    obtain ⟨ob, oo, hO, hrg⟩ := HS.out.range (i := j) (row := intRw 2) (by rw [List.getElem?_map, hsp]; rfl)
    have c0 := hrg 0 _ rfl
    rw [Nat.mul_one, Nat.add_zero] at c0
    subst hO
    clear hsp hrg g1
    go_wp2
    go_light
    exact ⟨⟨j + 1, by omega, by go_num, ex, Lib.hid (HS.out.mono (ex))⟩, by simp [intOf]; omega⟩
   ·rw [if_neg g1] at hsp
    have k1 : decide (s ≤ (j : Int)) = false := decide_eq_false g1
    by_cases g2 : t ≤ (j : Int)
    ·rw [if_pos g2] at hsp
     have k2 : decide (t ≤ (j : Int)) = true := decide_eq_true g2
     obtain ⟨ob, oo, hO, hrg⟩ := HS.out.range (i := j) (row := intRw 0) (by rw [List.getElem?_map, hsp]; rfl)
     have c0 := hrg 0 _ rfl
     rw [Nat.mul_one, Nat.add_zero] at c0
     subst hO
     clear hsp hrg g1 g2
     go_wp2
     go_light
     exact ⟨⟨j + 1, by omega, by go_num, ex, Lib.hid (HS.out.mono (ex))⟩, by simp [intOf]; omega⟩
    ·rw [if_neg g2] at hsp
     have k2 : decide (t ≤ (j : Int)) = false := decide_eq_false g2
     obtain ⟨ob, oo, hO, hrg⟩ := HS.out.range (i := j) (row := intRw 1) (by rw [List.getElem?_map, hsp]; rfl)
     have c0 := hrg 0 _ rfl
     rw [Nat.mul_one, Nat.add_zero] at c0
     subst hO
     clear hsp hrg g1 g2
     go_wp2
     go_light
     exact ⟨⟨j + 1, by omega, by go_num, ex, Lib.hid (HS.out.mono (ex))⟩, by simp [intOf]; omega⟩
  ·have hd3 : decide ((j : Int) < (N : Int)) = false := decide_eq_false (by omega)
   go_wp2_with (go_at_call 16; refine (l55_awake _).mono ?_; rintro e w' ⟨rfl, hx⟩; obtain ⟨y, rfl⟩ := hx.get; clear hx)
   go_ret
   exact ⟨rfl, ex⟩
end Go.Proofs.YtmhinhgflehkaaaGreat
