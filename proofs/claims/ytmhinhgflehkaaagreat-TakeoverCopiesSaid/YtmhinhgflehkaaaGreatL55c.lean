/-
 TakeoverCopies, walked.
-/
import Derived.Test.YtmhinhgflehkaaaGreatGawx
import Derived.Test.YtmhinhgflehkaaaGreatL55b
import Derived.Test.YtmhinhgflehkaaaGreatTkJ
import Derived.Test.YtmhinhgflehkaaaGreatGrpn
import Derived.Test.YtmhinhgflehkaaaGreatGrqa
import Derived.Test.YtmhinhgflehkaaaGreatDdq
namespace Go.Proofs.YtmhinhgflehkaaaGreat
set_option maxHeartbeats 12800000
set_option maxRecDepth 100000
open Go.RowKit

theorem madeA2 (t : Int) : Program.built Tryz.prog 87 [(0, .int .i64 t), (2, .int .i64 1)] = some (acnR (goA t)).toArray := by kernel_rfl
theorem l55_Copies (x0 x1 x2 : Int) (w : World) (ha : 0 ≤ x0 ∧ x0 ≤ 255) (hb : 0 ≤ x1 ∧ x1 ≤ 255) (hc : 0 ≤ x2 ∧ x2 ≤ 255) : Calls Tryz.prog 5 #[.int .u8 x0, .int .u8 x1, .int .u8 x2] w fun e w' => e = .returned (.bool true) ∧ Ext w w' := by
 obtain ⟨ha0, ha1⟩ := ha
 obtain ⟨hb0, hb1⟩ := hb
 obtain ⟨hc0, hc1⟩ := hc
 obtain ⟨p, hp⟩ : ∃ p, x1 % 4 = p := ⟨_, rfl⟩
 obtain ⟨n, hn⟩ : ∃ n, 1 + p = n := ⟨_, rfl⟩
 obtain ⟨q, hq⟩ : ∃ q, x2 % n = q := ⟨_, rfl⟩
 obtain ⟨d, hd⟩ : ∃ d, 1 + q = d := ⟨_, rfl⟩
 obtain ⟨K, hK⟩ : ∃ K : Nat, x0 % 12 = (K : Int) := ⟨(x0 % 12).toNat, by omega⟩
 obtain ⟨m, hm⟩ : ∃ m, 4 * d = m := ⟨_, rfl⟩
 obtain ⟨z, hz⟩ : ∃ z, (K : Int) + m = z := ⟨_, rfl⟩
 have hp0 : 0 ≤ p := by omega
 have hp1 : p < 4 := by omega
 have hn0 : 1 ≤ n := by omega
 have hn1 : n ≤ 4 := by omega
 have hq0 : 0 ≤ q := by rw [← hq]; exact Int.emod_nonneg _ (by omega)
 have hq1 : q < n := by rw [← hq]; exact Int.emod_lt_of_pos _ (by omega)
 have hd0 : 1 ≤ d := by omega
 have hd1 : d ≤ n := by omega
 have hd2 : d ≤ 8 := by omega
 have hK1 : K ≤ 11 := by omega
 have hm0 : 0 ≤ m := by omega
 have hm1 : m ≤ 16 := by omega
 have hz0 : 0 ≤ z := by omega
 have hz1 : z ≤ 27 := by omega
 obtain ⟨N, hN⟩ : ∃ N : Nat, z + 4 = (N : Int) := ⟨(z + 4).toNat, by omega⟩
 have hN1 : N ≤ 100 := by omega
 have hw1 : IntKind.i64.wrap x0 = x0 := IntWalk.i64_in _ (by omega)
 have hw2 : IntKind.i64.wrap x1 = x1 := IntWalk.i64_in _ (by omega)
 have hw3 : IntKind.i64.wrap x2 = x2 := IntWalk.i64_in _ (by omega)
 have hnz : ¬ n = 0 := by omega
 have hnz2 : (n == 0) = false := by simpa using hnz
 obtain ⟨v, hv⟩ : ∃ v, (newW n d).1 = v := ⟨_, rfl⟩
 have HV := Lib.hid hv
 have hok : WldOk v := by rw [← hv]; exact (newW_ok (by omega) (by omega) (by omega) (by omega)).2
 have hnow : v.now = 0 := by rw [← hv]; unfold newW; rw [if_neg (by omega)]
 obtain ⟨u, hu⟩ : ∃ u, seqW (Tk.coL K) v N = u := ⟨_, rfl⟩
 obtain ⟨f1, f2, f3, f4, f5⟩ := Tk.co_end hK1 (d := d) (n := n) hd0 hd2 hd1 (by omega) (T := N) (by omega) (v := u) (by rw [hv]; exact hu)
 have HBA := Lib.hid (show u.b.node.log = u.a.node.log by rw [f1, f2])
 have HNE := Lib.hid f5
 have hla : u.a.node.log.length = K := by rw [f1, Tk.recL_len]
 have hlb : u.b.node.log.length = K := by rw [f2, Tk.recL_len]
 have k1 : ((u.a.node.log.length : Int) == (K : Int)) = true := by rw [hla]; exact beq_self_eq_true _
 have k2 : ((u.b.node.log.length : Int) == (K : Int)) = true := by rw [hlb]; exact beq_self_eq_true _
 have k3 : (u.a.node.acked == (K : Int)) = true := by simpa using f3
 have k4 : (u.b.node.acked == (K : Int)) = true := by simpa using f4
 have hlA : u.a.node.log.length ≤ 100000 := by omega
 have hlB : u.b.node.log.length ≤ 100000 := by omega
 have HLA := Lib.hid hla
 have HLB := Lib.hid hlb
 have hcl := Tk.coL_len K
 have HRN := Lib.hid (fun (V : World) (A : Option Addr) (a : Nat) (B : Option Addr) (b : Nat) (M : Option Addr) (m : Nat) (h : WldAt V v A a B b M m []) (E : Option Addr) (ce : Nat) (hs : Sl V E 48 ((Tk.coL K).map evtR)) (hc : K ≤ ce) (hcm : ce ≤ maxLen) => (by have := tak_Run (T := N) (l := Tk.coL K) (ce := ce) h hok ⟨hs, by rw [hcl]; exact hc, hcm, fun x hx => by obtain ⟨i, -, rfl⟩ := Tk.coL_mem hx; exact mkA_at _ _ _ _ V⟩ (Tk.coL_evts hK1) (by omega) (by rw [hnow]; omega); rwa [hcl, hu] at this : Calls Tryz.prog 30 #[.agg (Lw v A a B b M m), .slice E K ce, .int .i64 N] V fun e W1 => (∃ A1 a1 B1 b1 M1 m1 xs1, e = .returned (.tuple #[.agg (Lw u A1 a1 B1 b1 M1 m1), .int .i64 0]) ∧ WldAt W1 u A1 a1 B1 b1 M1 m1 xs1) ∧ Ext V W1))
 clear hv hok hnow hu hcl f1 f2 f3 f4 f5 hla hlb
 go_enter Tryz.func5, Tryz.ntmps5
 go_wp2_with (first
  | (go_at_call 17; refine (tak_New_at (by omega) (by omega) (by omega) (by omega) HV.out).mono ?_; rintro e w' ⟨A, a, B, b, M, m0, rfl, hx, hw⟩; have HW := Lib.hid hw; obtain ⟨ya, rfl⟩ := hx.get; clear hx hw)
  | (refine wpList_store_top rfl 30 (.tmp 9) (.tmp 31) rfl rfl (by simp [go_sem]) (Lw v A a B b M m0) rfl rfl (by kernel_rfl) (wld_one v A a B b M m0) ?_))
 refine wp_name (fun W9 hW9 => ?_)
 have q9 : BoxAt W9 (w.heap.size + ya.n) (Lw v A a B b M m0) 30 := by rw [hW9]; exact (by repeat (first | exact BoxAt.new (by first | rfl | (simp [go_sem]; done) | (simp [go_sem]; omega)) _ _ | apply BoxAt.xt | apply BoxAt.drew | apply BoxAt.drewN | apply BoxAt.alloc))
 have x9 : Ext w W9 := by rw [hW9]; exact (ex)
 have w9 := HW.out.mono (show Ext _ W9 from by rw [hW9]; exact ex)
 have HQ9 := Lib.hid q9
 have HX9 := Lib.hid x9
 have HW9 := Lib.hid w9
 clear hW9 q9 x9 w9
 simp only [hK]
 go_loopw [11, 37] (fun s i wr => ∃ (j : Nat) (D : Option Addr) (d : Nat), j ≤ K ∧ i = .int .i64 j ∧ s = .slice D j d ∧ Ext W9 wr ∧ Hid (Own W9 wr 89 48 D j d ((Tk.coL j).map evtR))) (fun _ i _ => K - (intOf i).toNat)
 case atStart => exact ⟨0, none, 0, by omega, rfl, rfl, ex, Lib.hid (Own.nil none)⟩
 case round =>
  obtain ⟨j, D, dd, hj, rfl, rfl, hx, HO⟩ := hrel
  obtain ⟨y0, rfl⟩ := hx.get
  clear hx
  by_cases hlt : j < K
  ·have hd2 : decide ((j : Int) < (K : Int)) = true := decide_eq_true (by omega)
   have hb0 : (0 : Int) ≤ (j : Int) := by omega
   have hm2 : IntKind.i64.wrap (25 * (j : Int)) = 25 * (j : Int) := IntWalk.i64_in _ (by omega)
   obtain ⟨x, hx⟩ : ∃ x, Tk.actE (j : Int) (goA (25 * (j : Int))) = x := ⟨_, rfl⟩
   have HX := Lib.hid hx
   clear hx
   go_wp2_with (first
    | (refine wpList_built rfl 87 _ rfl [(0, .int .i64 (25 * (j : Int))), (2, .int .i64 1)] rfl (acnR (goA (25 * (j : Int)))).toArray (madeA2 _) ?_)
    | (refine wpList_built rfl 89 _ rfl [(0, .int .i64 (j : Int)), (2, .int .i64 1), (3, .agg (acnR (goA (25 * (j : Int)))).toArray)] rfl (evtR x).toArray (by rw [← HX.out]; kernel_rfl) ?_)
    | (at_builtin; refine wpList_append_mine (w0 := W9) rfl _ _ 31 31 rfl 89 89 48 576 Tryz.underlying31 Tryz.underlying31 info_Evt (by decide) (ex) D j dd ((Tk.coL j).map evtR) rfl (HO.out.mono (ex)) _ 1 1 [evtR x] rfl (Sl.alloc' (by simp [go_sem]) (by simp) (by simp [evtR_len])) rfl (evtR_ones [x]) (by unfold maxLen; omega) (by omega) _ rfl _ rfl ?_; intro A' k' w1 hx1 hown hgr hA; have HOW := Lib.hid hown; obtain ⟨y1, rfl⟩ := hx1.get; clear hown hx1 hgr hA))
   go_light
   exact ⟨⟨j + 1, _, _, by omega, by go_num, rfl, ex, Lib.hid (by have := HOW.out; rw [← HX.out] at this; rw [Tk.coL_succ, List.map_append]; exact this)⟩, by simp [intOf]; omega⟩
  ·have hd2 : decide ((j : Int) < (K : Int)) = false := decide_eq_false (by omega)
   have hjk : j = K := by omega
   subst hjk
   have HD1 := Lib.hid HO.out.le
   have HD2 := Lib.hid HO.out.cap
   have q9 := HQ9.out.row (n := 21) rfl
   go_wp2_with (first
    | (go_at_call 30; refine (HRN.out _ A a B b M m0 (HW9.out.mono (ex)) D dd (HO.out.sl.mono (ex)) HD1.out HD2.out).mono ?_; rintro e w' ⟨⟨A1, a1, B1, b1, M1, m1, xs1, rfl, hw1⟩, hx⟩; have HW1 := Lib.hid hw1; obtain ⟨yr, rfl⟩ := hx.get; clear hx hw1)
    | (refine wpList_store_top rfl 30 (.tmp 14) (.tmp 58) rfl rfl (by simp [go_sem]) (Lw u A1 a1 B1 b1 M1 m1) rfl rfl (by kernel_rfl) (wld_one u A1 a1 B1 b1 M1 m1) ?_))
   refine wp_name (fun W8 hW8 => ?_)
   have q8 : BoxAt W8 (W9.heap.size + y0.n + yr.n) (Lw u A1 a1 B1 b1 M1 m1) 30 := by rw [hW8]; exact (by repeat (first | exact BoxAt.new (by first | rfl | (simp [go_sem]; done) | (simp [go_sem]; omega)) _ _ | apply BoxAt.xt | apply BoxAt.drew | apply BoxAt.drewN | apply BoxAt.alloc))
   have x8 : Ext w W8 := HX9.out.trans (by rw [hW8]; exact (ex))
   have w8 := HW1.out.mono (show Ext _ W8 from by rw [hW8]; exact ex)
   clear hW8 q9
   refine wp_region_L (S := fun _ w9 => Ext W8 w9) (by kernel_rfl) (ex) (fun hcl hS => ?_)
   refine wpAnyL_take (i := 0) (T := (fun w9 => Ext W8 w9)) (v := ?_) rfl (by kernel_rfl) (by kernel_rfl) (by kernel_rfl) (fun _ _ _ h => h) (fun _ _ _ _ hS => hS) (fun _ _ h => h) (fun _ _ h => h) (Or.inl ⟨by rfl, ?_⟩) hcl hS ?_
   rotate_left
   ·(intro w9 hw9; (try dsimp only at hw9); go_simp; try with_reducible rfl)
   clear hcl hS
   intro hcl hS
   (try simp only [Act.put]); (try simp only [List.setIfInBounds_toArray]); (repeat (first | simp only [List.set_cons_succ] | simp only [List.set_cons_zero]))
   refine wpAnyL_take (i := 1) (T := (fun w9 => Ext W8 w9)) (v := ?_) rfl (by kernel_rfl) (by kernel_rfl) (by kernel_rfl) (fun _ _ _ h => h) (fun _ _ _ _ hS => hS) (fun _ _ h => h) (fun _ _ h => h) (Or.inl ⟨by rfl, ?_⟩) hcl hS ?_
   rotate_left
   ·(intro w9 hw9; (try dsimp only at hw9); go_simp; try with_reducible rfl)
   clear hcl hS
   intro hcl hS
   (try simp only [Act.put]); (try simp only [List.setIfInBounds_toArray]); (repeat (first | simp only [List.set_cons_succ] | simp only [List.set_cons_zero]))
   refine wpAnyL_take (i := 2) (T := (fun w9 => Ext W8 w9)) (v := ?_) rfl (by kernel_rfl) (by kernel_rfl) (by kernel_rfl) (fun _ _ _ h => h) (fun _ _ _ _ hS => hS) (fun _ _ h => h) (fun _ _ h => h) (Or.inl ⟨by rfl, ?_⟩) hcl hS ?_
   rotate_left
   ·(intro w9 hw9; (try dsimp only at hw9); go_simp; try with_reducible rfl)
   clear hcl hS
   intro hcl hS
   (try simp only [Act.put]); (try simp only [List.setIfInBounds_toArray]); (repeat (first | simp only [List.set_cons_succ] | simp only [List.set_cons_zero]))
   refine wpAnyL_take (i := 3) (T := (fun w9 => Ext W8 w9)) (v := ?_) rfl (by kernel_rfl) (by kernel_rfl) (by kernel_rfl) (fun _ _ _ h => h) (fun _ _ _ _ hS => hS) (fun _ _ h => h) (fun _ _ h => h) (Or.inl ⟨by rfl, ?_⟩) hcl hS ?_
   rotate_left
   ·(intro w9 hw9; (try dsimp only at hw9); have z4 := hw9.cell (q8.c 4 rfl); have z5 := hw9.cell (q8.c 5 rfl); have z6 := hw9.cell (q8.c 6 rfl); have z7 := hw9.cell (q8.c 7 rfl); have z8 := hw9.cell (q8.c 8 rfl); have z9 := hw9.cell (q8.c 9 rfl); go_simp; try with_reducible rfl)
   clear hcl hS
   intro hcl hS
   (try simp only [Act.put]); (try simp only [List.setIfInBounds_toArray]); (repeat (first | simp only [List.set_cons_succ] | simp only [List.set_cons_zero]))
   refine wpAnyL_take (i := 4) (T := (fun w9 => Ext W8 w9)) (v := ?_) rfl (by kernel_rfl) (by kernel_rfl) (by kernel_rfl) (fun _ _ _ h => h) (fun _ _ _ _ hS => hS) (fun _ _ h => h) (fun _ _ h => h) (Or.inl ⟨by rfl, ?_⟩) hcl hS ?_
   rotate_left
   ·(intro w9 hw9; (try dsimp only at hw9); go_simp; try with_reducible rfl)
   clear hcl hS
   intro hcl hS
   (try simp only [Act.put]); (try simp only [List.setIfInBounds_toArray]); (repeat (first | simp only [List.set_cons_succ] | simp only [List.set_cons_zero]))
   refine wpAnyL_take (i := 5) (T := (fun w9 => Ext W8 w9)) (v := ?_) rfl (by kernel_rfl) (by kernel_rfl) (by kernel_rfl) (fun _ _ _ h => h) (fun _ _ _ _ hS => hS) (fun _ _ h => h) (fun _ _ h => h) (Or.inl ⟨by rfl, ?_⟩) hcl hS ?_
   rotate_left
   ·(intro w9 hw9; (try dsimp only at hw9); go_simp; try with_reducible rfl)
   clear hcl hS
   intro hcl hS
   (try simp only [Act.put]); (try simp only [List.setIfInBounds_toArray]); (repeat (first | simp only [List.set_cons_succ] | simp only [List.set_cons_zero]))
   refine wpAnyL_take (i := 6) (T := (fun w9 => Ext W8 w9)) (v := ?_) rfl (by kernel_rfl) (by kernel_rfl) (by kernel_rfl) (fun _ _ _ h => h) (fun _ _ _ _ hS => hS) (fun _ _ h => h) (fun _ _ h => h) (Or.inl ⟨by rfl, ?_⟩) hcl hS ?_
   rotate_left
   ·(intro w9 hw9; (try dsimp only at hw9); go_simp; try with_reducible rfl)
   clear hcl hS
   intro hcl hS
   (try simp only [Act.put]); (try simp only [List.setIfInBounds_toArray]); (repeat (first | simp only [List.set_cons_succ] | simp only [List.set_cons_zero]))
   refine wpAnyL_take (i := 7) (T := (fun w9 => Ext W8 w9)) (v := ?_) rfl (by kernel_rfl) (by kernel_rfl) (by kernel_rfl) (fun _ _ _ h => h) (fun _ _ _ _ hS => hS) (fun _ _ h => h) (fun _ _ h => h) (Or.inl ⟨by rfl, ?_⟩) hcl hS ?_
   rotate_left
   ·(intro w9 hw9; (try dsimp only at hw9); have z12 := hw9.cell (q8.c 12 rfl); have z13 := hw9.cell (q8.c 13 rfl); have z14 := hw9.cell (q8.c 14 rfl); have z15 := hw9.cell (q8.c 15 rfl); have z16 := hw9.cell (q8.c 16 rfl); have z17 := hw9.cell (q8.c 17 rfl); go_simp; try with_reducible rfl)
   clear hcl hS
   intro hcl hS
   (try simp only [Act.put]); (try simp only [List.setIfInBounds_toArray]); (repeat (first | simp only [List.set_cons_succ] | simp only [List.set_cons_zero]))
   refine wpAnyL_two (i := 8) (j := 9) (by kernel_rfl) rfl rfl rfl rfl hcl (fun K9 hK9 => ?_) (fun K9 hK9 => ?_)
   clear hS hcl
   go_simp
   refine hK9 _ _ (by exact ex) (fun hcl hS => ?_)
   clear hK9
   refine wpAnyL_only (i := 9) (by kernel_rfl) rfl rfl hcl (fun K9 hK9 => ?_)
   clear hS hcl
   go_simp
   refine hK9 _ _ (by exact ex) (fun hcl hS => ?_)
   clear hK9
   refine wpAnyL_nm (fun V1 hV1 => ?_)
   have b10 : BoxAt V1 (W8.heap.size) Zn 24 := by rw [hV1]; exact (BoxAt.new (W := W8) rfl Zn 24).mono (ex)
   have b11 : BoxAt V1 (W8.heap.size + 1) Zn 24 := by rw [hV1]; exact (BoxAt.new (W := W8.alloc (.cells Zn 24)) (by simp [go_sem]) Zn 24).mono (ex)
   have hxx : Ext W8 V1 := by rw [hV1]; exact (ex)
   clear hV1 hS
   obtain ⟨g10, hg10⟩ : ∃ g, g = W8.heap.size := ⟨_, rfl⟩
   obtain ⟨g11, hg11⟩ : ∃ g, g = W8.heap.size + 1 := ⟨_, rfl⟩
   rw [← hg11] at b11 ⊢
   rw [← hg10] at b10 ⊢
   have hge10 : W8.heap.size ≤ g10 := by omega
   have hge11 : W8.heap.size ≤ g11 := by omega
   have hne : g10 ≠ g11 := by omega
   clear hg10 hg11
   rotate_left
   clear hS hcl
   go_simp
   refine hK9 _ _ (by exact ex) (fun hcl hS => ?_)
   clear hK9
   refine wpAnyL_only (i := 8) (by kernel_rfl) rfl rfl hcl (fun K9 hK9 => ?_)
   clear hS hcl
   go_simp
   refine hK9 _ _ (by exact ex) (fun hcl hS => ?_)
   clear hK9
   refine wpAnyL_nm (fun V1 hV1 => ?_)
   have b10 : BoxAt V1 (W8.heap.size + 1) Zn 24 := by rw [hV1]; exact (BoxAt.new (W := W8.alloc (.cells Zn 24)) (by simp [go_sem]) Zn 24).mono (ex)
   have b11 : BoxAt V1 (W8.heap.size) Zn 24 := by rw [hV1]; exact (BoxAt.new (W := W8) rfl Zn 24).mono (ex)
   have hxx : Ext W8 V1 := by rw [hV1]; exact (ex)
   clear hV1 hS
   obtain ⟨g10, hg10⟩ : ∃ g, g = W8.heap.size + 1 := ⟨_, rfl⟩
   obtain ⟨g11, hg11⟩ : ∃ g, g = W8.heap.size := ⟨_, rfl⟩
   rw [← hg10] at b10 ⊢
   rw [← hg11] at b11 ⊢
   have hge10 : W8.heap.size ≤ g10 := by omega
   have hge11 : W8.heap.size ≤ g11 := by omega
   have hne : g10 ≠ g11 := by omega
   clear hg10 hg11
   rotate_left
   all_goals
    refine wpAnyL_store (i := 10) (by kernel_rfl) rfl rfl hcl 24 (.tmp 16) (.tmp 69) rfl b10 rfl (Ln u.a.node A1 a1) rfl rfl (show 6 < 44 by decide) (by kernel_rfl) (nodl_one u.a.node A1 a1) ?_; intro W1 ht1 hb1
    refine ⟨ht1.ext hxx hge10, fun hcl hS => ?_⟩
    clear hS
    refine wpAnyL_store (i := 11) (by kernel_rfl) rfl rfl hcl 24 (.tmp 17) (.tmp 73) rfl (b11.turn ht1 (Ne.symm hne)) rfl (Ln u.b.node B1 b1) rfl rfl (show 6 < 44 by decide) (by kernel_rfl) (nodl_one u.b.node B1 b1) ?_; intro W2 ht2 hb2
    have e2 : Ext W8 W2 := ht2.ext (ht1.ext hxx hge10) hge11
    refine ⟨e2, fun hcl hS => ?_⟩
    clear hcl hS
    have j1 := hb1.turn ht2 hne
    refine wpAnyL_done (by kernel_rfl) ?_ _
    have X2 : Ext w W2 := x8.trans e2
    have r2 := w8.mono e2
    obtain ⟨p0, p1, p2, p3, p4, p5⟩ := j1.six
    obtain ⟨r0, r1, s2, s3, s4, s5⟩ := hb2.six
    have HRA := Lib.hid r2.a
    have HRB := Lib.hid (show RecsAt W2 B1 b1 u.a.node.log from by have := r2.b; rwa [HBA.out] at this)
    clear r2 w8 q8 x8 e2 hxx b10 b11 hb1 hb2 ht1 ht2 j1
    go_wp2_with (first
     | (go_at_call 31; refine (l55_begins B1 b1 u.b.node.log.length A1 a1 u.a.node.log.length u.a.node.log (by rw [HLA.out, HLB.out]) rfl _ (HRB.out.mono (ex)) (HRA.out.mono (ex))).mono ?_; rintro e w' ⟨rfl, hx⟩; obtain ⟨ye, rfl⟩ := hx.get; clear hx)
     | (go_at_call 33; refine (l54_Of u.a.node A1 a1 _ (HRA.out.mono (ex)) (by omega)).mono ?_; rintro e w' ⟨A5, c5, rfl, hx, ho5⟩; have HO5 := Lib.hid (RetOf.recs ho5 (fun r hr => ((HRA.out.el r hr).mono (show Ext W2 _ from ex)).mono hx)); obtain ⟨yf, rfl⟩ := hx.get; clear hx ho5)
     | (go_at_call 32; refine (r54_Check u.a.node A5 c5 _ (HO5.out.mono (ex))).mono ?_; rintro e w' ⟨he, hx⟩; rw [HNE.out] at he; subst he; obtain ⟨yg, rfl⟩ := hx.get; clear hx)
     | (go_at_call 16; refine (l55_awake _).mono ?_; rintro e w' ⟨rfl, hx⟩; obtain ⟨y, rfl⟩ := hx.get; clear hx))
    go_ret
    exact ⟨rfl, X2.trans (ex)⟩
end Go.Proofs.YtmhinhgflehkaaaGreat
