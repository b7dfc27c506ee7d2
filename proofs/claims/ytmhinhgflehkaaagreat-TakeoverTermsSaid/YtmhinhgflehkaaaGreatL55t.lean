/-
 TakeoverTerms, walked.
-/
import Derived.Test.YtmhinhgflehkaaaGreatGawx
import Derived.Test.YtmhinhgflehkaaaGreatGrv
import Derived.Test.YtmhinhgflehkaaaGreatGdel
import Derived.Test.YtmhinhgflehkaaaGreatWk15
import Derived.Test.YtmhinhgflehkaaaGreatGtkf
import Derived.Test.YtmhinhgflehkaaaGreatDdw
namespace Go.Proofs.YtmhinhgflehkaaaGreat
set_option maxHeartbeats 12800000
set_option maxRecDepth 100000
open Go.RowKit

theorem l55_Terms (A0 : Option Addr) (k0 : Nat) (l : List Evt) (x1 x2 : Int) (w : World) (hs : EvtsAt w A0 k0 l) (hb : 0 ≤ x1 ∧ x1 ≤ 255) (hc : 0 ≤ x2 ∧ x2 ≤ 255) (hn : l.length * 576 ≤ 140737488355328) : Calls Tryz.prog 9 #[.slice A0 l.length k0, .int .u8 x1, .int .u8 x2] w fun e w' => e = .returned (.bool true) ∧ Ext w w' := by
 obtain ⟨hb0, hb1⟩ := hb
 obtain ⟨hc0, hc1⟩ := hc
 obtain ⟨p, hp⟩ : ∃ p, x1 % 4 = p := ⟨_, rfl⟩
 obtain ⟨q, hq⟩ : ∃ q, x2 % 4 = q := ⟨_, rfl⟩
 have hp0 : 0 ≤ p := by omega
 have hp1 : p < 4 := by omega
 have hq0 : 0 ≤ q := by omega
 have hq1 : q < 4 := by omega
 have hw1 : IntKind.i64.wrap p = p := IntWalk.i64_in _ (by omega)
 have hw2 : IntKind.i64.wrap q = q := IntWalk.i64_in _ (by omega)
 have HS := Lib.hid hs
 have HN := Lib.hid hn
 clear hs hn
 go_enter Tryz.func9, Tryz.ntmps9
 go_wp2_with fail
 go_at_call 43; refine (l55_right A0 k0 l _ (HS.out.mono (ex)) HN.out).mono ?_; rintro e w' ⟨⟨b, rfl, hb⟩, hx⟩; have HB := Lib.hid hb; obtain ⟨yr, rfl⟩ := hx.get; clear hx hb
 cases b with
 | false =>
  go_wp2_with (go_at_call 16; refine (l55_awake _).mono ?_; rintro e w' ⟨rfl, hx⟩; obtain ⟨y, rfl⟩ := hx.get; clear hx)
  go_ret
  exact ⟨rfl, ex⟩
 | true =>
  obtain ⟨h20, hez⟩ := HB.out rfl
  have HEZ := Lib.hid hez
  clear HB hez
  obtain ⟨v, hv⟩ : ∃ v, (newW (1 + p) (1 + q)).1 = v := ⟨_, rfl⟩
  have HV := Lib.hid hv
  have HOK := Lib.hid (show WldOk v by rw [← hv]; exact (newW_ok (by omega) (by omega) (by omega) (by omega)).2)
  have HNOW := Lib.hid (show v.now = 0 by rw [← hv]; unfold newW; rw [if_neg (by omega)])
  clear hv
  go_wp2_with (first
   | (go_at_call 17; refine (tak_New_at (by omega) (by omega) (by omega) (by omega) HV.out).mono ?_; rintro e w' ⟨A, a, B, b, M, m, rfl, hx, hw⟩; have HW := Lib.hid hw; obtain ⟨ya, rfl⟩ := hx.get; clear hx hw)
   | (refine wpList_store_top rfl 30 (.tmp 7) (.tmp 29) rfl rfl (by simp [go_sem]) (Lw v A a B b M m) rfl rfl (by kernel_rfl) (wld_one v A a B b M m) ?_))
  refine wp_name (fun W9 hW9 => ?_)
  obtain ⟨z, hz⟩ : ∃ z, w.heap.size + yr.n + ya.n = z := ⟨_, rfl⟩
  have q9 : BoxAt W9 (w.heap.size + yr.n + ya.n) (Lw v A a B b M m) 30 := by rw [hW9]; exact (by repeat (first | exact BoxAt.new (by first | rfl | (simp [go_sem]; done) | (simp [go_sem]; omega)) _ _ | apply BoxAt.xt | apply BoxAt.drew | apply BoxAt.drewN | apply BoxAt.alloc))
  rw [hz] at q9 ⊢
  have hzw : w.heap.size ≤ z := by omega
  have x9 : Ext w W9 := by rw [hW9]; exact (ex)
  have w9 := HW.out.mono (show Ext _ W9 from by rw [hW9]; exact ex)
  have HEL := Lib.hid HS.out.el
  clear hW9 hz
  go_loopw [33] (fun i wr => ∃ k : Nat, k ≤ 30 ∧ i = .int .i64 k ∧ Hid (Ext w wr) ∧ ∃ (A : Option Addr) (a : Nat) (B : Option Addr) (b : Nat) (M : Option Addr) (m : Nat) (xs : List (Ltr × Option Addr × Nat)), Hid (BoxAt wr z (Lw (seqW l v k) A a B b M m) 30) ∧ Hid (LogW w wr A (seqW l v k).a.node.log.length a (seqW l v k).a.node.log) ∧ Hid (LogW w wr B (seqW l v k).b.node.log.length b (seqW l v k).b.node.log) ∧ Hid (MailR w wr M m (seqW l v k).mail xs) ∧ Hid (OffZ M (xs.map ltrR) z)) (fun i _ => 30 - (intOf i).toNat)
  case atStart => exact ⟨0, by omega, rfl, Lib.hid (x9.trans (ex)), A, a, B, b, M, m, [], Lib.hid (q9.mono (ex)), Lib.hid ⟨(w9.a.sl).mono (ex), rfl, w9.a.le, w9.a.cap, (by have e := HV.out; unfold newW at e; rw [if_neg (by omega)] at e; show ∀ r ∈ v.a.node.log, _; rw [← e]; intro r hr; cases hr)⟩, Lib.hid ⟨(w9.b.sl).mono (ex), rfl, w9.b.le, w9.b.cap, (by have e := HV.out; unfold newW at e; rw [if_neg (by omega)] at e; show ∀ r ∈ v.b.node.log, _; rw [← e]; intro r hr; cases hr)⟩, Lib.hid ⟨Sl.nil _ _ _, (by show v.mail.length ≤ m; rw [← w9.is]; exact Nat.zero_le _), w9.mail.cap, w9.is, by intro x hx; cases hx⟩, Lib.hid (.inl rfl)⟩
  case round =>
   clear q9 w9 x9 HW HV
   obtain ⟨k, hk, rfl, HX, A, a, B, b, M, m, xs, HQ, HLA, HLB, HMR, HOF⟩ := hrel
   rename_i wr
   by_cases hlt : k < 30
   ·have hsq := seqW_ok (evtsE_ok HEZ.out) HOK.out k (by rw [HNOW.out]; omega)
    have hto := tickW_ok hsq.1 (atL_ok (evtsE_ok HEZ.out) (seqW l v k).now) (by rw [hsq.2.1, HNOW.out]; omega)
    have hnow : (seqW l v k).now = (k : Int) := by rw [hsq.2.1, HNOW.out]; omega
    have HSS := Lib.hid (show seqW l v (k + 1) = tickW (seqW l v k) (atL l (seqW l v k).now) from rfl)
    have hokc := hsq.1
    obtain ⟨c, hc⟩ : ∃ c, seqW l v k = c := ⟨_, rfl⟩
    rw [hc] at hto hnow hokc HSS HQ HLA HLB HMR
    rw [hnow] at hto HSS
    obtain ⟨u, hu⟩ : ∃ u, tickW c (atL l (k : Int)) = u := ⟨_, rfl⟩
    rw [hu] at hto HSS
    obtain ⟨hoku, hun, -, hta, htb⟩ := hto
    have HU := Lib.hid hu
    have HOC := Lib.hid hokc
    have HOU := Lib.hid hoku
    have HNC := Lib.hid hnow
    have t1 : decide (u.a.node.term < c.a.node.term) = false := decide_eq_false (by have := hta.term; omega)
    have t2 : decide (u.b.node.term < c.b.node.term) = false := decide_eq_false (by have := htb.term; omega)
    have t3 : (u.now != (k : Int) + 1) = false := by rw [hun]; simp
    have hap := hoku.apart
    have HAP := Lib.hid hap
    have hla := (HLA.out.recs HX.out (Ext.refl _)).len
    have hlb := (HLB.out.recs HX.out (Ext.refl _)).len
    have hml := hokc.len
    have hml2 := hoku.len
    have hb0 : (0 : Int) ≤ (k : Int) := by omega
    clear hsq hc hu hokc hoku hnow hun hta htb hap
    have c0 := HQ.out.row (n := 21) rfl
    go_wp2_with fail
    go_at_call 41; refine (Clone_E A0 k0 l _ ((HS.out.sl.mono HX.out).mono (ex)) HN.out).mono ?_; rintro e w' ⟨D, K, rfl, hx, ho⟩; have HO := Lib.hid ho; obtain ⟨yb, rfl⟩ := hx.get; clear hx ho
    go_wp2_with fail
    go_at_call 40; refine (DeleteFunc_Terms _ D K l _ (k : Int) _ (ex) HO.out HN.out (by simp [go_sem, *])).mono ?_; rintro e w' ⟨D2, K2, rfl, hx, ho⟩; rw [filter_at] at ho ⊢; have HO2 := Lib.hid ho; obtain ⟨yc, rfl⟩ := hx.get; clear hx ho
    have hl2 : (atL l (k : Int)).length ≤ l.length := List.length_filter_le _ _
    go_wp2_with fail
    go_at_call 34; refine (tak_TickZ (w0 := w) (HX.out.trans (ex)) HOC.out (HLA.out.mono (ex)) (HLB.out.mono (ex)) (HMR.out.mono (ex)) (l := atL l (k : Int)) ⟨HO2.out.sl.mono (ex), HO2.out.le, HO2.out.cap, fun x hx => ((HEL.out x (List.mem_filter.1 hx).1).mono HX.out).mono (ex)⟩ (fun x hx => HEL.out x (List.mem_filter.1 hx).1) (evtsE_filter HEZ.out _) (by rw [HNC.out]; omega) HU.out rfl).mono ?_; rintro e w' ⟨⟨A2, a2, B2, b2, M2, m2, xs2, rfl, hl1, hl3, hm3, hoz⟩, hx⟩; have HL1 := Lib.hid hl1; have HL3 := Lib.hid hl3; have HM3 := Lib.hid hm3; have HOZ := Lib.hid (hoz _ _ (HQ.out.mono (ex))); obtain ⟨yd, rfl⟩ := hx.get; clear hx hl1 hl3 hm3 hoz
    go_wp2_with (first
     | (refine wpList_store_top rfl 30 (.tmp 11) (.tmp 44) rfl rfl (by simp [go_sem]) (Lw u A2 a2 B2 b2 M2 m2) rfl rfl (by kernel_rfl) (wld_one u A2 a2 B2 b2 M2 m2) ?_)
     | (go_at_call 22; refine (tak_Check (w := u) (wldAt_of (w0 := w) (HL1.out.mono (ex)) (HL3.out.mono (ex)) (HM3.out.mono (ex)) (HX.out.trans (ex)))).mono ?_; rintro e w' ⟨he, hx⟩; rw [(wldE_iff u).2 HOU.out] at he; subst he; obtain ⟨ye, rfl⟩ := hx.get; clear hx))
    refine wp_name (fun W8 hW8 => ?_)
    have q8 : BoxAt W8 (wr.heap.size + 1 + yc.n + yd.n) (Lw u A2 a2 B2 b2 M2 m2) 30 := by rw [hW8]; exact (by repeat (first | exact BoxAt.new (by first | rfl | (simp [go_sem]; done) | (simp [go_sem]; omega)) _ _ | apply BoxAt.xt | apply BoxAt.drew | apply BoxAt.drewN | apply BoxAt.alloc))
    have x8 : Ext wr W8 := by rw [hW8]; exact (ex)
    have l8 := HL1.out.mono (show Ext _ W8 from by rw [hW8]; exact ex)
    have n8 := HL3.out.mono (show Ext _ W8 from by rw [hW8]; exact ex)
    have m8 := HM3.out.mono (show Ext _ W8 from by rw [hW8]; exact ex)
    have q7 := HQ.out.mono x8
    have X8 := HX.out.trans x8
    clear hW8 c0
    refine wp_region_L (S := fun _ w9 => Ext W8 w9) (by kernel_rfl) (ex) (fun hcl hS => ?_)
    refine wpAnyL_take (i := 0) (T := (fun w9 => Ext W8 w9)) (v := ?_) rfl (by kernel_rfl) (by kernel_rfl) (by kernel_rfl) (fun _ _ _ h => h) (fun _ _ _ _ hS => hS) (fun _ _ h => h) (fun _ _ h => h) (Or.inl ⟨by rfl, ?_⟩) hcl hS ?_
    rotate_left
    ·(intro w9 hw9; (try dsimp only at hw9); go_simp; try with_reducible rfl)
    clear hcl hS
    intro hcl hS
    (try simp only [Act.put]); (try simp only [List.setIfInBounds_toArray]); (repeat (first | simp only [List.set_cons_succ] | simp only [List.set_cons_zero]))
    refine wpAnyL_take (i := 1) (T := (fun w9 => Ext W8 w9)) (v := ?_) rfl (by kernel_rfl) (by kernel_rfl) (by kernel_rfl) (fun _ _ _ h => h) (fun _ _ _ _ hS => hS) (fun _ _ h => h) (fun _ _ h => h) (Or.inl ⟨by rfl, ?_⟩) hcl hS ?_
    rotate_left
    ·(intro w9 hw9; (try dsimp only at hw9); go_simp; try with_reducible rfl)
    clear hcl hS
    intro hcl hS
    (try simp only [Act.put]); (try simp only [List.setIfInBounds_toArray]); (repeat (first | simp only [List.set_cons_succ] | simp only [List.set_cons_zero]))
    refine wpAnyL_take (i := 2) (T := (fun w9 => Ext W8 w9)) (v := ?_) rfl (by kernel_rfl) (by kernel_rfl) (by kernel_rfl) (fun _ _ _ h => h) (fun _ _ _ _ hS => hS) (fun _ _ h => h) (fun _ _ h => h) (Or.inl ⟨by rfl, ?_⟩) hcl hS ?_
    rotate_left
    ·(intro w9 hw9; (try dsimp only at hw9); go_simp; try with_reducible rfl)
    clear hcl hS
    intro hcl hS
    (try simp only [Act.put]); (try simp only [List.setIfInBounds_toArray]); (repeat (first | simp only [List.set_cons_succ] | simp only [List.set_cons_zero]))
    refine wpAnyL_take (i := 3) (T := (fun w9 => Ext W8 w9)) (v := ?_) rfl (by kernel_rfl) (by kernel_rfl) (by kernel_rfl) (fun _ _ _ h => h) (fun _ _ _ _ hS => hS) (fun _ _ h => h) (fun _ _ h => h) (Or.inl ⟨by rfl, ?_⟩) hcl hS ?_
    rotate_left
    ·(intro w9 hw9; (try dsimp only at hw9); have z4 := hw9.cell (q8.c 4 rfl); have z5 := hw9.cell (q8.c 5 rfl); have z6 := hw9.cell (q8.c 6 rfl); have z7 := hw9.cell (q8.c 7 rfl); have z8 := hw9.cell (q8.c 8 rfl); have z9 := hw9.cell (q8.c 9 rfl); go_simp; try with_reducible rfl)
    clear hcl hS
    intro hcl hS
    (try simp only [Act.put]); (try simp only [List.setIfInBounds_toArray]); (repeat (first | simp only [List.set_cons_succ] | simp only [List.set_cons_zero]))
    refine wpAnyL_take (i := 4) (T := (fun w9 => Ext W8 w9)) (v := ?_) rfl (by kernel_rfl) (by kernel_rfl) (by kernel_rfl) (fun _ _ _ h => h) (fun _ _ _ _ hS => hS) (fun _ _ h => h) (fun _ _ h => h) (Or.inl ⟨by rfl, ?_⟩) hcl hS ?_
    rotate_left
    ·(intro w9 hw9; (try dsimp only at hw9); go_simp; try with_reducible rfl)
    clear hcl hS
    intro hcl hS
    (try simp only [Act.put]); (try simp only [List.setIfInBounds_toArray]); (repeat (first | simp only [List.set_cons_succ] | simp only [List.set_cons_zero]))
    refine wpAnyL_take (i := 5) (T := (fun w9 => Ext W8 w9)) (v := ?_) rfl (by kernel_rfl) (by kernel_rfl) (by kernel_rfl) (fun _ _ _ h => h) (fun _ _ _ _ hS => hS) (fun _ _ h => h) (fun _ _ h => h) (Or.inl ⟨by rfl, ?_⟩) hcl hS ?_
    rotate_left
    ·(intro w9 hw9; (try dsimp only at hw9); go_simp; try with_reducible rfl)
    clear hcl hS
    intro hcl hS
    (try simp only [Act.put]); (try simp only [List.setIfInBounds_toArray]); (repeat (first | simp only [List.set_cons_succ] | simp only [List.set_cons_zero]))
    refine wpAnyL_take (i := 6) (T := (fun w9 => Ext W8 w9)) (v := ?_) rfl (by kernel_rfl) (by kernel_rfl) (by kernel_rfl) (fun _ _ _ h => h) (fun _ _ _ _ hS => hS) (fun _ _ h => h) (fun _ _ h => h) (Or.inl ⟨by rfl, ?_⟩) hcl hS ?_
    rotate_left
    ·(intro w9 hw9; (try dsimp only at hw9); go_simp; try with_reducible rfl)
    clear hcl hS
    intro hcl hS
    (try simp only [Act.put]); (try simp only [List.setIfInBounds_toArray]); (repeat (first | simp only [List.set_cons_succ] | simp only [List.set_cons_zero]))
    refine wpAnyL_take (i := 7) (T := (fun w9 => Ext W8 w9)) (v := ?_) rfl (by kernel_rfl) (by kernel_rfl) (by kernel_rfl) (fun _ _ _ h => h) (fun _ _ _ _ hS => hS) (fun _ _ h => h) (fun _ _ h => h) (Or.inl ⟨by rfl, ?_⟩) hcl hS ?_
    rotate_left
    ·(intro w9 hw9; (try dsimp only at hw9); have z12 := hw9.cell (q8.c 12 rfl); have z13 := hw9.cell (q8.c 13 rfl); have z14 := hw9.cell (q8.c 14 rfl); have z15 := hw9.cell (q8.c 15 rfl); have z16 := hw9.cell (q8.c 16 rfl); have z17 := hw9.cell (q8.c 17 rfl); go_simp; try with_reducible rfl)
    clear hcl hS
    intro hcl hS
    (try simp only [Act.put]); (try simp only [List.setIfInBounds_toArray]); (repeat (first | simp only [List.set_cons_succ] | simp only [List.set_cons_zero]))
    refine wpAnyL_two (i := 8) (j := 9) (by kernel_rfl) rfl rfl rfl rfl hcl (fun K9 hK9 => ?_) (fun K9 hK9 => ?_)
    clear hS hcl
    go_simp
    refine hK9 _ _ (by exact ex) (fun hcl hS => ?_)
    clear hK9
    refine wpAnyL_only (i := 9) (by kernel_rfl) rfl rfl hcl (fun K9 hK9 => ?_)
    clear hS hcl
    go_simp
    refine hK9 _ _ (by exact ex) (fun hcl hS => ?_)
    clear hK9
    refine wpAnyL_nm (fun V1 hV1 => ?_)
    have b10 : BoxAt V1 (W8.heap.size) Zn 24 := by rw [hV1]; exact (BoxAt.new (W := W8) rfl Zn 24).mono (ex)
    have b11 : BoxAt V1 (W8.heap.size + 1) Zn 24 := by rw [hV1]; exact (BoxAt.new (W := W8.alloc (.cells Zn 24)) (by simp [go_sem]) Zn 24).mono (ex)
    have hxx : Ext W8 V1 := by rw [hV1]; exact (ex)
    clear hV1 hS
    obtain ⟨g10, hg10⟩ : ∃ g, g = W8.heap.size := ⟨_, rfl⟩
    obtain ⟨g11, hg11⟩ : ∃ g, g = W8.heap.size + 1 := ⟨_, rfl⟩
    rw [← hg11] at b11 ⊢
    rw [← hg10] at b10 ⊢
    have hge10 : W8.heap.size ≤ g10 := by omega
    have hge11 : W8.heap.size ≤ g11 := by omega
    have hne : g10 ≠ g11 := by omega
    clear hg10 hg11
    rotate_left
    clear hS hcl
    go_simp
    refine hK9 _ _ (by exact ex) (fun hcl hS => ?_)
    clear hK9
    refine wpAnyL_only (i := 8) (by kernel_rfl) rfl rfl hcl (fun K9 hK9 => ?_)
    clear hS hcl
    go_simp
    refine hK9 _ _ (by exact ex) (fun hcl hS => ?_)
    clear hK9
    refine wpAnyL_nm (fun V1 hV1 => ?_)
    have b10 : BoxAt V1 (W8.heap.size + 1) Zn 24 := by rw [hV1]; exact (BoxAt.new (W := W8.alloc (.cells Zn 24)) (by simp [go_sem]) Zn 24).mono (ex)
    have b11 : BoxAt V1 (W8.heap.size) Zn 24 := by rw [hV1]; exact (BoxAt.new (W := W8) rfl Zn 24).mono (ex)
    have hxx : Ext W8 V1 := by rw [hV1]; exact (ex)
    clear hV1 hS
    obtain ⟨g10, hg10⟩ : ∃ g, g = W8.heap.size + 1 := ⟨_, rfl⟩
    obtain ⟨g11, hg11⟩ : ∃ g, g = W8.heap.size := ⟨_, rfl⟩
    rw [← hg10] at b10 ⊢
    rw [← hg11] at b11 ⊢
    have hge10 : W8.heap.size ≤ g10 := by omega
    have hge11 : W8.heap.size ≤ g11 := by omega
    have hne : g10 ≠ g11 := by omega
    clear hg10 hg11
    rotate_left
    all_goals
     refine wpAnyL_store (i := 10) (by kernel_rfl) rfl rfl hcl 24 (.tmp 13) (.tmp 63) rfl b10 rfl (Ln u.a.node A2 a2) rfl rfl (show 6 < 44 by decide) (by kernel_rfl) (nodl_one u.a.node A2 a2) ?_; intro W1 ht1 hb1
     refine ⟨ht1.ext hxx hge10, fun hcl hS => ?_⟩
     clear hS
     refine wpAnyL_store (i := 11) (by kernel_rfl) rfl rfl hcl 24 (.tmp 14) (.tmp 67) rfl (b11.turn ht1 (Ne.symm hne)) rfl (Ln u.b.node B2 b2) rfl rfl (show 6 < 44 by decide) (by kernel_rfl) (nodl_one u.b.node B2 b2) ?_; intro W2 ht2 hb2
     have e2 : Ext W8 W2 := ht2.ext (ht1.ext hxx hge10) hge11
     refine ⟨e2, fun hcl hS => ?_⟩
     clear hcl hS
     have j1 := hb1.turn ht2 hne
     refine wpAnyL_done (by kernel_rfl) ?_ _
     have X2 : Ext w W2 := X8.trans e2
     have i8 := q8.mono e2
     have i7 := q7.mono e2
     have l9 := l8.mono e2
     have n9 := n8.mono e2
     have m9 := m8.mono e2
     obtain ⟨p0, p1, p2, p3, p4, p5⟩ := j1.six
     obtain ⟨r0, r1, s2, s3, s4, s5⟩ := hb2.six
     have d5:=i7.c 5 rfl;have d13:=i7.c 13 rfl
     have hrw := i8.row (n := 21) rfl
     clear q8 x8 l8 n8 m8 q7 X8 hxx b10 b11 ht1 ht2 hb1 hb2 j1 e2
     have hfin : ∀ W7, Turn z W2 W7 → BoxAt W7 z (Lw u A2 a2 B2 b2 M2 m2) 30 → Ext w W7 ∧ LogW w W7 A2 u.a.node.log.length a2 u.a.node.log ∧ LogW w W7 B2 u.b.node.log.length b2 u.b.node.log ∧ MailR w W7 M2 m2 u.mail xs2 := fun W7 ht _ => ⟨ht.ext X2 hzw, l9.turn ht, n9.turn ht, m9.off HOZ.out ht⟩
     have HFIN := Lib.hid hfin
     have HI7 := Lib.hid i7
     clear hfin i7 i8 l9 n9 m9
     cases ha : u.a.node.speaks with
     | false =>
      rw [ha] at p2
      clear ha
      go_wp2_with (refine wpList_store_at rfl 30 (.tmp 7) (.tmp 101) rfl (HI7.out.mono (ex)) rfl (Lw u A2 a2 B2 b2 M2 m2) rfl rfl (show 21 < 44 by decide) (by kernel_rfl) (wld_one u A2 a2 B2 b2 M2 m2) ?_; intro W7 ht7 hb7; have HT7 := Lib.hid ht7; clear ht7)
      go_light
      exact ⟨⟨k + 1, by omega, by go_num, Lib.hid ((HFIN.out _ HT7.out hb7).1.trans (ex)), A2, a2, B2, b2, M2, m2, xs2, Lib.hid (by rw [HSS.out]; exact hb7.mono (ex)), Lib.hid (by rw [HSS.out]; exact (HFIN.out _ HT7.out hb7).2.1.mono (ex)), Lib.hid (by rw [HSS.out]; exact (HFIN.out _ HT7.out hb7).2.2.1.mono (ex)), Lib.hid (by rw [HSS.out]; exact (HFIN.out _ HT7.out hb7).2.2.2.mono (ex)), HOZ⟩, by simp [intOf]; omega⟩
     | true =>
      cases hb : u.b.node.speaks with
      | false =>
       rw [ha] at p2
       rw [hb] at s2
       clear ha hb
       go_wp2_with (refine wpList_store_at rfl 30 (.tmp 7) (.tmp 101) rfl (HI7.out.mono (ex)) rfl (Lw u A2 a2 B2 b2 M2 m2) rfl rfl (show 21 < 44 by decide) (by kernel_rfl) (wld_one u A2 a2 B2 b2 M2 m2) ?_; intro W7 ht7 hb7; have HT7 := Lib.hid ht7; clear ht7)
       go_light
       exact ⟨⟨k + 1, by omega, by go_num, Lib.hid ((HFIN.out _ HT7.out hb7).1.trans (ex)), A2, a2, B2, b2, M2, m2, xs2, Lib.hid (by rw [HSS.out]; exact hb7.mono (ex)), Lib.hid (by rw [HSS.out]; exact (HFIN.out _ HT7.out hb7).2.1.mono (ex)), Lib.hid (by rw [HSS.out]; exact (HFIN.out _ HT7.out hb7).2.2.1.mono (ex)), Lib.hid (by rw [HSS.out]; exact (HFIN.out _ HT7.out hb7).2.2.2.mono (ex)), HOZ⟩, by simp [intOf]; omega⟩
      | true =>
       have t4 : (u.a.node.term == u.b.node.term) = false := by have := HAP.out ha hb; simpa using this
       rw [ha] at p2
       rw [hb] at s2
       clear ha hb
       go_wp2_with (refine wpList_store_at rfl 30 (.tmp 7) (.tmp 101) rfl (HI7.out.mono (ex)) rfl (Lw u A2 a2 B2 b2 M2 m2) rfl rfl (show 21 < 44 by decide) (by kernel_rfl) (wld_one u A2 a2 B2 b2 M2 m2) ?_; intro W7 ht7 hb7; have HT7 := Lib.hid ht7; clear ht7)
       go_light
       exact ⟨⟨k + 1, by omega, by go_num, Lib.hid ((HFIN.out _ HT7.out hb7).1.trans (ex)), A2, a2, B2, b2, M2, m2, xs2, Lib.hid (by rw [HSS.out]; exact hb7.mono (ex)), Lib.hid (by rw [HSS.out]; exact (HFIN.out _ HT7.out hb7).2.1.mono (ex)), Lib.hid (by rw [HSS.out]; exact (HFIN.out _ HT7.out hb7).2.2.1.mono (ex)), Lib.hid (by rw [HSS.out]; exact (HFIN.out _ HT7.out hb7).2.2.2.mono (ex)), HOZ⟩, by simp [intOf]; omega⟩
   ·have hd3 : decide ((k : Int) < 30) = false := decide_eq_false (by omega)
    obtain ⟨y9, rfl⟩ := HX.out.get
    go_wp2_with (go_at_call 16; refine (l55_awake _).mono ?_; rintro e w' ⟨rfl, hx⟩; obtain ⟨y, rfl⟩ := hx.get; clear hx)
    go_ret
    exact ⟨rfl, ex⟩
end Go.Proofs.YtmhinhgflehkaaaGreat
