/-
 Chapter 55: the examples.
-/
import Derived.Test.YtmhinhgflehkaaaGreatAwkX
import Derived.Test.YtmhinhgflehkaaaGreatGrpj
namespace Go.Proofs.YtmhinhgflehkaaaGreat
open Go.RowKit

set_option maxHeartbeats 12800000 in
set_option maxRecDepth 100000 in
theorem l55_awake (w : World) : Calls Tryz.prog 16 #[] w fun e w' => e = .returned (.bool true) ∧ Ext w w' := by
 obtain ⟨v, hv⟩ : ∃ v, Tk.aw = v := ⟨_, rfl⟩
 have HV := Lib.hid (show (newW 2 1).1 = v from hv)
 have hok : WldOk v := by rw [← hv]; exact Tk.aw_ok
 have hnow : v.now = 0 := by rw [← hv]; exact Tk.aw_now
 have e8 := Tk.aw_tr8
 have e14 := Tk.aw_tr14
 have es := Tk.aw_spk
 have f8 := Tk.aw_c8
 have f11 := Tk.aw_c11
 rw [hv] at e8 e14 es f8 f11
 have HT1 := Lib.hid (fun (V : World) (A : Option Addr) (a : Nat) (B : Option Addr) (b : Nat) (M : Option Addr) (m : Nat) (h : WldAt V v A a B b M m []) => (by have := tak_Trace (T := 8) (l := []) h hok (evtsAt_nil V) evtsE_nil (by decide) (by rw [hnow]; decide); rwa [e8] at this : Calls Tryz.prog 28 #[.agg #[.int .i64 v.now, .int .i64 v.limit, .int .i64 v.delay, .bool v.cut, .int .i64 v.a.node.id, .int .i64 v.a.node.term, .bool v.a.node.speaks, .slice A v.a.node.log.length a, .int .i64 v.a.node.acked, .int .i64 v.a.node.next, .bool v.a.up, .int .i64 v.a.quiet, .int .i64 v.b.node.id, .int .i64 v.b.node.term, .bool v.b.node.speaks, .slice B v.b.node.log.length b, .int .i64 v.b.node.acked, .int .i64 v.b.node.next, .bool v.b.up, .int .i64 v.b.quiet, .slice M v.mail.length m], .slice none 0 0, .int .i64 8] V fun e W1 => ∃ O ko, e = .returned (.tuple #[.slice O 8 ko, .int .i64 0]) ∧ Ext V W1 ∧ Sl W1 O 1 (([1, 1, 1, 1, 1, 1, 1, 1] : List Int).map intRw) ∧ 8 ≤ ko ∧ ko ≤ maxLen))
 have HT2 := Lib.hid (fun (V : World) (A : Option Addr) (a : Nat) (B : Option Addr) (b : Nat) (M : Option Addr) (m : Nat) (h : WldAt V v A a B b M m []) (E : Option Addr) (hs : Sl V E 48 ((Tk.soonL 5 10).map evtR)) => (by have := tak_Trace (T := 14) (l := Tk.soonL 5 10) h hok (evtsAt_two hs (acnN_at V) (acnN_at V)) (Tk.soonL_right (by omega) (by omega) (by omega)) (by decide) (by rw [hnow]; decide); rwa [e14] at this : Calls Tryz.prog 28 #[.agg #[.int .i64 v.now, .int .i64 v.limit, .int .i64 v.delay, .bool v.cut, .int .i64 v.a.node.id, .int .i64 v.a.node.term, .bool v.a.node.speaks, .slice A v.a.node.log.length a, .int .i64 v.a.node.acked, .int .i64 v.a.node.next, .bool v.a.up, .int .i64 v.a.quiet, .int .i64 v.b.node.id, .int .i64 v.b.node.term, .bool v.b.node.speaks, .slice B v.b.node.log.length b, .int .i64 v.b.node.acked, .int .i64 v.b.node.next, .bool v.b.up, .int .i64 v.b.quiet, .slice M v.mail.length m], .slice E 2 2, .int .i64 14] V fun e W1 => ∃ O ko, e = .returned (.tuple #[.slice O 14 ko, .int .i64 0]) ∧ Ext V W1 ∧ Sl W1 O 1 (([1, 1, 1, 1, 1, 0, 0, 2, 2, 2, 2, 2, 2, 2] : List Int).map intRw) ∧ 14 ≤ ko ∧ ko ≤ maxLen))
 obtain ⟨u, hu⟩ : ∃ x, seqW (Tk.cutL 5 9) v 8 = x := ⟨_, rfl⟩
 have HRu := Lib.hid (fun (V : World) (A : Option Addr) (a : Nat) (B : Option Addr) (b : Nat) (M : Option Addr) (m : Nat) (h : WldAt V v A a B b M m []) (E : Option Addr) (hs : Sl V E 48 ((Tk.cutL 5 9).map evtR)) => (by have := tak_Run (T := 8) (l := Tk.cutL 5 9) h hok (evtsAt_two hs (acnN_at V) (acnN_at V)) (Tk.cutL_right (by omega) (by omega) (by omega)) (by decide) (by rw [hnow]; decide); rwa [hu] at this : Calls Tryz.prog 30 #[.agg #[.int .i64 v.now, .int .i64 v.limit, .int .i64 v.delay, .bool v.cut, .int .i64 v.a.node.id, .int .i64 v.a.node.term, .bool v.a.node.speaks, .slice A v.a.node.log.length a, .int .i64 v.a.node.acked, .int .i64 v.a.node.next, .bool v.a.up, .int .i64 v.a.quiet, .int .i64 v.b.node.id, .int .i64 v.b.node.term, .bool v.b.node.speaks, .slice B v.b.node.log.length b, .int .i64 v.b.node.acked, .int .i64 v.b.node.next, .bool v.b.up, .int .i64 v.b.quiet, .slice M v.mail.length m], .slice E 2 2, .int .i64 8] V fun e W1 => (∃ A1 a1 B1 b1 M1 m1 xs1, e = .returned (.tuple #[.agg #[.int .i64 u.now, .int .i64 u.limit, .int .i64 u.delay, .bool u.cut, .int .i64 u.a.node.id, .int .i64 u.a.node.term, .bool u.a.node.speaks, .slice A1 u.a.node.log.length a1, .int .i64 u.a.node.acked, .int .i64 u.a.node.next, .bool u.a.up, .int .i64 u.a.quiet, .int .i64 u.b.node.id, .int .i64 u.b.node.term, .bool u.b.node.speaks, .slice B1 u.b.node.log.length b1, .int .i64 u.b.node.acked, .int .i64 u.b.node.next, .bool u.b.up, .int .i64 u.b.quiet, .slice M1 u.mail.length m1], .int .i64 0]) ∧ WldAt W1 u A1 a1 B1 b1 M1 m1 xs1) ∧ Ext V W1))
 obtain ⟨q, hq⟩ : ∃ x, seqW (Tk.cutL 5 9) v 11 = x := ⟨_, rfl⟩
 have HRq := Lib.hid (fun (V : World) (A : Option Addr) (a : Nat) (B : Option Addr) (b : Nat) (M : Option Addr) (m : Nat) (h : WldAt V v A a B b M m []) (E : Option Addr) (hs : Sl V E 48 ((Tk.cutL 5 9).map evtR)) => (by have := tak_Run (T := 11) (l := Tk.cutL 5 9) h hok (evtsAt_two hs (acnN_at V) (acnN_at V)) (Tk.cutL_right (by omega) (by omega) (by omega)) (by decide) (by rw [hnow]; decide); rwa [hq] at this : Calls Tryz.prog 30 #[.agg #[.int .i64 v.now, .int .i64 v.limit, .int .i64 v.delay, .bool v.cut, .int .i64 v.a.node.id, .int .i64 v.a.node.term, .bool v.a.node.speaks, .slice A v.a.node.log.length a, .int .i64 v.a.node.acked, .int .i64 v.a.node.next, .bool v.a.up, .int .i64 v.a.quiet, .int .i64 v.b.node.id, .int .i64 v.b.node.term, .bool v.b.node.speaks, .slice B v.b.node.log.length b, .int .i64 v.b.node.acked, .int .i64 v.b.node.next, .bool v.b.up, .int .i64 v.b.quiet, .slice M v.mail.length m], .slice E 2 2, .int .i64 11] V fun e W1 => (∃ A1 a1 B1 b1 M1 m1 xs1, e = .returned (.tuple #[.agg #[.int .i64 q.now, .int .i64 q.limit, .int .i64 q.delay, .bool q.cut, .int .i64 q.a.node.id, .int .i64 q.a.node.term, .bool q.a.node.speaks, .slice A1 q.a.node.log.length a1, .int .i64 q.a.node.acked, .int .i64 q.a.node.next, .bool q.a.up, .int .i64 q.a.quiet, .int .i64 q.b.node.id, .int .i64 q.b.node.term, .bool q.b.node.speaks, .slice B1 q.b.node.log.length b1, .int .i64 q.b.node.acked, .int .i64 q.b.node.next, .bool q.b.up, .int .i64 q.b.quiet, .slice M1 q.mail.length m1], .int .i64 0]) ∧ WldAt W1 q A1 a1 B1 b1 M1 m1 xs1) ∧ Ext V W1))
 rw [hu] at f8 es
 rw [hq] at f11
 obtain ⟨fa1, fa2, fb1, fb2, -⟩ := f8
 obtain ⟨ga1, gb1⟩ := f11
 have HSP := Lib.hid (fun (V : World) (A : Option Addr) (a : Nat) (B : Option Addr) (b : Nat) (M : Option Addr) (m : Nat) (xs : List (Ltr × Option Addr × Nat)) (h : WldAt V u A a B b M m xs) => (by have := tak_Speaker h; rwa [es] at this : Calls Tryz.prog 19 #[.agg #[.int .i64 u.now, .int .i64 u.limit, .int .i64 u.delay, .bool u.cut, .int .i64 u.a.node.id, .int .i64 u.a.node.term, .bool u.a.node.speaks, .slice A u.a.node.log.length a, .int .i64 u.a.node.acked, .int .i64 u.a.node.next, .bool u.a.up, .int .i64 u.a.quiet, .int .i64 u.b.node.id, .int .i64 u.b.node.term, .bool u.b.node.speaks, .slice B u.b.node.log.length b, .int .i64 u.b.node.acked, .int .i64 u.b.node.next, .bool u.b.up, .int .i64 u.b.quiet, .slice M u.mail.length m]] V fun e W1 => e = .returned (.tuple #[.int .i64 2, .int .i64 0]) ∧ Ext V W1))
 have FA1 := Lib.hid fa1
 have FA2 := Lib.hid fa2
 have FB1 := Lib.hid fb1
 have FB2 := Lib.hid fb2
 have GA1 := Lib.hid ga1
 have GB1 := Lib.hid gb1
 clear hv hok hnow e8 e14 es hu hq fa1 fa2 fb1 fb2 ga1 gb1
 go_enter Tryz.func16, Tryz.ntmps16
 go_wp2_with (first
  | (go_at_call 17; refine (tak_New_at (by omega) (by omega) (by omega) (by omega) HV.out).mono ?_; rintro e w' ⟨A, a, B, b, M, m, rfl, hx, hw⟩; have HW := Lib.hid hw; obtain ⟨ya, rfl⟩ := hx.get; clear hx hw)
  | (refine wpList_store_top rfl 30 (.tmp 1) (.tmp 17) rfl rfl (by simp [go_sem]) [.int .i64 v.now, .int .i64 v.limit, .int .i64 v.delay, .bool v.cut, .int .i64 v.a.node.id, .int .i64 v.a.node.term, .bool v.a.node.speaks, .slice A v.a.node.log.length a, .int .i64 v.a.node.acked, .int .i64 v.a.node.next, .bool v.a.up, .int .i64 v.a.quiet, .int .i64 v.b.node.id, .int .i64 v.b.node.term, .bool v.b.node.speaks, .slice B v.b.node.log.length b, .int .i64 v.b.node.acked, .int .i64 v.b.node.next, .bool v.b.up, .int .i64 v.b.quiet, .slice M v.mail.length m] rfl rfl (by kernel_rfl) (wld_one v A a B b M m) ?_))
 go_at_call 28; refine (HT1.out _ A a B b M m (HW.out.mono (ex))).mono ?_; rintro e w' ⟨O1, k1, rfl, hx, hsl, -, hkm1⟩; have HO1 := Lib.hid hsl; obtain ⟨yb, rfl⟩ := hx.get; clear hx hsl
 go_wp2_with fail
 refine wp_name (fun W9 hW9 => ?_)
 have q9 : BoxAt W9 (w.heap.size + ya.n) [.int .i64 v.now, .int .i64 v.limit, .int .i64 v.delay, .bool v.cut, .int .i64 v.a.node.id, .int .i64 v.a.node.term, .bool v.a.node.speaks, .slice A v.a.node.log.length a, .int .i64 v.a.node.acked, .int .i64 v.a.node.next, .bool v.a.up, .int .i64 v.a.quiet, .int .i64 v.b.node.id, .int .i64 v.b.node.term, .bool v.b.node.speaks, .slice B v.b.node.log.length b, .int .i64 v.b.node.acked, .int .i64 v.b.node.next, .bool v.b.up, .int .i64 v.b.quiet, .slice M v.mail.length m] 30 := by rw [hW9]; exact (by repeat (first | exact BoxAt.new (by first | rfl | (simp [go_sem]; done) | (simp [go_sem]; omega)) _ _ | apply BoxAt.xt | apply BoxAt.drew | apply BoxAt.drewN | apply BoxAt.alloc))
 have x9 : Ext w W9 := by rw [hW9]; exact (ex)
 have w9 := HW.out.mono (show Ext _ W9 from by rw [hW9]; exact ex)
 have o1 := HO1.out.mono (show Ext _ W9 from by rw [hW9]; exact ex)
 clear hW9
 refine wp_region_L (S := fun _ w9 => Ext W9 w9) (by kernel_rfl) (ex) (fun hcl hS => ?_)
 refine wpAnyL_take (i := 0) (T := (fun w9 => Ext W9 w9)) (v := ?_) rfl (by kernel_rfl) (by kernel_rfl) (by kernel_rfl) (fun _ _ _ h => h) (fun _ _ _ _ hS => hS) (fun _ _ h => h) (fun _ _ h => h) (Or.inl ⟨by rfl, ?_⟩) hcl hS ?_
 rotate_left
 ·(intro w9 hw9; (try dsimp only at hw9); have z9 := (q9.mono hw9).row (n := 21) rfl; go_simp; try with_reducible rfl)
 clear hcl hS
 intro hcl hS
 (try simp only [Act.put]); (try simp only [List.setIfInBounds_toArray]); (repeat (first | simp only [List.set_cons_succ] | simp only [List.set_cons_zero]))
 refine wpAnyL_take (i := 2) (T := (fun w9 => Ext W9 w9)) (v := ?_) rfl (by kernel_rfl) (by kernel_rfl) (by kernel_rfl) (fun _ _ _ h => h) (fun _ _ _ _ hS => hS) (fun _ _ h => h) (fun _ _ h => h) (Or.inl ⟨by rfl, ?_⟩) hcl hS ?_
 rotate_left
 ·(intro w9 hw9; (try dsimp only at hw9); go_simp; try with_reducible rfl)
 clear hcl hS
 intro hcl hS
 (try simp only [Act.put]); (try simp only [List.setIfInBounds_toArray]); (repeat (first | simp only [List.set_cons_succ] | simp only [List.set_cons_zero]))
 refine wpAnyL_only (i := 1) (by kernel_rfl) rfl rfl hcl (fun K9 hK9 => ?_)
 clear hS hcl
 go_simp
 go_at_call 29; refine (l55_down 5 1 _).mono ?_; rintro e w' ⟨rfl, hx⟩; obtain ⟨yc, rfl⟩ := hx.get; clear hx
 refine hK9 _ _ (by exact ex) (fun hcl hS => ?_)
 clear hK9
 refine wpAnyL_only (i := 3) (by kernel_rfl) rfl rfl hcl (fun K9 hK9 => ?_)
 clear hS hcl
 go_simp
 refine hK9 _ _ (by exact ex) (fun hcl hS => ?_)
 clear hK9
 refine wpAnyL_only (i := 4) (by kernel_rfl) rfl rfl hcl (fun K9 hK9 => ?_)
 clear hS hcl
 go_simp
 go_at_call 28; refine (HT2.out _ A a B b M m (w9.mono (ex)) _ (sl_two (by simp [go_sem]))).mono ?_; rintro e w' ⟨O2, k2, rfl, hx, hsl, -, hkm2⟩; have HO2 := Lib.hid hsl; obtain ⟨yd, rfl⟩ := hx.get; clear hx hsl
 refine hK9 _ _ (by exact ex) (fun hcl hS => ?_)
 clear hK9
 refine wpAnyL_only (i := 5) (by kernel_rfl) rfl rfl hcl (fun K9 hK9 => ?_)
 clear hS hcl
 go_simp
 refine hK9 _ _ (by exact ex) (fun hcl hS => ?_)
 clear hK9
 refine wpAnyL_take (i := 6) (T := (fun w9 => Ext W9 w9)) (v := ?_) rfl (by kernel_rfl) (by kernel_rfl) (by kernel_rfl) (fun _ _ _ h => h) (fun _ _ _ _ hS => hS) (fun _ _ h => h) (fun _ _ h => h) (Or.inl ⟨by rfl, ?_⟩) hcl hS ?_
 rotate_left
 ·(intro w9 hw9; (try dsimp only at hw9); go_simp; try with_reducible rfl)
 clear hcl hS
 intro hcl hS
 (try simp only [Act.put]); (try simp only [List.setIfInBounds_toArray]); (repeat (first | simp only [List.set_cons_succ] | simp only [List.set_cons_zero]))
 refine wpAnyL_take (i := 7) (T := (fun w9 => Ext W9 w9)) (v := ?_) rfl (by kernel_rfl) (by kernel_rfl) (by kernel_rfl) (fun _ _ _ h => h) (fun _ _ _ _ hS => hS) (fun _ _ h => h) (fun _ _ h => h) (Or.inl ⟨by rfl, ?_⟩) hcl hS ?_
 rotate_left
 ·(intro w9 hw9; (try dsimp only at hw9); go_simp; try with_reducible rfl)
 clear hcl hS
 intro hcl hS
 (try simp only [Act.put]); (try simp only [List.setIfInBounds_toArray]); (repeat (first | simp only [List.set_cons_succ] | simp only [List.set_cons_zero]))
 refine wpAnyL_only (i := 8) (by kernel_rfl) rfl rfl hcl (fun K9 hK9 => ?_)
 clear hS hcl
 go_simp
 refine hK9 _ _ (by exact ex) (fun hcl hS => ?_)
 clear hK9
 refine wpAnyL_only (i := 9) (by kernel_rfl) rfl rfl hcl (fun K9 hK9 => ?_)
 clear hS hcl
 go_simp
 refine hK9 _ _ (by exact ex) (fun hcl hS => ?_)
 clear hK9
 clear hcl hS
 refine wpAnyL_done (by kernel_rfl) ?_ _
 have q8 := q9.row (n := 21) rfl
 go_wp2_with fail
 go_at_call 30; refine (HRu.out _ A a B b M m (w9.mono (ex)) _ (sl_two (by simp [go_sem]))).mono ?_; rintro e w' ⟨⟨A1, a1, B1, b1, M1, m1, xs1, rfl, hw1⟩, hx⟩; have HW1 := Lib.hid hw1; obtain ⟨ye, rfl⟩ := hx.get; clear hx hw1
 go_wp2_with (refine wpList_store_top rfl 30 (.tmp 7) (.tmp 38) rfl rfl (by simp [go_sem]) [.int .i64 u.now, .int .i64 u.limit, .int .i64 u.delay, .bool u.cut, .int .i64 u.a.node.id, .int .i64 u.a.node.term, .bool u.a.node.speaks, .slice A1 u.a.node.log.length a1, .int .i64 u.a.node.acked, .int .i64 u.a.node.next, .bool u.a.up, .int .i64 u.a.quiet, .int .i64 u.b.node.id, .int .i64 u.b.node.term, .bool u.b.node.speaks, .slice B1 u.b.node.log.length b1, .int .i64 u.b.node.acked, .int .i64 u.b.node.next, .bool u.b.up, .int .i64 u.b.quiet, .slice M1 u.mail.length m1] rfl rfl (by kernel_rfl) (wld_one u A1 a1 B1 b1 M1 m1) ?_; refine wpList_nm (fun W5 hW5 => ?_); have k5 : BoxAt W5 (W9.heap.size + yc.n + 1 + yd.n + 1 + ye.n) [.int .i64 u.now, .int .i64 u.limit, .int .i64 u.delay, .bool u.cut, .int .i64 u.a.node.id, .int .i64 u.a.node.term, .bool u.a.node.speaks, .slice A1 u.a.node.log.length a1, .int .i64 u.a.node.acked, .int .i64 u.a.node.next, .bool u.a.up, .int .i64 u.a.quiet, .int .i64 u.b.node.id, .int .i64 u.b.node.term, .bool u.b.node.speaks, .slice B1 u.b.node.log.length b1, .int .i64 u.b.node.acked, .int .i64 u.b.node.next, .bool u.b.up, .int .i64 u.b.quiet, .slice M1 u.mail.length m1] 30 := (by rw [hW5]; exact BoxAt.new (by simp [go_sem]) _ _); have x5 : Ext W9 W5 := (by rw [hW5]; exact ex); have HW5 := Lib.hid (HW1.out.mono (show Ext _ W5 from (by rw [hW5]; exact ex))); have HO5 := Lib.hid (HO2.out.mono (show Ext _ W5 from (by rw [hW5]; exact ex))); clear hW5; replace q8 := rowQ_ext x5 q8)
 go_at_call 30; refine (HRq.out _ A a B b M m ((w9.mono x5).mono (ex)) _ (sl_two (by simp [go_sem]))).mono ?_; rintro e w' ⟨⟨A2, a2, B2, b2, M2, m2, xs2, rfl, hw2⟩, hx⟩; have HW2 := Lib.hid hw2; obtain ⟨yf, rfl⟩ := hx.get; clear hx hw2
 go_wp2_with (refine wpList_store_top rfl 30 (.tmp 9) (.tmp 46) rfl rfl (by simp [go_sem]) [.int .i64 q.now, .int .i64 q.limit, .int .i64 q.delay, .bool q.cut, .int .i64 q.a.node.id, .int .i64 q.a.node.term, .bool q.a.node.speaks, .slice A2 q.a.node.log.length a2, .int .i64 q.a.node.acked, .int .i64 q.a.node.next, .bool q.a.up, .int .i64 q.a.quiet, .int .i64 q.b.node.id, .int .i64 q.b.node.term, .bool q.b.node.speaks, .slice B2 q.b.node.log.length b2, .int .i64 q.b.node.acked, .int .i64 q.b.node.next, .bool q.b.up, .int .i64 q.b.quiet, .slice M2 q.mail.length m2] rfl rfl (by kernel_rfl) (wld_one q A2 a2 B2 b2 M2 m2) ?_; refine wpList_nm (fun W4 hW4 => ?_); have k4 : BoxAt W4 (W5.heap.size + 1 + yf.n) [.int .i64 q.now, .int .i64 q.limit, .int .i64 q.delay, .bool q.cut, .int .i64 q.a.node.id, .int .i64 q.a.node.term, .bool q.a.node.speaks, .slice A2 q.a.node.log.length a2, .int .i64 q.a.node.acked, .int .i64 q.a.node.next, .bool q.a.up, .int .i64 q.a.quiet, .int .i64 q.b.node.id, .int .i64 q.b.node.term, .bool q.b.node.speaks, .slice B2 q.b.node.log.length b2, .int .i64 q.b.node.acked, .int .i64 q.b.node.next, .bool q.b.up, .int .i64 q.b.quiet, .slice M2 q.mail.length m2] 30 := (by rw [hW4]; exact BoxAt.new (by simp [go_sem]) _ _); have x4 : Ext W5 W4 := (by rw [hW4]; exact ex); clear hW4; have k6 := (k5.mono x4).row (n := 21) rfl; have o4 := (o1.mono x5).mono x4; have p4 := HO5.out.mono x4; have w4 := HW5.out.mono x4)
 go_at_call 19; refine (HSP.out _ A1 a1 B1 b1 M1 m1 xs1 (w4.mono (ex))).mono ?_; rintro e w' ⟨rfl, hx⟩; obtain ⟨yg, rfl⟩ := hx.get; clear hx
 go_wp2_with fail
 go_at_call 38; refine (Equal_I_refl O1 k1 _ _ 8 [1, 1, 1, 1, 1, 1, 1, 1] rfl _ (o4.mono (ex)) (Sl.alloc' (by simp [go_sem]) (by simp [intRw]) (by simp [intRw])) (by unfold maxLen; decide)).mono ?_; rintro e w' ⟨rfl, hx⟩; obtain ⟨yh, rfl⟩ := hx.get; clear hx
 go_wp2_with fail
 go_at_call 38; refine (Equal_I_refl O2 k2 _ _ 14 [1, 1, 1, 1, 1, 0, 0, 2, 2, 2, 2, 2, 2, 2] rfl _ (p4.mono (ex)) (Sl.alloc' (by simp [go_sem]) (by simp [intRw]) (by simp [intRw])) (by unfold maxLen; decide)).mono ?_; rintro e w' ⟨rfl, hx⟩; obtain ⟨yi, rfl⟩ := hx.get; clear hx
 go_wp2_with fail
 refine wp_name (fun W7 hW7 => ?_)
 have x6 : Ext W4 W7 := by rw [hW7]; exact (ex)
 have k7 := (k5.mono x4).mono x6
 have k8 := k4.mono x6
 have x7 : Ext w W7 := ((x9.trans x5).trans x4).trans x6
 clear hW7 q8 k6 o4 p4 w4 o1 w9 q9 k5 k4
 refine wp_region_L (S := fun _ w9 => Ext W7 w9) (by kernel_rfl) (ex) (fun hcl hS => ?_)
 refine wpAnyL_take (i := 0) (T := (fun w9 => Ext W7 w9)) (v := ?_) rfl (by kernel_rfl) (by kernel_rfl) (by kernel_rfl) (fun _ _ _ h => h) (fun _ _ _ _ hS => hS) (fun _ _ h => h) (fun _ _ h => h) (Or.inl ⟨by rfl, ?_⟩) hcl hS ?_
 rotate_left
 ·(intro w9 hw9; (try dsimp only at hw9); go_simp; try with_reducible rfl)
 clear hcl hS
 intro hcl hS
 (try simp only [Act.put]); (try simp only [List.setIfInBounds_toArray]); (repeat (first | simp only [List.set_cons_succ] | simp only [List.set_cons_zero]))
 refine wpAnyL_take (i := 1) (T := (fun w9 => Ext W7 w9)) (v := ?_) rfl (by kernel_rfl) (by kernel_rfl) (by kernel_rfl) (fun _ _ _ h => h) (fun _ _ _ _ hS => hS) (fun _ _ h => h) (fun _ _ h => h) (Or.inl ⟨by rfl, ?_⟩) hcl hS ?_
 rotate_left
 ·(intro w9 hw9; (try dsimp only at hw9); go_simp; try with_reducible rfl)
 clear hcl hS
 intro hcl hS
 (try simp only [Act.put]); (try simp only [List.setIfInBounds_toArray]); (repeat (first | simp only [List.set_cons_succ] | simp only [List.set_cons_zero]))
 refine wpAnyL_take (i := 2) (T := (fun w9 => Ext W7 w9)) (v := ?_) rfl (by kernel_rfl) (by kernel_rfl) (by kernel_rfl) (fun _ _ _ h => h) (fun _ _ _ _ hS => hS) (fun _ _ h => h) (fun _ _ h => h) (Or.inl ⟨by rfl, ?_⟩) hcl hS ?_
 rotate_left
 ·(intro w9 hw9; (try dsimp only at hw9); go_simp; try with_reducible rfl)
 clear hcl hS
 intro hcl hS
 (try simp only [Act.put]); (try simp only [List.setIfInBounds_toArray]); (repeat (first | simp only [List.set_cons_succ] | simp only [List.set_cons_zero]))
 refine wpAnyL_take (i := 3) (T := (fun w9 => Ext W7 w9)) (v := ?_) rfl (by kernel_rfl) (by kernel_rfl) (by kernel_rfl) (fun _ _ _ h => h) (fun _ _ _ _ hS => hS) (fun _ _ h => h) (fun _ _ h => h) (Or.inl ⟨by rfl, ?_⟩) hcl hS ?_
 rotate_left
 ·(intro w9 hw9; (try dsimp only at hw9); have z4 := hw9.cell (k7.c 4 rfl); have z5 := hw9.cell (k7.c 5 rfl); have z6 := hw9.cell (k7.c 6 rfl); have z7 := hw9.cell (k7.c 7 rfl); have z8 := hw9.cell (k7.c 8 rfl); have z9 := hw9.cell (k7.c 9 rfl); go_simp; try with_reducible rfl)
 clear hcl hS
 intro hcl hS
 (try simp only [Act.put]); (try simp only [List.setIfInBounds_toArray]); (repeat (first | simp only [List.set_cons_succ] | simp only [List.set_cons_zero]))
 refine wpAnyL_take (i := 4) (T := (fun w9 => Ext W7 w9)) (v := ?_) rfl (by kernel_rfl) (by kernel_rfl) (by kernel_rfl) (fun _ _ _ h => h) (fun _ _ _ _ hS => hS) (fun _ _ h => h) (fun _ _ h => h) (Or.inl ⟨by rfl, ?_⟩) hcl hS ?_
 rotate_left
 ·(intro w9 hw9; (try dsimp only at hw9); go_simp; try with_reducible rfl)
 clear hcl hS
 intro hcl hS
 (try simp only [Act.put]); (try simp only [List.setIfInBounds_toArray]); (repeat (first | simp only [List.set_cons_succ] | simp only [List.set_cons_zero]))
 refine wpAnyL_take (i := 5) (T := (fun w9 => Ext W7 w9)) (v := ?_) rfl (by kernel_rfl) (by kernel_rfl) (by kernel_rfl) (fun _ _ _ h => h) (fun _ _ _ _ hS => hS) (fun _ _ h => h) (fun _ _ h => h) (Or.inl ⟨by rfl, ?_⟩) hcl hS ?_
 rotate_left
 ·(intro w9 hw9; (try dsimp only at hw9); go_simp; try with_reducible rfl)
 clear hcl hS
 intro hcl hS
 (try simp only [Act.put]); (try simp only [List.setIfInBounds_toArray]); (repeat (first | simp only [List.set_cons_succ] | simp only [List.set_cons_zero]))
 refine wpAnyL_take (i := 6) (T := (fun w9 => Ext W7 w9)) (v := ?_) rfl (by kernel_rfl) (by kernel_rfl) (by kernel_rfl) (fun _ _ _ h => h) (fun _ _ _ _ hS => hS) (fun _ _ h => h) (fun _ _ h => h) (Or.inl ⟨by rfl, ?_⟩) hcl hS ?_
 rotate_left
 ·(intro w9 hw9; (try dsimp only at hw9); go_simp; try with_reducible rfl)
 clear hcl hS
 intro hcl hS
 (try simp only [Act.put]); (try simp only [List.setIfInBounds_toArray]); (repeat (first | simp only [List.set_cons_succ] | simp only [List.set_cons_zero]))
 refine wpAnyL_take (i := 7) (T := (fun w9 => Ext W7 w9)) (v := ?_) rfl (by kernel_rfl) (by kernel_rfl) (by kernel_rfl) (fun _ _ _ h => h) (fun _ _ _ _ hS => hS) (fun _ _ h => h) (fun _ _ h => h) (Or.inl ⟨by rfl, ?_⟩) hcl hS ?_
 rotate_left
 ·(intro w9 hw9; (try dsimp only at hw9); have z12 := hw9.cell (k7.c 12 rfl); have z13 := hw9.cell (k7.c 13 rfl); have z14 := hw9.cell (k7.c 14 rfl); have z15 := hw9.cell (k7.c 15 rfl); have z16 := hw9.cell (k7.c 16 rfl); have z17 := hw9.cell (k7.c 17 rfl); go_simp; try with_reducible rfl)
 clear hcl hS
 intro hcl hS
 (try simp only [Act.put]); (try simp only [List.setIfInBounds_toArray]); (repeat (first | simp only [List.set_cons_succ] | simp only [List.set_cons_zero]))
 refine wpAnyL_two (i := 8) (j := 9) (by kernel_rfl) rfl rfl rfl rfl hcl (fun K9 hK9 => ?_) (fun K9 hK9 => ?_)
 clear hS hcl
 go_simp
 refine hK9 _ _ (by exact ex) (fun hcl hS => ?_)
 clear hK9
 refine wpAnyL_only (i := 9) (by kernel_rfl) rfl rfl hcl (fun K9 hK9 => ?_)
 clear hS hcl
 go_simp
 refine hK9 _ _ (by exact ex) (fun hcl hS => ?_)
 clear hK9
 refine wpAnyL_nm (fun V1 hV1 => ?_)
 have b10 : BoxAt V1 (W7.heap.size) [.int .i64 0, .int .i64 0, .bool false, .slice none 0 0, .int .i64 0, .int .i64 0] 24 := by rw [hV1]; exact (BoxAt.new (W := W7) rfl [.int .i64 0, .int .i64 0, .bool false, .slice none 0 0, .int .i64 0, .int .i64 0] 24).mono (ex)
 have b11 : BoxAt V1 (W7.heap.size + 1) [.int .i64 0, .int .i64 0, .bool false, .slice none 0 0, .int .i64 0, .int .i64 0] 24 := by rw [hV1]; exact (BoxAt.new (W := W7.alloc (.cells #[.int .i64 0, .int .i64 0, .bool false, .slice none 0 0, .int .i64 0, .int .i64 0] 24)) (by simp [go_sem]) [.int .i64 0, .int .i64 0, .bool false, .slice none 0 0, .int .i64 0, .int .i64 0] 24).mono (ex)
 have hxx : Ext W7 V1 := by rw [hV1]; exact (ex)
 clear hV1 hS
 obtain ⟨g10, hg10⟩ : ∃ g, g = W7.heap.size := ⟨_, rfl⟩
 obtain ⟨g11, hg11⟩ : ∃ g, g = W7.heap.size + 1 := ⟨_, rfl⟩
 rw [← hg11] at b11 ⊢
 rw [← hg10] at b10 ⊢
 have hge10 : W7.heap.size ≤ g10 := by omega
 have hge11 : W7.heap.size ≤ g11 := by omega
 have hne : g10 ≠ g11 := by omega
 clear hg10 hg11
 rotate_left
 clear hS hcl
 go_simp
 refine hK9 _ _ (by exact ex) (fun hcl hS => ?_)
 clear hK9
 refine wpAnyL_only (i := 8) (by kernel_rfl) rfl rfl hcl (fun K9 hK9 => ?_)
 clear hS hcl
 go_simp
 refine hK9 _ _ (by exact ex) (fun hcl hS => ?_)
 clear hK9
 refine wpAnyL_nm (fun V1 hV1 => ?_)
 have b10 : BoxAt V1 (W7.heap.size + 1) [.int .i64 0, .int .i64 0, .bool false, .slice none 0 0, .int .i64 0, .int .i64 0] 24 := by rw [hV1]; exact (BoxAt.new (W := W7.alloc (.cells #[.int .i64 0, .int .i64 0, .bool false, .slice none 0 0, .int .i64 0, .int .i64 0] 24)) (by simp [go_sem]) [.int .i64 0, .int .i64 0, .bool false, .slice none 0 0, .int .i64 0, .int .i64 0] 24).mono (ex)
 have b11 : BoxAt V1 (W7.heap.size) [.int .i64 0, .int .i64 0, .bool false, .slice none 0 0, .int .i64 0, .int .i64 0] 24 := by rw [hV1]; exact (BoxAt.new (W := W7) rfl [.int .i64 0, .int .i64 0, .bool false, .slice none 0 0, .int .i64 0, .int .i64 0] 24).mono (ex)
 have hxx : Ext W7 V1 := by rw [hV1]; exact (ex)
 clear hV1 hS
 obtain ⟨g10, hg10⟩ : ∃ g, g = W7.heap.size + 1 := ⟨_, rfl⟩
 obtain ⟨g11, hg11⟩ : ∃ g, g = W7.heap.size := ⟨_, rfl⟩
 rw [← hg10] at b10 ⊢
 rw [← hg11] at b11 ⊢
 have hge10 : W7.heap.size ≤ g10 := by omega
 have hge11 : W7.heap.size ≤ g11 := by omega
 have hne : g10 ≠ g11 := by omega
 clear hg10 hg11
 rotate_left
 all_goals
  refine wpAnyL_store (i := 10) (by kernel_rfl) rfl rfl hcl 24 (.tmp 13) (.tmp 84) rfl b10 rfl [.int .i64 u.a.node.id, .int .i64 u.a.node.term, .bool u.a.node.speaks, .slice A1 u.a.node.log.length a1, .int .i64 u.a.node.acked, .int .i64 u.a.node.next] rfl rfl (show 6 < 44 by decide) (by kernel_rfl) (nodl_one u.a.node A1 a1) ?_; intro W1 ht1 hb1
  refine ⟨ht1.ext hxx hge10, fun hcl hS => ?_⟩
  clear hS
  refine wpAnyL_store (i := 11) (by kernel_rfl) rfl rfl hcl 24 (.tmp 14) (.tmp 88) rfl (b11.turn ht1 (Ne.symm hne)) rfl [.int .i64 u.b.node.id, .int .i64 u.b.node.term, .bool u.b.node.speaks, .slice B1 u.b.node.log.length b1, .int .i64 u.b.node.acked, .int .i64 u.b.node.next] rfl rfl (show 6 < 44 by decide) (by kernel_rfl) (nodl_one u.b.node B1 b1) ?_; intro W2 ht2 hb2
  have e2 : Ext W7 W2 := ht2.ext (ht1.ext hxx hge10) hge11
  refine ⟨e2, fun hcl hS => ?_⟩
  clear hcl hS
  have j1 := hb1.turn ht2 hne
  refine wpAnyL_done (by kernel_rfl) ?_ _
  have X2 : Ext w W2 := x7.trans e2
  have k9 := k8.mono e2
  obtain ⟨p0, p1, p2, p3, p4, p5⟩ := j1.six
  obtain ⟨r0, r1, s2, s3, s4, s5⟩ := hb2.six
  have d6:=k9.c 6 rfl;have d14:=k9.c 14 rfl
  rw [FA1.out] at p2
  rw [FA2.out] at p1
  rw [FB1.out] at s2
  rw [FB2.out] at r1
  rw [GA1.out] at d6
  rw [GB1.out] at d14
  clear j1 hb1 hb2 ht1 ht2 b10 b11 k9 hxx e2
  go_wp2
  go_ret
  exact ⟨rfl, X2.trans (ex)⟩
end Go.Proofs.YtmhinhgflehkaaaGreat
