/-
 Chapter 54: answers, and what an Ack and a Refuse do.
-/
import Derived.Test.YtmhinhgflehkaaaGreatGrpc
import Derived.Test.YtmhinhgflehkaaaGreatGtail
namespace Go.Proofs.YtmhinhgflehkaaaGreat
open Go.RowKit

set_option maxHeartbeats 1600000 in
set_option maxRecDepth 100000 in
theorem rep_answer (b : Nat) (t k a : Int) (w : World) (hc : w.cell? ⟨b, 1, none⟩ = some (.int .i64 t)) :
  Calls Tryz.prog 168 #[.pointer (some ⟨b, 0, none⟩), .int .i64 k, .int .i64 a] w fun e w' => e = .returned (.tuple #[.agg #[.int .i64 k, .int .i64 t, .int .i64 a, .int .i64 0, .slice none 0 0, .int .i64 0], .bool true, .int .i64 0]) ∧ Ext w w' := by
 go_enter Tryz.func168, Tryz.ntmps168
 go_wp2
 exact bodyPost_ret (v := .tuple #[.agg #[.int .i64 k, .int .i64 t, .int .i64 a, .int .i64 0, .slice none 0 0, .int .i64 0], .bool true, .int .i64 0]) (by simp [results, Tryz.results168, go_sem]) rfl ⟨rfl, ex⟩
theorem Own.along {X X' W : World} {y : Gr} {E : TypeId} {size : Nat} {A : Option Addr} {n k : Nat} {rows : List (List Value)} (h : Own X (xt X y) E size A n k rows) (hx : Ext (xt X' y) W) (hs : X.heap.size = X'.heap.size) : Own X' W E size A n k rows := (h.shift hs).mono hx
def LogIn (w X W : World) (D : Option Addr) (N K : Nat) (l : List Rec) : Prop := RecsAt w D K l ∨ (Own X W 170 45 D N K (l.map recR) ∧ ∀ r ∈ l, AcnAt w r.act)
theorem LogIn.recs {w X W : World} {D : Option Addr} {N K : Nat} {l : List Rec} (h : LogIn w X W D N K l) (hn : l.length = N) (hx : Ext w W) : RecsAt W D K l := by
 rcases h with h | ⟨h, he⟩
 ·exact h.mono hx
 ·exact Own.recs h hn fun r hr => (he r hr).mono hx
theorem LogIn.base {w X X' W : World} {D : Option Addr} {N K : Nat} {l : List Rec} (h : LogIn w X' W D N K l) (hs : X.heap.size ≤ X'.heap.size) : LogIn w X W D N K l := by
 rcases h with h | ⟨h, he⟩
 ·exact .inl h
 ·refine .inr ⟨⟨h.len, h.row, h.one, h.le, h.cap, ?_⟩, he⟩
  rcases h.at_ with h0 | ⟨g, cur, h1, h2, h3⟩
  ·exact .inl h0
  ·exact .inr ⟨g, cur, h1, by omega, h3⟩
theorem LogIn.mono {w X W W' : World} {D : Option Addr} {N K : Nat} {l : List Rec} (h : LogIn w X W D N K l) (hx : Ext W W') : LogIn w X W' D N K l := by
 rcases h with h | ⟨h, he⟩
 ·exact .inl h
 ·exact .inr ⟨h.mono hx, he⟩
theorem LogIn.along {w X X' W : World} {y : Gr} {D : Option Addr} {N K : Nat} {l : List Rec} (h : LogIn w X (xt X y) D N K l) (hx : Ext (xt X' y) W) (hs : X.heap.size = X'.heap.size) : LogIn w X' W D N K l := by
 rcases h with h | ⟨h, he⟩
 ·exact .inl h
 ·exact .inr ⟨h.along hx hs, he⟩
def RetBox (w W : World) (v : Nod × Msg × Bool × Int) (e : Ending) (w' : World) : Prop := ∃ A c, e = .returned (.tuple #[.agg #[.int .i64 v.2.1.kind, .int .i64 v.2.1.term, .int .i64 v.2.1.at_, .int .i64 0, .slice none 0 0, .int .i64 0], .bool v.2.2.1, .int .i64 v.2.2.2]) ∧ Ext (W.setCells w.heap.size 0 (Array.toList #[.int .i64 v.1.id, .int .i64 v.1.term, .bool v.1.speaks, .slice A v.1.log.length c, .int .i64 v.1.acked, .int .i64 v.1.next])) w' ∧ LogIn w W w' A v.1.log.length c v.1.log
theorem box_turned (w : World) (cs cs' : Array Value) (y : Gr) (h : cs.size = cs'.size) : (xt (w.alloc (.cells cs 24)) y).setCells w.heap.size 0 cs'.toList = xt (w.alloc (.cells cs' 24)) y := by
 rw [xt_setCells _ _ _ _ _ (by simp), setCells_whole _ _ _ _ h]
theorem RetBox.of {w w' : World} {cs : Array Value} {y : Gr} {v : Nod × Msg × Bool × Int} {n : Nod} {k t a : Int} {ok : Bool} {x : Int} (hv : v = (n, ⟨k, t, a, 0, [], 0⟩, ok, x)) {A : Option Addr} {c : Nat} (hx : Ext (xt (w.alloc (.cells #[.int .i64 n.id, .int .i64 n.term, .bool n.speaks, .slice A n.log.length c, .int .i64 n.acked, .int .i64 n.next] 24)) y) w') (hr : LogIn w (xt (w.alloc (.cells cs 24)) y) w' A n.log.length c n.log) (hcs : cs.size = 6 := by rfl) :
  RetBox w (xt (w.alloc (.cells cs 24)) y) v (.returned (.tuple #[.agg #[.int .i64 k, .int .i64 t, .int .i64 a, .int .i64 0, .slice none 0 0, .int .i64 0], .bool ok, .int .i64 x])) w' := by
 subst hv
 refine ⟨A, c, rfl, ?_, hr⟩
 have e := box_turned w cs #[.int .i64 n.id, .int .i64 n.term, .bool n.speaks, .slice A n.log.length c, .int .i64 n.acked, .int .i64 n.next] y hcs
 show Ext (World.setCells (xt (w.alloc (.cells cs 24)) y) w.heap.size 0 (Array.toList #[.int .i64 n.id, .int .i64 n.term, .bool n.speaks, .slice A n.log.length c, .int .i64 n.acked, .int .i64 n.next])) w'
 rw [e]
 exact hx
theorem RetBox.fin {w w' : World} {cs : Array Value} {y : Gr} {v : Nod × Msg × Bool × Int} {A : Option Addr} {c : Nat} (hx : Ext (xt (w.alloc (.cells #[.int .i64 v.1.id, .int .i64 v.1.term, .bool v.1.speaks, .slice A v.1.log.length c, .int .i64 v.1.acked, .int .i64 v.1.next] 24)) y) w') (hr : LogIn w (xt (w.alloc (.cells cs 24)) y) w' A v.1.log.length c v.1.log) (hcs : cs.size = 6 := by rfl) :
  RetBox w (xt (w.alloc (.cells cs 24)) y) v (.returned (.tuple #[.agg #[.int .i64 v.2.1.kind, .int .i64 v.2.1.term, .int .i64 v.2.1.at_, .int .i64 0, .slice none 0 0, .int .i64 0], .bool v.2.2.1, .int .i64 v.2.2.2])) w' := by
 refine ⟨A, c, rfl, ?_, hr⟩
 have e := box_turned w cs #[.int .i64 v.1.id, .int .i64 v.1.term, .bool v.1.speaks, .slice A v.1.log.length c, .int .i64 v.1.acked, .int .i64 v.1.next] y hcs
 show Ext (World.setCells (xt (w.alloc (.cells cs 24)) y) w.heap.size 0 (Array.toList #[.int .i64 v.1.id, .int .i64 v.1.term, .bool v.1.speaks, .slice A v.1.log.length c, .int .i64 v.1.acked, .int .i64 v.1.next])) w'
 rw [e]
 exact hx
set_option maxHeartbeats 3200000 in
set_option maxRecDepth 100000 in
theorem rep_refuse (n : Nod) (A : Option Addr) (c : Nat) (m : Msg) (B : Option Addr) (d : Nat) (w W : World) (hs : RecsAt w A c n.log) (hx : Ext (w.alloc (.cells #[.int .i64 n.id, .int .i64 n.term, .bool n.speaks, .slice A n.log.length c, .int .i64 n.acked, .int .i64 n.next] 24)) W) :
  Calls Tryz.prog 171 #[.pointer (some ⟨w.heap.size, 0, none⟩), .agg #[.int .i64 m.kind, .int .i64 m.term, .int .i64 m.at_, .int .i64 m.before, .slice B m.recs.length d, .int .i64 m.acked]] W (RetBox w W (refuseN n m, msg0, false, 0)) := by
 obtain ⟨y0, rfl⟩ := hx.get
 have HS := Lib.hid hs
 obtain ⟨b, hb⟩ : ∃ b, n.speaks = b := ⟨_, rfl⟩
 cases b with
 | false =>
  have HR := Lib.hid (show refuseN n m = n by unfold refuseN; rw [if_neg (by rw [hb]; simp)])
  have HB := Lib.hid hb
  rw [hb]
  clear hx hs hb
  go_enter Tryz.func171, Tryz.ntmps171
  go_wp2
  refine bodyPost_ret (v := .tuple #[.agg #[.int .i64 0, .int .i64 0, .int .i64 0, .int .i64 0, .slice none 0 0, .int .i64 0], .bool false, .int .i64 0]) (by simp [results, Tryz.results171, go_sem]) rfl ?_
  refine RetBox.of (A := A) (c := c) (n := n) (by rw [HR.out]; rfl) ?_ (.inl HS.out)
  rw [HB.out]; exact ex
 | true =>
  have HR := Lib.hid (show refuseN n m = ⟨n.id, n.term, true, n.log, n.acked, max (min n.next m.at_) n.acked⟩ by unfold refuseN; rw [if_pos hb, hb])
  rw [hb]
  clear hx hs hb
  go_enter Tryz.func171, Tryz.ntmps171
  go_wp2
  (refine wp_region_tail 13 (by kernel_rfl) (by kernel_rfl) ?_; simp only [List.take_succ_cons, List.take_zero, List.drop_succ_cons, List.drop_zero]; (repeat (go_big_quiet_step (fail))); refine wpQuiet_nil ?_; rintro _ ⟨y, rfl⟩)
  go_wp2_with fail
  refine bodyPost_ret (v := .tuple #[.agg #[.int .i64 0, .int .i64 0, .int .i64 0, .int .i64 0, .slice none 0 0, .int .i64 0], .bool false, .int .i64 0]) (by simp [results, Tryz.results171, go_sem]) rfl ?_
  exact RetBox.of (A := A) (c := c) (n := ⟨n.id, n.term, true, n.log, n.acked, max (min n.next m.at_) n.acked⟩) (by rw [HR.out]; rfl) (ex) (.inl HS.out)
end Go.Proofs.YtmhinhgflehkaaaGreat

/-
 Chapter 54: what an Ack does.
-/
namespace Go.Proofs.YtmhinhgflehkaaaGreat
open Go.RowKit

set_option maxHeartbeats 6400000 in
set_option maxRecDepth 100000 in
theorem rep_ack (n : Nod) (A : Option Addr) (c : Nat) (m : Msg) (B : Option Addr) (d : Nat) (w W : World) (hs : RecsAt w A c n.log) (hx : Ext (w.alloc (.cells #[.int .i64 n.id, .int .i64 n.term, .bool n.speaks, .slice A n.log.length c, .int .i64 n.acked, .int .i64 n.next] 24)) W) :
  Calls Tryz.prog 170 #[.pointer (some ⟨w.heap.size, 0, none⟩), .agg #[.int .i64 m.kind, .int .i64 m.term, .int .i64 m.at_, .int .i64 m.before, .slice B m.recs.length d, .int .i64 m.acked]] W (RetBox w W (ackN n m, msg0, false, 0)) := by
 obtain ⟨y0, rfl⟩ := hx.get
 have hl := hs.len
 have HS := Lib.hid hs
 obtain ⟨b, hb⟩ : ∃ b, n.speaks = b := ⟨_, rfl⟩
 cases b with
 | false =>
  have HR := Lib.hid (show ackN n m = n by unfold ackN; rw [if_neg (by rw [hb]; simp)])
  have HB := Lib.hid hb
  rw [hb]
  clear hx hs hb
  go_enter Tryz.func170, Tryz.ntmps170
  go_wp2
  (refine wp_region_grows (by kernel_rfl) (by kernel_rfl) ?_; (repeat (go_big_quiet_step (fail))); refine wpQuiet_nil ?_; rintro _ ⟨y, rfl⟩)
  go_wp2
  refine bodyPost_ret (v := .tuple #[.agg #[.int .i64 0, .int .i64 0, .int .i64 0, .int .i64 0, .slice none 0 0, .int .i64 0], .bool false, .int .i64 0]) (by simp [results, Tryz.results170, go_sem]) rfl ?_
  refine RetBox.of (A := A) (c := c) (n := n) (by rw [HR.out]; rfl) ?_ (.inl HS.out)
  rw [HB.out]; exact ex
 | true =>
  by_cases hle : m.at_ ≤ n.log.length
  ·have HR := Lib.hid (show ackN n m = ⟨n.id, n.term, true, n.log, max n.acked m.at_, max n.next m.at_⟩ by unfold ackN; rw [if_pos ⟨hb, hle⟩, hb])
   have hd : decide (m.at_ ≤ (n.log.length : Int)) = true := decide_eq_true hle
   rw [hb]
   clear hx hs hb
   go_enter Tryz.func170, Tryz.ntmps170
   go_wp2
   (refine wp_region_grows (by kernel_rfl) (by kernel_rfl) ?_; (repeat (go_big_quiet_step (fail))); refine wpQuiet_nil ?_; rintro _ ⟨y, rfl⟩)
   go_wp2
   refine wp_region_L (S := SS 18 21 (fun w' => w'.cell? ⟨w.heap.size, 5, none⟩ = some (.int .i64 n.next)) (fun w' => w'.cell? ⟨w.heap.size, 4, none⟩ = some (.int .i64 n.acked)) (fun w' => w'.cell? ⟨w.heap.size + 1 + y0.n, 2, none⟩ = some (.int .i64 m.at_))) (by kernel_rfl) ⟨fun _ => by simp [go_sem], fun _ => by simp [go_sem], by simp [go_sem]⟩ (fun hcl hS => ?_)
   refine wpAnyL_take (i := 0) (T := (fun _ => True)) (v := ?_) rfl (by kernel_rfl) (by kernel_rfl) (by kernel_rfl) (fun _ _ _ h => h) (fun _ _ _ _ _ => trivial) (SS.up (by decide) (by decide)) (SS.down (by decide) (by decide)) (Or.inl ⟨by rfl, ?_⟩) hcl hS ?_
   rotate_left
   ·(intro w' hw'; (try dsimp only at hw'); go_simp; try with_reducible rfl)
   clear hcl hS
   intro hcl hS
   (try simp only [Act.put]); (try simp only [List.setIfInBounds_toArray]); (repeat (first | simp only [List.set_cons_succ] | simp only [List.set_cons_zero]))
   refine wpAnyL_take (i := 1) (T := (fun _ => True)) (v := ?_) rfl (by kernel_rfl) (by kernel_rfl) (by kernel_rfl) (fun _ _ _ h => h) (fun _ _ _ _ _ => trivial) (SS.up (by decide) (by decide)) (SS.down (by decide) (by decide)) (Or.inl ⟨by rfl, ?_⟩) hcl hS ?_
   rotate_left
   ·(intro w' hw'; (try dsimp only at hw'); go_simp; try with_reducible rfl)
   clear hcl hS
   intro hcl hS
   (try simp only [Act.put]); (try simp only [List.setIfInBounds_toArray]); (repeat (first | simp only [List.set_cons_succ] | simp only [List.set_cons_zero]))
   refine wpAnyL_take (i := 2) (T := (fun _ => True)) (v := ?_) rfl (by kernel_rfl) (by kernel_rfl) (by kernel_rfl) (fun _ _ _ h => h) (fun _ _ _ _ _ => trivial) (SS.up (by decide) (by decide)) (SS.down (by decide) (by decide)) (Or.inl ⟨by rfl, ?_⟩) hcl hS ?_
   rotate_left
   ·(intro w' hw'; (try dsimp only at hw'); go_simp; try with_reducible rfl)
   clear hcl hS
   intro hcl hS
   (try simp only [Act.put]); (try simp only [List.setIfInBounds_toArray]); (repeat (first | simp only [List.set_cons_succ] | simp only [List.set_cons_zero]))
   refine wpAnyL_take (i := 3) (T := (fun _ => True)) (v := ?_) rfl (by kernel_rfl) (by kernel_rfl) (by kernel_rfl) (fun _ _ _ h => h) (fun _ _ _ _ _ => trivial) (SS.up (by decide) (by decide)) (SS.down (by decide) (by decide)) (Or.inl ⟨by rfl, ?_⟩) hcl hS ?_
   rotate_left
   ·(intro w' hw'; (try dsimp only at hw'); go_simp; try with_reducible rfl)
   clear hcl hS
   intro hcl hS
   (try simp only [Act.put]); (try simp only [List.setIfInBounds_toArray]); (repeat (first | simp only [List.set_cons_succ] | simp only [List.set_cons_zero]))
   refine wpAnyL_take (i := 4) (T := (fun _ => True)) (v := ?_) rfl (by kernel_rfl) (by kernel_rfl) (by kernel_rfl) (fun _ _ _ h => h) (fun _ _ _ _ _ => trivial) (SS.up (by decide) (by decide)) (SS.down (by decide) (by decide)) (Or.inl ⟨by rfl, ?_⟩) hcl hS ?_
   rotate_left
   ·(intro w' hw'; (try dsimp only at hw'); go_simp; try with_reducible rfl)
   clear hcl hS
   intro hcl hS
   (try simp only [Act.put]); (try simp only [List.setIfInBounds_toArray]); (repeat (first | simp only [List.set_cons_succ] | simp only [List.set_cons_zero]))
   refine wpAnyL_take (i := 5) (T := (fun w' => w'.cell? ⟨w.heap.size, 5, none⟩ = some (.int .i64 n.next))) (v := ?_) rfl (by kernel_rfl) (by kernel_rfl) (by kernel_rfl) (fun _ _ _ h => h) (fun _ _ hc hi hS => hS.1 (hc.not (k := 18) (by kernel_rfl) hi)) (SS.up (by decide) (by decide)) (SS.down (by decide) (by decide)) (Or.inl ⟨by rfl, ?_⟩) hcl hS ?_
   rotate_left
   ·(intro w' hw'; (try dsimp only at hw'); go_simp; try with_reducible rfl)
   clear hcl hS
   intro hcl hS
   (try simp only [Act.put]); (try simp only [List.setIfInBounds_toArray]); (repeat (first | simp only [List.set_cons_succ] | simp only [List.set_cons_zero]))
   refine wpAnyL_take (i := 6) (T := (fun _ => True)) (v := ?_) rfl (by kernel_rfl) (by kernel_rfl) (by kernel_rfl) (fun _ _ _ h => h) (fun _ _ _ _ _ => trivial) (SS.up (by decide) (by decide)) (SS.down (by decide) (by decide)) (Or.inl ⟨by rfl, ?_⟩) hcl hS ?_
   rotate_left
   ·(intro w' hw'; (try dsimp only at hw'); go_simp; try with_reducible rfl)
   clear hcl hS
   intro hcl hS
   (try simp only [Act.put]); (try simp only [List.setIfInBounds_toArray]); (repeat (first | simp only [List.set_cons_succ] | simp only [List.set_cons_zero]))
   refine wpAnyL_take (i := 7) (T := (fun w' => w'.cell? ⟨w.heap.size + 1 + y0.n, 2, none⟩ = some (.int .i64 m.at_))) (v := ?_) rfl (by kernel_rfl) (by kernel_rfl) (by kernel_rfl) (fun _ _ _ h => h) (fun _ _ _ _ hS => hS.2.2) (SS.up (by decide) (by decide)) (SS.down (by decide) (by decide)) (Or.inl ⟨by rfl, ?_⟩) hcl hS ?_
   rotate_left
   ·(intro w' hw'; (try dsimp only at hw'); go_simp; try with_reducible rfl)
   clear hcl hS
   intro hcl hS
   (try simp only [Act.put]); (try simp only [List.setIfInBounds_toArray]); (repeat (first | simp only [List.set_cons_succ] | simp only [List.set_cons_zero]))
   refine wpAnyL_take (i := 8) (T := (fun _ => True)) (v := ?_) rfl (by kernel_rfl) (by kernel_rfl) (by kernel_rfl) (fun _ _ _ h => h) (fun _ _ _ _ _ => trivial) (SS.up (by decide) (by decide)) (SS.down (by decide) (by decide)) (Or.inl ⟨by rfl, ?_⟩) hcl hS ?_
   rotate_left
   ·(intro w' hw'; (try dsimp only at hw'); go_simp; try with_reducible rfl)
   clear hcl hS
   intro hcl hS
   (try simp only [Act.put]); (try simp only [List.setIfInBounds_toArray]); (repeat (first | simp only [List.set_cons_succ] | simp only [List.set_cons_zero]))
   refine wpAnyL_take (i := 9) (T := (fun _ => True)) (v := ?_) rfl (by kernel_rfl) (by kernel_rfl) (by kernel_rfl) (fun _ _ _ h => h) (fun _ _ _ _ _ => trivial) (SS.up (by decide) (by decide)) (SS.down (by decide) (by decide)) (Or.inl ⟨by rfl, ?_⟩) hcl hS ?_
   rotate_left
   ·(intro w' hw'; (try dsimp only at hw'); go_simp; try with_reducible rfl)
   clear hcl hS
   intro hcl hS
   (try simp only [Act.put]); (try simp only [List.setIfInBounds_toArray]); (repeat (first | simp only [List.set_cons_succ] | simp only [List.set_cons_zero]))
   refine wpAnyL_take (i := 10) (T := (fun _ => True)) (v := ?_) rfl (by kernel_rfl) (by kernel_rfl) (by kernel_rfl) (fun _ _ _ h => h) (fun _ _ _ _ _ => trivial) (SS.up (by decide) (by decide)) (SS.down (by decide) (by decide)) (Or.inl ⟨by rfl, ?_⟩) hcl hS ?_
   rotate_left
   ·(intro w' hw'; (try dsimp only at hw'); go_simp; try with_reducible rfl)
   clear hcl hS
   intro hcl hS
   (try simp only [Act.put]); (try simp only [List.setIfInBounds_toArray]); (repeat (first | simp only [List.set_cons_succ] | simp only [List.set_cons_zero]))
   refine wpAnyL_take (i := 11) (T := (fun _ => True)) (v := ?_) rfl (by kernel_rfl) (by kernel_rfl) (by kernel_rfl) (fun _ _ _ h => h) (fun _ _ _ _ _ => trivial) (SS.up (by decide) (by decide)) (SS.down (by decide) (by decide)) (Or.inl ⟨by rfl, ?_⟩) hcl hS ?_
   rotate_left
   ·(intro w' hw'; (try dsimp only at hw'); go_simp; try with_reducible rfl)
   clear hcl hS
   intro hcl hS
   (try simp only [Act.put]); (try simp only [List.setIfInBounds_toArray]); (repeat (first | simp only [List.set_cons_succ] | simp only [List.set_cons_zero]))
   refine wpAnyL_take (i := 12) (T := (fun w' => w'.cell? ⟨w.heap.size, 4, none⟩ = some (.int .i64 n.acked))) (v := ?_) rfl (by kernel_rfl) (by kernel_rfl) (by kernel_rfl) (fun _ _ _ h => h) (fun _ _ hc hi hS => hS.2.1 (hc.not (k := 21) (by kernel_rfl) hi)) (SS.up (by decide) (by decide)) (SS.down (by decide) (by decide)) (Or.inl ⟨by rfl, ?_⟩) hcl hS ?_
   rotate_left
   ·(intro w' hw'; (try dsimp only at hw'); go_simp; try with_reducible rfl)
   clear hcl hS
   intro hcl hS
   (try simp only [Act.put]); (try simp only [List.setIfInBounds_toArray]); (repeat (first | simp only [List.set_cons_succ] | simp only [List.set_cons_zero]))
   refine wpAnyL_take (i := 13) (T := (fun _ => True)) (v := ?_) rfl (by kernel_rfl) (by kernel_rfl) (by kernel_rfl) (fun _ _ _ h => h) (fun _ _ _ _ _ => trivial) (SS.up (by decide) (by decide)) (SS.down (by decide) (by decide)) (Or.inl ⟨by rfl, ?_⟩) hcl hS ?_
   rotate_left
   ·(intro w' hw'; (try dsimp only at hw'); go_simp; try with_reducible rfl)
   clear hcl hS
   intro hcl hS
   (try simp only [Act.put]); (try simp only [List.setIfInBounds_toArray]); (repeat (first | simp only [List.set_cons_succ] | simp only [List.set_cons_zero]))
   refine wpAnyL_take (i := 14) (T := (fun w' => w'.cell? ⟨w.heap.size + 1 + y0.n, 2, none⟩ = some (.int .i64 m.at_))) (v := ?_) rfl (by kernel_rfl) (by kernel_rfl) (by kernel_rfl) (fun _ _ _ h => h) (fun _ _ _ _ hS => hS.2.2) (SS.up (by decide) (by decide)) (SS.down (by decide) (by decide)) (Or.inl ⟨by rfl, ?_⟩) hcl hS ?_
   rotate_left
   ·(intro w' hw'; (try dsimp only at hw'); go_simp; try with_reducible rfl)
   clear hcl hS
   intro hcl hS
   (try simp only [Act.put]); (try simp only [List.setIfInBounds_toArray]); (repeat (first | simp only [List.set_cons_succ] | simp only [List.set_cons_zero]))
   refine wpAnyL_take (i := 15) (T := (fun _ => True)) (v := ?_) rfl (by kernel_rfl) (by kernel_rfl) (by kernel_rfl) (fun _ _ _ h => h) (fun _ _ _ _ _ => trivial) (SS.up (by decide) (by decide)) (SS.down (by decide) (by decide)) (Or.inl ⟨by rfl, ?_⟩) hcl hS ?_
   rotate_left
   ·(intro w' hw'; (try dsimp only at hw'); go_simp; try with_reducible rfl)
   clear hcl hS
   intro hcl hS
   (try simp only [Act.put]); (try simp only [List.setIfInBounds_toArray]); (repeat (first | simp only [List.set_cons_succ] | simp only [List.set_cons_zero]))
   refine wpAnyL_take (i := 16) (T := (fun _ => True)) (v := ?_) rfl (by kernel_rfl) (by kernel_rfl) (by kernel_rfl) (fun _ _ _ h => h) (fun _ _ _ _ _ => trivial) (SS.up (by decide) (by decide)) (SS.down (by decide) (by decide)) (Or.inl ⟨by rfl, ?_⟩) hcl hS ?_
   rotate_left
   ·(intro w' hw'; (try dsimp only at hw'); go_simp; try with_reducible rfl)
   clear hcl hS
   intro hcl hS
   (try simp only [Act.put]); (try simp only [List.setIfInBounds_toArray]); (repeat (first | simp only [List.set_cons_succ] | simp only [List.set_cons_zero]))
   refine wpAnyL_take (i := 17) (T := (fun _ => True)) (v := ?_) rfl (by kernel_rfl) (by kernel_rfl) (by kernel_rfl) (fun _ _ _ h => h) (fun _ _ _ _ _ => trivial) (SS.up (by decide) (by decide)) (SS.down (by decide) (by decide)) (Or.inl ⟨by rfl, ?_⟩) hcl hS ?_
   rotate_left
   ·(intro w' hw'; (try dsimp only at hw'); go_simp; try with_reducible rfl)
   clear hcl hS
   intro hcl hS
   (try simp only [Act.put]); (try simp only [List.setIfInBounds_toArray]); (repeat (first | simp only [List.set_cons_succ] | simp only [List.set_cons_zero]))
   refine wpAnyL_only (i := 18) (by kernel_rfl) rfl rfl hcl (fun K hK => ?_)
   go_simp
   clear hS hcl
   refine hK _ _ ⟨fun hh => absurd hh (by decide), fun _ => by simp [go_sem], by simp [go_sem]⟩ (fun hcl hS => ?_)
   clear hK
   refine wpAnyL_take (i := 19) (T := (fun _ => True)) (v := ?_) rfl (by kernel_rfl) (by kernel_rfl) (by kernel_rfl) (fun _ _ _ h => h) (fun _ _ _ _ _ => trivial) (SS.up (by decide) (by decide)) (SS.down (by decide) (by decide)) (Or.inl ⟨by rfl, ?_⟩) hcl hS ?_
   rotate_left
   ·(intro w' hw'; (try dsimp only at hw'); go_simp; try with_reducible rfl)
   clear hcl hS
   intro hcl hS
   (try simp only [Act.put]); (try simp only [List.setIfInBounds_toArray]); (repeat (first | simp only [List.set_cons_succ] | simp only [List.set_cons_zero]))
   refine wpAnyL_take (i := 20) (T := (fun _ => True)) (v := ?_) rfl (by kernel_rfl) (by kernel_rfl) (by kernel_rfl) (fun _ _ _ h => h) (fun _ _ _ _ _ => trivial) (SS.up (by decide) (by decide)) (SS.down (by decide) (by decide)) (Or.inl ⟨by rfl, ?_⟩) hcl hS ?_
   rotate_left
   ·(intro w' hw'; (try dsimp only at hw'); go_simp; try with_reducible rfl)
   clear hcl hS
   intro hcl hS
   (try simp only [Act.put]); (try simp only [List.setIfInBounds_toArray]); (repeat (first | simp only [List.set_cons_succ] | simp only [List.set_cons_zero]))
   refine wpAnyL_only (i := 21) (by kernel_rfl) rfl rfl hcl (fun K hK => ?_)
   go_simp
   clear hS hcl
   refine hK _ _ ⟨fun hh => absurd hh (by decide), fun hh => absurd hh (by decide), by simp [go_sem]⟩ (fun hcl hS => ?_)
   clear hK hcl hS
   refine wpAnyL_done (by kernel_rfl) ?_ _
   go_wp2_with fail
   refine bodyPost_ret (v := .tuple #[.agg #[.int .i64 0, .int .i64 0, .int .i64 0, .int .i64 0, .slice none 0 0, .int .i64 0], .bool false, .int .i64 0]) (by simp [results, Tryz.results170, go_sem]) rfl ?_
   exact RetBox.of (A := A) (c := c) (n := ⟨n.id, n.term, true, n.log, max n.acked m.at_, max n.next m.at_⟩) (by rw [HR.out]; rfl) (ex) (.inl HS.out)
  ·have HR := Lib.hid (show ackN n m = n by unfold ackN; rw [if_neg (fun h => hle h.2)])
   have hd : decide (m.at_ ≤ (n.log.length : Int)) = false := decide_eq_false hle
   have HB := Lib.hid hb
   rw [hb]
   clear hx hs hb
   go_enter Tryz.func170, Tryz.ntmps170
   go_wp2
   (refine wp_region_grows (by kernel_rfl) (by kernel_rfl) ?_; (repeat (go_big_quiet_step (fail))); refine wpQuiet_nil ?_; rintro _ ⟨y, rfl⟩)
   go_wp2
   refine bodyPost_ret (v := .tuple #[.agg #[.int .i64 0, .int .i64 0, .int .i64 0, .int .i64 0, .slice none 0 0, .int .i64 0], .bool false, .int .i64 0]) (by simp [results, Tryz.results170, go_sem]) rfl ?_
   refine RetBox.of (A := A) (c := c) (n := n) (by rw [HR.out]; rfl) ?_ (.inl HS.out)
   rw [HB.out]; exact ex
end Go.Proofs.YtmhinhgflehkaaaGreat
