/-
  Chapter 54, the reference: contracts by their parts; properties of what slots hold.
-/
import Derived.Test.YtlpboikonnpjbaaGreatGstb
import Derived.Test.YtlpboikonnpjbaaGreatGrqh
import Derived.Test.YtlpboikonnpjbaaGreatGrpn
import Derived.Test.YtlpboikonnpjbaaGreatRq4
import Derived.Test.YtlpboikonnpjbaaGreatGopq
import Derived.Test.YtlpboikonnpjbaaGreatGsetl
namespace Go.Proofs.YtlpboikonnpjbaaGreat
open Go.RowKit

theorem LogQ.logw {w w1 X W : World} {D : Option Addr} {N K : Nat} {l : List Rec} (h : LogQ w1 X W D N K l) (hn : l.length = N) (hx : Ext w1 W) (he : ∀ r ∈ l, AcnAt w r.act) : LogW w W D N K l := by
  subst hn
  rcases h with h | ⟨h, -⟩
  · exact ⟨h.sl.mono hx, rfl, h.le, h.cap, he⟩
  · exact LogW.own h he
def GotQ (w : World) (n : Nod) (a : Msg) (ok : Bool) (er : Int) (e : Ending) (w' : World) : Prop := ∃ D K, e = .returned (.tuple #[.agg #[.int .i64 n.id, .int .i64 n.term, .bool n.speaks, .slice D n.log.length K, .int .i64 n.acked, .int .i64 n.next], .agg #[.int .i64 a.kind, .int .i64 a.term, .int .i64 a.at_, .int .i64 0, .slice none 0 0, .int .i64 0], .bool ok, .int .i64 er]) ∧ Ext w w' ∧ LogQ w w w' D n.log.length K n.log
theorem r54_Receive_as (n : Nod) (A : Option Addr) (c : Nat) (m : Msg) (B : Option Addr) (d : Nat) (w : World) (hs : RecsAt w A c n.log) (hm : RecsAt w B d m.recs) (n1 : Nod) (a1 : Msg) (ok : Bool) (er : Int) (hv : recvV n m = (n1, a1, ok, er)) :
    Calls Tryz.prog 22 #[.agg #[.int .i64 n.id, .int .i64 n.term, .bool n.speaks, .slice A n.log.length c, .int .i64 n.acked, .int .i64 n.next], .agg #[.int .i64 m.kind, .int .i64 m.term, .int .i64 m.at_, .int .i64 m.before, .slice B m.recs.length d, .int .i64 m.acked]] w (GotQ w n1 a1 ok er) := by
  have := r54_Receive n A c m B d w hs hm
  rw [hv] at this
  exact this
theorem r54_Receive_ans (n : Nod) (A : Option Addr) (c : Nat) (m : Msg) (w : World) (hs : RecsAt w A c n.log) (hm : m.before = 0 ∧ m.recs = [] ∧ m.acked = 0) (n1 : Nod) (a1 : Msg) (ok : Bool) (er : Int) (hv : recvV n m = (n1, a1, ok, er)) :
    Calls Tryz.prog 22 #[.agg #[.int .i64 n.id, .int .i64 n.term, .bool n.speaks, .slice A n.log.length c, .int .i64 n.acked, .int .i64 n.next], .agg #[.int .i64 m.kind, .int .i64 m.term, .int .i64 m.at_, .int .i64 0, .slice none 0 0, .int .i64 0]] w (GotQ w n1 a1 ok er) := by
  obtain ⟨k, t, x, b, l, q⟩ := m
  obtain ⟨h1, h2, h3⟩ := hm
  simp only at h1 h2 h3
  subst h1 h2 h3
  exact r54_Receive_as n A c ⟨k, t, x, 0, [], 0⟩ none 0 w hs (RecsAt.nil _) n1 a1 ok er hv
theorem r54_Same_self (a : Nod) (A : Option Addr) (c : Nat) (B : Option Addr) (d : Nat) (w : World) (ha : RecsAt w A c a.log) (hb : RecsAt w B d a.log) : Calls Tryz.prog 25 #[.agg #[.int .i64 a.id, .int .i64 a.term, .bool a.speaks, .slice A a.log.length c, .int .i64 a.acked, .int .i64 a.next], .agg #[.int .i64 a.id, .int .i64 a.term, .bool a.speaks, .slice B a.log.length d, .int .i64 a.acked, .int .i64 a.next]] w fun e w' => e = .returned (.bool true) ∧ Ext w w' := by
  have := r54_Same a a A c B d w ha hb
  rwa [sameN_refl] at this
/-- A node in memory, its actions too. -/
def Stab.nodR (n : Nod) : Stab := ⟨fun x W => ∃ D K, x = .agg #[.int .i64 n.id, .int .i64 n.term, .bool n.speaks, .slice D n.log.length K, .int .i64 n.acked, .int .i64 n.next] ∧ RecsAt W D K n.log, fun _ _ _ hx ⟨D, K, e, h⟩ => ⟨D, K, e, h.mono hx⟩⟩
end Go.Proofs.YtlpboikonnpjbaaGreat

/-
  Chapter 54, the reference: whether both are settled.
-/
namespace Go.Proofs.YtlpboikonnpjbaaGreat
open Go.RowKit

theorem r54_SameRecords_is (A : Option Addr) (c n : Nat) (l : List Rec) (hn : l.length = n) (B : Option Addr) (d k : Nat) (m : List Rec) (hk : m.length = k) (v : Bool) (hv : sameRs l m = v) (w : World) (h1 : RecsAt w A c l) (h2 : RecsAt w B d m) :
    Calls Tryz.prog 49 #[.slice A n c, .slice B k d] w fun e w' => e = .returned (.bool v) ∧ Ext w w' := by
  subst hv
  exact r54_SameRecords A c n l hn B d k m hk w h1 h2
set_option maxHeartbeats 3200000 in
set_option maxRecDepth 100000 in
theorem r54_settled (a : Nod) (A : Option Addr) (c : Nat) (b : Nod) (B : Option Addr) (d : Nat) (w : World) (h1 : RecsAt w A c a.log) (h2 : RecsAt w B d b.log) (v : Bool) (hv : settledB a b = v) :
    Calls Tryz.prog 83 #[.agg #[.int .i64 a.id, .int .i64 a.term, .bool a.speaks, .slice A a.log.length c, .int .i64 a.acked, .int .i64 a.next], .agg #[.int .i64 b.id, .int .i64 b.term, .bool b.speaks, .slice B b.log.length d, .int .i64 b.acked, .int .i64 b.next]] w fun e w' => e = .returned (.bool v) ∧ Ext w w' := by
  have hl1 := h1.len
  have hl2 := h2.len
  have hcap := h2.le
  have H1 := Lib.hid h1
  unfold settledB at hv
  by_cases hle : a.log.length ≤ b.log.length
  · have hp := h2.part 0 a.log.length hle a.log.length (Nat.sub_zero _)
    rw [List.drop_zero, partA_zero, Nat.sub_zero] at hp
    have HP := Lib.hid hp.1
    have HL := Lib.hid hp.2
    obtain ⟨s, hs⟩ : ∃ s, sameRs a.log (b.log.take a.log.length) = s := ⟨_, rfl⟩
    have HT := Lib.hid hs
    rw [hs] at hv
    have i1 : (a.log.length : Int) ≤ (b.log.length : Int) := by omega
    have i2 : (a.log.length : Int) ≤ (d : Int) := by omega
    have i3 : (0 : Int) ≤ (a.log.length : Int) := by omega
    have hd1 : decide ((a.log.length : Int) ≤ (b.log.length : Int)) = true := decide_eq_true i1
    have hd2 : decide (a.log.length ≤ b.log.length) = true := decide_eq_true hle
    cases s with
    | false =>
      obtain rfl : v = false := by rw [← hv]; rfl
      clear hp hs hv h1 h2
      go_enter Tryz.func83, Tryz.ntmps83
      go_wp2
      (refine wp_region_grows (by kernel_rfl) (by kernel_rfl) ?_; (repeat (go_big_quiet_step ((go_at_call 49; exact Calls.grows (r54_SameRecords_is A c _ a.log rfl B d _ _ HL.out false HT.out _ (H1.out.mono (by repeat (first | exact Ext.refl _ | assumption | apply Ext.xt | apply Ext.alloc | apply Ext.drew | apply Ext.drewN))) (HP.out.mono (by repeat (first | exact Ext.refl _ | assumption | apply Ext.xt | apply Ext.alloc | apply Ext.drew | apply Ext.drewN)))))))); refine wpQuiet_nil ?_; rintro _ ⟨y, rfl⟩)
      go_wp2
      go_ret
      exact ⟨rfl, by repeat (first | exact Ext.refl _ | assumption | apply Ext.xt | apply Ext.alloc | apply Ext.drew | apply Ext.drewN)⟩
    | true =>
      by_cases ha : a.acked = a.log.length
      · have hz1 : (a.acked == (a.log.length : Int)) = true := by simpa using ha
        by_cases hb : b.acked = a.log.length
        · have hz2 : (b.acked == (a.log.length : Int)) = true := by simpa using hb
          obtain rfl : v = true := by rw [← hv, decide_eq_true ha, decide_eq_true hb]; rfl
          clear hp hs hv h1 h2 ha hb
          go_enter Tryz.func83, Tryz.ntmps83
          go_wp2
          (refine wp_region_grows (by kernel_rfl) (by kernel_rfl) ?_; (repeat (go_big_quiet_step ((go_at_call 49; exact Calls.grows (r54_SameRecords_is A c _ a.log rfl B d _ _ HL.out true HT.out _ (H1.out.mono (by repeat (first | exact Ext.refl _ | assumption | apply Ext.xt | apply Ext.alloc | apply Ext.drew | apply Ext.drewN))) (HP.out.mono (by repeat (first | exact Ext.refl _ | assumption | apply Ext.xt | apply Ext.alloc | apply Ext.drew | apply Ext.drewN)))))))); refine wpQuiet_nil ?_; rintro _ ⟨y, rfl⟩)
          go_wp2
          go_ret
          exact ⟨rfl, by repeat (first | exact Ext.refl _ | assumption | apply Ext.xt | apply Ext.alloc | apply Ext.drew | apply Ext.drewN)⟩
        · have hz2 : (b.acked == (a.log.length : Int)) = false := by simpa using hb
          obtain rfl : v = false := by rw [← hv, decide_eq_false hb]; simp
          clear hp hs hv h1 h2 ha hb
          go_enter Tryz.func83, Tryz.ntmps83
          go_wp2
          (refine wp_region_grows (by kernel_rfl) (by kernel_rfl) ?_; (repeat (go_big_quiet_step ((go_at_call 49; exact Calls.grows (r54_SameRecords_is A c _ a.log rfl B d _ _ HL.out true HT.out _ (H1.out.mono (by repeat (first | exact Ext.refl _ | assumption | apply Ext.xt | apply Ext.alloc | apply Ext.drew | apply Ext.drewN))) (HP.out.mono (by repeat (first | exact Ext.refl _ | assumption | apply Ext.xt | apply Ext.alloc | apply Ext.drew | apply Ext.drewN)))))))); refine wpQuiet_nil ?_; rintro _ ⟨y, rfl⟩)
          go_wp2
          go_ret
          exact ⟨rfl, by repeat (first | exact Ext.refl _ | assumption | apply Ext.xt | apply Ext.alloc | apply Ext.drew | apply Ext.drewN)⟩
      · have hz1 : (a.acked == (a.log.length : Int)) = false := by simpa using ha
        obtain rfl : v = false := by rw [← hv, decide_eq_false ha]; simp
        clear hp hs hv h1 h2 ha
        go_enter Tryz.func83, Tryz.ntmps83
        go_wp2
        (refine wp_region_grows (by kernel_rfl) (by kernel_rfl) ?_; (repeat (go_big_quiet_step ((go_at_call 49; exact Calls.grows (r54_SameRecords_is A c _ a.log rfl B d _ _ HL.out true HT.out _ (H1.out.mono (by repeat (first | exact Ext.refl _ | assumption | apply Ext.xt | apply Ext.alloc | apply Ext.drew | apply Ext.drewN))) (HP.out.mono (by repeat (first | exact Ext.refl _ | assumption | apply Ext.xt | apply Ext.alloc | apply Ext.drew | apply Ext.drewN)))))))); refine wpQuiet_nil ?_; rintro _ ⟨y, rfl⟩)
        go_wp2
        go_ret
        exact ⟨rfl, by repeat (first | exact Ext.refl _ | assumption | apply Ext.xt | apply Ext.alloc | apply Ext.drew | apply Ext.drewN)⟩
  · obtain rfl : v = false := by
      rw [← hv, sameRs_len (by rw [List.length_take]; omega)]; rfl
    have hd1 : decide ((a.log.length : Int) ≤ (b.log.length : Int)) = false := decide_eq_false (by omega)
    have hd2 : decide (a.log.length ≤ b.log.length) = false := decide_eq_false hle
    clear hv h1 h2
    go_enter Tryz.func83, Tryz.ntmps83
    go_wp2
    (refine wp_region_grows (by kernel_rfl) (by kernel_rfl) ?_; (repeat (go_big_quiet_step (fail))); refine wpQuiet_nil ?_; rintro _ ⟨y, rfl⟩)
    go_wp2
    go_ret
    exact ⟨rfl, by repeat (first | exact Ext.refl _ | assumption | apply Ext.xt | apply Ext.alloc | apply Ext.drew | apply Ext.drewN)⟩
end Go.Proofs.YtlpboikonnpjbaaGreat

/-
  Chapter 54, the reference: Settle.
-/
namespace Go.Proofs.YtlpboikonnpjbaaGreat
open Go.RowKit

section
variable (a : Nod) (A : Option Addr) (c : Nat) (b : Nod) (B : Option Addr) (d : Nat) (w : World) (hs : RecsAt w A c a.log) (hm : RecsAt w B d b.log)
include hs
set_option maxHeartbeats 3200000 in
set_option maxRecDepth 100000 in
theorem r54_Settle_a (h : nodE a ≠ 0) : Calls Tryz.prog 45 #[.agg #[.int .i64 a.id, .int .i64 a.term, .bool a.speaks, .slice A a.log.length c, .int .i64 a.acked, .int .i64 a.next], .agg #[.int .i64 b.id, .int .i64 b.term, .bool b.speaks, .slice B b.log.length d, .int .i64 b.acked, .int .i64 b.next]] w (RetSett w (settleV a b)) := by
  have HS := Lib.hid hs
  have hz : (nodE a != 0) = true := by simpa using h
  have HR := Lib.hid (settleV_a (b := b) h)
  clear h hs
  go_enter Tryz.func45, Tryz.ntmps45
  go_wp2_with (go_at_call 27; refine (r54_Check a A c _ (HS.out.mono (by repeat (first | exact Ext.refl _ | assumption | apply Ext.xt | apply Ext.alloc | apply Ext.drew | apply Ext.drewN)))).mono ?_; rintro e w' ⟨rfl, hx⟩; obtain ⟨y, rfl⟩ := hx.get; clear hx)
  exact bodyPost_ret (v := .tuple #[.agg #[.int .i64 0, .int .i64 0, .bool false, .slice none 0 0, .int .i64 0, .int .i64 0], .agg #[.int .i64 0, .int .i64 0, .bool false, .slice none 0 0, .int .i64 0, .int .i64 0], .int .i64 0, .int .i64 (nodE a)]) (by simp [results, Tryz.results45, go_sem]) rfl (RetSett.err HR.out (by repeat (first | exact Ext.refl _ | assumption | apply Ext.xt | apply Ext.alloc | apply Ext.drew | apply Ext.drewN)))
include hm
set_option maxHeartbeats 3200000 in
set_option maxRecDepth 100000 in
theorem r54_Settle_b (h : nodE a = 0) (h2 : nodE b ≠ 0) : Calls Tryz.prog 45 #[.agg #[.int .i64 a.id, .int .i64 a.term, .bool a.speaks, .slice A a.log.length c, .int .i64 a.acked, .int .i64 a.next], .agg #[.int .i64 b.id, .int .i64 b.term, .bool b.speaks, .slice B b.log.length d, .int .i64 b.acked, .int .i64 b.next]] w (RetSett w (settleV a b)) := by
  have HS := Lib.hid hs
  have HM := Lib.hid hm
  have hz : (nodE a != 0) = false := by simpa using h
  have hz2 : (nodE b != 0) = true := by simpa using h2
  have HR := Lib.hid (settleV_b h h2)
  clear h h2 hs hm
  go_enter Tryz.func45, Tryz.ntmps45
  go_wp2_with (first
    | (have hh := HG; clear hh; go_at_call 27; refine (r54_Check b B d _ (HM.out.mono (by repeat (first | exact Ext.refl _ | assumption | apply Ext.xt | apply Ext.alloc | apply Ext.drew | apply Ext.drewN)))).mono ?_; rintro e w' ⟨rfl, hx⟩; obtain ⟨yb, rfl⟩ := hx.get; clear hx)
    | (go_at_call 27; refine (r54_Check a A c _ (HS.out.mono (by repeat (first | exact Ext.refl _ | assumption | apply Ext.xt | apply Ext.alloc | apply Ext.drew | apply Ext.drewN)))).mono ?_; rintro e w' ⟨rfl, hx⟩; have HG : Hid True := Lib.hid trivial; obtain ⟨ya, rfl⟩ := hx.get; clear hx))
  exact bodyPost_ret (v := .tuple #[.agg #[.int .i64 0, .int .i64 0, .bool false, .slice none 0 0, .int .i64 0, .int .i64 0], .agg #[.int .i64 0, .int .i64 0, .bool false, .slice none 0 0, .int .i64 0, .int .i64 0], .int .i64 0, .int .i64 (nodE b)]) (by simp [results, Tryz.results45, go_sem]) rfl (RetSett.err HR.out (by repeat (first | exact Ext.refl _ | assumption | apply Ext.xt | apply Ext.alloc | apply Ext.drew | apply Ext.drewN)))
set_option maxHeartbeats 3200000 in
set_option maxRecDepth 100000 in
theorem r54_Settle_c (h : nodE a = 0) (h2 : nodE b = 0) (h3 : a.id = b.id) : Calls Tryz.prog 45 #[.agg #[.int .i64 a.id, .int .i64 a.term, .bool a.speaks, .slice A a.log.length c, .int .i64 a.acked, .int .i64 a.next], .agg #[.int .i64 b.id, .int .i64 b.term, .bool b.speaks, .slice B b.log.length d, .int .i64 b.acked, .int .i64 b.next]] w (RetSett w (settleV a b)) := by
  have HS := Lib.hid hs
  have HM := Lib.hid hm
  have hz : (nodE a != 0) = false := by simpa using h
  have hz2 : (nodE b != 0) = false := by simpa using h2
  have hz3 : (a.id == b.id) = true := by simpa using h3
  have HR := Lib.hid (settleV_c h h2 h3)
  clear h h2 h3 hs hm
  go_enter Tryz.func45, Tryz.ntmps45
  go_wp2_with (first
    | (have hh := HG; clear hh; go_at_call 27; refine (r54_Check b B d _ (HM.out.mono (by repeat (first | exact Ext.refl _ | assumption | apply Ext.xt | apply Ext.alloc | apply Ext.drew | apply Ext.drewN)))).mono ?_; rintro e w' ⟨rfl, hx⟩; obtain ⟨yb, rfl⟩ := hx.get; clear hx)
    | (go_at_call 27; refine (r54_Check a A c _ (HS.out.mono (by repeat (first | exact Ext.refl _ | assumption | apply Ext.xt | apply Ext.alloc | apply Ext.drew | apply Ext.drewN)))).mono ?_; rintro e w' ⟨rfl, hx⟩; have HG : Hid True := Lib.hid trivial; obtain ⟨ya, rfl⟩ := hx.get; clear hx))
  exact bodyPost_ret (v := .tuple #[.agg #[.int .i64 0, .int .i64 0, .bool false, .slice none 0 0, .int .i64 0, .int .i64 0], .agg #[.int .i64 0, .int .i64 0, .bool false, .slice none 0 0, .int .i64 0, .int .i64 0], .int .i64 0, .int .i64 11]) (by simp [results, Tryz.results45, go_sem]) rfl (RetSett.err HR.out (by repeat (first | exact Ext.refl _ | assumption | apply Ext.xt | apply Ext.alloc | apply Ext.drew | apply Ext.drewN)))
set_option maxHeartbeats 3200000 in
set_option maxRecDepth 100000 in
theorem r54_Settle_d (h : nodE a = 0) (h2 : nodE b = 0) (h3 : ¬ a.id = b.id) (h4 : a.speaks = false ∨ a.term < b.term) : Calls Tryz.prog 45 #[.agg #[.int .i64 a.id, .int .i64 a.term, .bool a.speaks, .slice A a.log.length c, .int .i64 a.acked, .int .i64 a.next], .agg #[.int .i64 b.id, .int .i64 b.term, .bool b.speaks, .slice B b.log.length d, .int .i64 b.acked, .int .i64 b.next]] w (RetSett w (settleV a b)) := by
  have HS := Lib.hid hs
  have HM := Lib.hid hm
  have hz : (nodE a != 0) = false := by simpa using h
  have hz2 : (nodE b != 0) = false := by simpa using h2
  have hz3 : (a.id == b.id) = false := by simpa using h3
  have HR := Lib.hid (settleV_d h h2 h3 h4)
  have H4 := Lib.hid h4
  clear h h2 h3 hs hm h4
  obtain ⟨sp, hsp⟩ : ∃ sp, a.speaks = sp := ⟨_, rfl⟩
  have HSP := Lib.hid hsp
  have HC := Lib.hid (fun (w' : World) (h : RecsAt w' A c a.log) => r54_Check a A c w' h)
  rw [hsp] at HC ⊢
  clear hsp
  cases sp with
  | false =>
    go_enter Tryz.func45, Tryz.ntmps45
    go_wp2_with (first
      | (have hh := HG; clear hh; go_at_call 27; refine (r54_Check b B d _ (HM.out.mono (by repeat (first | exact Ext.refl _ | assumption | apply Ext.xt | apply Ext.alloc | apply Ext.drew | apply Ext.drewN)))).mono ?_; rintro e w' ⟨rfl, hx⟩; obtain ⟨yb, rfl⟩ := hx.get; clear hx)
      | (go_at_call 27; refine (HC.out _ (HS.out.mono (by repeat (first | exact Ext.refl _ | assumption | apply Ext.xt | apply Ext.alloc | apply Ext.drew | apply Ext.drewN)))).mono ?_; rintro e w' ⟨rfl, hx⟩; have HG : Hid True := Lib.hid trivial; obtain ⟨ya, rfl⟩ := hx.get; clear hx))
    exact bodyPost_ret (v := .tuple #[.agg #[.int .i64 0, .int .i64 0, .bool false, .slice none 0 0, .int .i64 0, .int .i64 0], .agg #[.int .i64 0, .int .i64 0, .bool false, .slice none 0 0, .int .i64 0, .int .i64 0], .int .i64 0, .int .i64 16]) (by simp [results, Tryz.results45, go_sem]) rfl (RetSett.err HR.out (by repeat (first | exact Ext.refl _ | assumption | apply Ext.xt | apply Ext.alloc | apply Ext.drew | apply Ext.drewN)))
  | true =>
    have ht : a.term < b.term := by
      rcases H4.out with h | h
      · rw [HSP.out] at h; cases h
      · exact h
    go_enter Tryz.func45, Tryz.ntmps45
    go_wp2_with (first
      | (have hh := HG; clear hh; go_at_call 27; refine (r54_Check b B d _ (HM.out.mono (by repeat (first | exact Ext.refl _ | assumption | apply Ext.xt | apply Ext.alloc | apply Ext.drew | apply Ext.drewN)))).mono ?_; rintro e w' ⟨rfl, hx⟩; obtain ⟨yb, rfl⟩ := hx.get; clear hx)
      | (go_at_call 27; refine (HC.out _ (HS.out.mono (by repeat (first | exact Ext.refl _ | assumption | apply Ext.xt | apply Ext.alloc | apply Ext.drew | apply Ext.drewN)))).mono ?_; rintro e w' ⟨rfl, hx⟩; have HG : Hid True := Lib.hid trivial; obtain ⟨ya, rfl⟩ := hx.get; clear hx))
    exact bodyPost_ret (v := .tuple #[.agg #[.int .i64 0, .int .i64 0, .bool false, .slice none 0 0, .int .i64 0, .int .i64 0], .agg #[.int .i64 0, .int .i64 0, .bool false, .slice none 0 0, .int .i64 0, .int .i64 0], .int .i64 0, .int .i64 16]) (by simp [results, Tryz.results45, go_sem]) rfl (RetSett.err HR.out (by repeat (first | exact Ext.refl _ | assumption | apply Ext.xt | apply Ext.alloc | apply Ext.drew | apply Ext.drewN)))
end
set_option maxHeartbeats 12800000 in
set_option maxRecDepth 100000 in
theorem r54_Settle_e (a : Nod) (A : Option Addr) (c : Nat) (b : Nod) (B : Option Addr) (d : Nat) (w : World) (hs : RecsAt w A c a.log) (hm : RecsAt w B d b.log) (h : nodE a = 0) (h2 : nodE b = 0) (h3 : ¬ a.id = b.id) (h4 : ¬ (a.speaks = false ∨ a.term < b.term)) : Calls Tryz.prog 45 #[.agg #[.int .i64 a.id, .int .i64 a.term, .bool a.speaks, .slice A a.log.length c, .int .i64 a.acked, .int .i64 a.next], .agg #[.int .i64 b.id, .int .i64 b.term, .bool b.speaks, .slice B b.log.length d, .int .i64 b.acked, .int .i64 b.next]] w (RetSett w (settleV a b)) := by
  have HS := Lib.hid hs
  have HM := Lib.hid hm
  have hz : (nodE a != 0) = false := by simpa using h
  have hz2 : (nodE b != 0) = false := by simpa using h2
  have hz3 : (a.id == b.id) = false := by simpa using h3
  obtain ⟨V, hV⟩ : ∃ V, settleV a b = V := ⟨_, rfl⟩
  have HR := Lib.hid (show Pair a b ∧ V = settleR 521 0 a b from ⟨Pair.of h h2 h3 h4, by rw [← hV]; exact settleV_e h h2 h3 h4⟩)
  rw [hV]
  have H4 := Lib.hid h4
  clear h h2 h3 hs hm h4 hV
  obtain ⟨sp, hsp⟩ : ∃ sp, a.speaks = sp := ⟨_, rfl⟩
  have HSP := Lib.hid hsp
  have HC := Lib.hid (fun (w' : World) (h : RecsAt w' A c a.log) => r54_Check a A c w' h)
  rw [hsp] at HC ⊢
  obtain rfl : sp = true := by
    cases sp with
    | true => rfl
    | false => exact absurd (.inl hsp) H4.out
  have ht : ¬ a.term < b.term := fun h => H4.out (.inr h)
  have htd : decide (a.term < b.term) = false := decide_eq_false ht
  clear hsp
  go_enter Tryz.func45, Tryz.ntmps45
  go_wp2_with (first
    | (have hh := HG; clear hh; go_at_call 27; refine (r54_Check b B d _ (HM.out.mono (by repeat (first | exact Ext.refl _ | assumption | apply Ext.xt | apply Ext.alloc | apply Ext.drew | apply Ext.drewN)))).mono ?_; rintro e w' ⟨rfl, hx⟩; obtain ⟨yb, rfl⟩ := hx.get; clear hx)
    | (go_at_call 27; refine (HC.out _ (HS.out.mono (by repeat (first | exact Ext.refl _ | assumption | apply Ext.xt | apply Ext.alloc | apply Ext.drew | apply Ext.drewN)))).mono ?_; rintro e w' ⟨rfl, hx⟩; have HG : Hid True := Lib.hid trivial; obtain ⟨ya, rfl⟩ := hx.get; clear hx))
  clear hz hz2 HC ht htd hz3
  go_loopw [10] (fun i wr => ∃ (k : Nat) (p : Nod) (A : Option Addr) (c : Nat) (q : Nod) (B : Option Addr) (d : Nat), k ≤ 521 ∧ i = .int .i64 k ∧ Hid (Pair p q ∧ V = settleR (521 - k) k p q) ∧ Four 65 w wr p A c q B d) (fun i _ => 521 - (intOf i).toNat)
  case atStart =>
    refine ⟨0, a, A, c, b, B, d, by omega, rfl, HR, ⟨by repeat (first | exact Ext.refl _ | assumption | apply Ext.xt | apply Ext.alloc | apply Ext.drew | apply Ext.drewN), ?_, ?_, ?_, ?_, LogW.of HS.out (by repeat (first | exact Ext.refl _ | assumption | apply Ext.xt | apply Ext.alloc | apply Ext.drew | apply Ext.drewN)), LogW.of HM.out (by repeat (first | exact Ext.refl _ | assumption | apply Ext.xt | apply Ext.alloc | apply Ext.drew | apply Ext.drewN))⟩⟩
    · rw [HSP.out]; exact (by repeat (first | exact BoxAt.new (by first | rfl | (simp [go_sem]; done) | (simp [go_sem]; omega)) _ _ | apply BoxAt.xt | apply BoxAt.drew | apply BoxAt.drewN | apply BoxAt.alloc))
    · exact (by repeat (first | exact BoxAt.new (by first | rfl | (simp [go_sem]; done) | (simp [go_sem]; omega)) _ _ | apply BoxAt.xt | apply BoxAt.drew | apply BoxAt.drewN | apply BoxAt.alloc))
    · exact (by repeat (first | exact BoxAt.new (by first | rfl | (simp [go_sem]; done) | (simp [go_sem]; omega)) _ _ | apply BoxAt.xt | apply BoxAt.drew | apply BoxAt.drewN | apply BoxAt.alloc))
    · exact (by repeat (first | exact BoxAt.new (by first | rfl | (simp [go_sem]; done) | (simp [go_sem]; omega)) _ _ | apply BoxAt.xt | apply BoxAt.drew | apply BoxAt.drewN | apply BoxAt.alloc))
  case round =>
    obtain ⟨k, p, A, c, q, B, d, hk, rfl, HP, HF⟩ := hrel
    obtain ⟨x0, x1, x2, x3, x4, x5⟩ := HF.b1.six
    obtain ⟨z0, z1, z2, z3, z4, z5⟩ := HF.b2.six
    by_cases hlt : k ≤ 520
    · obtain ⟨s, hsB⟩ : ∃ s, settledB p q = s := ⟨_, rfl⟩
      have HB := Lib.hid hsB
      clear hsB
      have hkk : (k : Int) ≤ 520 := by omega
      cases s with
      | true =>
        have HV := Lib.hid (show V = (p, q, (k : Int), 0) by rw [HP.out.2, show 521 - k = (520 - k) + 1 by omega, settleR_done HB.out])
        go_wp2_with (go_at_call 83; refine (r54_settled p A c q B d _ (HF.l1.recs HF.ext (by repeat (first | exact Ext.refl _ | assumption | apply Ext.xt | apply Ext.alloc | apply Ext.drew | apply Ext.drewN))) (HF.l2.recs HF.ext (by repeat (first | exact Ext.refl _ | assumption | apply Ext.xt | apply Ext.alloc | apply Ext.drew | apply Ext.drewN))) true HB.out).mono ?_; rintro e w' ⟨rfl, hx⟩; obtain ⟨yb, rfl⟩ := hx.get; clear hx)
        refine wp_region_L (S := SS 99 99 (fun _ => True) (fun _ => True) (fun w9 => BoxAt w9 w.heap.size [.int .i64 p.id, .int .i64 p.term, .bool p.speaks, .slice A p.log.length c, .int .i64 p.acked, .int .i64 p.next] 65 ∧ BoxAt w9 (w.heap.size + 1) [.int .i64 q.id, .int .i64 q.term, .bool q.speaks, .slice B q.log.length d, .int .i64 q.acked, .int .i64 q.next] 65)) (by kernel_rfl) ⟨fun _ => trivial, fun _ => trivial, HF.b1.mono (show Ext _ (xt _ yb).drew from by repeat (first | exact Ext.refl _ | assumption | apply Ext.xt | apply Ext.alloc | apply Ext.drew | apply Ext.drewN)), HF.b2.mono (show Ext _ (xt _ yb).drew from by repeat (first | exact Ext.refl _ | assumption | apply Ext.xt | apply Ext.alloc | apply Ext.drew | apply Ext.drewN))⟩ (fun hcl hS => ?_)
        refine wpAnyL_take (i := 0) (T := (fun w9 => BoxAt w9 w.heap.size [.int .i64 p.id, .int .i64 p.term, .bool p.speaks, .slice A p.log.length c, .int .i64 p.acked, .int .i64 p.next] 65)) (v := ?_) rfl (by kernel_rfl) (by kernel_rfl) (by kernel_rfl) (fun _ _ _ h => h) (fun _ _ _ _ hS => hS.2.2.1) (SS.up (by decide) (by decide)) (SS.down (by decide) (by decide)) (Or.inl ⟨by rfl, ?_⟩) hcl hS ?_
        rotate_left
        · (intro w9 hw9; (try dsimp only at hw9); obtain ⟨g0, g1, g2, g3, g4, g5⟩ := hw9.six; go_simp; try with_reducible rfl)
        clear hcl hS
        intro hcl hS
        (try simp only [Act.put]); (try simp only [List.setIfInBounds_toArray]); (repeat (first | simp only [List.set_cons_succ] | simp only [List.set_cons_zero]))
        refine wpAnyL_take (i := 1) (T := (fun w9 => BoxAt w9 (w.heap.size + 1) [.int .i64 q.id, .int .i64 q.term, .bool q.speaks, .slice B q.log.length d, .int .i64 q.acked, .int .i64 q.next] 65)) (v := ?_) rfl (by kernel_rfl) (by kernel_rfl) (by kernel_rfl) (fun _ _ _ h => h) (fun _ _ _ _ hS => hS.2.2.2) (SS.up (by decide) (by decide)) (SS.down (by decide) (by decide)) (Or.inl ⟨by rfl, ?_⟩) hcl hS ?_
        rotate_left
        · (intro w9 hw9; (try dsimp only at hw9); obtain ⟨g0, g1, g2, g3, g4, g5⟩ := hw9.six; go_simp; try with_reducible rfl)
        clear hcl hS
        intro hcl hS
        (try simp only [Act.put]); (try simp only [List.setIfInBounds_toArray]); (repeat (first | simp only [List.set_cons_succ] | simp only [List.set_cons_zero]))
        refine wpAnyL_take (i := 2) (T := (fun _ => True)) (v := ?_) rfl (by kernel_rfl) (by kernel_rfl) (by kernel_rfl) (fun _ _ _ h => h) (fun _ _ _ _ _ => trivial) (SS.up (by decide) (by decide)) (SS.down (by decide) (by decide)) (Or.inl ⟨by rfl, ?_⟩) hcl hS ?_
        rotate_left
        · (intro w9 hw9; (try dsimp only at hw9); go_simp; try with_reducible rfl)
        clear hcl hS
        intro hcl hS
        (try simp only [Act.put]); (try simp only [List.setIfInBounds_toArray]); (repeat (first | simp only [List.set_cons_succ] | simp only [List.set_cons_zero]))
        have hp9 := hS.2.2.1
        have hq9 := hS.2.2.2
        clear hS
        refine wpAnyL_store (i := 3) (by kernel_rfl) rfl rfl hcl 65 (.tmp 4) (.tmp 59) rfl (HF.b3.mono (by repeat (first | exact Ext.refl _ | assumption | apply Ext.xt | apply Ext.alloc | apply Ext.drew | apply Ext.drewN))) rfl [.int .i64 p.id, .int .i64 p.term, .bool p.speaks, .slice A p.log.length c, .int .i64 p.acked, .int .i64 p.next] rfl rfl (show 6 < 44 by decide) (by kernel_rfl) (nodl_one p A c) ?_; intro W1 ht1 hb1; replace hp9 := hp9.turn ht1 (by omega); replace hq9 := hq9.turn ht1 (by omega)
        refine ⟨⟨fun _ => trivial, fun _ => trivial, hp9, hq9⟩, fun hcl hS => ?_⟩
        clear hp9 hq9
        have hp9 := hS.2.2.1
        have hq9 := hS.2.2.2
        clear hS
        refine wpAnyL_store (i := 4) (by kernel_rfl) rfl rfl hcl 65 (.tmp 5) (.tmp 60) rfl ((HF.b4.mono (show Ext _ (xt _ yb).drew from by repeat (first | exact Ext.refl _ | assumption | apply Ext.xt | apply Ext.alloc | apply Ext.drew | apply Ext.drewN))).turn ht1 (by omega)) rfl [.int .i64 q.id, .int .i64 q.term, .bool q.speaks, .slice B q.log.length d, .int .i64 q.acked, .int .i64 q.next] rfl rfl (show 6 < 44 by decide) (by kernel_rfl) (nodl_one q B d) ?_; intro W2 ht2 hb2; replace hp9 := hp9.turn ht2 (by omega); replace hq9 := hq9.turn ht2 (by omega)
        refine ⟨⟨fun _ => trivial, fun _ => trivial, hp9, hq9⟩, fun hcl hS => ?_⟩
        clear hp9 hq9
        refine wpAnyL_only (i := 5) (by kernel_rfl) rfl rfl hcl (fun K9 hK9 => ?_)
        have hp9 := hS.2.2.1
        have hq9 := hS.2.2.2
        clear hS hcl
        go_simp
        refine hK9 _ _ ⟨fun _ => trivial, fun _ => trivial, hp9, hq9⟩ (fun hcl hS => ?_)
        clear hK9 hp9 hq9 K9
        refine wpAnyL_only (i := 6) (by kernel_rfl) rfl rfl hcl (fun K9 hK9 => ?_)
        have hp9 := hS.2.2.1
        have hq9 := hS.2.2.2
        clear hS hcl
        go_simp
        refine hK9 _ _ ⟨fun _ => trivial, fun _ => trivial, hp9, hq9⟩ (fun hcl hS => ?_)
        clear hK9 hp9 hq9 K9
        clear hcl hS
        refine wpAnyL_done (by kernel_rfl) ?_ _
        go_wp2_with fail
        obtain ⟨q0, q1, q2, q3, q4, q5⟩ := (hb1.turn ht2 (by omega)).six
        obtain ⟨p0, p1, p2, p3, p4, p5⟩ := hb2.six
        refine bodyPost_ret (v := .tuple #[.agg #[.int .i64 p.id, .int .i64 p.term, .bool p.speaks, .slice A p.log.length c, .int .i64 p.acked, .int .i64 p.next], .agg #[.int .i64 q.id, .int .i64 q.term, .bool q.speaks, .slice B q.log.length d, .int .i64 q.acked, .int .i64 q.next], .int .i64 k, .int .i64 0]) (by simp [results, Tryz.results45, go_sem, q0, q1, q2, q3, q4, q5, p0, p1, p2, p3, p4, p5]) rfl ?_
        rw [HV.out]
        exact ⟨A, c, B, d, rfl, ht2.ext (ht1.ext (HF.ext.trans (show Ext _ (xt _ yb).drew from by repeat (first | exact Ext.refl _ | assumption | apply Ext.xt | apply Ext.alloc | apply Ext.drew | apply Ext.drewN))) (by omega)) (by omega), LogW.recs (((HF.l1.mono (show Ext _ (xt _ yb).drew from by repeat (first | exact Ext.refl _ | assumption | apply Ext.xt | apply Ext.alloc | apply Ext.drew | apply Ext.drewN))).turn ht1).turn ht2) (ht2.ext (ht1.ext (HF.ext.trans (show Ext _ (xt _ yb).drew from by repeat (first | exact Ext.refl _ | assumption | apply Ext.xt | apply Ext.alloc | apply Ext.drew | apply Ext.drewN))) (by omega)) (by omega)) (Ext.refl _), LogW.recs (((HF.l2.mono (show Ext _ (xt _ yb).drew from by repeat (first | exact Ext.refl _ | assumption | apply Ext.xt | apply Ext.alloc | apply Ext.drew | apply Ext.drewN))).turn ht1).turn ht2) (ht2.ext (ht1.ext (HF.ext.trans (show Ext _ (xt _ yb).drew from by repeat (first | exact Ext.refl _ | assumption | apply Ext.xt | apply Ext.alloc | apply Ext.drew | apply Ext.drewN))) (by omega)) (by omega)) (Ext.refl _)⟩
      | false =>
        obtain ⟨m, hmm⟩ : ∃ m, sentM p = m := ⟨_, rfl⟩
        obtain ⟨⟨n1, a1, ok, er⟩, hv⟩ : ∃ v, recvV q m = v := ⟨_, rfl⟩
        have HNP := Lib.hid HP.out.1.na
        have HEL := Lib.hid (show ∀ r ∈ n1.log, AcnAt w r.act from fun r hr => by
          have hr' : r ∈ (recvV q m).1.log := by rw [hv]; exact hr
          rcases recvV_log q m r hr' with h | h
          · exact HF.l2.el r h
          · exact HF.l1.el r (sentM_recs p r (by rw [hmm]; exact h)))
        have HVS := Lib.hid (show recvV q (sentM p) = (n1, a1, ok, er) by rw [hmm]; exact hv)
        have HMM := Lib.hid hmm
        have HV := Lib.hid hv
        clear hmm hv
        go_wp2_with (go_at_call 83; refine (r54_settled p A c q B d _ (HF.l1.recs HF.ext (by repeat (first | exact Ext.refl _ | assumption | apply Ext.xt | apply Ext.alloc | apply Ext.drew | apply Ext.drewN))) (HF.l2.recs HF.ext (by repeat (first | exact Ext.refl _ | assumption | apply Ext.xt | apply Ext.alloc | apply Ext.drew | apply Ext.drewN))) false HB.out).mono ?_; rintro e w' ⟨rfl, hx⟩; obtain ⟨yb, rfl⟩ := hx.get; clear hx)
        refine wp_region_stab 11 [6, 7, 8] [Stab.is (.agg #[.int .i64 q.id, .int .i64 q.term, .bool q.speaks, .slice B q.log.length d, .int .i64 q.acked, .int .i64 q.next]), Stab.is (.agg #[.int .i64 p.id, .int .i64 p.term, .bool p.speaks, .slice A p.log.length c, .int .i64 p.acked, .int .i64 p.next]), Stab.msg m, Stab.recv w n1 a1 ok er, Stab.recv w n1 a1 ok er, Stab.nod w n1, Stab.is (.agg #[.int .i64 a1.kind, .int .i64 a1.term, .int .i64 a1.at_, .int .i64 0, .slice none 0 0, .int .i64 0]), Stab.is (.bool ok), Stab.is (.int .i64 er), Stab.box (w.heap.size + 4) [.int .i64 0, .int .i64 0, .bool false, .slice none 0 0, .int .i64 0, .int .i64 0] 65, Stab.box (w.heap.size + 4) [.int .i64 0, .int .i64 0, .int .i64 0, .int .i64 0, .slice none 0 0, .int .i64 0] 67] (fun u => by (simp only [putAll, List.take_succ_cons, List.take_zero, Act.put, Nat.zero_add, Nat.reduceAdd]); (try simp only [List.setIfInBounds_toArray]); (repeat (first | simp only [List.set_cons_succ] | simp only [List.set_cons_zero])); exact rfl) (by kernel_rfl) (by kernel_rfl) (fun _ _ _ _ _ h => h) ?_ ?_
        · refine ⟨?_, ?_, ?_, ?_, ?_, ?_, ?_, ?_, ?_, ?_, ?_, trivial⟩
          · (show SlotA _ _ _ _ _ _ _); intro u w1 hx1 hd; obtain ⟨y9, rfl⟩ := hx1.get; clear hx1
            refine slot_run rfl rfl rfl ?_; intro K9 hK
            go_simp; exact hK _ _ rfl (by repeat (first | exact Ext.refl _ | assumption | apply Ext.xt | apply Ext.alloc | apply Ext.drew | apply Ext.drewN)) rfl
          · (show SlotA _ _ _ _ _ _ _); intro u w1 hx1 hd; obtain ⟨y9, rfl⟩ := hx1.get; clear hx1
            refine slot_run rfl rfl rfl ?_; intro K9 hK
            go_simp; exact hK _ _ rfl (by repeat (first | exact Ext.refl _ | assumption | apply Ext.xt | apply Ext.alloc | apply Ext.drew | apply Ext.drewN)) rfl
          · (show SlotA _ _ _ _ _ _ _); intro u w1 hx1 hd; obtain ⟨y9, rfl⟩ := hx1.get; clear hx1
            have e1 : u 1 = .agg #[.int .i64 p.id, .int .i64 p.term, .bool p.speaks, .slice A p.log.length c, .int .i64 p.acked, .int .i64 p.next] := hd 1 (by kernel_rfl)
            simp only [e1]
            refine slot_run rfl rfl rfl ?_; intro K9 hK
            go_simp; go_at_call 78; refine (r54_Sent_as p m HMM.out A c _ (HF.l1.recs HF.ext (by repeat (first | exact Ext.refl _ | assumption | apply Ext.xt | apply Ext.alloc | apply Ext.drew | apply Ext.drewN))) HNP.out).mono ?_; rintro e w' ⟨D, K, rfl, hx, hown, hel⟩; exact hK _ _ rfl hx ⟨D, K, rfl, Own.recs hown rfl (fun r hr => (hel r hr).mono hx)⟩
          · (show SlotA _ _ _ _ _ _ _); intro u w1 hx1 hd; obtain ⟨y9, rfl⟩ := hx1.get; clear hx1
            have e0 : u 0 = .agg #[.int .i64 q.id, .int .i64 q.term, .bool q.speaks, .slice B q.log.length d, .int .i64 q.acked, .int .i64 q.next] := hd 0 (by kernel_rfl)
            obtain ⟨D2, K2, e2, h2⟩ := hd 2 (by kernel_rfl)
            simp only [e0, e2]
            refine slot_run rfl rfl rfl ?_; intro K9 hK
            go_simp; go_at_call 22; refine (r54_Receive_as q B d m D2 K2 _ (HF.l2.recs HF.ext (by repeat (first | exact Ext.refl _ | assumption | apply Ext.xt | apply Ext.alloc | apply Ext.drew | apply Ext.drewN))) (h2.mono (by repeat (first | exact Ext.refl _ | assumption | apply Ext.xt | apply Ext.alloc | apply Ext.drew | apply Ext.drewN))) n1 a1 ok er HV.out).mono ?_; rintro e w' ⟨D, K, rfl, hx, hl⟩; exact hK _ _ rfl hx ⟨D, K, rfl, LogQ.logw hl rfl hx HEL.out⟩
          · (show SlotA _ _ _ _ _ _ _); intro u w1 hx1 hd; obtain ⟨y9, rfl⟩ := hx1.get; clear hx1
            obtain ⟨D3, K3, e3, h3⟩ := hd 3 (by kernel_rfl)
            simp only [e3]
            refine slot_run rfl rfl rfl ?_; intro K9 hK
            go_simp; exact hK _ _ rfl (by repeat (first | exact Ext.refl _ | assumption | apply Ext.xt | apply Ext.alloc | apply Ext.drew | apply Ext.drewN)) ⟨D3, K3, rfl, h3⟩
          · (show SlotA _ _ _ _ _ _ _); intro u w1 hx1 hd; obtain ⟨y9, rfl⟩ := hx1.get; clear hx1
            obtain ⟨D3, K3, e4, h3⟩ := hd 4 (by kernel_rfl)
            simp only [e4]
            refine slot_run rfl rfl rfl ?_; intro K9 hK
            go_simp; exact hK _ _ rfl (by repeat (first | exact Ext.refl _ | assumption | apply Ext.xt | apply Ext.alloc | apply Ext.drew | apply Ext.drewN)) ⟨D3, K3, rfl, h3⟩
          · (show PureA _ _ _ _ _ _); intro u w1 hx1 hd; obtain ⟨y9, rfl⟩ := hx1.get; clear hx1
            obtain ⟨D3, K3, e4, h3⟩ := hd 4 (by kernel_rfl)
            simp only [e4]
            refine pure_run (v := .agg #[.int .i64 a1.kind, .int .i64 a1.term, .int .i64 a1.at_, .int .i64 0, .slice none 0 0, .int .i64 0]) rfl rfl (fun w9 => ?_) rfl
            go_simp
          · (show PureA _ _ _ _ _ _); intro u w1 hx1 hd; obtain ⟨y9, rfl⟩ := hx1.get; clear hx1
            obtain ⟨D3, K3, e4, h3⟩ := hd 4 (by kernel_rfl)
            simp only [e4]
            refine pure_run (v := .bool ok) rfl rfl (fun w9 => ?_) rfl
            go_simp
          · (show PureA _ _ _ _ _ _); intro u w1 hx1 hd; obtain ⟨y9, rfl⟩ := hx1.get; clear hx1
            obtain ⟨D3, K3, e4, h3⟩ := hd 4 (by kernel_rfl)
            simp only [e4]
            refine pure_run (v := .int .i64 er) rfl rfl (fun w9 => ?_) rfl
            go_simp
          · (show SlotA _ _ _ _ _ _ _); intro u w1 hx1 hd; obtain ⟨y9, rfl⟩ := hx1.get; clear hx1
            refine slot_run rfl rfl rfl ?_; intro K9 hK
            go_simp; exact hK _ _ rfl (by repeat (first | exact Ext.refl _ | assumption | apply Ext.xt | apply Ext.alloc | apply Ext.drew | apply Ext.drewN)) ⟨_, rfl, (by have h9 := HF.b4.lt; first | omega | (simp [go_sem]; omega)), BoxAt.new (by first | rfl | simp [go_sem]) _ _⟩
          · (show SlotA _ _ _ _ _ _ _); intro u w1 hx1 hd; obtain ⟨y9, rfl⟩ := hx1.get; clear hx1
            refine slot_run rfl rfl rfl ?_; intro K9 hK
            go_simp; exact hK _ _ rfl (by repeat (first | exact Ext.refl _ | assumption | apply Ext.xt | apply Ext.alloc | apply Ext.drew | apply Ext.drewN)) ⟨_, rfl, (by have h9 := HF.b4.lt; first | omega | (simp [go_sem]; omega)), BoxAt.new (by first | rfl | simp [go_sem]) _ _⟩
        · intro u w2 hx2 hT; obtain ⟨t0, t1, t2, t3, t4, t5, t6, t7, t8, t9, t10, -⟩ := hT; obtain ⟨y9, rfl⟩ := hx2.get; clear hx2
          obtain ⟨D5, K5, e5, h5⟩ := t5
          have e6 : u 6 = .agg #[.int .i64 a1.kind, .int .i64 a1.term, .int .i64 a1.at_, .int .i64 0, .slice none 0 0, .int .i64 0] := t6
          have e7 : u 7 = .bool ok := t7
          have e8 : u 8 = .int .i64 er := t8
          obtain ⟨g9, e9, hg9, b9⟩ := t9
          obtain ⟨g10, e10, hg10, b10⟩ := t10
          simp only [e5, e6, e7, e8, e9, e10]
          clear e5 e6 e7 e8 e9 e10 t0 t1 t2 t3 t4 t6 t7 t8
          simp only [List.drop_succ_cons, List.drop_zero]
          have HE := Lib.hid (HF.mono (show Ext _ (xt (xt _ yb).drew y9) from by repeat (first | exact Ext.refl _ | assumption | apply Ext.xt | apply Ext.alloc | apply Ext.drew | apply Ext.drewN)))
          by_cases h4 : er = 0
          · have hz4 : (er != 0) = false := by simpa using h4
            subst h4
            cases ok with
            | false =>
              have HN := Lib.hid (show Pair p n1 ∧ V = settleR (521 - (k + 1)) ((k + 1 : Nat) : Int) p n1 from ⟨by
                have := HP.out.1.first (by rw [HVS.out])
                rw [HVS.out] at this; exact this, by
                rw [HP.out.2, show 521 - k = (520 - k) + 1 by omega, settleR_mute HVS.out HB.out rfl rfl, show 521 - (k + 1) = 520 - k by omega]; rfl⟩)
              go_wp2_with (first
                | (refine wpList_store_at rfl 65 (.tmp 11) (.tmp 67) rfl b9 rfl [.int .i64 n1.id, .int .i64 n1.term, .bool n1.speaks, .slice D5 n1.log.length K5, .int .i64 n1.acked, .int .i64 n1.next] rfl rfl (show 6 < 44 by decide) (by kernel_rfl) (nodl_one n1 D5 K5) ?_; intro W1 ht1 hb1)
                | (refine wpList_store_at rfl 67 (.tmp 12) (.tmp 68) rfl (b10.turn ht1 (BoxAt.differ b10 b9 (by decide))) rfl [.int .i64 a1.kind, .int .i64 a1.term, .int .i64 a1.at_, .int .i64 0, .slice none 0 0, .int .i64 0] rfl rfl (show 6 < 44 by decide) (by kernel_rfl) (ansl_one a1) ?_; intro W2 ht2 hb2; have F3 := (HE.out.turn ht1 hg9).turn ht2 hg10; have L5 := (h5.turn ht1).turn ht2; obtain ⟨q0, q1, q2, q3, q4, q5⟩ := (hb1.turn ht2 (BoxAt.differ b9 b10 (by decide))).six; obtain ⟨r0, r1, r2, r3, r4, r5⟩ := hb2.six)
                | (refine wpList_store_at rfl 65 (.tmp 3) (.tmp 76) rfl F3.b2 rfl [.int .i64 n1.id, .int .i64 n1.term, .bool n1.speaks, .slice D5 n1.log.length K5, .int .i64 n1.acked, .int .i64 n1.next] rfl rfl (show 6 < 44 by decide) (by kernel_rfl) (nodl_one n1 D5 K5) ?_; intro W4 ht4 hb4; have F4 := F3.set2 ht4 hb4 L5))
              go_light
              exact ⟨⟨k + 1, p, A, c, n1, D5, K5, by omega, by go_num, HN, F4⟩, by simp [intOf]; omega⟩
            | true =>
              obtain ⟨⟨n2, a2, ok2, er2⟩, hu⟩ : ∃ v, recvV p a1 = v := ⟨_, rfl⟩
              have L := recvV_left (n := q) (m := m) (by rw [HV.out])
              rw [HV.out] at L
              have HA1 := Lib.hid ((L.ans rfl).1.ans (L.ans rfl).2.2)
              have HEL2 := Lib.hid (show ∀ r ∈ n2.log, AcnAt w r.act from fun r hr => by
                have hr' : r ∈ (recvV p a1).1.log := by rw [hu]; exact hr
                rcases recvV_log p a1 r hr' with h | h
                · exact HF.l1.el r h
                · rw [HA1.out.2.1] at h; cases h)
              have HU := Lib.hid hu
              clear hu L
              by_cases h5 : er2 = 0
              · subst h5
                have HN := Lib.hid (show Pair n2 n1 ∧ V = settleR (521 - (k + 1)) ((k + 1 : Nat) : Int) n2 n1 from ⟨by
                  have := HP.out.1.second (by rw [HVS.out]) (by rw [HVS.out]) (by rw [HVS.out]; show (recvV p a1).2.2.2 = 0; rw [HU.out])
                  rw [HVS.out] at this
                  have e : (recvV p a1).1 = n2 := by rw [HU.out]
                  rw [← e]; exact this, by
                  rw [HP.out.2, show 521 - k = (520 - k) + 1 by omega, settleR_on HVS.out HU.out HB.out rfl rfl rfl, show 521 - (k + 1) = 520 - k by omega]; rfl⟩)
                go_wp2_with (first
                  | (refine wpList_store_at rfl 65 (.tmp 11) (.tmp 67) rfl b9 rfl [.int .i64 n1.id, .int .i64 n1.term, .bool n1.speaks, .slice D5 n1.log.length K5, .int .i64 n1.acked, .int .i64 n1.next] rfl rfl (show 6 < 44 by decide) (by kernel_rfl) (nodl_one n1 D5 K5) ?_; intro W1 ht1 hb1)
                  | (refine wpList_store_at rfl 67 (.tmp 12) (.tmp 68) rfl (b10.turn ht1 (BoxAt.differ b10 b9 (by decide))) rfl [.int .i64 a1.kind, .int .i64 a1.term, .int .i64 a1.at_, .int .i64 0, .slice none 0 0, .int .i64 0] rfl rfl (show 6 < 44 by decide) (by kernel_rfl) (ansl_one a1) ?_; intro W2 ht2 hb2; have F3 := (HE.out.turn ht1 hg9).turn ht2 hg10; have L5 := (h5.turn ht1).turn ht2; obtain ⟨q0, q1, q2, q3, q4, q5⟩ := (hb1.turn ht2 (BoxAt.differ b9 b10 (by decide))).six; obtain ⟨r0, r1, r2, r3, r4, r5⟩ := hb2.six)
                  | (refine wpList_store_at rfl 65 (.tmp 3) (.tmp 76) rfl F3.b2 rfl [.int .i64 n1.id, .int .i64 n1.term, .bool n1.speaks, .slice D5 n1.log.length K5, .int .i64 n1.acked, .int .i64 n1.next] rfl rfl (show 6 < 44 by decide) (by kernel_rfl) (nodl_one n1 D5 K5) ?_; intro W4 ht4 hb4; have F4 := F3.set2 ht4 hb4 L5; obtain ⟨u0, u1, u2, u3, u4, u5⟩ := F4.b1.six; obtain ⟨v0, v1, v2, v3, v4, v5⟩ := ((hb2.turn ht4 (by have := F3.b4.lt; omega))).six)
                  | (have hh := ht4; clear hh; go_at_call 22; refine (r54_Receive_ans p A c a1 _ (F4.l1.recs F4.ext (by repeat (first | exact Ext.refl _ | assumption | apply Ext.xt | apply Ext.alloc | apply Ext.drew | apply Ext.drewN))) HA1.out n2 a2 ok2 0 HU.out).mono ?_; rintro e w' ⟨D8, K8, rfl, hx, hl⟩; have F5 := F4.mono hx; have L8 := LogQ.logw (w := w) hl rfl hx HEL2.out; obtain ⟨y8, rfl⟩ := hx.get; clear hx hl)
                  | (refine wpList_store_at rfl 65 (.tmp 2) (.tmp 91) rfl (F5.b1.mono (by repeat (first | exact Ext.refl _ | assumption | apply Ext.xt | apply Ext.alloc | apply Ext.drew | apply Ext.drewN))) rfl [.int .i64 n2.id, .int .i64 n2.term, .bool n2.speaks, .slice D8 n2.log.length K8, .int .i64 n2.acked, .int .i64 n2.next] rfl rfl (show 6 < 44 by decide) (by kernel_rfl) (nodl_one n2 D8 K8) ?_; intro W7 ht7 hb7; have F6 := Four.set1 (F5.mono (by repeat (first | exact Ext.refl _ | assumption | apply Ext.xt | apply Ext.alloc | apply Ext.drew | apply Ext.drewN))) ht7 hb7 (L8.mono (by repeat (first | exact Ext.refl _ | assumption | apply Ext.xt | apply Ext.alloc | apply Ext.drew | apply Ext.drewN)))))
                go_light
                exact ⟨⟨k + 1, n2, D8, K8, n1, D5, K5, by omega, by go_num, HN, F6⟩, by simp [intOf]; omega⟩
              · have hz5 : (er2 != 0) = true := by simpa using h5
                have HVV := Lib.hid (show V = (nod0, nod0, 0, er2) by rw [HP.out.2, show 521 - k = (520 - k) + 1 by omega, settleR_back HVS.out HU.out HB.out rfl rfl h5])
                clear h5
                go_wp2_with (first
                  | (refine wpList_store_at rfl 65 (.tmp 11) (.tmp 67) rfl b9 rfl [.int .i64 n1.id, .int .i64 n1.term, .bool n1.speaks, .slice D5 n1.log.length K5, .int .i64 n1.acked, .int .i64 n1.next] rfl rfl (show 6 < 44 by decide) (by kernel_rfl) (nodl_one n1 D5 K5) ?_; intro W1 ht1 hb1)
                  | (refine wpList_store_at rfl 67 (.tmp 12) (.tmp 68) rfl (b10.turn ht1 (BoxAt.differ b10 b9 (by decide))) rfl [.int .i64 a1.kind, .int .i64 a1.term, .int .i64 a1.at_, .int .i64 0, .slice none 0 0, .int .i64 0] rfl rfl (show 6 < 44 by decide) (by kernel_rfl) (ansl_one a1) ?_; intro W2 ht2 hb2; have F3 := (HE.out.turn ht1 hg9).turn ht2 hg10; have L5 := (h5.turn ht1).turn ht2; obtain ⟨q0, q1, q2, q3, q4, q5⟩ := (hb1.turn ht2 (BoxAt.differ b9 b10 (by decide))).six; obtain ⟨r0, r1, r2, r3, r4, r5⟩ := hb2.six)
                  | (refine wpList_store_at rfl 65 (.tmp 3) (.tmp 76) rfl F3.b2 rfl [.int .i64 n1.id, .int .i64 n1.term, .bool n1.speaks, .slice D5 n1.log.length K5, .int .i64 n1.acked, .int .i64 n1.next] rfl rfl (show 6 < 44 by decide) (by kernel_rfl) (nodl_one n1 D5 K5) ?_; intro W4 ht4 hb4; have F4 := F3.set2 ht4 hb4 L5; obtain ⟨u0, u1, u2, u3, u4, u5⟩ := F4.b1.six; obtain ⟨v0, v1, v2, v3, v4, v5⟩ := ((hb2.turn ht4 (by have := F3.b4.lt; omega))).six)
                  | (have hh := ht4; clear hh; go_at_call 22; refine (r54_Receive_ans p A c a1 _ (F4.l1.recs F4.ext (by repeat (first | exact Ext.refl _ | assumption | apply Ext.xt | apply Ext.alloc | apply Ext.drew | apply Ext.drewN))) HA1.out n2 a2 ok2 er2 HU.out).mono ?_; rintro e w' ⟨D8, K8, rfl, hx, hl⟩; have F5 := F4.mono hx; have L8 := LogQ.logw (w := w) hl rfl hx HEL2.out; obtain ⟨y8, rfl⟩ := hx.get; clear hx hl)
                  | (refine wpList_store_at rfl 65 (.tmp 4) (.tmp 88) rfl (F5.b3.mono (by repeat (first | exact Ext.refl _ | assumption | apply Ext.xt | apply Ext.alloc | apply Ext.drew | apply Ext.drewN))) rfl [.int .i64 0, .int .i64 0, .bool false, .slice none 0 0, .int .i64 0, .int .i64 0] rfl rfl (show 6 < 44 by decide) (by kernel_rfl) zones ?_; intro W5 ht5 hb5)
                  | (refine wpList_store_at rfl 65 (.tmp 5) (.tmp 89) rfl ((F5.b4.mono (by repeat (first | exact Ext.refl _ | assumption | apply Ext.xt | apply Ext.alloc | apply Ext.drew | apply Ext.drewN))).turn ht5 (by omega)) rfl [.int .i64 0, .int .i64 0, .bool false, .slice none 0 0, .int .i64 0, .int .i64 0] rfl rfl (show 6 < 44 by decide) (by kernel_rfl) zones ?_; intro W6 ht6 hb6))
                obtain ⟨s0, s1, s2, s3, s4, s5⟩ := (hb5.turn ht6 (by omega)).six
                obtain ⟨t0, t1, t2, t3, t4, t5⟩ := hb6.six
                refine bodyPost_ret (v := .tuple #[.agg #[.int .i64 nod0.id, .int .i64 nod0.term, .bool nod0.speaks, .slice none nod0.log.length 0, .int .i64 nod0.acked, .int .i64 nod0.next], .agg #[.int .i64 nod0.id, .int .i64 nod0.term, .bool nod0.speaks, .slice none nod0.log.length 0, .int .i64 nod0.acked, .int .i64 nod0.next], .int .i64 0, .int .i64 er2]) (by simp [results, Tryz.results45, go_sem, nod0, s0, s1, s2, s3, s4, s5, t0, t1, t2, t3, t4, t5]) rfl ?_
                exact RetSett.err HVV.out (ht6.ext (ht5.ext (F5.ext.trans (by repeat (first | exact Ext.refl _ | assumption | apply Ext.xt | apply Ext.alloc | apply Ext.drew | apply Ext.drewN))) (by omega)) (by omega))
          · have hz4 : (er != 0) = true := by simpa using h4
            have HVV := Lib.hid (show V = (nod0, nod0, 0, er) by rw [HP.out.2, show 521 - k = (520 - k) + 1 by omega, settleR_err HVS.out HB.out h4])
            clear h4
            go_wp2_with (first
              | (refine wpList_store_at rfl 65 (.tmp 11) (.tmp 67) rfl b9 rfl [.int .i64 n1.id, .int .i64 n1.term, .bool n1.speaks, .slice D5 n1.log.length K5, .int .i64 n1.acked, .int .i64 n1.next] rfl rfl (show 6 < 44 by decide) (by kernel_rfl) (nodl_one n1 D5 K5) ?_; intro W1 ht1 hb1)
              | (refine wpList_store_at rfl 67 (.tmp 12) (.tmp 68) rfl (b10.turn ht1 (BoxAt.differ b10 b9 (by decide))) rfl [.int .i64 a1.kind, .int .i64 a1.term, .int .i64 a1.at_, .int .i64 0, .slice none 0 0, .int .i64 0] rfl rfl (show 6 < 44 by decide) (by kernel_rfl) (ansl_one a1) ?_; intro W2 ht2 hb2; have F3 := (HE.out.turn ht1 hg9).turn ht2 hg10; have L5 := (h5.turn ht1).turn ht2; obtain ⟨q0, q1, q2, q3, q4, q5⟩ := (hb1.turn ht2 (BoxAt.differ b9 b10 (by decide))).six; obtain ⟨r0, r1, r2, r3, r4, r5⟩ := hb2.six)
              | (refine wpList_store_at rfl 65 (.tmp 4) (.tmp 73) rfl (F3.b3.mono (by repeat (first | exact Ext.refl _ | assumption | apply Ext.xt | apply Ext.alloc | apply Ext.drew | apply Ext.drewN))) rfl [.int .i64 0, .int .i64 0, .bool false, .slice none 0 0, .int .i64 0, .int .i64 0] rfl rfl (show 6 < 44 by decide) (by kernel_rfl) zones ?_; intro W5 ht5 hb5)
              | (refine wpList_store_at rfl 65 (.tmp 5) (.tmp 74) rfl ((F3.b4.mono (by repeat (first | exact Ext.refl _ | assumption | apply Ext.xt | apply Ext.alloc | apply Ext.drew | apply Ext.drewN))).turn ht5 (by omega)) rfl [.int .i64 0, .int .i64 0, .bool false, .slice none 0 0, .int .i64 0, .int .i64 0] rfl rfl (show 6 < 44 by decide) (by kernel_rfl) zones ?_; intro W6 ht6 hb6))
            obtain ⟨s0, s1, s2, s3, s4, s5⟩ := (hb5.turn ht6 (by omega)).six
            obtain ⟨t0, t1, t2, t3, t4, t5⟩ := hb6.six
            refine bodyPost_ret (v := .tuple #[.agg #[.int .i64 nod0.id, .int .i64 nod0.term, .bool nod0.speaks, .slice none nod0.log.length 0, .int .i64 nod0.acked, .int .i64 nod0.next], .agg #[.int .i64 nod0.id, .int .i64 nod0.term, .bool nod0.speaks, .slice none nod0.log.length 0, .int .i64 nod0.acked, .int .i64 nod0.next], .int .i64 0, .int .i64 er]) (by simp [results, Tryz.results45, go_sem, nod0, s0, s1, s2, s3, s4, s5, t0, t1, t2, t3, t4, t5]) rfl ?_
            exact RetSett.err HVV.out (ht6.ext (ht5.ext (F3.ext.trans (by repeat (first | exact Ext.refl _ | assumption | apply Ext.xt | apply Ext.alloc | apply Ext.drew | apply Ext.drewN))) (by omega)) (by omega))
    · have HVV := Lib.hid (show V = (nod0, nod0, 0, 16) by rw [HP.out.2, show 521 - k = 0 by omega]; rfl)
      have hkk : ¬ (k : Int) ≤ 520 := by omega
      go_wp2_with (first
        | (refine wpList_store_at rfl 65 (.tmp 4) (.tmp 92) rfl (HF.b3.mono (by repeat (first | exact Ext.refl _ | assumption | apply Ext.xt | apply Ext.alloc | apply Ext.drew | apply Ext.drewN))) rfl [.int .i64 0, .int .i64 0, .bool false, .slice none 0 0, .int .i64 0, .int .i64 0] rfl rfl (show 6 < 44 by decide) (by kernel_rfl) zones ?_; intro W5 ht5 hb5)
        | (refine wpList_store_at rfl 65 (.tmp 5) (.tmp 93) rfl ((HF.b4.mono (by repeat (first | exact Ext.refl _ | assumption | apply Ext.xt | apply Ext.alloc | apply Ext.drew | apply Ext.drewN))).turn ht5 (by omega)) rfl [.int .i64 0, .int .i64 0, .bool false, .slice none 0 0, .int .i64 0, .int .i64 0] rfl rfl (show 6 < 44 by decide) (by kernel_rfl) zones ?_; intro W6 ht6 hb6))
      obtain ⟨s0, s1, s2, s3, s4, s5⟩ := (hb5.turn ht6 (by omega)).six
      obtain ⟨t0, t1, t2, t3, t4, t5⟩ := hb6.six
      refine bodyPost_ret (v := .tuple #[.agg #[.int .i64 nod0.id, .int .i64 nod0.term, .bool nod0.speaks, .slice none nod0.log.length 0, .int .i64 nod0.acked, .int .i64 nod0.next], .agg #[.int .i64 nod0.id, .int .i64 nod0.term, .bool nod0.speaks, .slice none nod0.log.length 0, .int .i64 nod0.acked, .int .i64 nod0.next], .int .i64 0, .int .i64 16]) (by simp [results, Tryz.results45, go_sem, nod0, s0, s1, s2, s3, s4, s5, t0, t1, t2, t3, t4, t5]) rfl ?_
      exact RetSett.err HVV.out (ht6.ext (ht5.ext (HF.ext.trans (by repeat (first | exact Ext.refl _ | assumption | apply Ext.xt | apply Ext.alloc | apply Ext.drew | apply Ext.drewN))) (by omega)) (by omega))
theorem r54_Settle (a : Nod) (A : Option Addr) (c : Nat) (b : Nod) (B : Option Addr) (d : Nat) (w : World) (hs : RecsAt w A c a.log) (hm : RecsAt w B d b.log) : Calls Tryz.prog 45 #[.agg #[.int .i64 a.id, .int .i64 a.term, .bool a.speaks, .slice A a.log.length c, .int .i64 a.acked, .int .i64 a.next], .agg #[.int .i64 b.id, .int .i64 b.term, .bool b.speaks, .slice B b.log.length d, .int .i64 b.acked, .int .i64 b.next]] w (RetSett w (settleV a b)) := by
  by_cases h : nodE a = 0
  · by_cases h2 : nodE b = 0
    · by_cases h3 : a.id = b.id
      · exact r54_Settle_c a A c b B d w hs hm h h2 h3
      · by_cases h4 : a.speaks = false ∨ a.term < b.term
        · exact r54_Settle_d a A c b B d w hs hm h h2 h3 h4
        · exact r54_Settle_e a A c b B d w hs hm h h2 h3 h4
    · exact r54_Settle_b a A c b B d w hs hm h h2
  · exact r54_Settle_a a A c b B d w hs h
end Go.Proofs.YtlpboikonnpjbaaGreat
