/-
 TopTakeoversSpeak, walked.
-/
import Derived.Test.YtmhinhgflehkaaaGreatGwke
import Derived.Test.YtmhinhgflehkaaaGreatGwka
import Derived.Test.YtmhinhgflehkaaaGreatGtopx
import Derived.Test.YtmhinhgflehkaaaGreatGtkp
import Derived.Test.YtmhinhgflehkaaaGreatRow
import Derived.Test.YtmhinhgflehkaaaGreatRow2
namespace Go.Proofs.YtmhinhgflehkaaaGreat
open Go.RowKit

section
variable {W : World}
theorem downE_right {k : Int} (h0 : 0 ≤ k) (h1 : k ≤ 1048576) : evtsE [downE k 1] = 0 := by
 have e : evtE (downE k 1) = 0 := by
  unfold evtE
  rw [if_neg (by show ¬ ((1 : Int) < 0 ∨ 5 < (1 : Int)); omega), if_neg (by show ¬ ((1 : Int) ≤ 2 ∧ ((1 : Int) < 1 ∨ 2 < (1 : Int)) ∨ (1 : Int) = 5 ∧ _); omega), if_neg (by show ¬ ((1 : Int) = 0 ∧ _); omega), if_neg]
  rintro (⟨a, b⟩ | ⟨a, b⟩ | ⟨a, b⟩)
  ·exact a (by show (1 : Int) ≤ 2; omega)
  ·exact b rfl
  ·have : sameA acnN acnN = false := b
   rw [sameA_refl] at this; cases this
 have e2 : evtS none (downE k 1) = 0 := by
  unfold evtS
  rw [if_neg (by show ¬ (k < 0 ∨ 1048576 < k); omega)]
  exact e
 unfold evtsE
 rw [if_neg (by show ¬ (256 < 1); omega)]
 unfold scan
 rw [e2, if_neg (by simp)]
 rfl
set_option maxHeartbeats 6400000 in
set_option maxRecDepth 100000 in
theorem top_Speak (x0 x1 x2 : Int) (w : World) (ha : 0 ≤ x0 ∧ x0 ≤ 255) (hb : 0 ≤ x1 ∧ x1 ≤ 255) (hc : 0 ≤ x2 ∧ x2 ≤ 255) : Calls Tryz.prog 13 #[.int .u8 x0, .int .u8 x1, .int .u8 x2] w fun e w' => e = .returned (.bool true) ∧ Ext w w' := by
 obtain ⟨ha0, ha1⟩ := ha
 obtain ⟨hb0, hb1⟩ := hb
 obtain ⟨hc0, hc1⟩ := hc
 obtain ⟨k, hk⟩ : ∃ k, x0 % 30 = k := ⟨_, rfl⟩
 obtain ⟨p, hp⟩ : ∃ p, x1 % 16 = p := ⟨_, rfl⟩
 obtain ⟨q, hq⟩ : ∃ q, x2 % 8 = q := ⟨_, rfl⟩
 have hk0 : 0 ≤ k := by omega
 have hk1 : k < 30 := by omega
 have hp0 : 0 ≤ p := by omega
 have hp1 : p < 16 := by omega
 have hq0 : 0 ≤ q := by omega
 have hq1 : q < 8 := by omega
 have hw1 : IntKind.i64.wrap x0 = x0 := IntWalk.i64_in _ (by omega)
 have hw2 : IntKind.i64.wrap x1 = x1 := IntWalk.i64_in _ (by omega)
 have hw3 : IntKind.i64.wrap x2 = x2 := IntWalk.i64_in _ (by omega)
 obtain ⟨v, hv⟩ : ∃ v, (newW (1 + p) (1 + q)).1 = v := ⟨_, rfl⟩
 have HV := Lib.hid hv
 have hok : WldOk v := by rw [← hv]; exact (newW_ok (by omega) (by omega) (by omega) (by omega)).2
 have hnow : v.now = 0 := by rw [← hv]; exact (spk_start (k := 0) (n := 1 + q) (m := 1 + p) (by omega) (by omega) (by omega) (by omega) (Int.le_refl _)).now
 have HTR := Lib.hid (fun (V : World) (A : Option Addr) (a : Nat) (B : Option Addr) (b : Nat) (M : Option Addr) (m : Nat) (h : WldAt V v A a B b M m []) (E : Option Addr) (hs : Sl V E 48 [evtR (downE k 1)]) => (tak_Trace (T := 60) (l := [downE k 1]) (ce := 1) h hok ⟨hs, Nat.le_refl _, by unfold maxLen; decide, by intro x hx; rw [List.mem_singleton.1 hx]; exact acnN_at V⟩ (downE_right hk0 (by omega)) (by decide) (by rw [hnow]; decide) : Calls Tryz.prog 28 #[.agg #[.int .i64 v.now, .int .i64 v.limit, .int .i64 v.delay, .bool v.cut, .int .i64 v.a.node.id, .int .i64 v.a.node.term, .bool v.a.node.speaks, .slice A v.a.node.log.length a, .int .i64 v.a.node.acked, .int .i64 v.a.node.next, .bool v.a.up, .int .i64 v.a.quiet, .int .i64 v.b.node.id, .int .i64 v.b.node.term, .bool v.b.node.speaks, .slice B v.b.node.log.length b, .int .i64 v.b.node.acked, .int .i64 v.b.node.next, .bool v.b.up, .int .i64 v.b.quiet, .slice M v.mail.length m], .slice E 1 1, .int .i64 60] V _))
 have HSP := Lib.hid (fun (i : Nat) (h1 : k + (1 + p) + (1 + q) ≤ i) (h2 : i < 60) => (by have := spk_all (k := k) (m := 1 + p) (n := 1 + q) (by omega) (by omega) (by omega) (by omega) hk0 (i := i) h1 h2; rwa [hv] at this : (traceW [downE k 1] 60 v)[i]? = some 2))
 obtain ⟨tr, htr⟩ : ∃ tr, traceW [downE k 1] 60 v = tr := ⟨_, rfl⟩
 rw [htr] at HTR HSP
 clear hv hok hnow htr
 go_enter Tryz.func13, Tryz.ntmps13
 go_wp2_with (first
  | (go_at_call 17; refine (tak_New_at (by omega) (by omega) (by omega) (by omega) HV.out).mono ?_; rintro e w' ⟨A, a, B, b, M, m, rfl, hx, hw⟩; have HW := Lib.hid hw; obtain ⟨ya, rfl⟩ := hx.get; clear hx hw)
  | (refine wpList_store_top rfl 30 (.tmp 10) (.tmp 30) rfl rfl (by simp [go_sem]) [.int .i64 v.now, .int .i64 v.limit, .int .i64 v.delay, .bool v.cut, .int .i64 v.a.node.id, .int .i64 v.a.node.term, .bool v.a.node.speaks, .slice A v.a.node.log.length a, .int .i64 v.a.node.acked, .int .i64 v.a.node.next, .bool v.a.up, .int .i64 v.a.quiet, .int .i64 v.b.node.id, .int .i64 v.b.node.term, .bool v.b.node.speaks, .slice B v.b.node.log.length b, .int .i64 v.b.node.acked, .int .i64 v.b.node.next, .bool v.b.up, .int .i64 v.b.quiet, .slice M v.mail.length m] rfl rfl (by kernel_rfl) (wld_one v A a B b M m) ?_)
  | (refine wpList_built rfl 89 _ rfl [(0, .int .i64 k), (1, .int .i64 1), (2, .int .i64 1)] rfl (evtR (downE k 1)).toArray (by kernel_rfl) ?_)
  | (go_at_call 28; refine (HTR.out _ A a B b M m (HW.out.mono (ex)) _ (Sl.alloc' (by simp [go_sem]) (by simp) (by simp [evtR_len]))).mono ?_; rintro e w' ⟨O, ko, rfl, hx, hsl, hko, hkm⟩; have HO := Lib.hid hsl; obtain ⟨yt, rfl⟩ := hx.get; clear hx hsl))
 go_loopw [14] (fun i wr => ∃ j : Nat, k + (1 + p) + (1 + q) ≤ j ∧ j ≤ 60 ∧ i = .int .i64 j ∧ Ext w wr ∧ Hid (Sl wr O 1 (tr.map intRw))) (fun i _ => 60 - (intOf i).toNat)
 case atStart => exact ⟨(k + (1 + p) + (1 + q)).toNat, by omega, by omega, by congr 1; omega, ex, Lib.hid (HO.out.mono (ex))⟩
 case round =>
  obtain ⟨j, hj1, hj2, rfl, hx, HS⟩ := hrel
  obtain ⟨y0, rfl⟩ := hx.get
  clear hx
  by_cases hlt : j < 60
  ·have ht := HSP.out j hj1 hlt
   obtain ⟨ob, oo, hO, hrg⟩ := HS.out.range (i := j) (row := intRw 2) (by rw [List.getElem?_map, ht]; rfl)
   have c0 := hrg 0 _ rfl
   rw [Nat.mul_one, Nat.add_zero] at c0
   subst hO
   have hd : decide ((j : Int) < 60) = true := decide_eq_true (by omega)
   have hb0 : (0 : Int) ≤ (j : Int) := by omega
   clear ht hrg
   go_wp2
   go_light
   exact ⟨⟨j + 1, by omega, by omega, by go_num, ex, Lib.hid (HS.out.mono (ex))⟩, by simp [intOf]; omega⟩
  ·have hd : decide ((j : Int) < 60) = false := decide_eq_false (by omega)
   go_wp2_with (go_at_call 47; refine (top_caseReplicas _).mono ?_; rintro e w' ⟨rfl, hx⟩; obtain ⟨y, rfl⟩ := hx.get; clear hx)
   go_ret
   exact ⟨rfl, ex⟩
end
end Go.Proofs.YtmhinhgflehkaaaGreat

/-
 The closed facts of the row of TopTakeoversSpeak, one by one.
-/
namespace Go.Proofs.YtmhinhgflehkaaaGreat
open Go.RowKit
theorem TopTakeoversSpeak_ip : Tryz.prog.inPlace 13 = Rows.topTakeoversSpeakRow.inPlace := by kernel_rfl
theorem TopTakeoversSpeak_un : Tryz.prog.unfollowed 13 = true := by kernel_rfl
theorem TopTakeoversSpeak_re : Tryz.prog.recurses 13 = true := by kernel_rfl
theorem TopTakeoversSpeak_na : Tryz.prog.varsNamed 13 = Rows.topTakeoversSpeakRow.named := by kernel_rfl
theorem TopTakeoversSpeak_all : joinedFacts Tryz.prog 13 Tryz.f13 Rows.topTakeoversSpeakSpec Rows.topTakeoversSpeakRow = true := by
 unfold joinedFacts
 rw [TopTakeoversSpeak_ip, TopTakeoversSpeak_un, TopTakeoversSpeak_re, TopTakeoversSpeak_na]
 kernel_rfl
end Go.Proofs.YtmhinhgflehkaaaGreat

/-
 Rows.TopTakeoversSpeakSaid: TopTakeoversSpeak returns true, whatever the input, and the input reads as it did.
-/
namespace Go.Proofs.YtmhinhgflehkaaaGreat
open Go.ChangeShapes Go.WideShapes Go.ChangeAt Go.RowKit Go.Joins Go.Deep

set_option maxRecDepth 100000 in
theorem TopTakeoversSpeak_lifted (os : Os) (started : os.Started) (H : Type) (enc : TypeId × Value → H) :
  ReturnsInHanded {} Tryz.checked os 13 .any (Rows.topTakeoversSpeakSpec.pre6 enc Tryz.prog Tryz.f13 Rows.topTakeoversSpeakRow.domain false) (Rows.topTakeoversSpeakSpec.post enc Tryz.prog Tryz.f13 false true false false) := by
 refine returnsInHanded_of_change (C := Tryz.checked) own started (by kernel_rfl) Tryz.func13
  (ChangeSpec.witness6 (enc := enc) (C := Tryz.checked) false ⟨#[], #[.int .u8 0, .int .u8 0, .int .u8 0], []⟩ 8 (by kernel_rfl) (by kernel_rfl) (by kernel_rfl) (by kernel_rfl)) ?_
 intro W base args ds gs before hval0 hW hcnd _
 have hval : ∀ (j : Nat) t v, Tryz.f13.params[j]? = some t → args[j]? = some v → Value.okWide Tryz.prog W .any base t v := hval0
 have hW' := hW
 obtain ⟨p, q, hA0, hV, rfl, hfz, hnd⟩ := hW
 have hA : DataW.TrodAll enc Tryz.prog W 0 (fun _ => true) true Tryz.f13.params.toList args.toList ds p := hA0
 rw [Tryz.params13] at hA hval
 obtain ⟨v0, vs0, d0, ds0, p0, q0, hargs, rfl, rfl, h0, r0⟩ := trodAll_cons hA
 obtain ⟨v1, vs1, d1, ds1, p1, q1, rfl, rfl, rfl, h1, r1⟩ := trodAll_cons r0
 obtain ⟨v2, vs2, d2, ds2, p2, q2, rfl, rfl, rfl, h2, r2⟩ := trodAll_cons r1
 obtain ⟨rfl, rfl, rfl⟩ := trodAll_nil r2
 obtain rfl : args = #[v0, v1, v2] := by cases args; simp_all
 obtain ⟨x0, rfl, _, _, w0⟩ := open_int Tryz.underlying5 (hval 0 5 v0 rfl rfl) h0
 obtain ⟨x1, rfl, _, _, w1⟩ := open_int Tryz.underlying5 (hval 1 5 v1 rfl rfl) h1
 obtain ⟨x2, rfl, _, _, w2⟩ := open_int Tryz.underlying5 (hval 2 5 v2 rfl rfl) h2
 obtain ⟨rfl, rfl⟩ := trodVars_none hV
 refine (top_Speak x0 x1 x2 W (u8_in w0) (u8_in w1) (u8_in w2)).mono fun e W' ⟨he, hx⟩ => ?_
 subst he
 exact ⟨_, rfl, post_ext laid (by kernel_rfl) hW' rfl (fun l hl => by
  match l, hl with
  | [y0, y1, y2], _ => exact ⟨rfl, rfl⟩) (fun _ _ _ => (trodAll_cons_mk (shut_bool Tryz.underlying4 _) trodAll_mk0)) hx (ok_one (by kernel_rfl) rfl (okWide_bool_mk Tryz.underlying4 _))⟩

theorem TopTakeoversSpeak_over : Rows.topTakeoversSpeakRow.holds Tryz.pinned (OpenSpec.ofChange Rows.topTakeoversSpeakSpec) :=
 OpenClaim.holds_of_wide 13 Tryz.f13 rfl rfl rfl rfl rfl rfl rfl ⟨rfl, rfl, rfl, rfl, rfl⟩ rfl rfl rfl rfl rfl (by kernel_rfl) Tryz.func13 TopTakeoversSpeak_all
  (of_decide_eq_true (by kernel_rfl)) (by unfold Func.isWrapper; first | (rw [if_pos (by decide +kernel)]; kernel_rfl) | (rw [if_neg (by decide +kernel)]; exact ⟨rfl, rfl⟩))
  (fun os started H enc _ => TopTakeoversSpeak_lifted os started H enc)

theorem TopTakeoversSpeak_proved : Rows.TopTakeoversSpeakSaid := TopTakeoversSpeak_over
#print axioms TopTakeoversSpeak_proved
end Go.Proofs.YtmhinhgflehkaaaGreat
