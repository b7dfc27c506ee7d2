/-
 TopTakeoversGoOn, walked.
-/
import Derived.Test.YtmhinhgflehkaaaGreatGwkg
import Derived.Test.YtmhinhgflehkaaaGreatGwka
import Derived.Test.YtmhinhgflehkaaaGreatGtopx
import Derived.Test.YtmhinhgflehkaaaGreatGtkg
import Derived.Test.YtmhinhgflehkaaaGreatGsml
namespace Go.Proofs.YtmhinhgflehkaaaGreat
open Go.RowKit

theorem tk_Actions {n : Nod} {A : Option Addr} {c : Nat} {l : List Acn} {W : World} (hv : actionsV n = (l, 0)) (hs : RecsAt W A c n.log) : Calls Tryz.prog 54 #[.agg #[.int .i64 n.id, .int .i64 n.term, .bool n.speaks, .slice A n.log.length c, .int .i64 n.acked, .int .i64 n.next]] W fun e W' => ∃ D k, e = .returned (.tuple #[.slice D l.length k, .int .i64 0]) ∧ Ext W W' ∧ LogAt W' D k l := by
 refine (rep_Actions n A c W hs).mono fun e W' h => ?_
 rw [hv] at h
 obtain ⟨D, k, he, hx, ho, hel⟩ := h
 exact ⟨D, k, he, hx, ho.sl, ho.le, ho.cap, fun a ha => (hel a ha).mono hx⟩
set_option maxHeartbeats 6400000 in
set_option maxRecDepth 100000 in
theorem top_GoOn (x0 x1 x2 : Int) (w : World) (ha : 0 ≤ x0 ∧ x0 ≤ 255) (hb : 0 ≤ x1 ∧ x1 ≤ 255) (hc : 0 ≤ x2 ∧ x2 ≤ 255) : Calls Tryz.prog 14 #[.int .u8 x0, .int .u8 x1, .int .u8 x2] w fun e w' => e = .returned (.bool true) ∧ Ext w w' := by
 obtain ⟨ha0, ha1⟩ := ha
 obtain ⟨hb0, hb1⟩ := hb
 obtain ⟨hc0, hc1⟩ := hc
 obtain ⟨p, hp⟩ : ∃ p, x0 % 16 = p := ⟨_, rfl⟩
 obtain ⟨q, hq⟩ : ∃ q, x1 % 8 = q := ⟨_, rfl⟩
 obtain ⟨K, hK⟩ : ∃ K : Nat, x2 % 12 = (K : Int) := ⟨(x2 % 12).toNat, by omega⟩
 have hp0 : 0 ≤ p := by omega
 have hp1 : p < 16 := by omega
 have hq0 : 0 ≤ q := by omega
 have hq1 : q < 8 := by omega
 have hK1 : K ≤ 11 := by omega
 have hw1 : IntKind.i64.wrap x0 = x0 := IntWalk.i64_in _ (by omega)
 have hw2 : IntKind.i64.wrap x1 = x1 := IntWalk.i64_in _ (by omega)
 have hw3 : IntKind.i64.wrap x2 = x2 := IntWalk.i64_in _ (by omega)
 by_cases hle : p ≤ q
 ·have hd : decide (1 + p ≤ 1 + q) = true := decide_eq_true (by omega)
  go_enter Tryz.func14, Tryz.ntmps14
  go_wp2_with (go_at_call 47; refine (top_caseReplicas _).mono ?_; rintro e w' ⟨rfl, hx⟩; obtain ⟨y, rfl⟩ := hx.get; clear hx)
  go_ret
  exact ⟨rfl, ex⟩
 have hd : decide (1 + p ≤ 1 + q) = false := decide_eq_false (by omega)
 obtain ⟨v, hv⟩ : ∃ v, (newW (1 + p) (1 + q)).1 = v := ⟨_, rfl⟩
 have HV := Lib.hid hv
 have hok : WldOk v := by rw [← hv]; exact (newW_ok (by omega) (by omega) (by omega) (by omega)).2
 have hnow : v.now = 0 := by rw [← hv]; unfold newW; rw [if_neg (by omega)]
 obtain ⟨u, hu⟩ : ∃ u, seqW (Tk.goL K) v 60 = u := ⟨_, rfl⟩
 have hend := Tk.go_end hK1 (d := 1 + q) (n := 1 + p) (by omega) (by omega) (by omega) (by omega) (v := u) (by rw [hv]; exact hu)
 have HEA := Lib.hid hend.1
 have HEB := Lib.hid hend.2
 have hgl := Tk.goL_len K
 have HTR := Lib.hid (fun (V : World) (A : Option Addr) (a : Nat) (B : Option Addr) (b : Nat) (M : Option Addr) (m : Nat) (h : WldAt V v A a B b M m []) (E : Option Addr) (ce : Nat) (hs : Sl V E 48 ((Tk.goL K).map evtR)) (hc : K ≤ ce) (hcm : ce ≤ maxLen) => (by have := tak_Trace (T := 60) (l := Tk.goL K) (ce := ce) h hok ⟨hs, by rw [hgl]; exact hc, hcm, fun x hx => by obtain ⟨i, -, rfl⟩ := Tk.goL_mem hx; exact mkA_at _ _ _ _ V⟩ (Tk.goL_evts hK1) (by decide) (by rw [hnow]; decide); rwa [hgl] at this : Calls Tryz.prog 28 #[.agg #[.int .i64 v.now, .int .i64 v.limit, .int .i64 v.delay, .bool v.cut, .int .i64 v.a.node.id, .int .i64 v.a.node.term, .bool v.a.node.speaks, .slice A v.a.node.log.length a, .int .i64 v.a.node.acked, .int .i64 v.a.node.next, .bool v.a.up, .int .i64 v.a.quiet, .int .i64 v.b.node.id, .int .i64 v.b.node.term, .bool v.b.node.speaks, .slice B v.b.node.log.length b, .int .i64 v.b.node.acked, .int .i64 v.b.node.next, .bool v.b.up, .int .i64 v.b.quiet, .slice M v.mail.length m], .slice E K ce, .int .i64 60] V fun e W1 => ∃ O ko, e = .returned (.tuple #[.slice O 60 ko, .int .i64 0]) ∧ Ext V W1 ∧ Sl W1 O 1 ((traceW (Tk.goL K) 60 v).map intRw) ∧ 60 ≤ ko ∧ ko ≤ maxLen))
 have HRN := Lib.hid (fun (V : World) (A : Option Addr) (a : Nat) (B : Option Addr) (b : Nat) (M : Option Addr) (m : Nat) (h : WldAt V v A a B b M m []) (E : Option Addr) (ce : Nat) (hs : Sl V E 48 ((Tk.goL K).map evtR)) (hc : K ≤ ce) (hcm : ce ≤ maxLen) => (by have := tak_Run (T := 60) (l := Tk.goL K) (ce := ce) h hok ⟨hs, by rw [hgl]; exact hc, hcm, fun x hx => by obtain ⟨i, -, rfl⟩ := Tk.goL_mem hx; exact mkA_at _ _ _ _ V⟩ (Tk.goL_evts hK1) (by decide) (by rw [hnow]; decide); rwa [hgl, hu] at this : Calls Tryz.prog 30 #[.agg #[.int .i64 v.now, .int .i64 v.limit, .int .i64 v.delay, .bool v.cut, .int .i64 v.a.node.id, .int .i64 v.a.node.term, .bool v.a.node.speaks, .slice A v.a.node.log.length a, .int .i64 v.a.node.acked, .int .i64 v.a.node.next, .bool v.a.up, .int .i64 v.a.quiet, .int .i64 v.b.node.id, .int .i64 v.b.node.term, .bool v.b.node.speaks, .slice B v.b.node.log.length b, .int .i64 v.b.node.acked, .int .i64 v.b.node.next, .bool v.b.up, .int .i64 v.b.quiet, .slice M v.mail.length m], .slice E K ce, .int .i64 60] V fun e W1 => (∃ A1 a1 B1 b1 M1 m1 xs1, e = .returned (.tuple #[.agg #[.int .i64 u.now, .int .i64 u.limit, .int .i64 u.delay, .bool u.cut, .int .i64 u.a.node.id, .int .i64 u.a.node.term, .bool u.a.node.speaks, .slice A1 u.a.node.log.length a1, .int .i64 u.a.node.acked, .int .i64 u.a.node.next, .bool u.a.up, .int .i64 u.a.quiet, .int .i64 u.b.node.id, .int .i64 u.b.node.term, .bool u.b.node.speaks, .slice B1 u.b.node.log.length b1, .int .i64 u.b.node.acked, .int .i64 u.b.node.next, .bool u.b.up, .int .i64 u.b.quiet, .slice M1 u.mail.length m1], .int .i64 0]) ∧ WldAt W1 u A1 a1 B1 b1 M1 m1 xs1) ∧ Ext V W1))
 have HSP := Lib.hid (fun (i : Nat) (h2 : i < 60) => (by have := Tk.go_trace hK1 (d := 1 + q) (n := 1 + p) (by omega) (by omega) (by omega) (by omega) h2; rwa [hv] at this : (traceW (Tk.goL K) 60 v)[i]? = some 1))
 obtain ⟨tr, htr⟩ : ∃ tr, traceW (Tk.goL K) 60 v = tr := ⟨_, rfl⟩
 have HGA := Lib.hid (Tk.goActs_len K)
 obtain ⟨la, hla⟩ : ∃ la, Tk.goActs K = la := ⟨_, rfl⟩
 rw [htr] at HTR HSP
 rw [hla] at HEA HEB HGA
 have HACA := Lib.hid (fun (V : World) (A : Option Addr) (a : Nat) (hs : RecsAt V A a u.a.node.log) => tk_Actions HEA.out hs)
 have HACB := Lib.hid (fun (V : World) (A : Option Addr) (a : Nat) (hs : RecsAt V A a u.b.node.log) => tk_Actions HEB.out hs)
 clear hv hok hnow htr hu hend hgl hla
 go_enter Tryz.func14, Tryz.ntmps14
 go_wp2
 go_loopw [9, 38] (fun s i wr => ∃ (j : Nat) (D : Option Addr) (d : Nat), j ≤ K ∧ i = .int .i64 j ∧ s = .slice D j d ∧ Ext w wr ∧ Hid (Own w wr 89 48 D j d ((Tk.goL j).map evtR))) (fun _ i _ => K - (intOf i).toNat)
 case atStart => exact ⟨0, none, 0, by omega, rfl, rfl, ex, Lib.hid (Own.nil none)⟩
 case round =>
  obtain ⟨j, D, d, hj, rfl, rfl, hx, HO⟩ := hrel
  obtain ⟨y0, rfl⟩ := hx.get
  clear hx
  by_cases hlt : j < K
  ·have hd2 : decide ((j : Int) < (K : Int)) = true := decide_eq_true (by omega)
   have hb0 : (0 : Int) ≤ (j : Int) := by omega
   have hm1 : IntKind.i64.wrap (2 * (j : Int)) = 2 * (j : Int) := IntWalk.i64_in _ (by omega)
   have hm2 : IntKind.i64.wrap (25 * (j : Int)) = 25 * (j : Int) := IntWalk.i64_in _ (by omega)
   obtain ⟨x, hx⟩ : ∃ x, Tk.actE (2 * (j : Int)) (goA (25 * (j : Int))) = x := ⟨_, rfl⟩
   have HX := Lib.hid hx
   clear hx
   go_wp2_with (first
    | (go_at_call 57; refine (l54_Go _ _).mono ?_; rintro e w' ⟨rfl, hx⟩; obtain ⟨yg, rfl⟩ := hx.get; clear hx)
    | (refine wpList_built rfl 89 _ rfl [(0, .int .i64 (2 * (j : Int))), (1, .int .i64 0), (2, .int .i64 1), (3, .agg (acnR (goA (25 * (j : Int)))).toArray)] rfl (evtR x).toArray (by rw [← HX.out]; kernel_rfl) ?_)
    | (at_builtin; refine wpList_append_mine (w0 := w) rfl _ _ 31 31 rfl 89 89 48 576 Tryz.underlying31 Tryz.underlying31 info_Evt (by decide) (ex) D j d ((Tk.goL j).map evtR) rfl (HO.out.mono (ex)) _ 1 1 [evtR x] rfl (Sl.alloc' (by simp [go_sem]) (by simp) (by simp [evtR_len])) rfl (evtR_ones [x]) (by unfold maxLen; omega) (by omega) _ rfl _ rfl ?_; intro A' k' w1 hx1 hown hgr hA; have HOW := Lib.hid hown; obtain ⟨y1, rfl⟩ := hx1.get; clear hown hx1 hgr hA))
   go_light
   exact ⟨⟨j + 1, _, _, by omega, by go_num, rfl, ex, Lib.hid (by have := HOW.out; rw [← HX.out] at this; rw [Tk.goL_succ, List.map_append]; exact this)⟩, by simp [intOf]; omega⟩
  ·have hd2 : decide ((j : Int) < (K : Int)) = false := decide_eq_false (by omega)
   have hjk : j = K := by omega
   subst hjk
   have HD1 := Lib.hid HO.out.le
   have HD2 := Lib.hid HO.out.cap
   go_wp2_with (first
    | (go_at_call 17; refine (tak_New_at (by omega) (by omega) (by omega) (by omega) HV.out).mono ?_; rintro e w' ⟨A, a, B, b, M, m, rfl, hx, hw⟩; have HW := Lib.hid hw; obtain ⟨ya, rfl⟩ := hx.get; clear hx hw)
    | (refine wpList_store_top rfl 30 (.tmp 11) (.tmp 55) rfl rfl (by simp [go_sem]) [.int .i64 v.now, .int .i64 v.limit, .int .i64 v.delay, .bool v.cut, .int .i64 v.a.node.id, .int .i64 v.a.node.term, .bool v.a.node.speaks, .slice A v.a.node.log.length a, .int .i64 v.a.node.acked, .int .i64 v.a.node.next, .bool v.a.up, .int .i64 v.a.quiet, .int .i64 v.b.node.id, .int .i64 v.b.node.term, .bool v.b.node.speaks, .slice B v.b.node.log.length b, .int .i64 v.b.node.acked, .int .i64 v.b.node.next, .bool v.b.up, .int .i64 v.b.quiet, .slice M v.mail.length m] rfl rfl (by kernel_rfl) (wld_one v A a B b M m) ?_)
    | (go_at_call 28; refine (HTR.out _ A a B b M m (HW.out.mono (ex)) D d (HO.out.sl.mono (ex)) HD1.out HD2.out).mono ?_; rintro e w' ⟨O, ko, rfl, hx, hsl, hko, hkm⟩; have HOO := Lib.hid hsl; obtain ⟨yt, rfl⟩ := hx.get; clear hx hsl)
    | (go_at_call 30; refine (HRN.out _ A a B b M m (HW.out.mono (ex)) D d (HO.out.sl.mono (ex)) HD1.out HD2.out).mono ?_; rintro e w' ⟨⟨A1, a1, B1, b1, M1, m1, xs1, rfl, hw1⟩, hx⟩; have HW1 := Lib.hid hw1; obtain ⟨yr, rfl⟩ := hx.get; clear hx hw1)
    | (refine wpList_store_top rfl 30 (.tmp 15) (.tmp 67) rfl rfl (by simp [go_sem]) [.int .i64 u.now, .int .i64 u.limit, .int .i64 u.delay, .bool u.cut, .int .i64 u.a.node.id, .int .i64 u.a.node.term, .bool u.a.node.speaks, .slice A1 u.a.node.log.length a1, .int .i64 u.a.node.acked, .int .i64 u.a.node.next, .bool u.a.up, .int .i64 u.a.quiet, .int .i64 u.b.node.id, .int .i64 u.b.node.term, .bool u.b.node.speaks, .slice B1 u.b.node.log.length b1, .int .i64 u.b.node.acked, .int .i64 u.b.node.next, .bool u.b.up, .int .i64 u.b.quiet, .slice M1 u.mail.length m1] rfl rfl (by kernel_rfl) (wld_one u A1 a1 B1 b1 M1 m1) ?_))
   go_at_call 54; refine (HACA.out _ A1 a1 (HW1.out.a.mono (ex))).mono ?_; rintro e w' ⟨D1, k1, rfl, hx, hl1⟩; have HL1 := Lib.hid hl1; obtain ⟨yc, rfl⟩ := hx.get; clear hx hl1
   go_wp2_with fail
   go_at_call 54; refine (HACB.out _ B1 b1 (HW1.out.b.mono (ex))).mono ?_; rintro e w' ⟨D2, k2, rfl, hx, hl2⟩; have HL2 := Lib.hid hl2; obtain ⟨yd, rfl⟩ := hx.get; clear hx hl2
   go_wp2
   go_loopw [110] (fun i wr => ∃ j : Nat, j ≤ 60 ∧ i = .int .i64 j ∧ Ext w wr ∧ Hid (Sl wr O 1 (tr.map intRw)) ∧ Hid (LogAt wr D1 k1 la) ∧ Hid (LogAt wr D2 k2 la)) (fun i _ => 60 - (intOf i).toNat)
   case atStart => exact ⟨0, by omega, rfl, ex, Lib.hid (HOO.out.mono (ex)), Lib.hid (HL1.out.mono (ex)), Lib.hid (HL2.out.mono (ex))⟩
   case round =>
    obtain ⟨i, hi, rfl, hx, HS, HM1, HM2⟩ := hrel
    obtain ⟨y5, rfl⟩ := hx.get
    clear hx
    by_cases hlt6 : i < 60
    ·have ht := HSP.out i hlt6
     obtain ⟨ob, oo, hO, hrg⟩ := HS.out.range (i := i) (row := intRw 1) (by rw [List.getElem?_map, ht]; rfl)
     have c0 := hrg 0 _ rfl
     rw [Nat.mul_one, Nat.add_zero] at c0
     subst hO
     have hd6 : decide ((i : Int) < 60) = true := decide_eq_true (by omega)
     have hb6 : (0 : Int) ≤ (i : Int) := by omega
     clear ht hrg
     go_wp2
     go_light
     exact ⟨⟨i + 1, by omega, by go_num, ex, Lib.hid (HS.out.mono (ex)), Lib.hid (HM1.out.mono (ex)), Lib.hid (HM2.out.mono (ex))⟩, by simp [intOf]; omega⟩
    ·have hd6 : decide ((i : Int) < 60) = false := decide_eq_false (by omega)
     have hz9 : ((la.length : Int) == (j : Int)) = true := by rw [HGA.out]; exact beq_self_eq_true _
     go_wp2_with (first
      | (go_at_call 55; refine (r33_SameLog1 D1 D2 k1 k2 la _ (HM1.out.mono (ex)) (HM2.out.mono (ex))).mono ?_; rintro e w' ⟨rfl, hx⟩; obtain ⟨y7, rfl⟩ := hx.get; clear hx)
      | (go_at_call 47; refine (top_caseReplicas _).mono ?_; rintro e w' ⟨rfl, hx⟩; obtain ⟨y8, rfl⟩ := hx.get; clear hx))
     go_ret
     exact ⟨rfl, ex⟩
end Go.Proofs.YtmhinhgflehkaaaGreat
