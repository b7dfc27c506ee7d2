/-
  Chapter 16: the law CuePacks.
-/
import Derived.Test.YtgmicckeefoghaaAwk16
import Derived.Test.YtgmicckeefoghaaPackLaw
namespace Go.Proofs.Ytgmicckeefoghaa
open Go.RowKit

@[go_sem high] theorem neq_val (a b c d : Int) (w : World) : (binOp .neq 88 (.agg #[.int .i64 a, .int .i64 b]) (.agg #[.int .i64 c, .int .i64 d])).run Try.prog w = .ok (.bool (!eqV ⟨a, b⟩ ⟨c, d⟩)) w := by
  have hS : Try.prog.underlying 88 = some (.struct (Try.prog.fieldsOf 88)) := by kernel_rfl
  have hp : Try.prog.stoodInHeld 88 = false := by kernel_rfl
  rw [run_neq_struct, show (10000 : Nat) = 9999 + 1 from rfl, run_equalIn_agg w 9999 88 _ _ hS hp]
  simp only [Program.fieldsOf, Try.underlying88]
  go_simp
  unfold eqV
  simp only [Val.mk.injEq]
  by_cases h1 : a = c <;> by_cases h2 : b = d <;> simp [h1, h2]
@[go_sem] theorem guard_val (op : BinOp) (x y : Operand) (xs ys : Array Value) (w : World) : (eqGuard op 88 x y (.agg xs) (.agg ys)).run Try.prog w = .ok () w := run_eqGuard_agg w op _ x y xs ys (by kernel_rfl)
theorem eqP_self (a b : Int) : eqP a b a b = true := by simp [eqP]
theorem eqV_self (s : Val) : eqV s s = true := by simp [eqV]
theorem cue_Pack_to (c : Cue) (A : Option Addr) (k : Nat) (B : Option Addr) (m : Nat) (w : World) (hc : CueAt w c A k B m) (d : Cue) (x : Int) (hd : packV c = (d, x)) :
    Calls Try.prog 51 #[.agg (cueV c A k B m).toArray] w (RetCue w (d, x)) := by
  rw [← hd]; exact cue_Pack c A k B m w hc
theorem cue_Split_to (c : Cue) (A : Option Addr) (k : Nat) (B : Option Addr) (m : Nat) (part : Int) (w : World) (hc : CueAt w c A k B m) (l : List Move) (x : Int) (hd : splitV c part = (l, x)) :
    Calls Try.prog 55 #[.agg (cueV c A k B m).toArray, .int .i64 part] w (RetMoves w (l, x)) := by
  rw [← hd]; exact cue_Split c A k B m part w hc

set_option maxHeartbeats 1600000 in
set_option maxRecDepth 100000 in
theorem l16_CuePacks (c : Cue) (A : Option Addr) (k : Nat) (B : Option Addr) (m : Nat) (w : World) (hc : CueAt w c A k B m) : Calls Try.prog 13 #[.agg (cueV c A k B m).toArray] w fun e w' => e = .returned (.bool true) ∧ Ext w w' := by
  have HC := Lib.hid hc
  clear hc
  simp only [cueV]
  by_cases hG : few c = true ∧ cueE c = 0
  · obtain ⟨hf, hE⟩ := hG
    have HE := Lib.hid hE
    have hE' : (cueE c != 0) = false := by simpa using hE
    have hmv := (movesE_scan (cueE_ok hE).2.2.1).1
    have hpl := parts_len hE
    have HP := Lib.hid (parts_in hE)
    have HTM := Lib.hid (fun x => pack_time (c := c) hE (x := x))
    have HPP := Lib.hid (fun x => pack_part (c := c) hE (x := x))
    have HPG := Lib.hid (fun i m => packM_get (l := c.moves) (k := c.moves) (i := i) (m := m))
    obtain ⟨d, hd⟩ : ∃ d, d = packC c := ⟨_, rfl⟩
    have HD1 := Lib.hid (show packV c = (d, 0) by rw [hd]; exact packV_ok hE)
    have HD2 := Lib.hid (show packV d = (d, 0) by rw [hd]; exact pack_again hE)
    have hEd : (cueE d != 0) = false := by rw [hd, pack_ok hE]; rfl
    have HDL := Lib.hid (show d.moves.length = c.moves.length by rw [hd]; exact packC_moves_len c)
    have hdl' : ((d.moves.length : Int) != (c.moves.length : Int)) = false := by rw [HDL.out]; simp
    have HPG' := Lib.hid (show ∀ (i : Nat) (m : Move), c.moves[i]? = some m → d.moves[i]? = some { m with part := (cntP c.moves m.part.toNat : Int) } by rw [hd]; exact HPG.out)
    have HTM' := Lib.hid (show ∀ (x : Move), x ∈ c.moves → ∀ {t : Timing}, c.parts[(x.part - 1).toNat]? = some t → d.parts[cntP c.moves x.part.toNat - 1]? = some t by rw [hd]; exact HTM.out)
    have HPP' := Lib.hid (show ∀ (x : Move), x ∈ c.moves → 1 ≤ cntP c.moves x.part.toNat ∧ cntP c.moves x.part.toNat ≤ d.parts.length by rw [hd]; exact HPP.out)
    have hdp : d.parts.length ≤ 4 := by have := parts_len (pack_ok hE); rw [hd]; exact this.2
    have hself : decide (d = d) = true := by simp
    clear hE hd HTM HPP HPG
    go_enter Try.func13, Try.ntmps13
    go_wp2_with (first
      | (go_at_call 27; refine (r16_Few c A k B m _).mono ?_; rintro e w' ⟨rfl, hx⟩; obtain ⟨ya, rfl⟩ := hx.get; clear hx)
      | (go_at_call 53; refine (r16_Check c A k B m _ (HC.out.mono (by repeat (first | exact Ext.refl _ | assumption | apply Ext.xt | apply Ext.alloc | apply Ext.drew | apply Ext.drewN)))).mono ?_; rintro e w' ⟨rfl, hx⟩; obtain ⟨yb, rfl⟩ := hx.get; clear hx)
      | (go_at_call 51; have hh := H1; clear hh; refine (cue_Pack_to d A1 k1 B1 m1 _ (H1.out.mono (by repeat (first | exact Ext.refl _ | assumption | apply Ext.xt | apply Ext.alloc | apply Ext.drew | apply Ext.drewN))) d 0 HD2.out).mono ?_; rintro e w' ⟨A2, k2, B2, m2, he, hx, h2⟩; simp only [cueV] at he; subst he; have H2 := Lib.hid h2; obtain ⟨y2, rfl⟩ := hx.get; clear hx h2)
      | (go_at_call 51; refine (cue_Pack_to c A k B m _ (HC.out.mono (by repeat (first | exact Ext.refl _ | assumption | apply Ext.xt | apply Ext.alloc | apply Ext.drew | apply Ext.drewN))) d 0 HD1.out).mono ?_; rintro e w' ⟨A1, k1, B1, m1, he, hx, h1⟩; simp only [cueV] at he; subst he; have H1 := Lib.hid h1; obtain ⟨y1, rfl⟩ := hx.get; clear hx h1)
      | (go_at_call 40; refine (r16_Same d _ _ _ _ d _ _ _ _ _ (H1.out.mono (by repeat (first | exact Ext.refl _ | assumption | apply Ext.xt | apply Ext.alloc | apply Ext.drew | apply Ext.drewN))) (H2.out.mono (by repeat (first | exact Ext.refl _ | assumption | apply Ext.xt | apply Ext.alloc | apply Ext.drew | apply Ext.drewN)))).mono ?_; rintro e w' ⟨rfl, hx⟩; obtain ⟨y, rfl⟩ := hx.get; clear hx)
      | (go_at_call 54; refine (cue_Check d _ _ _ _ _ (H1.out.mono (by repeat (first | exact Ext.refl _ | assumption | apply Ext.xt | apply Ext.alloc | apply Ext.drew | apply Ext.drewN)))).mono ?_; rintro e w' ⟨rfl, hx⟩; obtain ⟨y, rfl⟩ := hx.get; clear hx))
    generalize hW : xt _ _ = W
    have hxw : Ext w W := by rw [← hW]; exact (by repeat (first | exact Ext.refl _ | assumption | apply Ext.xt | apply Ext.alloc | apply Ext.drew | apply Ext.drewN))
    have HCW := Lib.hid (show CueAt W c A k B m by rw [← hW]; exact HC.out.mono (by repeat (first | exact Ext.refl _ | assumption | apply Ext.xt | apply Ext.alloc | apply Ext.drew | apply Ext.drewN)))
    have HDW := Lib.hid (show CueAt W d A1 k1 B1 m1 by rw [← hW]; exact H1.out.mono (by repeat (first | exact Ext.refl _ | assumption | apply Ext.xt | apply Ext.alloc | apply Ext.drew | apply Ext.drewN)))
    have t0 : W.cell? ⟨w.heap.size, 0, none⟩ = some (.string c.number) := by rw [← hW]; simp [go_sem]
    have t1 : W.cell? ⟨w.heap.size, 1, none⟩ = some (.string c.label) := by rw [← hW]; simp [go_sem]
    have t2 : W.cell? ⟨w.heap.size, 2, none⟩ = some (.slice A c.moves.length k) := by rw [← hW]; simp [go_sem]
    have t3 : W.cell? ⟨w.heap.size, 3, none⟩ = some (.slice B c.parts.length m) := by rw [← hW]; simp [go_sem]
    have t4 : W.cell? ⟨w.heap.size, 4, none⟩ = some (.bool c.block) := by rw [← hW]; simp [go_sem]
    have t5 : W.cell? ⟨w.heap.size, 5, none⟩ = some (.bool c.mark) := by rw [← hW]; simp [go_sem]
    have t6 : W.cell? ⟨w.heap.size, 6, none⟩ = some (.int .i64 c.follow) := by rw [← hW]; simp [go_sem]
    have t7 : W.cell? ⟨w.heap.size, 7, none⟩ = some (.string c.link) := by rw [← hW]; simp [go_sem]
    have t8 : W.cell? ⟨w.heap.size, 8, none⟩ = some (.int .i64 c.loops) := by rw [← hW]; simp [go_sem]
    have u2 : W.cell? ⟨w.heap.size + 1 + ya.n + yb.n + y1.n, 2, none⟩ = some (.slice A1 d.moves.length k1) := by rw [← hW]; simp [go_sem]
    have u3 : W.cell? ⟨w.heap.size + 1 + ya.n + yb.n + y1.n, 3, none⟩ = some (.slice B1 d.parts.length m1) := by rw [← hW]; simp [go_sem]
    clear hW
    go_loopw [62] (fun i wr => ∃ j : Nat, j ≤ c.moves.length ∧ i = .int .i64 j ∧ Ext W wr) (fun i _ => c.moves.length - (intOf i).toNat)
    case atStart => exact ⟨0, by omega, rfl, Ext.refl _⟩
    case round =>
      obtain ⟨j, hj, rfl, hx⟩ := hrel
      obtain ⟨y3, rfl⟩ := hx.get
      clear hx
      by_cases hlt : j < c.moves.length
      · obtain ⟨x, hxj⟩ : ∃ x, c.moves[j]? = some x := ⟨_, List.getElem?_eq_getElem hlt⟩
        have hxm := List.mem_of_getElem? hxj
        have hnj := HPG'.out j x hxj
        obtain ⟨hp1, hp2⟩ := HP.out x hxm
        obtain ⟨hr1, hr2⟩ := HPP'.out x hxm
        obtain ⟨t, ht⟩ : ∃ t, c.parts[(x.part - 1).toNat]? = some t := ⟨_, List.getElem?_eq_getElem (by omega)⟩
        have htd := HTM'.out x hxm ht
        obtain ⟨q, hq⟩ : ∃ q : Nat, x.part = (q : Int) + 1 := ⟨(x.part - 1).toNat, by omega⟩
        obtain ⟨r, hr⟩ : ∃ r : Nat, cntP c.moves x.part.toNat = r + 1 := ⟨cntP c.moves x.part.toNat - 1, by omega⟩
        rw [hr] at hnj htd hr2
        rw [show (x.part - 1).toNat = q by omega] at ht
        simp only [Nat.add_sub_cancel] at htd
        obtain ⟨b1, o1, hA, hc0, hc1, hc2, hc3, hc4⟩ := HCW.out.mv.row5 (i := j) (by rw [List.getElem?_map, hxj]; rfl)
        obtain ⟨b2, o2, hA2, hd0, hd1, hd2, hd3, hd4⟩ := HDW.out.mv.row5 (i := j) (by rw [List.getElem?_map, hnj]; rfl)
        obtain ⟨b3, o3, hA3, he0, he1, he2, he3, he4, he5⟩ := HCW.out.pt.row6 (i := q) (by rw [List.getElem?_map, ht]; rfl)
        obtain ⟨b4, o4, hA4, hf0, hf1, hf2, hf3, hf4, hf5⟩ := HDW.out.pt.row6 (i := r) (by rw [List.getElem?_map, htd]; rfl)
        subst hA hA2 hA3 hA4
        rw [hq] at hc4
        have hz1 : eqP x.p.ch x.p.attr x.p.ch x.p.attr = true := eqP_self _ _
        have hz2 : eqV ⟨x.v.pal, x.v.lev⟩ ⟨x.v.pal, x.v.lev⟩ = true := eqV_self _
        have hz3 : eqT ⟨t.up, t.down, t.pos, t.col, t.beam, t.del⟩ ⟨t.up, t.down, t.pos, t.col, t.beam, t.del⟩ = true := eqT_self _
        have hb0 : (0 : Int) ≤ (j : Int) := by omega
        have hb1 : (j : Int) < (c.moves.length : Int) := by omega
        have hb2 : (j : Int) < (d.moves.length : Int) := by have := HDL.out; omega
        have hb3 : q < c.parts.length := by omega
        have hb4 : r < d.parts.length := by omega
        have hb5 : (q : Int) < (c.parts.length : Int) := by omega
        have hb6 : (r : Int) < (d.parts.length : Int) := by omega
        have hb7 : decide ((r : Int) + 1 < 1) = false := by simp; omega
        have hb8 : decide ((d.parts.length : Int) < (r : Int) + 1) = false := by simp; omega
        have hw1 : IntKind.i64.wrap ((r : Int) + 1 - 1) = (r : Int) := by rw [IntWalk.i64_in _ (by omega)]; omega
        have hw2 : IntKind.i64.wrap ((q : Int) + 1 - 1) = (q : Int) := by rw [IntWalk.i64_in _ (by omega)]; omega
        clear hxj hxm hnj hp1 hp2 hr1 hr2 ht htd hq hr
        go_wp2
        (refine wp_region_grows (by kernel_rfl) (by kernel_rfl) ?_; (repeat (go_big_quiet_step (fail))); refine wpQuiet_nil ?_; rintro _ ⟨y, rfl⟩)
        go_wp2
        go_light
        exact ⟨⟨j + 1, by omega, by go_num, by repeat (first | exact Ext.refl _ | assumption | apply Ext.xt | apply Ext.alloc | apply Ext.drew | apply Ext.drewN)⟩, by simp [intOf]; omega⟩
      · go_wp2
        go_loopw [10, 118] (fun s i wr => ∃ j : Nat, j ≤ c.parts.length ∧ i = .int .i64 j ∧ Hid (s = .int .i64 (splitN c.moves j)) ∧ splitN c.moves j ≤ 128 ∧ Ext W wr) (fun _ i _ => c.parts.length - (intOf i).toNat)
        case atStart => exact ⟨0, by omega, rfl, Lib.hid (by rw [splitN_zero (fun x hx => (HP.out x hx).1)]; rfl), by rw [splitN_zero (fun x hx => (HP.out x hx).1)]; omega, by repeat (first | exact Ext.refl _ | assumption | apply Ext.xt | apply Ext.alloc | apply Ext.drew | apply Ext.drewN)⟩
        case round =>
          obtain ⟨j2, hj2, rfl, HS, hs128, hx⟩ := hrel
          obtain ⟨y4, rfl⟩ := hx.get
          clear hx
          have hs1 := HS.out
          subst hs1
          by_cases hlt2 : j2 < c.parts.length
          · have hb0 : (0 : Int) ≤ (j2 : Int) := by omega
            have hb1 : (j2 : Int) < (c.parts.length : Int) := by omega
            have hstep := splitN_step (l := c.moves) j2
            have hle : splitN c.moves (j2 + 1) ≤ c.moves.length := by unfold splitN; exact List.length_filter_le _ _
            obtain ⟨l, hl⟩ : ∃ l, l = splitM c.moves ((j2 : Int) + 1) := ⟨_, rfl⟩
            have HSP := Lib.hid (show splitV c ((j2 : Int) + 1) = (l, 0) by unfold splitV; rw [if_neg (by simpa using HE.out), if_neg (by omega), hl])
            rw [← hl] at hstep
            obtain ⟨u, hu⟩ : ∃ u, u = splitN c.moves j2 := ⟨_, rfl⟩
            rw [← hu] at hstep hs128 ⊢
            have hsum : u + l.length ≤ 128 := by omega
            have HSTEP := Lib.hid hstep
            clear hl hstep hle hu HS
            go_wp2_with (go_at_call 55; refine (cue_Split_to c A k B m _ _ (HCW.out.mono (by repeat (first | exact Ext.refl _ | assumption | apply Ext.xt | apply Ext.alloc | apply Ext.drew | apply Ext.drewN))) l 0 HSP.out).mono ?_; rintro e w' ⟨D, q, rfl, hx, _, _, _⟩; obtain ⟨y5, rfl⟩ := hx.get; clear hx)
            go_light
            exact ⟨⟨j2 + 1, by omega, by go_num, Lib.hid (by rw [HSTEP.out]; rfl), by rw [HSTEP.out]; exact hsum, by repeat (first | exact Ext.refl _ | assumption | apply Ext.xt | apply Ext.alloc | apply Ext.drew | apply Ext.drewN)⟩, by simp [intOf]; omega⟩
          · have hall : splitN c.moves j2 = c.moves.length := splitN_all (fun x hx => by have := (HP.out x hx).2; omega)
            rw [hall]
            have hbe : ((c.moves.length : Int) == (c.moves.length : Int)) = true := by simp
            clear HS hall
            go_wp2_with (go_at_call 42; refine (l16_awake _).mono ?_; rintro e w' ⟨rfl, hx⟩; obtain ⟨y, rfl⟩ := hx.get; clear hx)
            go_ret
            exact ⟨rfl, by repeat (first | exact Ext.refl _ | assumption | apply Ext.xt | apply Ext.alloc | apply Ext.drew | apply Ext.drewN)⟩
  · have HG := Lib.hid hG
    clear hG
    go_enter Try.func13, Try.ntmps13
    go_wp2_with (first
      | (go_at_call 27; refine (r16_Few c A k B m _).mono ?_; rintro e w' ⟨rfl, hx⟩; obtain ⟨y, rfl⟩ := hx.get; clear hx)
      | (go_at_call 53; refine (r16_Check c A k B m _ (HC.out.mono (by repeat (first | exact Ext.refl _ | assumption | apply Ext.xt | apply Ext.alloc | apply Ext.drew | apply Ext.drewN)))).mono ?_; rintro e w' ⟨rfl, hx⟩; obtain ⟨y, rfl⟩ := hx.get; clear hx)
      | (go_at_call 42; refine (l16_awake _).mono ?_; rintro e w' ⟨rfl, hx⟩; obtain ⟨y, rfl⟩ := hx.get; clear hx))
    all_goals first
      | (go_ret; exact ⟨rfl, by repeat (first | exact Ext.refl _ | assumption | apply Ext.xt | apply Ext.alloc | apply Ext.drew | apply Ext.drewN)⟩)
      | exact absurd ⟨by assumption, by simpa using ‹(cueE c != 0) = false›⟩ HG.out
end Go.Proofs.Ytgmicckeefoghaa
