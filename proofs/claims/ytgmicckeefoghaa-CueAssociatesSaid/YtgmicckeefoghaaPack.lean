/-
  The program's Pack.
-/
import Derived.Test.YtgmicckeefoghaaPackL
import Derived.WalkMore
import Derived.Test.YtgmicckeefoghaaPackP
namespace Go.Proofs.Ytgmicckeefoghaa
open Go.RowKit

set_option maxHeartbeats 1600000 in
set_option maxRecDepth 100000 in
theorem cue_PackO (c : Cue) (A : Option Addr) (k : Nat) (B : Option Addr) (m : Nat) (w : World) (hc : CueAt w c A k B m) :
    Calls Try.prog 51 #[.agg (cueV c A k B m).toArray] w (RetCueO w (packV c)) := by
  have HC := Lib.hid hc
  simp only [cueV]
  by_cases hE : cueE c = 0
  · have hE' : (cueE c != 0) = false := by simpa using hE
    have hmv := (movesE_scan (cueE_ok hE).2.2.1).1
    have hpl := (parts_len hE).2
    have hs := hc.mv
    have hp := hc.pt
    have HP := Lib.hid (parts_in hE)
    have HV := Lib.hid (show packV c = ({ c with moves := packM c.moves c.moves, parts := packT c.moves c.parts c.parts.length }, 0) by unfold packV; rw [if_neg (by simpa using hE)])
    clear hc hE
    go_enter Try.func51, Try.ntmps51
    have hmm := @run_makeMap Try.prog
    go_wp2
    go_step3
    go_wp2_with (go_at_call 54; refine (cue_Check c A k B m _ (HC.out.mono (by repeat (first | exact Ext.refl _ | assumption | apply Ext.xt | apply Ext.alloc | apply Ext.drew | apply Ext.drewN)))).mono ?_; rintro e w' ⟨rfl, hx⟩; obtain ⟨ya, rfl⟩ := hx.get; clear hx)
    go_step3
    go_wp2
    clear hmm
    go_loopg [24] c.parts.length (fun g i wr => ∃ (j : Nat) (D : Option Addr) (q d : Nat) (o : List Timing) (ob : Obj) (n : Nat) (f : Int → Int), j + g = c.parts.length ∧ i = .int .i64 j ∧ q ≤ j ∧ n ≤ j ∧ Ext (((xt ((w.alloc (.cells #[.string c.number, .string c.label, .slice A c.moves.length k, .slice B c.parts.length m, .bool c.block, .bool c.mark, .int .i64 c.follow, .string c.link, .int .i64 c.loops] 38)).alloc (.cells #[.string ⟨#[]⟩, .string ⟨#[]⟩, .slice none 0 0, .slice none 0 0, .bool false, .bool false, .int .i64 0, .string ⟨#[]⟩, .int .i64 0] 38)) ya).alloc (.cells #[.string c.number, .string c.label, .slice A c.moves.length k, .slice D q d, .bool c.block, .bool c.mark, .int .i64 c.follow, .string c.link, .int .i64 c.loops] 155)).alloc ob) wr ∧ Hid (o = packT c.moves c.parts j) ∧ Hid (q = cntP c.moves j) ∧ Hid (Own (((xt ((w.alloc (.cells #[.string c.number, .string c.label, .slice A c.moves.length k, .slice B c.parts.length m, .bool c.block, .bool c.mark, .int .i64 c.follow, .string c.link, .int .i64 c.loops] 38)).alloc (.cells #[.string ⟨#[]⟩, .string ⟨#[]⟩, .slice none 0 0, .slice none 0 0, .bool false, .bool false, .int .i64 0, .string ⟨#[]⟩, .int .i64 0] 38)) ya).alloc (.cells #[.string c.number, .string c.label, .slice A c.moves.length k, .slice D q d, .bool c.block, .bool c.mark, .int .i64 c.follow, .string c.link, .int .i64 c.loops] 155)).alloc ob) wr 23 6 D q d (o.map tmg)) ∧ Hid (IMo ob n f) ∧ Hid (PackF c.moves j f))
    case atStart => exact ⟨0, none, 0, 0, [], .map #[] 0, 0, fun _ => 0, by omega, rfl, by omega, by omega, Ext.refl _, Lib.hid (by simp [packT]), Lib.hid rfl, Lib.hid (Own.nil _), Lib.hid IMo.new, Lib.hid (PackF.start _ _)⟩
    case round =>
      obtain ⟨j, D, q, d, o, ob, n, f, hj, rfl, hq, hn, hx, HO1, HQ, HO, HI, HF⟩ := hrel
      obtain ⟨y, rfl⟩ := hx.get
      clear hx
      by_cases hlt : j < c.parts.length
      · obtain ⟨g, rfl⟩ : ∃ g, gk = g + 1 := ⟨gk - 1, by omega⟩
        obtain ⟨t, ht⟩ : ∃ t, c.parts[j]? = some t := ⟨_, List.getElem?_eq_getElem hlt⟩
        have HT := Lib.hid (packT_step c.moves ht)
        have HC1 := Lib.hid (cntP_step c.moves j)
        obtain ⟨b', of, rfl, hc0, hc1, hc2, hc3, hc4, hc5⟩ := hp.row6 (i := j) (by rw [List.getElem?_map, ht]; rfl)
        have hb0 : (0 : Int) ≤ (j : Int) := by omega
        have hb1 : (j : Int) < (c.parts.length : Int) := by omega
        clear ht hp
        by_cases hj0 : j = 0
        · have hz : ((j : Int) == 0) = true := by simp [hj0]
          have HK := Lib.hid (show keepB c.moves j = true by rw [hj0]; rfl)
          have HJ := Lib.hid hj0
          clear hj0
          by_cases hm0 : c.moves = []
          · have HM := Lib.hid hm0
            have hb3 : ¬ ((0 : Int) < (c.moves.length : Int)) := by rw [hm0]; simp
            clear hm0
            go_wp2
            go_loopg [32] 0 (fun g' i wr => i = .int .i64 0 ∧ Ext ((xt (((xt ((w.alloc (.cells #[.string c.number, .string c.label, .slice A c.moves.length k, .slice (some ⟨b', of, none⟩) c.parts.length m, .bool c.block, .bool c.mark, .int .i64 c.follow, .string c.link, .int .i64 c.loops] 38)).alloc (.cells #[.string ⟨#[]⟩, .string ⟨#[]⟩, .slice none 0 0, .slice none 0 0, .bool false, .bool false, .int .i64 0, .string ⟨#[]⟩, .int .i64 0] 38)) ya).alloc (.cells #[.string c.number, .string c.label, .slice A c.moves.length k, .slice D q d, .bool c.block, .bool c.mark, .int .i64 c.follow, .string c.link, .int .i64 c.loops] 155)).alloc ob) y).alloc (.cells #[.int .i64 t.up, .int .i64 t.down, .int .i64 t.pos, .int .i64 t.col, .int .i64 t.beam, .int .i64 t.del] 23)) wr)
            case atStart => exact ⟨rfl, by repeat (first | exact Ext.refl _ | assumption | apply Ext.xt | apply Ext.alloc | apply Ext.drew | apply Ext.drewN)⟩
            case round =>
              obtain ⟨rfl, hx⟩ := hrel
              obtain ⟨y0, rfl⟩ := hx.get
              clear hx
              go_wp2_with (at_builtin; refine wpList_append_mine (w0 := (((xt ((w.alloc (.cells #[.string c.number, .string c.label, .slice A c.moves.length k, .slice (some ⟨b', of, none⟩) c.parts.length m, .bool c.block, .bool c.mark, .int .i64 c.follow, .string c.link, .int .i64 c.loops] 38)).alloc (.cells #[.string ⟨#[]⟩, .string ⟨#[]⟩, .slice none 0 0, .slice none 0 0, .bool false, .bool false, .int .i64 0, .string ⟨#[]⟩, .int .i64 0] 38)) ya).alloc (.cells #[.string c.number, .string c.label, .slice A c.moves.length k, .slice D q d, .bool c.block, .bool c.mark, .int .i64 c.follow, .string c.link, .int .i64 c.loops] 155)).alloc ob)) rfl _ _ 36 36 rfl 23 23 6 48 Try.underlying36 Try.underlying36 info_T (by decide) (by repeat (first | exact Ext.refl _ | assumption | apply Ext.xt | apply Ext.alloc | apply Ext.drew | apply Ext.drewN)) D q d (o.map tmg) rfl (HO.out.mono (by repeat (first | exact Ext.refl _ | assumption | apply Ext.xt | apply Ext.alloc | apply Ext.drew | apply Ext.drewN))) _ 1 1 [tmg t] rfl (Sl.alloc' (by simp [go_sem]) rfl (by simp [tmg])) rfl (tmg_one [t]) (by unfold maxLen; omega) (by omega) (q + 1) rfl (o.map tmg ++ [tmg t]) rfl ?_; intro D1 c1 w1 hx1 hown hg hA; have HO2 := Lib.hid hown; obtain ⟨y1, rfl⟩ := hx1.get; clear hown hx1 hg hA)
              go_roundg g
              case measure => omega
              case rel => exact ⟨j + 1, D1, q + 1, c1, o ++ [t], ob, n, f, by omega, by go_num, by omega, by omega, by repeat (first | exact Ext.refl _ | assumption | apply Ext.xt | apply Ext.alloc | apply Ext.drew | apply Ext.drewN), Lib.hid (by rw [HT.out, HO1.out, HK.out]; rfl), Lib.hid (by rw [HC1.out, HQ.out, HK.out]; rfl), Lib.hid (by rw [← tmg_app]; exact Own.moved HO2.out (by simp [go_sem])), HI, Lib.hid (by intro m hm; rw [HM.out] at hm; cases hm)⟩
          · have hm1 : 0 < c.moves.length := List.length_pos_iff.2 hm0
            obtain ⟨x, hx⟩ : ∃ x, c.moves[0]? = some x := ⟨_, List.getElem?_eq_getElem hm1⟩
            clear hm0
            obtain ⟨b2, o2, rfl, hd0, hd1, hd2, hd3, hd4⟩ := hs.row5 (i := 0) (by rw [List.getElem?_map, hx]; rfl)
            simp only [Nat.zero_mul, Nat.add_zero] at hd0 hd1 hd2 hd3 hd4
            have hb3 : (0 : Int) < (c.moves.length : Int) := by omega
            clear hx hs
            go_wp2
            go_loopg [32] 0 (fun g' i wr => i = .int .i64 0 ∧ Ext ((xt (((xt ((w.alloc (.cells #[.string c.number, .string c.label, .slice (some ⟨b2, o2, none⟩) c.moves.length k, .slice (some ⟨b', of, none⟩) c.parts.length m, .bool c.block, .bool c.mark, .int .i64 c.follow, .string c.link, .int .i64 c.loops] 38)).alloc (.cells #[.string ⟨#[]⟩, .string ⟨#[]⟩, .slice none 0 0, .slice none 0 0, .bool false, .bool false, .int .i64 0, .string ⟨#[]⟩, .int .i64 0] 38)) ya).alloc (.cells #[.string c.number, .string c.label, .slice (some ⟨b2, o2, none⟩) c.moves.length k, .slice D q d, .bool c.block, .bool c.mark, .int .i64 c.follow, .string c.link, .int .i64 c.loops] 155)).alloc ob) y).alloc (.cells #[.int .i64 t.up, .int .i64 t.down, .int .i64 t.pos, .int .i64 t.col, .int .i64 t.beam, .int .i64 t.del] 23)) wr)
            case atStart => exact ⟨rfl, by repeat (first | exact Ext.refl _ | assumption | apply Ext.xt | apply Ext.alloc | apply Ext.drew | apply Ext.drewN)⟩
            case round =>
              obtain ⟨rfl, hx⟩ := hrel
              obtain ⟨y0, rfl⟩ := hx.get
              clear hx
              go_wp2_with (first
                | (at_builtin; refine wpList_append_mine (w0 := (((xt ((w.alloc (.cells #[.string c.number, .string c.label, .slice (some ⟨b2, o2, none⟩) c.moves.length k, .slice (some ⟨b', of, none⟩) c.parts.length m, .bool c.block, .bool c.mark, .int .i64 c.follow, .string c.link, .int .i64 c.loops] 38)).alloc (.cells #[.string ⟨#[]⟩, .string ⟨#[]⟩, .slice none 0 0, .slice none 0 0, .bool false, .bool false, .int .i64 0, .string ⟨#[]⟩, .int .i64 0] 38)) ya).alloc (.cells #[.string c.number, .string c.label, .slice (some ⟨b2, o2, none⟩) c.moves.length k, .slice D q d, .bool c.block, .bool c.mark, .int .i64 c.follow, .string c.link, .int .i64 c.loops] 155)).alloc ob)) rfl _ _ 36 36 rfl 23 23 6 48 Try.underlying36 Try.underlying36 info_T (by decide) (by repeat (first | exact Ext.refl _ | assumption | apply Ext.xt | apply Ext.alloc | apply Ext.drew | apply Ext.drewN)) D q d (o.map tmg) rfl (HO.out.mono (by repeat (first | exact Ext.refl _ | assumption | apply Ext.xt | apply Ext.alloc | apply Ext.drew | apply Ext.drewN))) _ 1 1 [tmg t] rfl (Sl.alloc' (by simp [go_sem]) rfl (by simp [tmg])) rfl (tmg_one [t]) (by unfold maxLen; omega) (by omega) (q + 1) rfl (o.map tmg ++ [tmg t]) rfl ?_; intro D1 c1 w1 hx1 hown hg hA; have HO2 := Lib.hid hown; obtain ⟨y1, rfl⟩ := hx1.get; clear hown hx1 hg hA)
                | (at_mapUpdate; refine wpList_put_top rfl _ _ _ rfl n f (by simp [go_sem]) HI.out (by unfold maxLen; omega) ((j : Int) + 1) ((q : Int) + 1) (by rfl) (by rfl) (wf_small (by omega) (by omega)) (wf_small (by omega) (by omega)) ?_; intro ob2 y2 hob hgr; have HI2 := Lib.hid hob; have HG := Lib.hid hgr; clear hob hgr))
              go_roundg g
              case measure => omega
              case rel => exact ⟨j + 1, D1, q + 1, c1, o ++ [t], ob2, n + 1, _, by omega, by go_num, by omega, by omega, by repeat (first | exact Ext.refl _ | assumption | apply Ext.xt | apply Ext.alloc | apply Ext.drew | apply Ext.drewN), Lib.hid (by rw [HT.out, HO1.out, HK.out]; rfl), Lib.hid (by rw [HC1.out, HQ.out, HK.out]; rfl), Lib.hid (by rw [← tmg_app]; exact Own.since (Own.past (Own.moved HO2.out (by simp [go_sem])) HG.out (by simp [go_sem])) (by simp)), HI2, Lib.hid (by have h := HF.out.put HK.out; rw [← HQ.out] at h; exact h)⟩
        · have hz : ((j : Int) == 0) = false := by simp [hj0]
          have HJ := Lib.hid hj0
          clear hj0
          go_wp2
          go_loopg [32] c.moves.length (fun g' i wr => ∃ u : Nat, u + g' = c.moves.length ∧ i = .int .i64 u ∧ Ext ((xt (((xt ((w.alloc (.cells #[.string c.number, .string c.label, .slice A c.moves.length k, .slice (some ⟨b', of, none⟩) c.parts.length m, .bool c.block, .bool c.mark, .int .i64 c.follow, .string c.link, .int .i64 c.loops] 38)).alloc (.cells #[.string ⟨#[]⟩, .string ⟨#[]⟩, .slice none 0 0, .slice none 0 0, .bool false, .bool false, .int .i64 0, .string ⟨#[]⟩, .int .i64 0] 38)) ya).alloc (.cells #[.string c.number, .string c.label, .slice A c.moves.length k, .slice D q d, .bool c.block, .bool c.mark, .int .i64 c.follow, .string c.link, .int .i64 c.loops] 155)).alloc ob) y).alloc (.cells #[.int .i64 t.up, .int .i64 t.down, .int .i64 t.pos, .int .i64 t.col, .int .i64 t.beam, .int .i64 t.del] 23)) wr ∧ Hid ((c.moves.take u).all (fun x => !decide (x.part = (j : Int) + 1)) = true))
          case atStart => exact ⟨0, by omega, rfl, by repeat (first | exact Ext.refl _ | assumption | apply Ext.xt | apply Ext.alloc | apply Ext.drew | apply Ext.drewN), Lib.hid (by simp)⟩
          case round =>
            obtain ⟨u, hu, rfl, hx, HN⟩ := hrel
            obtain ⟨y0, rfl⟩ := hx.get
            clear hx
            by_cases hlu : u < c.moves.length
            · obtain ⟨g2, rfl⟩ : ∃ g2, gk = g2 + 1 := ⟨gk - 1, by omega⟩
              obtain ⟨x, hx⟩ : ∃ x, c.moves[u]? = some x := ⟨_, List.getElem?_eq_getElem hlu⟩
              have HX := Lib.hid hx
              obtain ⟨b2, o2, rfl, hd0, hd1, hd2, hd3, hd4⟩ := hs.row5 (i := u) (by rw [List.getElem?_map, hx]; rfl)
              have hb2 : (0 : Int) ≤ (u : Int) := by omega
              have hb3 : (u : Int) < (c.moves.length : Int) := by omega
              clear hx hs
              by_cases he : x.part = (j : Int) + 1
              · have hz2 : (x.part == (j : Int) + 1) = true := by simpa using he
                have HK := Lib.hid (show keepB c.moves j = true by rw [keep_pos _ HJ.out]; exact used_hit HX.out he)
                clear he
                go_wp2_with (first
                  | (at_builtin; refine wpList_append_mine (w0 := (((xt ((w.alloc (.cells #[.string c.number, .string c.label, .slice (some ⟨b2, o2, none⟩) c.moves.length k, .slice (some ⟨b', of, none⟩) c.parts.length m, .bool c.block, .bool c.mark, .int .i64 c.follow, .string c.link, .int .i64 c.loops] 38)).alloc (.cells #[.string ⟨#[]⟩, .string ⟨#[]⟩, .slice none 0 0, .slice none 0 0, .bool false, .bool false, .int .i64 0, .string ⟨#[]⟩, .int .i64 0] 38)) ya).alloc (.cells #[.string c.number, .string c.label, .slice (some ⟨b2, o2, none⟩) c.moves.length k, .slice D q d, .bool c.block, .bool c.mark, .int .i64 c.follow, .string c.link, .int .i64 c.loops] 155)).alloc ob)) rfl _ _ 36 36 rfl 23 23 6 48 Try.underlying36 Try.underlying36 info_T (by decide) (by repeat (first | exact Ext.refl _ | assumption | apply Ext.xt | apply Ext.alloc | apply Ext.drew | apply Ext.drewN)) D q d (o.map tmg) rfl (HO.out.mono (by repeat (first | exact Ext.refl _ | assumption | apply Ext.xt | apply Ext.alloc | apply Ext.drew | apply Ext.drewN))) _ 1 1 [tmg t] rfl (Sl.alloc' (by simp [go_sem]) rfl (by simp [tmg])) rfl (tmg_one [t]) (by unfold maxLen; omega) (by omega) (q + 1) rfl (o.map tmg ++ [tmg t]) rfl ?_; intro D1 c1 w1 hx1 hown hg hA; have HO2 := Lib.hid hown; obtain ⟨y1, rfl⟩ := hx1.get; clear hown hx1 hg hA)
                  | (at_mapUpdate; refine wpList_put_top rfl _ _ _ rfl n f (by simp [go_sem]) HI.out (by unfold maxLen; omega) ((j : Int) + 1) ((q : Int) + 1) (by rfl) (by rfl) (wf_small (by omega) (by omega)) (wf_small (by omega) (by omega)) ?_; intro ob2 y2 hob hgr; have HI2 := Lib.hid hob; have HG := Lib.hid hgr; clear hob hgr))
                go_roundg g
                case measure => omega
                case rel => exact ⟨j + 1, D1, q + 1, c1, o ++ [t], ob2, n + 1, _, by omega, by go_num, by omega, by omega, by repeat (first | exact Ext.refl _ | assumption | apply Ext.xt | apply Ext.alloc | apply Ext.drew | apply Ext.drewN), Lib.hid (by rw [HT.out, HO1.out, HK.out]; rfl), Lib.hid (by rw [HC1.out, HQ.out, HK.out]; rfl), Lib.hid (by rw [← tmg_app]; exact Own.since (Own.past (Own.moved HO2.out (by simp [go_sem])) HG.out (by simp [go_sem])) (by simp)), HI2, Lib.hid (by have h := HF.out.put HK.out; rw [← HQ.out] at h; exact h)⟩
              · have hz2 : (x.part == (j : Int) + 1) = false := by simpa using he
                have HE := Lib.hid he
                clear he
                go_wp2
                go_roundg g2
                case measure => omega
                case rel => exact ⟨u + 1, by omega, by go_num, by repeat (first | exact Ext.refl _ | assumption | apply Ext.xt | apply Ext.alloc | apply Ext.drew | apply Ext.drewN), Lib.hid (all_step HX.out (by simpa using HE.out) HN.out)⟩
            · have HU := Lib.hid (used_miss (all_full (l := c.moves) (k := u) (by omega) HN.out))
              have HK := Lib.hid (show keepB c.moves j = false by rw [keep_pos _ HJ.out]; exact HU.out)
              go_wp2
              go_roundg g
              case measure => omega
              case rel => exact ⟨j + 1, D, q, d, o, ob, n, f, by omega, by go_num, by omega, by omega, by repeat (first | exact Ext.refl _ | assumption | apply Ext.xt | apply Ext.alloc | apply Ext.drew | apply Ext.drewN), Lib.hid (by rw [HT.out, HO1.out, HK.out]; simp), Lib.hid (by rw [HC1.out, HQ.out, HK.out]; rfl), Lib.hid (HO.out.mono (by repeat (first | exact Ext.refl _ | assumption | apply Ext.xt | apply Ext.alloc | apply Ext.drew | apply Ext.drewN))), HI, Lib.hid (HF.out.skip HU.out)⟩
      · have HO3 := Lib.hid (show o = packT c.moves c.parts c.parts.length by rw [HO1.out, show j = c.parts.length by omega])
        have HF3 := Lib.hid (show PackF c.moves c.parts.length f by rw [show c.parts.length = j by omega]; exact HF.out)
        have HL := Lib.hid (show q = o.length by rw [HO1.out, HQ.out, packT_len _ _ _ (by omega)])
        have hq4 : q ≤ 4 := by omega
        clear hp
        go_wp2_with (go_at_call 98; refine (Clone_M A k c.moves _ (HC.out.mv.mono (by repeat (first | exact Ext.refl _ | assumption | apply Ext.xt | apply Ext.alloc | apply Ext.drew | apply Ext.drewN))) (by omega)).mono ?_; rintro e w' ⟨M, k1, rfl, hx, hown⟩; have HM := Lib.hid hown; obtain ⟨ym, rfl⟩ := hx.get; clear hx hown)
        go_loopw [74] (fun i wr => ∃ u : Nat, u ≤ c.moves.length ∧ i = .int .i64 u ∧ Ext (xt (((xt ((w.alloc (.cells #[.string c.number, .string c.label, .slice A c.moves.length k, .slice B c.parts.length m, .bool c.block, .bool c.mark, .int .i64 c.follow, .string c.link, .int .i64 c.loops] 38)).alloc (.cells #[.string ⟨#[]⟩, .string ⟨#[]⟩, .slice none 0 0, .slice none 0 0, .bool false, .bool false, .int .i64 0, .string ⟨#[]⟩, .int .i64 0] 38)) ya).alloc (.cells #[.string c.number, .string c.label, .slice M c.moves.length k1, .slice D q d, .bool c.block, .bool c.mark, .int .i64 c.follow, .string c.link, .int .i64 c.loops] 155)).alloc ob) y) wr ∧ Hid (Own (xt (((xt ((w.alloc (.cells #[.string c.number, .string c.label, .slice A c.moves.length k, .slice B c.parts.length m, .bool c.block, .bool c.mark, .int .i64 c.follow, .string c.link, .int .i64 c.loops] 38)).alloc (.cells #[.string ⟨#[]⟩, .string ⟨#[]⟩, .slice none 0 0, .slice none 0 0, .bool false, .bool false, .int .i64 0, .string ⟨#[]⟩, .int .i64 0] 38)) ya).alloc (.cells #[.string c.number, .string c.label, .slice M c.moves.length k1, .slice D q d, .bool c.block, .bool c.mark, .int .i64 c.follow, .string c.link, .int .i64 c.loops] 155)).alloc ob) y) wr 90 5 M c.moves.length k1 ((packM c.moves (c.moves.take u) ++ c.moves.drop u).map mv))) (fun i _ => c.moves.length - (intOf i).toNat)
        case atStart => exact ⟨0, by omega, rfl, by repeat (first | exact Ext.refl _ | assumption | apply Ext.xt | apply Ext.alloc | apply Ext.drew | apply Ext.drewN), Lib.hid (by simp only [packM, List.take_zero, List.map_nil, List.nil_append, List.drop_zero]; exact Own.moved HM.out (by simp [go_sem]))⟩
        case round =>
          obtain ⟨u, hu, rfl, hx, HR⟩ := hrel
          by_cases hlt2 : u < c.moves.length
          · obtain ⟨x, hxu⟩ : ∃ x, c.moves[u]? = some x := ⟨_, List.getElem?_eq_getElem hlt2⟩
            have hxm := List.mem_of_getElem? hxu
            have HPX := HP.out x hxm
            have hfx := HF3.out x hxm HPX.1 HPX.2
            have hcl := cntP_le c.moves x.part.toNat
            have HS := Lib.hid (packM_step (l := c.moves) hxu)
            have hget : (packM c.moves (c.moves.take u) ++ c.moves.drop u)[u]? = some x := by
              rw [List.getElem?_append_right (by rw [packM_len, List.length_take]; omega), packM_len, List.length_take, List.getElem?_drop, show u + (u - min u c.moves.length) = u by omega]; exact hxu
            obtain ⟨g, rfl, hcell⟩ := HR.out.get u (mv x) (by rw [List.getElem?_map, hget]; rfl)
            obtain ⟨g', hg', hge, hth⟩ := HR.out.there hlt2
            obtain rfl : g = g' := by injection hg' with hg'; injection hg'
            have hc4 := hcell 4 (.int .i64 x.part) rfl
            have hfz := (hth 4 (by decide)).2
            have hd2 : wr.cell? ⟨w.heap.size + 1 + 1 + ya.n, 2, none⟩ = some (.slice (some ⟨g, 0, none⟩) c.moves.length k1) := hx.cell (by simp [go_sem])
            have hlook : ∀ z, (Instr.lookup 129 (.map (some (w.heap.size + 1 + 1 + ya.n + 1))) (.int .i64 x.part) false).run Try.prog (xt wr z) = .ok (.int .i64 (cntP c.moves x.part.toNat : Int)) (xt wr z) := fun z => by
              have hb : (xt wr z).heap[w.heap.size + 1 + 1 + ya.n + 1]? = some ob := Ext.blk (Ext.xt (Ext.trans (Ext.xt (Ext.refl _) y) hx) z) (heap_new (by simp [go_sem]))
              have h := (HI.out _ _ hb).get (z := x.part) (wf_small (by omega) (by omega))
              rw [hfx] at h; exact h
            have HG := Lib.hid hge
            have HX := Lib.hid hx
            have HGET := Lib.hid hget
            have hb0 : (0 : Int) ≤ (u : Int) := by omega
            have hb1 : (u : Int) < (c.moves.length : Int) := by omega
            clear hxu hxm hfx hcl hget hcell hth hge hx hg'
            go_wp2
            (refine wp_region_tail 13 (by kernel_rfl) (by kernel_rfl) ?_; simp only [List.take_succ_cons, List.take_zero, List.drop_succ_cons, List.drop_zero]; (repeat (go_big_quiet_step (fail))); refine wpQuiet_nil ?_; rintro _ ⟨y, rfl⟩)
            go_wp2
            go_light
            refine ⟨⟨u + 1, by omega, by go_num, Ext.xt (Ext.setCell HX.out HG.out _) _, Lib.hid ?_⟩, by simp [intOf]; omega⟩
            have h := (HR.out.put1 (i := u) (j := 4) (row := mv x) (by rw [List.getElem?_map, HGET.out]; rfl) rfl (by decide) (v := .int .i64 (cntP c.moves x.part.toNat : Int)) rfl)
            rw [← HS.out, List.map_set]
            exact h.mono (Ext.xt (Ext.refl _) _)
          · obtain ⟨y5, rfl⟩ := hx.get
            have HE := Lib.hid (show packM c.moves (c.moves.take u) ++ c.moves.drop u = packM c.moves c.moves by rw [List.take_of_length_le (by omega), List.drop_eq_nil_of_le (by omega), List.append_nil])
            clear hx
            go_wp2
            have hql := HL.out
            subst hql
            refine bodyPost_ret (v := .tuple #[.agg (cueV { c with moves := packM c.moves c.moves, parts := o } M k1 D d).toArray, .int .i64 0]) (by simp [results, Try.results51, go_sem, cueV, packM_len]) rfl ?_
            rw [HV.out, ← HO3.out]
            have HR' := HR.out
            rw [HE.out] at HR'
            refine ⟨M, k1, D, d, rfl, by repeat (first | exact Ext.refl _ | assumption | apply Ext.xt | apply Ext.alloc | apply Ext.drew | apply Ext.drewN), ⟨?_, Own.upon (by repeat (first | exact Ext.refl _ | assumption | apply Ext.xt | apply Ext.alloc | apply Ext.drew | apply Ext.drewN)) (Own.swapped (w := w) HO.out (by simp [go_sem]) (by repeat (first | exact Ext.refl _ | assumption | apply Ext.xt | apply Ext.alloc | apply Ext.drew | apply Ext.drewN))), HC.out.num, HC.out.lab, HC.out.lnk⟩⟩
            show Own _ _ _ 5 M (packM c.moves c.moves).length k1 _
            rw [packM_len]
            exact Own.swapped (w := w) HR' (by simp [go_sem]) (by repeat (first | exact Ext.refl _ | assumption | apply Ext.xt | apply Ext.alloc | apply Ext.drew | apply Ext.drewN))
  · have hE' : (cueE c != 0) = true := by simpa using hE
    have HV := Lib.hid (show packV c = (emptyC, cueE c) by unfold packV; rw [if_pos hE])
    clear hc hE
    go_enter Try.func51, Try.ntmps51
    go_wp2
    go_step3
    go_wp2_with (go_at_call 54; refine (cue_Check c A k B m _ (HC.out.mono (by repeat (first | exact Ext.refl _ | assumption | apply Ext.xt | apply Ext.alloc | apply Ext.drew | apply Ext.drewN)))).mono ?_; rintro e w' ⟨rfl, hx⟩; obtain ⟨ya, rfl⟩ := hx.get; clear hx)
    rw [Exit.noGoto_ret]
    refine bodyPost_ret (v := .tuple #[.agg (cueV emptyC none 0 none 0).toArray, .int .i64 (cueE c)]) (by simp [results, Try.results51, go_sem, cueV, emptyC]) rfl (RetCueO.empty HV.out rfl (by repeat (first | exact Ext.refl _ | assumption | apply Ext.xt | apply Ext.alloc | apply Ext.drew | apply Ext.drewN)))
theorem cue_Pack (c : Cue) (A : Option Addr) (k : Nat) (B : Option Addr) (m : Nat) (w : World) (hc : CueAt w c A k B m) :
    Calls Try.prog 51 #[.agg (cueV c A k B m).toArray] w (RetCue w (packV c)) := (cue_PackO c A k B m w hc).mono fun _ _ h => h.ret
end Go.Proofs.Ytgmicckeefoghaa
