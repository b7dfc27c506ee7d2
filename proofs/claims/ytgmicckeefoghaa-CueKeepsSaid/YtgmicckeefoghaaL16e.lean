/-
  Chapter 16: the law CueKeeps.
-/
import Derived.Test.YtgmicckeefoghaaAwk16
import Derived.Test.YtgmicckeefoghaaKeepLaw
namespace Go.Proofs.Ytgmicckeefoghaa
open Go.RowKit

theorem info_Pr : infoOk Try.prog 40 2 16 = true := by kernel_rfl
theorem prm_one (l : List Param) : ∀ r ∈ l.map prm, ∀ u ∈ r, u.oneCell' = true := fun r hr u hu => by
  obtain ⟨m, _, rfl⟩ := List.mem_map.1 hr
  simp [prm] at hu
  rcases hu with rfl | rfl <;> rfl
theorem prm_app (o : List Param) (x : Param) : o.map prm ++ [prm x] = (o ++ [x]).map prm := by simp
theorem cue_Set_to (c : Cue) (A : Option Addr) (k : Nat) (B : Option Addr) (m : Nat) (C : Option Addr) (n : Nat) (es : List Entry) (part : Int) (w : World) (hc : CueAt w c A k B m) (hs : Sl w C 4 (es.map en)) (hl : es.length ≤ maxLen) (d : Cue) (x : Int) (hd : csetV c es part = (d, x)) :
    Calls Try.prog 47 #[.agg (cueV c A k B m).toArray, .slice C es.length n, .int .i64 part] w (RetCue w (d, x)) := by
  rw [← hd]; exact cue_Set c A k B m C n es part w hc hs hl
theorem cue_Drop_to (c : Cue) (A : Option Addr) (k : Nat) (B : Option Addr) (m : Nat) (C : Option Addr) (n q : Nat) (ps : List Param) (hq : ps.length = q) (w : World) (hc : CueAt w c A k B m) (hs : Sl w C 2 (ps.map prm)) (hl : q ≤ maxLen) (d : Cue) (x : Int) (hd : dropV c ps = (d, x)) :
    Calls Try.prog 49 #[.agg (cueV c A k B m).toArray, .slice C q n] w (RetCue w (d, x)) := by
  subst hq; rw [← hd]; exact cue_Drop c A k B m C n ps w hc hs hl

set_option maxHeartbeats 6400000 in
set_option maxRecDepth 100000 in
theorem l16_CueKeeps (c : Cue) (A : Option Addr) (k : Nat) (B : Option Addr) (m : Nat) (C : Option Addr) (n : Nat) (es : List Entry) (part : Int) (w : World) (hc : CueAt w c A k B m) (hs : Sl w C 4 (es.map en)) (hn : es.length ≤ n) (hnm : n ≤ maxLen) (hp : 0 ≤ part ∧ part ≤ 255) :
    Calls Try.prog 16 #[.agg (cueV c A k B m).toArray, .slice C es.length n, .int .u8 part] w fun e w' => e = .returned (.bool true) ∧ Ext w w' := by
  have HC := Lib.hid hc
  have HS := Lib.hid hs
  have HL := Lib.hid (Nat.le_trans hn hnm)
  have hel : es.length ≤ 9223372036854775807 := Nat.le_trans hn hnm
  obtain ⟨hp0, hp255⟩ := hp
  clear hc hn hnm
  simp only [cueV]
  by_cases hG : few c = true ∧ cueE c = 0 ∧ es.length ≤ 40 ∧ entriesE es = 0 ∧ c.moves.length ≤ 60
  · obtain ⟨hf, hE, h40, hF, h60⟩ := hG
    have hE' : (cueE c != 0) = false := by simpa using hE
    have hF' : (entriesE es != 0) = false := by simpa using hF
    have hpl := parts_len hE
    obtain ⟨r, hr, hr2⟩ : ∃ r : Nat, part.tmod (c.parts.length : Int) = (r : Int) ∧ r < c.parts.length := by
      have h1 : part.tmod (c.parts.length : Int) = part % (c.parts.length : Int) := Int.tmod_eq_emod_of_nonneg hp0
      have h2 := Int.emod_nonneg part (show (c.parts.length : Int) ≠ 0 by omega)
      have h3 := Int.emod_lt_of_pos part (show (0 : Int) < c.parts.length by omega)
      exact ⟨(part % (c.parts.length : Int)).toNat, by omega, by omega⟩
    have hk1 : (1 : Int) ≤ 1 + (r : Int) := by omega
    have hk2 : 1 + (r : Int) ≤ (c.parts.length : Int) := by omega
    obtain ⟨d, hd⟩ : ∃ d, d = { c with moves := mergeL c.moves (givenM es (1 + (r : Int))) } := ⟨_, rfl⟩
    obtain ⟨f, hff⟩ : ∃ f : Cue, f = { c with moves := dropM c.moves (es.map fun x => x.p) } := ⟨_, rfl⟩
    have HD := Lib.hid (show csetV c es (1 + (r : Int)) = (d, 0) by rw [hd]; exact keep_set hE hF hk1 hk2 h60 h40)
    have hEd : (cueE d != 0) = false := by rw [hd, keep_ok hE hF hk1 hk2 h60 h40]; rfl
    have hEd2 : (cueE d == 0) = true := by rw [hd, keep_ok hE hF hk1 hk2 h60 h40]; rfl
    have HFD := Lib.hid (show ∀ x ∈ es, ∃ j : Nat, d.moves[j]? = some ⟨x.p, x.v, 1 + (r : Int)⟩ ∧ findV d x.p = ((j : Int), true, 0) by rw [hd]; intro x hx; exact keep_found hE hF hk1 hk2 h60 h40 hx)
    have HL1 := Lib.hid (show dropV d (es.map fun x => x.p) = (f, 0) by rw [hd, hff]; exact keep_less hE hF hk1 hk2 h60 h40)
    have HL2 := Lib.hid (show dropV c (es.map fun x => x.p) = (f, 0) by rw [hff]; exact keep_old hE hF h40)
    have hdl : d.moves.length ≤ 100 := by rw [hd]; exact keep_len h60 h40
    have hself : decide (f = f) = true := by simp
    have hl0 : ¬ (c.parts.length : Int) = 0 := by omega
    clear hE hF hd hff
    go_enter Try.func16, Try.ntmps16
    go_wp2_with (first
      | (go_at_call 27; refine (r16_Few c A k B m _).mono ?_; rintro e w' ⟨rfl, hx⟩; obtain ⟨ya, rfl⟩ := hx.get; clear hx)
      | (go_at_call 53; refine (r16_Check c A k B m _ (HC.out.mono (by repeat (first | exact Ext.refl _ | assumption | apply Ext.xt | apply Ext.alloc | apply Ext.drew | apply Ext.drewN)))).mono ?_; rintro e w' ⟨rfl, hx⟩; obtain ⟨yb, rfl⟩ := hx.get; clear hx)
      | (go_at_call 61; refine (r15_Entries C n es _ (HS.out.mono (by repeat (first | exact Ext.refl _ | assumption | apply Ext.xt | apply Ext.alloc | apply Ext.drew | apply Ext.drewN))) HL.out).mono ?_; rintro e w' ⟨rfl, hx⟩; obtain ⟨yc, rfl⟩ := hx.get; clear hx)
      | (go_at_call 47; refine (cue_Set_to c A k B m C n es _ _ (HC.out.mono (by repeat (first | exact Ext.refl _ | assumption | apply Ext.xt | apply Ext.alloc | apply Ext.drew | apply Ext.drewN))) (HS.out.mono (by repeat (first | exact Ext.refl _ | assumption | apply Ext.xt | apply Ext.alloc | apply Ext.drew | apply Ext.drewN))) HL.out d 0 HD.out).mono ?_; rintro e w' ⟨A1, k1, B1, m1, he, hx, h1⟩; simp only [cueV] at he; subst he; have H1 := Lib.hid h1; obtain ⟨y1, rfl⟩ := hx.get; clear hx h1))
    generalize hW : World.alloc _ _ = W
    have hxw : Ext w W := by rw [← hW]; exact (by repeat (first | exact Ext.refl _ | assumption | apply Ext.xt | apply Ext.alloc | apply Ext.drew | apply Ext.drewN))
    have HCW := Lib.hid (show CueAt W c A k B m by rw [← hW]; exact HC.out.mono (by repeat (first | exact Ext.refl _ | assumption | apply Ext.xt | apply Ext.alloc | apply Ext.drew | apply Ext.drewN)))
    have HDW := Lib.hid (show CueAt W d A1 k1 B1 m1 by rw [← hW]; exact H1.out.mono (by repeat (first | exact Ext.refl _ | assumption | apply Ext.xt | apply Ext.alloc | apply Ext.drew | apply Ext.drewN)))
    have HSW := Lib.hid (show Sl W C 4 (es.map en) by rw [← hW]; exact HS.out.mono (by repeat (first | exact Ext.refl _ | assumption | apply Ext.xt | apply Ext.alloc | apply Ext.drew | apply Ext.drewN)))
    have t0 : W.cell? ⟨w.heap.size, 0, none⟩ = some (.string c.number) := by rw [← hW]; simp [go_sem]
    have t1 : W.cell? ⟨w.heap.size, 1, none⟩ = some (.string c.label) := by rw [← hW]; simp [go_sem]
    have t2 : W.cell? ⟨w.heap.size, 2, none⟩ = some (.slice A c.moves.length k) := by rw [← hW]; simp [go_sem]
    have t3 : W.cell? ⟨w.heap.size, 3, none⟩ = some (.slice B c.parts.length m) := by rw [← hW]; simp [go_sem]
    have t4 : W.cell? ⟨w.heap.size, 4, none⟩ = some (.bool c.block) := by rw [← hW]; simp [go_sem]
    have t5 : W.cell? ⟨w.heap.size, 5, none⟩ = some (.bool c.mark) := by rw [← hW]; simp [go_sem]
    have t6 : W.cell? ⟨w.heap.size, 6, none⟩ = some (.int .i64 c.follow) := by rw [← hW]; simp [go_sem]
    have t7 : W.cell? ⟨w.heap.size, 7, none⟩ = some (.string c.link) := by rw [← hW]; simp [go_sem]
    have t8 : W.cell? ⟨w.heap.size, 8, none⟩ = some (.int .i64 c.loops) := by rw [← hW]; simp [go_sem]
    have u0 : W.cell? ⟨w.heap.size + 1 + ya.n + yb.n + yc.n + y1.n, 0, none⟩ = some (.string d.number) := by rw [← hW]; simp [go_sem]
    have u1 : W.cell? ⟨w.heap.size + 1 + ya.n + yb.n + yc.n + y1.n, 1, none⟩ = some (.string d.label) := by rw [← hW]; simp [go_sem]
    have u2 : W.cell? ⟨w.heap.size + 1 + ya.n + yb.n + yc.n + y1.n, 2, none⟩ = some (.slice A1 d.moves.length k1) := by rw [← hW]; simp [go_sem]
    have u3 : W.cell? ⟨w.heap.size + 1 + ya.n + yb.n + yc.n + y1.n, 3, none⟩ = some (.slice B1 d.parts.length m1) := by rw [← hW]; simp [go_sem]
    have u4 : W.cell? ⟨w.heap.size + 1 + ya.n + yb.n + yc.n + y1.n, 4, none⟩ = some (.bool d.block) := by rw [← hW]; simp [go_sem]
    have u5 : W.cell? ⟨w.heap.size + 1 + ya.n + yb.n + yc.n + y1.n, 5, none⟩ = some (.bool d.mark) := by rw [← hW]; simp [go_sem]
    have u6 : W.cell? ⟨w.heap.size + 1 + ya.n + yb.n + yc.n + y1.n, 6, none⟩ = some (.int .i64 d.follow) := by rw [← hW]; simp [go_sem]
    have u7 : W.cell? ⟨w.heap.size + 1 + ya.n + yb.n + yc.n + y1.n, 7, none⟩ = some (.string d.link) := by rw [← hW]; simp [go_sem]
    have u8 : W.cell? ⟨w.heap.size + 1 + ya.n + yb.n + yc.n + y1.n, 8, none⟩ = some (.int .i64 d.loops) := by rw [← hW]; simp [go_sem]
    clear hW hs HS HC H1
    go_loopw [10, 62] (fun s i wr => ∃ (j : Nat) (D : Option Addr) (q dd : Nat) (o : List Param), j ≤ es.length ∧ i = .int .i64 j ∧ s = .slice D q dd ∧ q = j ∧ Hid (o = (es.take j).map fun x => x.p) ∧ Ext W wr ∧ Hid (Own W wr 40 2 D q dd (o.map prm))) (fun _ i _ => es.length - (intOf i).toNat)
    case atStart => exact ⟨0, none, 0, 0, [], by omega, rfl, rfl, rfl, Lib.hid (by simp), Ext.refl _, Lib.hid (Own.nil _)⟩
    case round =>
      obtain ⟨j, D, q, dd, o, hj, rfl, rfl, hq, HO1, hx, HO⟩ := hrel
      obtain ⟨y3, rfl⟩ := hx.get
      clear hx
      by_cases hlt : j < es.length
      · obtain ⟨x, hxj⟩ : ∃ x, es[j]? = some x := ⟨_, List.getElem?_eq_getElem hlt⟩
        have HT := Lib.hid (show (es.take (j + 1)).map (fun x => x.p) = (es.take j).map (fun x => x.p) ++ [x.p] by
          obtain ⟨h1, h2⟩ := List.getElem?_eq_some_iff.1 hxj
          rw [List.take_succ_eq_append_getElem h1, List.map_append, h2]; rfl)
        obtain ⟨jj, hjj, hfv⟩ := HFD.out x (List.mem_of_getElem? hxj)
        have f1 : (findV d x.p).1 = (jj : Int) := by rw [hfv]
        have f2 : (findV d x.p).2.1 = true := by rw [hfv]
        have f3 : (findV d x.p).2.2 = 0 := by rw [hfv]
        have hjl : jj < d.moves.length := (List.getElem?_eq_some_iff.1 hjj).1
        obtain ⟨b1, o1, hA, hc0, hc1, hc2, hc3⟩ := HSW.out.row4 (i := j) (by rw [List.getElem?_map, hxj]; rfl)
        obtain ⟨b2, o2, hA2, hd0, hd1, hd2, hd3, hd4⟩ := HDW.out.mv.row5 (i := jj) (by rw [List.getElem?_map, hjj]; rfl)
        subst hA hA2
        have hz : eqM ⟨⟨x.p.ch, x.p.attr⟩, ⟨x.v.pal, x.v.lev⟩, 1 + (r : Int)⟩ ⟨⟨x.p.ch, x.p.attr⟩, ⟨x.v.pal, x.v.lev⟩, 1 + (r : Int)⟩ = true := eqM_self _
        have hb0 : (0 : Int) ≤ (j : Int) := by omega
        have hb1 : (j : Int) < (es.length : Int) := by omega
        have hb2 : (0 : Int) ≤ (jj : Int) := by omega
        have hb3 : (jj : Int) < (d.moves.length : Int) := by omega
        have hb4 : decide ((jj : Int) < 0) = false := by simp
        have hb5 : decide ((d.moves.length : Int) ≤ (jj : Int)) = false := by simp; omega
        have hb6 : decide (d.moves.length ≤ jj) = false := by simp; omega
        have hb7 : jj < d.moves.length := hjl
        have HQ := Lib.hid hq
        have hq1 : q ≤ 40 := by omega
        clear hxj hjj hfv hq
        go_wp2_with (go_at_call 62; refine (cue_Find d _ k1 B1 m1 x.p _ (HDW.out.mono (by repeat (first | exact Ext.refl _ | assumption | apply Ext.xt | apply Ext.alloc | apply Ext.drew | apply Ext.drewN)))).mono ?_; rintro e w' ⟨rfl, hx⟩; obtain ⟨y, rfl⟩ := hx.get; clear hx)
        (refine wp_region_grows (by kernel_rfl) (by kernel_rfl) ?_; (repeat (go_big_quiet_step (fail))); refine wpQuiet_nil ?_; rintro _ ⟨y, rfl⟩)
        go_wp2_with (at_builtin; refine wpList_append_mine (w0 := W) rfl _ _ 79 79 rfl 40 40 2 16 Try.underlying79 Try.underlying79 info_Pr (by decide) (by repeat (first | exact Ext.refl _ | assumption | apply Ext.xt | apply Ext.alloc | apply Ext.drew | apply Ext.drewN)) D q dd (o.map prm) rfl (HO.out.mono (by repeat (first | exact Ext.refl _ | assumption | apply Ext.xt | apply Ext.alloc | apply Ext.drew | apply Ext.drewN))) _ 1 1 [prm x.p] rfl (Sl.alloc' (by simp [go_sem]) rfl (by simp [prm])) rfl (prm_one [x.p]) (by unfold maxLen; omega) (by omega) (q + 1) rfl (o.map prm ++ [prm x.p]) rfl ?_; intro D1 c1 w1 hx1 hown hg hA; have HO2 := Lib.hid hown; obtain ⟨y5, rfl⟩ := hx1.get; clear hown hx1 hg hA)
        go_light
        exact ⟨⟨j + 1, D1, q + 1, c1, o ++ [x.p], by omega, by go_num, rfl, by have := HQ.out; omega, Lib.hid (by rw [HT.out, HO1.out]), by repeat (first | exact Ext.refl _ | assumption | apply Ext.xt | apply Ext.alloc | apply Ext.drew | apply Ext.drewN), Lib.hid (by rw [← prm_app]; exact HO2.out)⟩, by simp [intOf]; omega⟩
      · have HE2 := Lib.hid (show o = es.map fun x => x.p by rw [HO1.out, List.take_of_length_le (by omega)])
        have hol : o.length = q := by have := HO.out.len; simpa using this
        have HOL := Lib.hid hol
        have hq1 : q ≤ maxLen := Nat.le_trans HO.out.le HO.out.cap
        have HQM := Lib.hid hq1
        have HD1 := Lib.hid (show dropV d o = (f, 0) by rw [HE2.out]; exact HL1.out)
        have HD2 := Lib.hid (show dropV c o = (f, 0) by rw [HE2.out]; exact HL2.out)
        clear hol hq1 hq
        go_wp2_with (first
          | (go_at_call 49; have hh := H3; clear hh; refine (cue_Drop_to c A k B m D dd q o HOL.out _ (HCW.out.mono (by repeat (first | exact Ext.refl _ | assumption | apply Ext.xt | apply Ext.alloc | apply Ext.drew | apply Ext.drewN))) (HO.out.sl.mono (by repeat (first | exact Ext.refl _ | assumption | apply Ext.xt | apply Ext.alloc | apply Ext.drew | apply Ext.drewN))) HQM.out f 0 HD2.out).mono ?_; rintro e w' ⟨A4, k4, B4, m4, he, hx, h4⟩; simp only [cueV] at he; subst he; have H4 := Lib.hid h4; obtain ⟨y4, rfl⟩ := hx.get; clear hx h4)
          | (go_at_call 49; refine (cue_Drop_to d A1 k1 B1 m1 D dd q o HOL.out _ (HDW.out.mono (by repeat (first | exact Ext.refl _ | assumption | apply Ext.xt | apply Ext.alloc | apply Ext.drew | apply Ext.drewN))) (HO.out.sl.mono (by repeat (first | exact Ext.refl _ | assumption | apply Ext.xt | apply Ext.alloc | apply Ext.drew | apply Ext.drewN))) HQM.out f 0 HD1.out).mono ?_; rintro e w' ⟨A3, k3, B3, m3, he, hx, h3⟩; simp only [cueV] at he; subst he; have H3 := Lib.hid h3; obtain ⟨y6, rfl⟩ := hx.get; clear hx h3)
          | (go_at_call 40; refine (r16_Same f A3 k3 B3 m3 f A4 k4 B4 m4 _ (H3.out.mono (by repeat (first | exact Ext.refl _ | assumption | apply Ext.xt | apply Ext.alloc | apply Ext.drew | apply Ext.drewN))) (H4.out.mono (by repeat (first | exact Ext.refl _ | assumption | apply Ext.xt | apply Ext.alloc | apply Ext.drew | apply Ext.drewN)))).mono ?_; rintro e w' ⟨rfl, hx⟩; obtain ⟨y, rfl⟩ := hx.get; clear hx)
          | (go_at_call 54; refine (cue_Check d A1 k1 B1 m1 _ (HDW.out.mono (by repeat (first | exact Ext.refl _ | assumption | apply Ext.xt | apply Ext.alloc | apply Ext.drew | apply Ext.drewN)))).mono ?_; rintro e w' ⟨rfl, hx⟩; obtain ⟨y, rfl⟩ := hx.get; clear hx)
          | (go_at_call 42; refine (l16_awake _).mono ?_; rintro e w' ⟨rfl, hx⟩; obtain ⟨y, rfl⟩ := hx.get; clear hx))
        go_ret
        exact ⟨rfl, by repeat (first | exact Ext.refl _ | assumption | apply Ext.xt | apply Ext.alloc | apply Ext.drew | apply Ext.drewN)⟩
  · have HG := Lib.hid hG
    clear hG
    go_enter Try.func16, Try.ntmps16
    go_wp2_with (first
      | (go_at_call 27; refine (r16_Few c A k B m _).mono ?_; rintro e w' ⟨rfl, hx⟩; obtain ⟨y, rfl⟩ := hx.get; clear hx)
      | (go_at_call 53; refine (r16_Check c A k B m _ (HC.out.mono (by repeat (first | exact Ext.refl _ | assumption | apply Ext.xt | apply Ext.alloc | apply Ext.drew | apply Ext.drewN)))).mono ?_; rintro e w' ⟨rfl, hx⟩; obtain ⟨y, rfl⟩ := hx.get; clear hx)
      | (go_at_call 61; refine (r15_Entries C n es _ (HS.out.mono (by repeat (first | exact Ext.refl _ | assumption | apply Ext.xt | apply Ext.alloc | apply Ext.drew | apply Ext.drewN))) HL.out).mono ?_; rintro e w' ⟨rfl, hx⟩; obtain ⟨y, rfl⟩ := hx.get; clear hx)
      | (go_at_call 42; refine (l16_awake _).mono ?_; rintro e w' ⟨rfl, hx⟩; obtain ⟨y, rfl⟩ := hx.get; clear hx))
    all_goals first
      | (go_ret; exact ⟨rfl, by repeat (first | exact Ext.refl _ | assumption | apply Ext.xt | apply Ext.alloc | apply Ext.drew | apply Ext.drewN)⟩)
      | exact absurd ⟨by assumption, by assumption, by omega, by assumption, by omega⟩ HG.out
end Go.Proofs.Ytgmicckeefoghaa
