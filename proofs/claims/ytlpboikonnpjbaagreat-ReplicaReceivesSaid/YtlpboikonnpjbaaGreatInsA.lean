/-
  slices.Insert at Action, of one element, into a slice that the call made itself.
-/
import Derived.Test.YtlpboikonnpjbaaGreatGins
import Derived.Test.YtlpboikonnpjbaaGreatGbtw
import Derived.Lib.Overlaps
import Derived.Laws.Externs
namespace Go.Proofs.YtlpboikonnpjbaaGreat
open Go.RowKit
attribute [local go_sem ↓] Go.wp_at_zero Go.wp_at_succ

def insAtA (l : List Acn) (i : Nat) (x : Acn) : List Acn := l.take i ++ x :: l.drop i
theorem insAt_lenA (l : List Acn) (i : Nat) (x : Acn) : (insAtA l i x).length = l.length + 1 := by
  simp [insAtA]; omega
def RetInsA (w0 w : World) (A : Option Addr) (rows : List (List Value)) (n : Nat) (e : Ending) (w' : World) : Prop :=
  ∃ A' k', e = .returned (.slice A' n k') ∧ Ext w0 w' ∧ Own w0 w' 45 44 A' n k' rows ∧ w.grownBy w' (A.map (·.block))

set_option maxHeartbeats 1600000 in
set_option maxRecDepth 100000 in
theorem Insert_endA (w0 : World) (A : Option Addr) (k : Nat) (l : List Acn) (x : Acn) (b : Nat) (w : World) (hx : Ext w0 w) (ho : Own w0 w 45 44 A l.length k (l.map acnR)) (hl : l.length ≤ 100000)
    (hb : w.heap[b]? = some (.cells (acnR x).toArray 45 (0, 0))) :
    Calls Tryz.prog 104 #[.slice A l.length k, .int .i64 l.length, .slice (some ⟨b, 0, none⟩) 1 1] w (RetInsA w0 w A ((insAtA l l.length x).map acnR) (l.length + 1)) := by
  have hle := ho.le
  have hcap := ho.cap
  unfold maxLen at hcap
  have hb0 : (0 : Int) ≤ (l.length : Int) := by omega
  have hb1 : (l.length : Int) ≤ (k : Int) := by omega
  have HB := Lib.hid hb
  have HX := Lib.hid hx
  have HO := Lib.hid ho
  have HR := Lib.hid (show (insAtA l l.length x).map acnR = l.map acnR ++ [acnR x] by simp [insAtA])
  clear hb hx ho
  by_cases hk : l.length = k
  · subst hk
    go_enter Tryz.func104, Tryz.ntmps104
    go_wp2_with (at_builtin; refine wpList_append_mine (w0 := w0) rfl _ _ 90 90 rfl 45 45 44 544 Tryz.underlying90 Tryz.underlying90 info_A (by decide) HX.out A l.length l.length (l.map acnR) rfl HO.out (some ⟨b, 0, none⟩) 1 1 [acnR x] rfl (Sl.block HB.out rfl) rfl (acnR_ones [x]) (by unfold maxLen; omega) (by omega) (l.length + 1) rfl (l.map acnR ++ [acnR x]) rfl ?_; intro D n' w1 hx1 hown hg hA; have HS := Lib.hid (And.intro hx1 (And.intro hown hg)); clear hx1 hown hg hA)
    go_ret
    rw [HR.out]
    exact ⟨_, _, rfl, HS.out.1, HS.out.2.1, HS.out.2.2⟩
  · go_enter Tryz.func104, Tryz.ntmps104
    go_wp2_with (at_builtin; refine wpList_append_mine (w0 := w0) rfl _ _ 90 90 rfl 45 45 44 544 Tryz.underlying90 Tryz.underlying90 info_A (by decide) HX.out A l.length k (l.map acnR) rfl HO.out (some ⟨b, 0, none⟩) 1 1 [acnR x] rfl (Sl.block HB.out rfl) rfl (acnR_ones [x]) (by unfold maxLen; omega) (by omega) (l.length + 1) rfl (l.map acnR ++ [acnR x]) rfl ?_; intro D n' w1 hx1 hown hg hA; have HS := Lib.hid (And.intro hx1 (And.intro hown hg)); clear hx1 hown hg hA)
    go_ret
    rw [HR.out]
    exact ⟨_, _, rfl, HS.out.1, HS.out.2.1, HS.out.2.2⟩

theorem overlapsA (w : World) (b g off la c n k kB : Nat) (hne : b ≠ g) (tA tB : TypeId) (kA : Nat) (hsa : w.shape? b = some (tA, kA)) (hsb : w.shape? g = some (tB, kB)) (hkB : kB ≠ 0) (hfa : w.frozen? ⟨b, 0, none⟩ = false) (hfe : w.frozen? ⟨b, kA, none⟩ = false) :
    (callFunc 154 #[.slice (some ⟨b, 0, none⟩) la c, .slice (some ⟨g, off, none⟩) n k]).run Tryz.prog w = .ok (.value (.bool false)) w := by
  rw [run_callFunc_extern Tryz.func154 (by kernel_rfl) (by kernel_rfl) (by kernel_rfl) (e := Extern.SlicesOverlaps.overlaps #[90, 90] #[4]) (by kernel_rfl),
    Lib.run_overlaps_apart w 90 4 45 Tryz.underlying90 44 (fun _ => by kernel_rfl) ⟨b, 0, none⟩ ⟨g, off, none⟩ la c n k hne tA tB kA kB hsa hsb hkB hfa hfe]
  rfl

theorem acnR_lens (l : List Acn) : ∀ r ∈ l.map acnR, r.length = 44 := fun r hr => by
  obtain ⟨m, _, rfl⟩ := List.mem_map.1 hr; rfl
theorem ins_takeA (cur : List Value) (l : List Acn) (i n : Nat) (_hn : l.length = n) (ht : cur.take (n * 44) = (l.map acnR).flatten) (hi : i ≤ n) : cur.take (i * 44) = ((l.take i).map acnR).flatten := by
  have := congrArg (List.take (i * 44)) ht
  rw [List.take_take, Nat.min_eq_left (Nat.mul_le_mul_right 44 hi), flat_take _ (acnR_lens l)] at this
  rw [this, List.map_take]
theorem ins_allA (l : List Acn) (i : Nat) (x : Acn) : ((insAtA l i x).map acnR).flatten = ((l.take i).map acnR).flatten ++ acnR x ++ ((l.map acnR).drop i).flatten := by
  unfold insAtA
  rw [List.map_append, List.flatten_append, List.map_cons, List.flatten_cons, List.map_drop]
  simp [List.append_assoc]
theorem ins_finA (fin cur : List Value) (l : List Acn) (i k : Nat) (x : Acn) (hi : i ≤ l.length) (hk : l.length + 1 ≤ k) (hc : cur.length = k * 44) (hf : fin = ((l.take i).map acnR).flatten ++ acnR x ++ ((l.map acnR).drop i).flatten ++ cur.drop (i * 44 + 44 + (l.length - i) * 44)) :
    fin.length = k * 44 ∧ fin.take ((l.length + 1) * 44) = ((insAtA l i x).map acnR).flatten := by
  have h1 : (((l.take i).map acnR).flatten ++ acnR x ++ ((l.map acnR).drop i).flatten).length = (l.length + 1) * 44 := by
    rw [← ins_allA, flat_len _ (acnR_lens _), List.length_map, insAt_lenA]
  subst hf
  constructor
  · rw [List.length_append, h1, List.length_drop, hc]
    have : (l.length + 1) * 44 ≤ k * 44 := Nat.mul_le_mul_right 44 hk
    omega
  · rw [List.take_append_of_le_length (by omega), List.take_of_length_le (by omega), ins_allA]
set_option maxHeartbeats 800000 in
set_option maxRecDepth 100000 in
theorem Insert_roomA (w0 : World) (A : Option Addr) (k : Nat) (l : List Acn) (i : Nat) (x : Acn) (b : Nat) (w : World) (hx : Ext w0 w) (ho : Own w0 w 45 44 A l.length k (l.map acnR)) (hl : l.length ≤ 100000) (hi : i < l.length) (hk : l.length + 1 ≤ k)
    (hb : w.heap[b]? = some (.cells (acnR x).toArray 45 (0, 0))) (hne : ∀ a, A = some a → a.block ≠ b) :
    Calls Tryz.prog 104 #[.slice A l.length k, .int .i64 i, .slice (some ⟨b, 0, none⟩) 1 1] w (RetInsA w0 w A ((insAtA l i x).map acnR) (l.length + 1)) := by
  have hcap := ho.cap
  unfold maxLen at hcap
  rcases ho.at_ with h0 | ⟨g, cur, rfl, hg, hbk, hcs, htk⟩
  · omega
  have hgb : b ≠ g := Ne.symm (hne _ rfl)
  have hov : ∀ (off n c : Nat) (W : World), W = w → (callFunc 154 #[.slice (some ⟨b, 0, none⟩) 1 1, .slice (some ⟨g, off, none⟩) n c]).run Tryz.prog W = .ok (.value (.bool false)) W := fun off n c W hW => by
    subst hW
    refine overlapsA _ b g off 1 1 n c cur.size hgb 45 45 44 ?_ ?_ ?_ ?_ ?_
    · simp [World.shape?, hb, acnR_len]
    · simp [World.shape?, hbk]
    · rw [hcs]; omega
    · simp [World.frozen?, hb]
    · simp [World.frozen?, hb]
  have hb0 : (0 : Int) ≤ (i : Int) := by omega
  have hb1 : (i : Int) ≤ (l.length : Int) := by omega
  have hb2 : (i : Int) + 1 ≤ (l.length : Int) + 1 := by omega
  have hb3 : (l.length : Int) + 1 ≤ (k : Int) := by omega
  have hb4 : ((i : Int) == (l.length : Int)) = false := by rw [beq_eq_false_iff_ne]; omega
  have HB := Lib.hid hb
  have HX := Lib.hid hx
  have HO := Lib.hid ho
  have HC := Lib.hid (And.intro hbk (And.intro hcs (And.intro htk hgb)))
  have HV := Lib.hid hov
  clear hb hx ho hbk hcs htk hne hgb hov
  go_enter Tryz.func104, Tryz.ntmps104
  go_wp2
  rw [HV.out _ _ _ _ rfl, Oper.upon_value]
  go_wp2
  have hsrc := Sl.dropped (HO.out.sl) i
  rw [Nat.zero_add] at hsrc
  have hc5 : cur.size = k * 44 := HC.out.2.1
  have p1 : ((l.map acnR).drop i).length = l.length - i := by simp
  have p2 : 0 < l.length - i := by omega
  have p3 : (i + 1) * 44 + (l.length - i) * 44 ≤ cur.size := by omega
  have p4 : Nat.min (l.length + 1 - i) (l.length - i) = l.length - i := Nat.min_eq_right (by omega)
  have P := Lib.hid (And.intro p1 (And.intro p2 (And.intro p3 p4)))
  clear p1 p2 p3 p4
  have q1 : (i : Int) ≤ (l.length : Int) + 1 := by omega
  have q2 : (i : Int) < (k : Int) := by omega
  have q3 : ¬ k = i + 1 := by omega
  have q4 : ¬ k = i := by omega
  have hw : IntKind.i64.wrap ((i : Int) + 1) = (i : Int) + 1 := IntWalk.i64_in _ (by omega)
  have hw1 : (0 : Int) ≤ (i : Int) + 1 := by omega
  have ht : ((i : Int) + 1).toNat = i + 1 := by omega
  go_region_law ((refine step_copy_blk (w0 := w0) rfl _ _ 90 90 rfl 45 44 544 Tryz.underlying90 info_A (by decide) g ((i + 1) * 44) (l.length - i) (k - (i + 1)) (l.length + 1 - i) (k - i) (some ⟨g, i * 44, none⟩) (by simp [Act.eval, Act.put]) (by simp [Act.eval, Act.put]) cur 45 HC.out.1 ((l.map acnR).drop i) (hsrc.mono ((Ext.refl _).drew)) (l.length - i) P.out.1 P.out.2.1 (fun r hr => acnR_ones l r (List.mem_of_mem_drop hr)) P.out.2.2.2 P.out.2.2.1 HX.out.drew hg ?_; intro w1 hx1 hb1' hgr1; have H1 := Lib.hid (And.intro hx1 (And.intro hb1'.out hgr1)); clear hx1 hb1' hgr1))
  clear hc5 hsrc hw hw1 ht
  have hB1 : w1.heap[b]? = some (.cells (acnR x).toArray 45 (0, 0)) := (H1.out.2.2.block b (Array.getElem?_eq_some_iff.1 HB.out).1 (by have := HC.out.2.2.2; simpa using this)).trans HB.out
  have hS1 := Lib.hid (Sl.block (size := 44) hB1 rfl)
  clear hB1
  have hfit : i * 44 + 1 * 44 ≤ (cur.toList.take ((i + 1) * 44) ++ ((l.map acnR).drop i).flatten ++ cur.toList.drop ((i + 1) * 44 + (l.length - i) * 44)).toArray.size := by
    rw [List.size_toArray, len_splice3 _ _ _ _ (by rw [flat_len (size := 44) _ (fun r hr => HO.out.row r (List.mem_of_mem_drop hr)), P.out.1]) (by have := P.out.2.2.1; simpa using this)]
    have := P.out.2.2.1
    simp; omega
  have HF := Lib.hid hfit
  clear hfit
  go_wp2_with (refine wpList_copy_blk (w0 := w0) rfl (.tmp 80) (.tmp 81) 90 90 rfl 45 44 544 Tryz.underlying90 info_A (by decide) g (i * 44) (l.length + 1 - i) (k - i) 1 1 (some ⟨b, 0, none⟩) rfl rfl _ 45 H1.out.2.1 [acnR x] hS1.out 1 rfl (by omega) (acnR_ones [x]) (Nat.min_eq_left (by omega)) HF.out H1.out.1 hg ?_; intro w2 hx2 hb2' hgr2; have H2 := Lib.hid (And.intro hx2 (And.intro hb2'.out hgr2)); clear hx2 hb2' hgr2)
  go_ret
  have hcl : cur.toList.length = k * 44 := by simpa using HC.out.2.1
  have hfin := mid_splice cur.toList ((l.take i).map acnR).flatten ((l.map acnR).drop i).flatten (acnR x) (i * 44) ((l.length - i) * 44) 44 (by rw [flat_len _ (acnR_lens _), List.length_map, List.length_take, Nat.min_eq_left (by omega)]) (by rw [flat_len (size := 44) _ (fun r hr => HO.out.row r (List.mem_of_mem_drop hr)), P.out.1]) rfl (ins_takeA _ l i _ rfl HC.out.2.2.1 (by omega)) (by omega)
  have hf2 := ins_finA _ cur.toList l i k x (by omega) hk hcl rfl
  rw [← hfin] at hf2
  have hblk := H2.out.2.1
  rw [show (i + 1) * 44 = i * 44 + 44 by omega, show [acnR x].flatten = acnR x by simp] at hblk
  refine ⟨_, k, rfl, H2.out.1, ⟨by simp [insAt_lenA], acnR_lens _, acnR_ones _, hk, HO.out.cap, .inr ⟨g, _, rfl, hg, hblk, ?_, ?_⟩⟩, grown_trans' (⟨H1.out.2.2.os, H1.out.2.2.tape, H1.out.2.2.output, H1.out.2.2.size, H1.out.2.2.block⟩ : w.grownBy w1 (some g)) H2.out.2.2⟩
  · rw [List.size_toArray]; exact hf2.1
  · exact hf2.2
end Go.Proofs.YtlpboikonnpjbaaGreat

/-
  slices.Insert at Action where there is no room; both together.
-/
namespace Go.Proofs.YtlpboikonnpjbaaGreat
open Go.RowKit
attribute [local go_sem ↓] Go.wp_at_zero Go.wp_at_succ

set_option maxHeartbeats 1600000 in
set_option maxRecDepth 100000 in
theorem Insert_growA (w0 : World) (A : Option Addr) (k : Nat) (l : List Acn) (i : Nat) (x : Acn) (b : Nat) (w : World) (hx : Ext w0 w) (ho : Own w0 w 45 44 A l.length k (l.map acnR)) (hl : l.length ≤ 100000) (hi : i < l.length) (hk : ¬ l.length + 1 ≤ k)
    (hb : w.heap[b]? = some (.cells (acnR x).toArray 45 (0, 0))) :
    Calls Tryz.prog 104 #[.slice A l.length k, .int .i64 i, .slice (some ⟨b, 0, none⟩) 1 1] w (RetInsA w0 w A ((insAtA l i x).map acnR) (l.length + 1)) := by
  have hle := ho.le
  obtain rfl : l.length = k := by omega
  rcases ho.at_ with h0 | ⟨g, cur, rfl, hg, hbk, hcs, htk⟩
  · omega
  obtain ⟨I, z, e1, e2, e3, e4, e5⟩ := infoOk_get info_A
  obtain ⟨K, hK⟩ : ∃ K, K = grownCap w (l.length + 1) l.length 45 := ⟨_, rfl⟩
  have hK1 : l.length + 1 ≤ K := by rw [hK]; exact grownCap_ge _ _ _ _
  have hK2 : K ≤ maxLen := by rw [hK]; exact grownCap_le_maxLen _ _ _ _ (by unfold maxLen; omega)
  obtain ⟨cur2, hcur⟩ : ∃ c2 : Array Value, c2 = ((l.take i).map acnR).flatten.toArray ++ Builtin.zeroCells z.cells (l.length + 1 - i) ++ Builtin.zeroCells z.cells (K - (l.length + 1)) := ⟨_, rfl⟩
  have hol : ((l.take i).map acnR).flatten.length = i * 44 := by rw [flat_len _ (acnR_lens _), List.length_map, List.length_take, Nat.min_eq_left (by omega)]
  have hsz : cur2.size = K * 44 := by
    rw [hcur, Array.size_append, Array.size_append, size_zeroCells, size_zeroCells, List.size_toArray, hol, e5]; omega
  have htk2 : cur2.toList.take (i * 44) = ((l.take i).map acnR).flatten := by
    rw [hcur, Array.toList_append, Array.toList_append, List.append_assoc, List.take_append_of_le_length (by simpa using Nat.le_of_eq hol.symm), List.take_of_length_le (by simpa using Nat.le_of_eq hol)]
  have hrun0 := run_append_zeros (P := Tryz.prog) (W := w) 90 3 90 45 I z .i64 Tryz.underlying90 Tryz.underlying3 e1 e2 (by omega) ⟨g, 0, none⟩ i l.length (l.length + 1 - i) ((l.take i).map acnR).flatten (by rw [hol, e3]) (fun j v hv => by
    have hj : j < i * 44 := by rw [← hol]; exact (List.getElem?_eq_some_iff.1 hv).1
    have hadd : (⟨g, 0, none⟩ : Addr).add j = ⟨g, j, none⟩ := by unfold Addr.add; split <;> simp_all
    rw [hadd]
    rw [← ins_takeA _ l i _ rfl htk (by omega), List.getElem?_take, if_pos hj] at hv
    unfold World.cell?
    simp only [hbk]
    simpa using hv) (by omega) (by omega) (by omega) (by rw [e4]; omega)
  rw [show i + (l.length + 1 - i) = l.length + 1 by omega, show ((l.length + 1 - i : Nat) : Int) = (l.length : Int) + 1 - (i : Int) by omega, ← hK, ← hcur] at hrun0
  obtain ⟨w1, hw1⟩ : ∃ w1, w1 = w.drew.alloc (.cells cur2 45) := ⟨_, rfl⟩
  rw [← hw1] at hrun0
  have hx1 : Ext w w1 := by rw [hw1]; exact ((Ext.refl w).drew).alloc _
  have hN : w1.heap[w.heap.size]? = some (.cells cur2 45 (0, 0)) := by rw [hw1]; exact heap_alloc_new w.drew _
  have hN0 : w0.heap.size ≤ w.heap.size := hx.size
  have hb0 : (0 : Int) ≤ (i : Int) := by omega
  have hb1 : (i : Int) ≤ (l.length : Int) := by omega
  have hb2 : (i : Int) + 1 ≤ (l.length : Int) + 1 := by omega
  have hb4 : ((i : Int) == (l.length : Int)) = false := by rw [beq_eq_false_iff_ne]; omega
  have hb5 : (i : Int) ≤ (l.length : Int) + 1 := by omega
  have hb6 : (l.length : Int) + 1 ≤ (K : Int) := by omega
  have hcb : ((w1.heap[b]?) = some (.cells (acnR x).toArray 45 (0, 0))) := by rw [hx1.block b (Array.getElem?_eq_some_iff.1 hb).1]; exact hb
  have HS1 := Lib.hid (Sl.block (size := 44) hcb rfl)
  have hs2 := (Sl.dropped ho.sl i).mono hx1
  rw [Nat.zero_add] at hs2
  have HS2 := Lib.hid hs2
  have HG := Lib.hid (show g ≠ w.heap.size by have := (Array.getElem?_eq_some_iff.1 hbk).1; omega)
  have HL := Lib.hid (show ((l.map acnR).drop i).length = l.length - i by simp)
  have q3 : ¬ K = i := by omega
  have q4 : ¬ K = i + 1 := by omega
  have q5 : ¬ l.length = i := by omega
  have HX := Lib.hid (hx.trans hx1)
  have HX1 := Lib.hid hx1
  have HR := Lib.hid hrun0
  have HN := Lib.hid hN
  have HC := Lib.hid (And.intro hsz htk2)
  have hfit : i * 44 + 1 * 44 ≤ cur2.size := by rw [hsz]; omega
  have HF := Lib.hid hfit
  have HK := Lib.hid hK2
  clear hs2 hb hx ho hbk hcs htk e1 e2 e3 e4 e5 hK hcur hrun0 hw1 hx1 hN hcb hol hsz htk2 hfit hK2
  go_enter Tryz.func104, Tryz.ntmps104
  go_wp2_with (first
    | (refine Lib.wpList_append_run _ rfl (.tmp 34) (.tmp 39) 90 3 rfl _ _ rfl rfl _ _ HR.out ?_)
    | (refine wpList_copy_blk (w0 := w0) rfl (.tmp 43) (.tmp 44) 90 90 rfl 45 44 544 Tryz.underlying90 info_A (by decide) w.heap.size (i * 44) (l.length + 1 - i) (K - i) 1 1 (some ⟨b, 0, none⟩) rfl rfl cur2 45 HN.out [acnR x] HS1.out 1 rfl (by omega) (acnR_ones [x]) (Nat.min_eq_left (by omega)) HF.out HX.out hN0 ?_; intro w2 hx2 hb2' hgr2; have H2 := Lib.hid (And.intro hx2 (And.intro hb2'.out hgr2)); clear hx2 hb2' hgr2))
  have p2 : 0 < l.length - i := by omega
  have p3 : (i + 1) * 44 + (l.length - i) * 44 ≤ (cur2.toList.take (i * 44) ++ [acnR x].flatten ++ cur2.toList.drop (i * 44 + 1 * 44)).toArray.size := by
    have hc := HC.out.1
    rw [List.size_toArray, len_splice3 _ _ _ _ (by rfl) (by simp; omega)]
    simp; omega
  have p4 : Nat.min (l.length - i) (l.length - i) = l.length - i := Nat.min_eq_right (Nat.le_refl _)
  have P := Lib.hid (And.intro HL.out (And.intro p2 (And.intro p3 p4)))
  have hw : IntKind.i64.wrap ((i : Int) + 1) = (i : Int) + 1 := IntWalk.i64_in _ (by omega)
  have hw1 : (0 : Int) ≤ (i : Int) + 1 := by omega
  have ht : ((i : Int) + 1).toNat = i + 1 := by omega
  clear p2 p3 p4
  go_region_law ((refine step_copy_blk (w0 := w0) rfl _ _ 90 90 rfl 45 44 544 Tryz.underlying90 info_A (by decide) w.heap.size ((i + 1) * 44) (l.length - i) (K - (i + 1)) (l.length - i) (l.length - i) (some ⟨g, i * 44, none⟩) (by simp [Act.eval, Act.put]) (by simp [Act.eval, Act.put]) _ 45 H2.out.2.1 ((l.map acnR).drop i) (((Sl.kept HS2.out H2.out.2.2 (fun a ha => by injection ha with ha; subst ha; intro hh; injection hh with hh; exact HG.out hh)).mono ((Ext.refl _).drew))) (l.length - i) P.out.1 P.out.2.1 (fun r hr => acnR_ones l r (List.mem_of_mem_drop hr)) P.out.2.2.2 P.out.2.2.1 H2.out.1.drew hN0 ?_; intro w3 hx3 hb3' hgr3; have H3 := Lib.hid (And.intro hx3 (And.intro hb3'.out hgr3)); clear hx3 hb3' hgr3))
  clear hw hw1 ht
  go_wp2
  go_ret
  have hcl : cur2.toList.length = K * 44 := by simpa using HC.out.1
  have hfin := mid_splice2 cur2.toList ((l.take i).map acnR).flatten ((l.map acnR).drop i).flatten (acnR x) (i * 44) ((l.length - i) * 44) 44 (by rw [flat_len _ (acnR_lens _), List.length_map, List.length_take, Nat.min_eq_left (by omega)]) rfl HC.out.2 (by omega)
  have hf2 := ins_finA _ cur2.toList l i K x (by omega) (by omega) hcl rfl
  rw [← hfin] at hf2
  have hblk := H3.out.2.1
  rw [show (i + 1) * 44 = i * 44 + 44 by omega, show [acnR x].flatten = acnR x by simp] at hblk
  have hgr : w.grownBy w3 (some g) := by
    have h1 := HX1.out
    have h2 := H2.out.2.2
    have h3 := H3.out.2.2
    refine ⟨h3.os.trans (h2.os.trans h1.os), h3.tape.trans (h2.tape.trans h1.tape), h3.output.trans (h2.output.trans h1.output), Nat.le_trans h1.size (Nat.le_trans h2.size h3.size), fun j hj _ => ?_⟩
    have e1 := h3.block j (Nat.lt_of_lt_of_le (Nat.lt_of_lt_of_le hj h1.size) h2.size) (by simp; omega)
    have e2 := h2.block j (Nat.lt_of_lt_of_le hj h1.size) (by simp; omega)
    exact e1.trans (e2.trans (h1.block j hj))
  refine ⟨_, K, rfl, H3.out.1, ⟨by simp [insAt_lenA], acnR_lens _, acnR_ones _, by omega, HK.out, .inr ⟨w.heap.size, _, rfl, hN0, hblk, ?_, ?_⟩⟩, hgr⟩
  · rw [List.size_toArray]; exact hf2.1
  · exact hf2.2

theorem InsertA (w0 : World) (A : Option Addr) (k : Nat) (l : List Acn) (i : Nat) (x : Acn) (b : Nat) (w : World) (hx : Ext w0 w) (ho : Own w0 w 45 44 A l.length k (l.map acnR)) (hl : l.length ≤ 100000) (hi : i ≤ l.length)
    (hb : w.heap[b]? = some (.cells (acnR x).toArray 45 (0, 0))) (hne : k ≠ 0 → ∀ a, A = some a → a.block ≠ b) :
    Calls Tryz.prog 104 #[.slice A l.length k, .int .i64 i, .slice (some ⟨b, 0, none⟩) 1 1] w (RetInsA w0 w A ((insAtA l i x).map acnR) (l.length + 1)) := by
  by_cases h1 : i = l.length
  · subst h1; exact Insert_endA w0 A k l x b w hx ho hl hb
  · by_cases h2 : l.length + 1 ≤ k
    · exact Insert_roomA w0 A k l i x b w hx ho hl (by omega) h2 hb (hne (by omega))
    · exact Insert_growA w0 A k l i x b w hx ho hl (by omega) h2 hb
end Go.Proofs.YtlpboikonnpjbaaGreat
