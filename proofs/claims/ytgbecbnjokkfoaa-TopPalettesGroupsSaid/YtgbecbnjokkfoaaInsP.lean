import Derived.Test.YtgbecbnjokkfoaaGins
import Derived.Test.YtgbecbnjokkfoaaPal7
import Derived.Lib.Overlaps
import Derived.Laws.Externs
set_option maxHeartbeats 1600000
set_option maxRecDepth 100000
namespace Go.Proofs.Ytgbecbnjokkfoaa
open Go.RowKit
attribute [local go_sem ↓] Go.wp_at_zero Go.wp_at_succ

def insAtP (l : List Pal) (i : Nat) (x : Pal) : List Pal:=l.take i ++ x :: l.drop i
theorem insAt_lenP (l : List Pal) (i : Nat) (x : Pal) : (insAtP l i x).length = l.length + 1:=by
 simp [insAtP];omega
def RetInsP (w0 w : World) (A : Option Addr) (rows : List (List Value)) (n : Nat) (e : Ending) (w' : World) : Prop :=
 ∃ A' k',e = .returned (.slice A' n k') ∧ Ext w0 w' ∧ Own w0 w' 34 2 A' n k' rows ∧ w.grownBy w' (A.map (·.block))

theorem Insert_endP (w0 : World) (A : Option Addr) (k : Nat) (l : List Pal) (x : Pal) (b : Nat) (w : World) (hx : Ext w0 w) (ho : Own w0 w 34 2 A l.length k (l.map palR)) (hl : l.length ≤ 100000)
  (hb : w.heap[b]? = some (.cells (palR x).toArray 34 (0,0))) :
  Calls Try.prog 19 #[.slice A l.length k,.int .i64 l.length,.slice (some ⟨b,0,none⟩) 1 1] w (RetInsP w0 w A ((insAtP l l.length x).map palR) (l.length + 1)):=by
 have hle:=ho.le
 have hcap:=ho.cap
 unfold maxLen at hcap
 have hb0 : (0 : Int) ≤ (l.length : Int):=by omega
 have hb1 : (l.length : Int) ≤ (k : Int):=by omega
 have HB:=Lib.hid hb
 have HX:=Lib.hid hx
 have HO:=Lib.hid ho
 have HR:=Lib.hid (show (insAtP l l.length x).map palR = l.map palR ++ [palR x] by simp [insAtP])
 clear hb hx ho
 by_cases hk : l.length = k
 ·subst hk
  go_enter Try.func19,Try.ntmps19
  go_wp2_with (at_builtin;refine wpList_append_mine (w0:=w0) rfl _ _ 46 46 rfl 34 34 2 32 Try.underlying46 Try.underlying46 info_Pal (by decide) HX.out A l.length l.length (l.map palR) rfl HO.out (some ⟨b,0,none⟩) 1 1 [palR x] rfl (Sl.block HB.out rfl) rfl (palR_one [x]) (by unfold maxLen;omega) (by omega) (l.length + 1) rfl (l.map palR ++ [palR x]) rfl ?_;intro D n' w1 hx1 hown hg hA;have HS:=Lib.hid (And.intro hx1 (And.intro hown hg));clear hx1 hown hg hA)
  go_ret
  rw [HR.out]
  exact ⟨_,_,rfl,HS.out.1,HS.out.2.1,HS.out.2.2⟩
 ·go_enter Try.func19,Try.ntmps19
  go_wp2_with (at_builtin;refine wpList_append_mine (w0:=w0) rfl _ _ 46 46 rfl 34 34 2 32 Try.underlying46 Try.underlying46 info_Pal (by decide) HX.out A l.length k (l.map palR) rfl HO.out (some ⟨b,0,none⟩) 1 1 [palR x] rfl (Sl.block HB.out rfl) rfl (palR_one [x]) (by unfold maxLen;omega) (by omega) (l.length + 1) rfl (l.map palR ++ [palR x]) rfl ?_;intro D n' w1 hx1 hown hg hA;have HS:=Lib.hid (And.intro hx1 (And.intro hown hg));clear hx1 hown hg hA)
  go_ret
  rw [HR.out]
  exact ⟨_,_,rfl,HS.out.1,HS.out.2.1,HS.out.2.2⟩

theorem overlapsP (w : World) (b g off la c n k kB : Nat) (hne : b ≠ g) (tA tB : TypeId) (kA : Nat) (hsa : w.shape? b = some (tA,kA)) (hsb : w.shape? g = some (tB,kB)) (hkB : kB ≠ 0) (hfa : w.frozen? ⟨b,0,none⟩ = false) (hfe : w.frozen? ⟨b,kA,none⟩ = false) :
  (callFunc 34 #[.slice (some ⟨b,0,none⟩) la c,.slice (some ⟨g,off,none⟩) n k]).run Try.prog w = .ok (.value (.bool false)) w:=by
 rw [run_callFunc_extern Try.func34 (by kernel_rfl) (by kernel_rfl) (by kernel_rfl) (e:=Extern.SlicesOverlaps.overlaps #[46,46] #[4]) (by kernel_rfl),
  Lib.run_overlaps_apart w 46 4 34 Try.underlying46 2 (fun _ => by kernel_rfl) ⟨b,0,none⟩ ⟨g,off,none⟩ la c n k hne tA tB kA kB hsa hsb hkB hfa hfe]
 rfl

theorem palR_len (l : List Pal) : ∀ r ∈ l.map palR,r.length = 2:=fun r hr => by
 obtain ⟨m,_,rfl⟩:=List.mem_map.1 hr;rfl
theorem ins_takeP (cur : List Value) (l : List Pal) (i n : Nat) (_hn : l.length = n) (ht : cur.take (n * 2) = (l.map palR).flatten) (hi : i ≤ n) : cur.take (i * 2) = ((l.take i).map palR).flatten:=by
 have:=congrArg (List.take (i * 2)) ht
 rw [List.take_take,Nat.min_eq_left (Nat.mul_le_mul_right 2 hi),flat_take _ (palR_len l)] at this
 rw [this,List.map_take]
theorem ins_allP (l : List Pal) (i : Nat) (x : Pal) : ((insAtP l i x).map palR).flatten = ((l.take i).map palR).flatten ++ palR x ++ ((l.map palR).drop i).flatten:=by
 unfold insAtP
 rw [List.map_append,List.flatten_append,List.map_cons,List.flatten_cons,List.map_drop]
 simp [List.append_assoc]
theorem ins_finP (fin cur : List Value) (l : List Pal) (i k : Nat) (x : Pal) (hi : i ≤ l.length) (hk : l.length + 1 ≤ k) (hc : cur.length = k * 2) (hf : fin = ((l.take i).map palR).flatten ++ palR x ++ ((l.map palR).drop i).flatten ++ cur.drop (i * 2 + 2 + (l.length - i) * 2)) :
  fin.length = k * 2 ∧ fin.take ((l.length + 1) * 2) = ((insAtP l i x).map palR).flatten:=by
 have h1 : (((l.take i).map palR).flatten ++ palR x ++ ((l.map palR).drop i).flatten).length = (l.length + 1) * 2:=by
  rw [← ins_allP,flat_len _ (palR_len _),List.length_map,insAt_lenP]
 subst hf
 constructor
 ·rw [List.length_append,h1,List.length_drop,hc]
  have : (l.length + 1) * 2 ≤ k * 2:=Nat.mul_le_mul_right 2 hk
  omega
 ·rw [List.take_append_of_le_length (by omega),List.take_of_length_le (by omega),ins_allP]
theorem Insert_roomP (w0 : World) (A : Option Addr) (k : Nat) (l : List Pal) (i : Nat) (x : Pal) (b : Nat) (w : World) (hx : Ext w0 w) (ho : Own w0 w 34 2 A l.length k (l.map palR)) (hl : l.length ≤ 100000) (hi : i < l.length) (hk : l.length + 1 ≤ k)
  (hb : w.heap[b]? = some (.cells (palR x).toArray 34 (0,0))) (hne : ∀ a,A = some a → a.block ≠ b) :
  Calls Try.prog 19 #[.slice A l.length k,.int .i64 i,.slice (some ⟨b,0,none⟩) 1 1] w (RetInsP w0 w A ((insAtP l i x).map palR) (l.length + 1)):=by
 have hcap:=ho.cap
 unfold maxLen at hcap
 rcases ho.at_ with h0 | ⟨g,cur,rfl,hg,hbk,hcs,htk⟩
 ·omega
 have hgb : b ≠ g:=Ne.symm (hne _ rfl)
 have hov : ∀ (off n c : Nat) (W : World),W = w → (callFunc 34 #[.slice (some ⟨b,0,none⟩) 1 1,.slice (some ⟨g,off,none⟩) n c]).run Try.prog W = .ok (.value (.bool false)) W:=fun off n c W hW => by
  subst hW
  refine overlapsP _ b g off 1 1 n c cur.size hgb 34 34 2 ?_ ?_ ?_ ?_ ?_
  ·simp [World.shape?,hb,palR]
  ·simp [World.shape?,hbk]
  ·rw [hcs];omega
  ·simp [World.frozen?,hb]
  ·simp [World.frozen?,hb]
 have hb0 : (0 : Int) ≤ (i : Int):=by omega
 have hb1 : (i : Int) ≤ (l.length : Int):=by omega
 have hb2 : (i : Int) + 1 ≤ (l.length : Int) + 1:=by omega
 have hb3 : (l.length : Int) + 1 ≤ (k : Int):=by omega
 have hb4 : ((i : Int) == (l.length : Int)) = false:=by rw [beq_eq_false_iff_ne];omega
 have HB:=Lib.hid hb
 have HX:=Lib.hid hx
 have HO:=Lib.hid ho
 have HC:=Lib.hid (And.intro hbk (And.intro hcs (And.intro htk hgb)))
 have HV:=Lib.hid hov
 clear hb hx ho hbk hcs htk hne hgb hov
 go_enter Try.func19,Try.ntmps19
 go_wp2
 rw [HV.out _ _ _ _ rfl,Oper.upon_value]
 go_wp2
 have hsrc:=Sl.dropped (HO.out.sl) i
 rw [Nat.zero_add] at hsrc
 have hc5 : cur.size = k * 2:=HC.out.2.1
 have p1 : ((l.map palR).drop i).length = l.length - i:=by simp
 have p2 : 0 < l.length - i:=by omega
 have p3 : (i + 1) * 2 + (l.length - i) * 2 ≤ cur.size:=by omega
 have p4 : Nat.min (l.length + 1 - i) (l.length - i) = l.length - i:=Nat.min_eq_right (by omega)
 have P:=Lib.hid (And.intro p1 (And.intro p2 (And.intro p3 p4)))
 clear p1 p2 p3 p4
 have q1 : (i : Int) ≤ (l.length : Int) + 1:=by omega
 have q2 : (i : Int) < (k : Int):=by omega
 have q3 : ¬ k = i + 1:=by omega
 have q4 : ¬ k = i:=by omega
 have hw : IntKind.i64.wrap ((i : Int) + 1) = (i : Int) + 1:=IntWalk.i64_in _ (by omega)
 have hw1 : (0 : Int) ≤ (i : Int) + 1:=by omega
 have ht : ((i : Int) + 1).toNat = i + 1:=by omega
 go_region_law ((refine step_copy_blk (w0:=w0) rfl _ _ 46 46 rfl 34 2 32 Try.underlying46 info_Pal (by decide) g ((i + 1) * 2) (l.length - i) (k - (i + 1)) (l.length + 1 - i) (k - i) (some ⟨g,i * 2,none⟩) (by simp [Act.eval,Act.put]) (by simp [Act.eval,Act.put]) cur 34 HC.out.1 ((l.map palR).drop i) (hsrc.mono ((Ext.refl _).drew)) (l.length - i) P.out.1 P.out.2.1 (fun r hr => palR_one l r (List.mem_of_mem_drop hr)) P.out.2.2.2 P.out.2.2.1 HX.out.drew hg ?_;intro w1 hx1 hb1' hgr1;have H1:=Lib.hid (And.intro hx1 (And.intro hb1'.out hgr1));clear hx1 hb1' hgr1))
 clear hc5 hsrc hw hw1 ht
 have hB1 : w1.heap[b]? = some (.cells (palR x).toArray 34 (0,0)):=(H1.out.2.2.block b (Array.getElem?_eq_some_iff.1 HB.out).1 (by have:=HC.out.2.2.2;simpa using this)).trans HB.out
 have hS1:=Lib.hid (Sl.block (size:=2) hB1 rfl)
 clear hB1
 have hfit : i * 2 + 1 * 2 ≤ (cur.toList.take ((i + 1) * 2) ++ ((l.map palR).drop i).flatten ++ cur.toList.drop ((i + 1) * 2 + (l.length - i) * 2)).toArray.size:=by
  rw [List.size_toArray,len_splice3 _ _ _ _ (by rw [flat_len (size:=2) _ (fun r hr => HO.out.row r (List.mem_of_mem_drop hr)),P.out.1]) (by have:=P.out.2.2.1;simpa using this)]
  have:=P.out.2.2.1
  simp;omega
 have HF:=Lib.hid hfit
 clear hfit
 go_wp2_with (refine wpList_copy_blk (w0:=w0) rfl (.tmp 80) (.tmp 81) 46 46 rfl 34 2 32 Try.underlying46 info_Pal (by decide) g (i * 2) (l.length + 1 - i) (k - i) 1 1 (some ⟨b,0,none⟩) rfl rfl _ 34 H1.out.2.1 [palR x] hS1.out 1 rfl (by omega) (palR_one [x]) (Nat.min_eq_left (by omega)) HF.out H1.out.1 hg ?_;intro w2 hx2 hb2' hgr2;have H2:=Lib.hid (And.intro hx2 (And.intro hb2'.out hgr2));clear hx2 hb2' hgr2)
 go_ret
 have hcl : cur.toList.length = k * 2:=by simpa using HC.out.2.1
 have hfin:=mid_splice cur.toList ((l.take i).map palR).flatten ((l.map palR).drop i).flatten (palR x) (i * 2) ((l.length - i) * 2) 2 (by rw [flat_len _ (palR_len _),List.length_map,List.length_take,Nat.min_eq_left (by omega)]) (by rw [flat_len (size:=2) _ (fun r hr => HO.out.row r (List.mem_of_mem_drop hr)),P.out.1]) rfl (ins_takeP _ l i _ rfl HC.out.2.2.1 (by omega)) (by omega)
 have hf2:=ins_finP _ cur.toList l i k x (by omega) hk hcl rfl
 rw [← hfin] at hf2
 have hblk:=H2.out.2.1
 rw [show (i + 1) * 2 = i * 2 + 2 by omega,show [palR x].flatten = palR x by simp] at hblk
 refine ⟨_,k,rfl,H2.out.1,⟨by simp [insAt_lenP],palR_len _,palR_one _,hk,HO.out.cap,.inr ⟨g,_,rfl,hg,hblk,?_,?_⟩⟩,grown_trans' (⟨H1.out.2.2.os,H1.out.2.2.tape,H1.out.2.2.output,H1.out.2.2.size,H1.out.2.2.block⟩ : w.grownBy w1 (some g)) H2.out.2.2⟩
 ·rw [List.size_toArray];exact hf2.1
 ·exact hf2.2
end Go.Proofs.Ytgbecbnjokkfoaa

namespace Go.Proofs.Ytgbecbnjokkfoaa
open Go.RowKit
attribute [local go_sem ↓] Go.wp_at_zero Go.wp_at_succ

theorem Insert_growP (w0 : World) (A : Option Addr) (k : Nat) (l : List Pal) (i : Nat) (x : Pal) (b : Nat) (w : World) (hx : Ext w0 w) (ho : Own w0 w 34 2 A l.length k (l.map palR)) (hl : l.length ≤ 100000) (hi : i < l.length) (hk : ¬ l.length + 1 ≤ k)
  (hb : w.heap[b]? = some (.cells (palR x).toArray 34 (0,0))) :
  Calls Try.prog 19 #[.slice A l.length k,.int .i64 i,.slice (some ⟨b,0,none⟩) 1 1] w (RetInsP w0 w A ((insAtP l i x).map palR) (l.length + 1)):=by
 have hle:=ho.le
 obtain rfl : l.length = k:=by omega
 rcases ho.at_ with h0 | ⟨g,cur,rfl,hg,hbk,hcs,htk⟩
 ·omega
 obtain ⟨I,z,e1,e2,e3,e4,e5⟩:=infoOk_get info_Pal
 obtain ⟨K,hK⟩ : ∃ K,K = grownCap w (l.length + 1) l.length 34:=⟨_,rfl⟩
 have hK1 : l.length + 1 ≤ K:=by rw [hK];exact grownCap_ge _ _ _ _
 have hK2 : K ≤ maxLen:=by rw [hK];exact grownCap_le_maxLen _ _ _ _ (by unfold maxLen;omega)
 obtain ⟨cur2,hcur⟩ : ∃ c2 : Array Value,c2 = ((l.take i).map palR).flatten.toArray ++ Builtin.zeroCells z.cells (l.length + 1 - i) ++ Builtin.zeroCells z.cells (K - (l.length + 1)):=⟨_,rfl⟩
 have hol : ((l.take i).map palR).flatten.length = i * 2:=by rw [flat_len _ (palR_len _),List.length_map,List.length_take,Nat.min_eq_left (by omega)]
 have hsz : cur2.size = K * 2:=by
  rw [hcur,Array.size_append,Array.size_append,size_zeroCells,size_zeroCells,List.size_toArray,hol,e5];omega
 have htk2 : cur2.toList.take (i * 2) = ((l.take i).map palR).flatten:=by
  rw [hcur,Array.toList_append,Array.toList_append,List.append_assoc,List.take_append_of_le_length (by simpa using Nat.le_of_eq hol.symm),List.take_of_length_le (by simpa using Nat.le_of_eq hol)]
 have hrun0:=run_append_zeros (P:=Try.prog) (W:=w) 46 3 46 34 I z .i64 Try.underlying46 Try.underlying3 e1 e2 (by omega) ⟨g,0,none⟩ i l.length (l.length + 1 - i) ((l.take i).map palR).flatten (by rw [hol,e3]) (fun j v hv => by
  have hj : j < i * 2:=by rw [← hol];exact (List.getElem?_eq_some_iff.1 hv).1
  have hadd : (⟨g,0,none⟩ : Addr).add j = ⟨g,j,none⟩:=by unfold Addr.add;split <;> simp_all
  rw [hadd]
  rw [← ins_takeP _ l i _ rfl htk (by omega),List.getElem?_take,if_pos hj] at hv
  unfold World.cell?
  simp only [hbk]
  simpa using hv) (by omega) (by omega) (by omega) (by rw [e4];omega)
 rw [show i + (l.length + 1 - i) = l.length + 1 by omega,show ((l.length + 1 - i : Nat) : Int) = (l.length : Int) + 1 - (i : Int) by omega,← hK,← hcur] at hrun0
 obtain ⟨w1,hw1⟩ : ∃ w1,w1 = w.drew.alloc (.cells cur2 34):=⟨_,rfl⟩
 rw [← hw1] at hrun0
 have hx1 : Ext w w1:=by rw [hw1];exact ((Ext.refl w).drew).alloc _
 have hN : w1.heap[w.heap.size]? = some (.cells cur2 34 (0,0)):=by rw [hw1];exact heap_alloc_new w.drew _
 have hN0 : w0.heap.size ≤ w.heap.size:=hx.size
 have hb0 : (0 : Int) ≤ (i : Int):=by omega
 have hb1 : (i : Int) ≤ (l.length : Int):=by omega
 have hb2 : (i : Int) + 1 ≤ (l.length : Int) + 1:=by omega
 have hb4 : ((i : Int) == (l.length : Int)) = false:=by rw [beq_eq_false_iff_ne];omega
 have hb5 : (i : Int) ≤ (l.length : Int) + 1:=by omega
 have hb6 : (l.length : Int) + 1 ≤ (K : Int):=by omega
 have hcb : ((w1.heap[b]?) = some (.cells (palR x).toArray 34 (0,0))):=by rw [hx1.block b (Array.getElem?_eq_some_iff.1 hb).1];exact hb
 have HS1:=Lib.hid (Sl.block (size:=2) hcb rfl)
 have hs2:=(Sl.dropped ho.sl i).mono hx1
 rw [Nat.zero_add] at hs2
 have HS2:=Lib.hid hs2
 have HG:=Lib.hid (show g ≠ w.heap.size by have:=(Array.getElem?_eq_some_iff.1 hbk).1;omega)
 have HL:=Lib.hid (show ((l.map palR).drop i).length = l.length - i by simp)
 have q3 : ¬ K = i:=by omega
 have q4 : ¬ K = i + 1:=by omega
 have q5 : ¬ l.length = i:=by omega
 have HX:=Lib.hid (hx.trans hx1)
 have HX1:=Lib.hid hx1
 have HR:=Lib.hid hrun0
 have HN:=Lib.hid hN
 have HC:=Lib.hid (And.intro hsz htk2)
 have hfit : i * 2 + 1 * 2 ≤ cur2.size:=by rw [hsz];omega
 have HF:=Lib.hid hfit
 have HK:=Lib.hid hK2
 clear hs2 hb hx ho hbk hcs htk e1 e2 e3 e4 e5 hK hcur hrun0 hw1 hx1 hN hcb hol hsz htk2 hfit hK2
 go_enter Try.func19,Try.ntmps19
 go_wp2_with (first
  | (refine Lib.wpList_append_run _ rfl (.tmp 34) (.tmp 39) 46 3 rfl _ _ rfl rfl _ _ HR.out ?_)
  | (refine wpList_copy_blk (w0:=w0) rfl (.tmp 43) (.tmp 44) 46 46 rfl 34 2 32 Try.underlying46 info_Pal (by decide) w.heap.size (i * 2) (l.length + 1 - i) (K - i) 1 1 (some ⟨b,0,none⟩) rfl rfl cur2 34 HN.out [palR x] HS1.out 1 rfl (by omega) (palR_one [x]) (Nat.min_eq_left (by omega)) HF.out HX.out hN0 ?_;intro w2 hx2 hb2' hgr2;have H2:=Lib.hid (And.intro hx2 (And.intro hb2'.out hgr2));clear hx2 hb2' hgr2))
 have p2 : 0 < l.length - i:=by omega
 have p3 : (i + 1) * 2 + (l.length - i) * 2 ≤ (cur2.toList.take (i * 2) ++ [palR x].flatten ++ cur2.toList.drop (i * 2 + 1 * 2)).toArray.size:=by
  have hc:=HC.out.1
  rw [List.size_toArray,len_splice3 _ _ _ _ (by rfl) (by simp;omega)]
  simp;omega
 have p4 : Nat.min (l.length - i) (l.length - i) = l.length - i:=Nat.min_eq_right (Nat.le_refl _)
 have P:=Lib.hid (And.intro HL.out (And.intro p2 (And.intro p3 p4)))
 have hw : IntKind.i64.wrap ((i : Int) + 1) = (i : Int) + 1:=IntWalk.i64_in _ (by omega)
 have hw1 : (0 : Int) ≤ (i : Int) + 1:=by omega
 have ht : ((i : Int) + 1).toNat = i + 1:=by omega
 clear p2 p3 p4
 go_region_law ((refine step_copy_blk (w0:=w0) rfl _ _ 46 46 rfl 34 2 32 Try.underlying46 info_Pal (by decide) w.heap.size ((i + 1) * 2) (l.length - i) (K - (i + 1)) (l.length - i) (l.length - i) (some ⟨g,i * 2,none⟩) (by simp [Act.eval,Act.put]) (by simp [Act.eval,Act.put]) _ 34 H2.out.2.1 ((l.map palR).drop i) (((Sl.kept HS2.out H2.out.2.2 (fun a ha => by injection ha with ha;subst ha;intro hh;injection hh with hh;exact HG.out hh)).mono ((Ext.refl _).drew))) (l.length - i) P.out.1 P.out.2.1 (fun r hr => palR_one l r (List.mem_of_mem_drop hr)) P.out.2.2.2 P.out.2.2.1 H2.out.1.drew hN0 ?_;intro w3 hx3 hb3' hgr3;have H3:=Lib.hid (And.intro hx3 (And.intro hb3'.out hgr3));clear hx3 hb3' hgr3))
 clear hw hw1 ht
 go_wp2
 go_ret
 have hcl : cur2.toList.length = K * 2:=by simpa using HC.out.1
 have hfin:=mid_splice2 cur2.toList ((l.take i).map palR).flatten ((l.map palR).drop i).flatten (palR x) (i * 2) ((l.length - i) * 2) 2 (by rw [flat_len _ (palR_len _),List.length_map,List.length_take,Nat.min_eq_left (by omega)]) rfl HC.out.2 (by omega)
 have hf2:=ins_finP _ cur2.toList l i K x (by omega) (by omega) hcl rfl
 rw [← hfin] at hf2
 have hblk:=H3.out.2.1
 rw [show (i + 1) * 2 = i * 2 + 2 by omega,show [palR x].flatten = palR x by simp] at hblk
 have hgr : w.grownBy w3 (some g):=by
  have h1:=HX1.out
  have h2:=H2.out.2.2
  have h3:=H3.out.2.2
  refine ⟨h3.os.trans (h2.os.trans h1.os),h3.tape.trans (h2.tape.trans h1.tape),h3.output.trans (h2.output.trans h1.output),Nat.le_trans h1.size (Nat.le_trans h2.size h3.size),fun j hj _ => ?_⟩
  have e1:=h3.block j (Nat.lt_of_lt_of_le (Nat.lt_of_lt_of_le hj h1.size) h2.size) (by simp;omega)
  have e2:=h2.block j (Nat.lt_of_lt_of_le hj h1.size) (by simp;omega)
  exact e1.trans (e2.trans (h1.block j hj))
 refine ⟨_,K,rfl,H3.out.1,⟨by simp [insAt_lenP],palR_len _,palR_one _,by omega,HK.out,.inr ⟨w.heap.size,_,rfl,hN0,hblk,?_,?_⟩⟩,hgr⟩
 ·rw [List.size_toArray];exact hf2.1
 ·exact hf2.2

theorem InsertP (w0 : World) (A : Option Addr) (k : Nat) (l : List Pal) (i : Nat) (x : Pal) (b : Nat) (w : World) (hx : Ext w0 w) (ho : Own w0 w 34 2 A l.length k (l.map palR)) (hl : l.length ≤ 100000) (hi : i ≤ l.length)
  (hb : w.heap[b]? = some (.cells (palR x).toArray 34 (0,0))) (hne : k ≠ 0 → ∀ a,A = some a → a.block ≠ b) :
  Calls Try.prog 19 #[.slice A l.length k,.int .i64 i,.slice (some ⟨b,0,none⟩) 1 1] w (RetInsP w0 w A ((insAtP l i x).map palR) (l.length + 1)):=by
 by_cases h1 : i = l.length
 ·subst h1;exact Insert_endP w0 A k l x b w hx ho hl hb
 ·by_cases h2 : l.length + 1 ≤ k
  ·exact Insert_roomP w0 A k l i x b w hx ho hl (by omega) h2 hb (hne (by omega))
  ·exact Insert_growP w0 A k l i x b w hx ho hl (by omega) h2 hb
end Go.Proofs.Ytgbecbnjokkfoaa
