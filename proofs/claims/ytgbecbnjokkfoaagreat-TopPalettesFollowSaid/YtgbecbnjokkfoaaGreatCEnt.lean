import Derived.Test.YtgbecbnjokkfoaaGreatRef6
namespace Go.Proofs.YtgbecbnjokkfoaaGreat
set_option maxHeartbeats 1600000
set_option maxRecDepth 100000
open Go.RowKit

theorem cue_Entries (c : Cue) (A : Option Addr) (k : Nat) (B : Option Addr) (m : Nat) (w : World) (hc : CueAt w c A k B m) :
  Calls Tryz.prog 10 #[.agg (cueV c A k B m).toArray] w (RetEntries w (entriesV c)):=by
 have HC:=Lib.hid hc
 simp only [cueV]
 by_cases hE : cueE c = 0
 ·have hE' : (cueE c != 0) = false:=by simpa using hE
  have hmv:=(movesE_scan (cueE_ok hE).2.2.1).1
  have hs:=hc.mv
  have HV:=Lib.hid (show entriesV c = (valuesL c.moves,0) by unfold entriesV;rw [if_neg (by simpa using hE)])
  clear hc hE
  go_enter Tryz.func10,Tryz.ntmps10
  go_wp2_with (go_at_call 27;refine (cue_Check c A k B m _ (HC.out.mono (ex))).mono ?_;rintro e w' ⟨rfl,hx⟩;obtain ⟨ya,rfl⟩:=hx.get;clear hx)
  go_loopw [5,16] (fun s i wr => ∃ (j : Nat) (D : Option Addr) (q d : Nat) (o : List Entry),j ≤ c.moves.length ∧ i = .int .i64 j ∧ s = .slice D q d ∧ q = j ∧ Hid (o = valuesL (c.moves.take j)) ∧ Ext (w.alloc (.cells #[.string c.number,.string c.label,.slice A c.moves.length k,.slice B c.parts.length m,.bool c.block,.bool c.mark,.int .i64 c.follow,.string c.link,.int .i64 c.loops] 29)) wr ∧ Hid (Own (w.alloc (.cells #[.string c.number,.string c.label,.slice A c.moves.length k,.slice B c.parts.length m,.bool c.block,.bool c.mark,.int .i64 c.follow,.string c.link,.int .i64 c.loops] 29)) wr 47 4 D q d (o.map en))) (fun _ i _ => c.moves.length - (intOf i).toNat)
  case atStart => exact ⟨0,none,0,0,[],by omega,rfl,rfl,rfl,Lib.hid (by simp [valuesL]),ex,Lib.hid (Own.nil _)⟩
  case round =>
   obtain ⟨j,D,q,d,o,hj,rfl,rfl,hq,HO1,hx,HO⟩:=hrel
   obtain ⟨y,rfl⟩:=hx.get
   clear hx
   by_cases hlt : j < c.moves.length
   ·obtain ⟨x,hx⟩ : ∃ x,c.moves[j]? = some x:=⟨_,List.getElem?_eq_getElem hlt⟩
    have HX:=Lib.hid (valuesL_step hx)
    obtain ⟨b',of,rfl,hc0,hc1,hc2,hc3,hc4⟩:=hs.row5 (i:=j) (by rw [List.getElem?_map,hx];rfl)
    have hb0 : (0 : Int) ≤ (j : Int):=by omega
    have hb1 : (j : Int) < (c.moves.length : Int):=by omega
    have hq1 : q ≤ 100000:=by omega
    have HQ:=Lib.hid hq
    clear hx hs hq
    go_wp2_with (at_builtin;refine wpList_append_mine (w0:=_) rfl _ _ 38 38 rfl 47 47 4 32 Tryz.underlying38 Tryz.underlying38 info_E (by decide) (ex) _ _ _ _ rfl (HO.out.mono (ex)) _ 1 1 [en ⟨x.p,x.v⟩] rfl (Sl.alloc' (by simp [go_sem]) rfl (by simp [en])) rfl (en_one [⟨x.p,x.v⟩]) (by unfold maxLen;omega) (by omega) _ rfl _ rfl ?_;intro D1 c1 w1 hx1 hown hg hA;have HO:=Lib.hid hown;obtain ⟨y1,rfl⟩:=hx1.get;clear hown hx1 hg hA)
    go_light
    exact ⟨⟨j + 1,D1,q + 1,c1,o ++ [⟨x.p,x.v⟩],by omega,by go_num,rfl,by have:=HQ.out;omega,Lib.hid (by rw [HX.out,HO1.out]),ex,Lib.hid (by rw [← en_app];exact HO.out.mono (ex))⟩,by simp [intOf];omega⟩
   ·have HE:=Lib.hid (show o = valuesL c.moves by rw [HO1.out,List.take_of_length_le (by omega)])
    obtain rfl : j = c.moves.length:=by omega
    subst hq
    go_wp2
    go_ret2
    have h:=HE.out
    subst h
    rw [HV.out]
    exact ⟨D,d,by rw [valuesL_len];rfl,ex,HO.out.sl.mono (ex),by rw [valuesL_len];exact HO.out.le,HO.out.cap⟩
 ·have hE' : (cueE c != 0) = true:=by simpa using hE
  have HV:=Lib.hid (show entriesV c = ([],cueE c) by unfold entriesV;rw [if_pos hE])
  clear hc hE
  go_enter Tryz.func10,Tryz.ntmps10
  go_wp2_with (go_at_call 27;refine (cue_Check c A k B m _ (HC.out.mono (ex))).mono ?_;rintro e w' ⟨rfl,hx⟩;obtain ⟨ya,rfl⟩:=hx.get;clear hx)
  go_ret2
  rw [HV.out]
  exact ⟨none,0,rfl,ex,Sl.nil _ _ _,by simp,by unfold maxLen;omega⟩
end Go.Proofs.YtgbecbnjokkfoaaGreat
