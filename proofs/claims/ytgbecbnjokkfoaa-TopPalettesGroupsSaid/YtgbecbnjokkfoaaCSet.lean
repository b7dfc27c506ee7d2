import Derived.Test.YtgbecbnjokkfoaaDrop
import Derived.Test.YtgbecbnjokkfoaaEnt
namespace Go.Proofs.Ytgbecbnjokkfoaa
set_option maxHeartbeats 3200000
set_option maxRecDepth 100000
open Go.RowKit

def givenM (l : List Entry) (part : Int) : List Move:=l.map fun e => ⟨e.p,e.v,part⟩
theorem givenM_step {l : List Entry} {j : Nat} {x : Entry} (h : l[j]? = some x) (part : Int) : givenM (l.take (j + 1)) part = givenM (l.take j) part ++ [⟨x.p,x.v,part⟩]:=by
 obtain ⟨hk,hx⟩:=List.getElem?_eq_some_iff.1 h
 unfold givenM
 rw [List.take_succ_eq_append_getElem hk,List.map_append,hx];rfl
def csetV (c : Cue) (l : List Entry) (part : Int) : Cue × Int :=
 if cueE c ≠ 0 then (emptyC,cueE c) else if entriesE l ≠ 0 then (emptyC,entriesE l) else if part < 1 ∨ (c.parts.length : Int) < part then (emptyC,6)
 else if (mergedV c.moves (givenM l part)).2 ≠ 0 then (emptyC,(mergedV c.moves (givenM l part)).2) else ({ c with moves:=(mergedV c.moves (givenM l part)).1 },0)
theorem entries_ok {l : List Entry} (h : entriesE l = 0) : l.length ≤ 4096 ∧ ∀ e ∈ l,entryE1 e = 0:=by
 unfold entriesE at h
 split at h
 ·omega
 ·refine ⟨by omega,fun e he => ?_⟩
  obtain ⟨i,hi,rfl⟩:=List.getElem_of_mem he
  have:=scan_ok entryE l h i _ (List.getElem?_eq_getElem hi)
  unfold entryE at this
  split at this
  ·contradiction
  ·rename_i h2;simpa using h2
theorem given_ok {l : List Entry} (h : entriesE l = 0) {part : Int} (h1 : 1 ≤ part) (h4 : part ≤ 4) : ∀ m ∈ givenM l part,moveE1 m = 0:=fun m hm => by
 unfold givenM at hm
 obtain ⟨e,he,rfl⟩:=List.mem_map.1 hm
 have h2:=(entries_ok h).2 e he
 unfold entryE1 at h2
 unfold moveE1
 simp only []
 by_cases hp : paramE e.p = 0
 ·simp [hp] at h2
  simp [hp,h2];omega
 ·simp [hp] at h2

theorem cue_Set (c : Cue) (A : Option Addr) (k : Nat) (B : Option Addr) (m : Nat) (C : Option Addr) (n : Nat) (es : List Entry) (part : Int) (w : World) (hc : CueAt w c A k B m) (hs : Sl w C 4 (es.map en)) (hl : es.length ≤ maxLen) :
  Calls Try.prog 9 #[.agg (cueV c A k B m).toArray,.slice C es.length n,.int .i64 part] w (RetCue w (csetV c es part)):=by
 have HC:=Lib.hid hc
 have HL:=Lib.hid hl
 have HS:=Lib.hid hs
 unfold maxLen at hl
 simp only [cueV]
 by_cases hE : cueE c = 0
 ·have hE' : (cueE c != 0) = false:=by simpa using hE
  have hmv:=(movesE_scan (cueE_ok hE).2.2.1).1
  have HOK:=Lib.hid ((okM_iff _).1 (movesE_scan (cueE_ok hE).2.2.1).2)
  have hpl:=(parts_len hE).2
  have HE:=Lib.hid hE
  clear hc hE
  by_cases hF : entriesE es = 0
  ·have hF' : (entriesE es != 0) = false:=by simpa using hF
   have hen:=(entries_ok hF).1
   have HF:=Lib.hid hF
   clear hF
   rcases (by omega : part < 1 ∨ (1 ≤ part ∧ (c.parts.length : Int) < part) ∨ (1 ≤ part ∧ part ≤ (c.parts.length : Int))) with h1 | ⟨h1,h2⟩ | ⟨h1,h2⟩
   ·have HV:=Lib.hid (show csetV c es part = (emptyC,6) by unfold csetV;rw [if_neg (by simpa using HE.out),if_neg (by simpa using HF.out),if_pos (by omega)])
    clear hs
    go_enter Try.func9,Try.ntmps9
    go_wp2_with (first | (go_at_call 20;refine (cue_Check c A k B m _ (HC.out.mono (ex))).mono ?_;rintro e w' ⟨rfl,hx⟩;obtain ⟨ya,rfl⟩:=hx.get;clear hx) | (go_at_call 21;refine (pal_Entries C n es _ (HS.out.mono (ex)) HL.out).mono ?_;rintro e w' ⟨rfl,hx⟩;obtain ⟨yb,rfl⟩:=hx.get;clear hx))
    refine bodyPost_ret (v:=.tuple #[.agg (cueV emptyC none 0 none 0).toArray,.int .i64 6]) (by simp [results,Try.results9,go_sem,cueV,emptyC]) rfl (RetCue.empty HV.out rfl (ex))
   ·have HV:=Lib.hid (show csetV c es part = (emptyC,6) by unfold csetV;rw [if_neg (by simpa using HE.out),if_neg (by simpa using HF.out),if_pos (by omega)])
    clear hs
    go_enter Try.func9,Try.ntmps9
    go_wp2_with (first | (go_at_call 20;refine (cue_Check c A k B m _ (HC.out.mono (ex))).mono ?_;rintro e w' ⟨rfl,hx⟩;obtain ⟨ya,rfl⟩:=hx.get;clear hx) | (go_at_call 21;refine (pal_Entries C n es _ (HS.out.mono (ex)) HL.out).mono ?_;rintro e w' ⟨rfl,hx⟩;obtain ⟨yb,rfl⟩:=hx.get;clear hx))
    refine bodyPost_ret (v:=.tuple #[.agg (cueV emptyC none 0 none 0).toArray,.int .i64 6]) (by simp [results,Try.results9,go_sem,cueV,emptyC]) rfl (RetCue.empty HV.out rfl (ex))
   ·have HG:=Lib.hid (given_ok HF.out h1 (show part ≤ 4 by omega))
    go_enter Try.func9,Try.ntmps9
    go_wp2_with (first | (go_at_call 20;refine (cue_Check c A k B m _ (HC.out.mono (ex))).mono ?_;rintro e w' ⟨rfl,hx⟩;obtain ⟨ya,rfl⟩:=hx.get;clear hx) | (go_at_call 21;refine (pal_Entries C n es _ (HS.out.mono (ex)) HL.out).mono ?_;rintro e w' ⟨rfl,hx⟩;obtain ⟨yb,rfl⟩:=hx.get;clear hx))
    go_loopw [10,40] (fun s i wr => ∃ (j : Nat) (D : Option Addr) (q d : Nat) (o : List Move),j ≤ es.length ∧ i = .int .i64 j ∧ s = .slice D q d ∧ q = j ∧ Hid (o = givenM (es.take j) part) ∧ Ext ((w.alloc (.cells #[.string c.number,.string c.label,.slice A c.moves.length k,.slice B c.parts.length m,.bool c.block,.bool c.mark,.int .i64 c.follow,.string c.link,.int .i64 c.loops] 52)).alloc (.cells #[.string emptyC.number,.string emptyC.label,.slice none emptyC.moves.length 0,.slice none emptyC.parts.length 0,.bool emptyC.block,.bool emptyC.mark,.int .i64 emptyC.follow,.string emptyC.link,.int .i64 emptyC.loops] 52)) wr ∧ Hid (Own ((w.alloc (.cells #[.string c.number,.string c.label,.slice A c.moves.length k,.slice B c.parts.length m,.bool c.block,.bool c.mark,.int .i64 c.follow,.string c.link,.int .i64 c.loops] 52)).alloc (.cells #[.string emptyC.number,.string emptyC.label,.slice none emptyC.moves.length 0,.slice none emptyC.parts.length 0,.bool emptyC.block,.bool emptyC.mark,.int .i64 emptyC.follow,.string emptyC.link,.int .i64 emptyC.loops] 52)) wr 60 5 D q d (o.map mv))) (fun _ i _ => es.length - (intOf i).toNat)
    case atStart => exact ⟨0,none,0,0,[],by omega,rfl,rfl,rfl,Lib.hid (by simp [givenM]),ex,Lib.hid (Own.nil _)⟩
    case round =>
     obtain ⟨j,D,q,d,o,hj,rfl,rfl,hq,HO1,hx,HO⟩:=hrel
     obtain ⟨y,rfl⟩:=hx.get
     clear hx
     by_cases hlt : j < es.length
     ·obtain ⟨x,hx⟩ : ∃ x,es[j]? = some x:=⟨_,List.getElem?_eq_getElem hlt⟩
      have HX:=Lib.hid (givenM_step hx part)
      obtain ⟨b',of,rfl,hc0,hc1,hc2,hc3⟩:=hs.row4 (i:=j) (by rw [List.getElem?_map,hx];rfl)
      have hb0 : (0 : Int) ≤ (j : Int):=by omega
      have hb1 : (j : Int) < (es.length : Int):=by omega
      have hq1 : q ≤ 5000:=by omega
      have HQ:=Lib.hid hq
      clear hx hs hq
      go_wp2_with (at_builtin;refine wpList_append_mine (w0:=_) rfl _ _ 49 49 rfl 60 60 5 40 Try.underlying49 Try.underlying49 info_M (by decide) (by repeat (first | exact Ext.refl _ | assumption | apply Ext.xt | apply Ext.alloc | apply Ext.drew | apply Ext.drewN)) _ _ _ _ rfl (HO.out.mono (by repeat (first | exact Ext.refl _ | assumption | apply Ext.xt | apply Ext.alloc | apply Ext.drew | apply Ext.drewN))) _ 1 1 [mv (⟨x.p,x.v,part⟩ : Move)] rfl (Sl.alloc' (by simp [go_sem]) rfl (by simp [mv])) rfl (mv_one [(⟨x.p,x.v,part⟩ : Move)]) (by unfold maxLen;omega) (by omega) _ rfl _ rfl ?_;intro D1 c1 w1 hx1 hown hg hA;have HO:=Lib.hid hown;obtain ⟨y1,rfl⟩:=hx1.get;clear hown hx1 hg hA)
      go_light
      exact ⟨⟨j + 1,D1,q + 1,c1,o ++ [⟨x.p,x.v,part⟩],by omega,by go_num,rfl,by have:=HQ.out;omega,Lib.hid (by rw [HX.out,HO1.out]),ex,Lib.hid (by rw [← mv_app];exact HO.out.mono (ex))⟩,by simp [intOf];omega⟩
     ·have hj2 : j = es.length:=by omega
      have HO2:=Lib.hid (show o = givenM es part by rw [HO1.out,List.take_of_length_le (by omega)])
      have hqo : q = o.length:=by rw [HO2.out];simp [givenM];omega
      subst hqo
      have hol : o.length ≤ 5000:=by omega
      have HG1:=Lib.hid (show ∀ x ∈ o,moveE1 x = 0 by rw [HO2.out];exact HG.out)
      clear hs hq
      by_cases hz : (mergedV c.moves o).2 = 0
      ·have hz' : ((mergedV c.moves o).2 != 0) = false:=by simpa using hz
       have HV:=Lib.hid (show csetV c es part = ({ c with moves:=(mergedV c.moves o).1 },0) by unfold csetV;rw [if_neg (by simpa using HE.out),if_neg (by simpa using HF.out),if_neg (by omega),← HO2.out,if_neg (by simpa using hz)])
       clear hz
       go_wp2_with (first
        | (go_at_call 22;refine (cue_mergedO A k c.moves D d o _ (HC.out.mv.mono (ex)) (by omega) (HO.out.sl.mono (ex)) hol HOK.out HG1.out).mono ?_;rintro e w' ⟨D2,n2,rfl,hx,hown⟩;have HM:=Lib.hid hown;obtain ⟨ym,rfl⟩:=hx.get;clear hx hown)
        | (go_at_call 23;refine (draft_keep _ B m c.parts _ (by simp [go_sem]) (by simp [go_sem]) (HC.out.pt.mono (ex)) (by omega)).mono ?_;rintro e w' ⟨D3,n3,y3,rfl,rfl,hown⟩;have HK:=Lib.hid hown;clear hown))
       refine bodyPost_ret (v:=.tuple #[.agg (cueV { c with moves:=(mergedV c.moves o).1 } D2 n2 D3 n3).toArray,.int .i64 0]) (by simp [results,Try.results9,go_sem,cueV]) rfl ?_
       rw [HV.out]
       exact ⟨D2,n2,D3,n3,rfl,ex,⟨Sl.upon (ex) (Own.swapped (w:=w) HM.out (by simp [go_sem]) (ex)).sl,(Own.swapped (w:=w) HK.out (by simp [go_sem]) (ex)).sl,HM.out.le,HK.out.le,HM.out.cap,HK.out.cap,HC.out.num,HC.out.lab,HC.out.lnk⟩⟩
      ·have hz' : ((mergedV c.moves o).2 != 0) = true:=by simpa using hz
       have HV:=Lib.hid (show csetV c es part = (emptyC,(mergedV c.moves o).2) by unfold csetV;rw [if_neg (by simpa using HE.out),if_neg (by simpa using HF.out),if_neg (by omega),← HO2.out,if_pos (by simpa using hz)])
       clear hz
       go_wp2_with (go_at_call 22;refine (cue_mergedO A k c.moves D d o _ (HC.out.mv.mono (ex)) (by omega) (HO.out.sl.mono (ex)) hol HOK.out HG1.out).mono ?_;rintro e w' ⟨D2,n2,rfl,hx,hown⟩;have HM:=Lib.hid hown;obtain ⟨ym,rfl⟩:=hx.get;clear hx hown)
       refine bodyPost_ret (v:=.tuple #[.agg (cueV emptyC none 0 none 0).toArray,.int .i64 (mergedV c.moves o).2]) (by simp [results,Try.results9,go_sem,cueV,emptyC]) rfl (RetCue.empty HV.out rfl (ex))
  ·have hF' : (entriesE es != 0) = true:=by simpa using hF
   have HV:=Lib.hid (show csetV c es part = (emptyC,entriesE es) by unfold csetV;rw [if_neg (by simpa using HE.out),if_pos hF])
   clear hF hs
   go_enter Try.func9,Try.ntmps9
   go_wp2_with (first | (go_at_call 20;refine (cue_Check c A k B m _ (HC.out.mono (ex))).mono ?_;rintro e w' ⟨rfl,hx⟩;obtain ⟨ya,rfl⟩:=hx.get;clear hx) | (go_at_call 21;refine (pal_Entries C n es _ (HS.out.mono (ex)) HL.out).mono ?_;rintro e w' ⟨rfl,hx⟩;obtain ⟨yb,rfl⟩:=hx.get;clear hx))
   refine bodyPost_ret (v:=.tuple #[.agg (cueV emptyC none 0 none 0).toArray,.int .i64 (entriesE es)]) (by simp [results,Try.results9,go_sem,cueV,emptyC]) rfl (RetCue.empty HV.out rfl (ex))
 ·have hE' : (cueE c != 0) = true:=by simpa using hE
  have HV:=Lib.hid (show csetV c es part = (emptyC,cueE c) by unfold csetV;rw [if_pos hE])
  clear hc hE hs
  go_enter Try.func9,Try.ntmps9
  go_wp2_with (go_at_call 20;refine (cue_Check c A k B m _ (HC.out.mono (ex))).mono ?_;rintro e w' ⟨rfl,hx⟩;obtain ⟨ya,rfl⟩:=hx.get;clear hx)
  refine bodyPost_ret (v:=.tuple #[.agg (cueV emptyC none 0 none 0).toArray,.int .i64 (cueE c)]) (by simp [results,Try.results9,go_sem,cueV,emptyC]) rfl (RetCue.empty HV.out rfl (ex))
end Go.Proofs.Ytgbecbnjokkfoaa
