import Derived.Test.YtgbecbnjokkfoaaGreatGflt
import Derived.Test.YtgbecbnjokkfoaaGreatPalR
import Derived.Test.YtgbecbnjokkfoaaGreatPal9
import Derived.Test.YtgbecbnjokkfoaaGreatCEnt
import Derived.Test.YtgbecbnjokkfoaaGreatSameE
import Derived.Test.YtgbecbnjokkfoaaGreatCue4
import Derived.Test.YtgbecbnjokkfoaaGreatFew
import Derived.Test.YtgbecbnjokkfoaaGreatRowPal
namespace Go.Proofs.YtgbecbnjokkfoaaGreat
set_option maxHeartbeats 6400000
set_option maxRecDepth 100000
open Go.RowKit

theorem wp_named {P : Program} {c : Code} {Q : Exit → Act → World → Prop} {a : Act} {W : World} (h : ∀ W',W' = W → c.wp P Q a W') : c.wp P Q a W:=h W rfl
theorem l_Follow (A0 : Option Addr) (k0 : Nat) (l : List Pal) (x : Pal) (c : Cue) (A : Option Addr) (k : Nat) (B : Option Addr) (m : Nat) (w : World) (hp : Pals w A0 l) (hl : l.length ≤ maxLen) (hx : Sl w x.at_ 3 (x.hues.map hueR)) (hxl : x.hues.length ≤ maxLen) (hc : CueAt w c A k B m) :
  Calls Tryz.prog 3 #[.slice A0 l.length k0,.agg (palR x).toArray,.agg (cueV c A k B m).toArray] w fun e w' => e = .returned (.bool true) ∧ Ext w w':=by
 have HP:=Lib.hid hp
 have HL:=Lib.hid hl
 have HX:=Lib.hid hx
 have HXL:=Lib.hid hxl
 have HC:=Lib.hid hc
 have hone : [x].length ≤ maxLen:=(by decide : 1 ≤ maxLen)
 clear hp hl hx hxl hc
 simp only [palR,cueV]
 cases f1 : fewP l
 ·go_enter Tryz.func3,Tryz.ntmps3
  go_wp2_with (first
   | (go_at_call 4;have hh:=G1;clear hh;refine (r15_PFew _ 1 [x] _ (pals_one (Sl.alloc' (by simp [go_sem]) rfl (by simp [palR])) (HX.out.mono (ex)) HXL.out) hone).mono ?_;rintro e w' ⟨rfl,hx⟩;obtain ⟨y2,rfl⟩:=hx.get;clear hx)
   | (go_at_call 4;refine (r15_PFew A0 k0 l _ (HP.out.mono (ex)) HL.out).mono ?_;rintro e w' ⟨rfl,hx⟩;have G1:=Lib.hid trivial;obtain ⟨y1,rfl⟩:=hx.get;clear hx)
   | (go_at_call 5;have hh:=G2;clear hh;refine (r15_PCheck _ 1 [x] _ (pals_one (Sl.alloc' (by simp [go_sem]) rfl (by simp [palR])) (HX.out.mono (ex)) HXL.out) hone).mono ?_;rintro e w' ⟨rfl,hx⟩;obtain ⟨y4,rfl⟩:=hx.get;clear hx)
   | (go_at_call 5;refine (r15_PCheck A0 k0 l _ (HP.out.mono (ex)) HL.out).mono ?_;rintro e w' ⟨rfl,hx⟩;have G2:=Lib.hid trivial;obtain ⟨y3,rfl⟩:=hx.get;clear hx)
   | (go_at_call 6;refine (r16_Few c A k B m _).mono ?_;rintro e w' ⟨rfl,hx⟩;obtain ⟨y,rfl⟩:=hx.get;clear hx)
   | (go_at_call 7;refine (r16_Check c A k B m _ (HC.out.mono (ex))).mono ?_;rintro e w' ⟨rfl,hx⟩;obtain ⟨y,rfl⟩:=hx.get;clear hx)
   | (go_at_call 8;refine (top_casePalette _).mono ?_;rintro e w' ⟨rfl,hx⟩;obtain ⟨y,rfl⟩:=hx.get;clear hx))
  go_ret
  exact ⟨rfl,ex⟩
 by_cases e2 : palsE l = 0
 rotate_left
 ·have f2 : (palsE l != 0) = true:=by simpa using e2
  clear e2
  go_enter Tryz.func3,Tryz.ntmps3
  go_wp2_with (first
   | (go_at_call 4;have hh:=G1;clear hh;refine (r15_PFew _ 1 [x] _ (pals_one (Sl.alloc' (by simp [go_sem]) rfl (by simp [palR])) (HX.out.mono (ex)) HXL.out) hone).mono ?_;rintro e w' ⟨rfl,hx⟩;obtain ⟨y2,rfl⟩:=hx.get;clear hx)
   | (go_at_call 4;refine (r15_PFew A0 k0 l _ (HP.out.mono (ex)) HL.out).mono ?_;rintro e w' ⟨rfl,hx⟩;have G1:=Lib.hid trivial;obtain ⟨y1,rfl⟩:=hx.get;clear hx)
   | (go_at_call 5;have hh:=G2;clear hh;refine (r15_PCheck _ 1 [x] _ (pals_one (Sl.alloc' (by simp [go_sem]) rfl (by simp [palR])) (HX.out.mono (ex)) HXL.out) hone).mono ?_;rintro e w' ⟨rfl,hx⟩;obtain ⟨y4,rfl⟩:=hx.get;clear hx)
   | (go_at_call 5;refine (r15_PCheck A0 k0 l _ (HP.out.mono (ex)) HL.out).mono ?_;rintro e w' ⟨rfl,hx⟩;have G2:=Lib.hid trivial;obtain ⟨y3,rfl⟩:=hx.get;clear hx)
   | (go_at_call 6;refine (r16_Few c A k B m _).mono ?_;rintro e w' ⟨rfl,hx⟩;obtain ⟨y,rfl⟩:=hx.get;clear hx)
   | (go_at_call 7;refine (r16_Check c A k B m _ (HC.out.mono (ex))).mono ?_;rintro e w' ⟨rfl,hx⟩;obtain ⟨y,rfl⟩:=hx.get;clear hx)
   | (go_at_call 8;refine (top_casePalette _).mono ?_;rintro e w' ⟨rfl,hx⟩;obtain ⟨y,rfl⟩:=hx.get;clear hx))
  go_ret
  exact ⟨rfl,ex⟩
 have f2 : (palsE l != 0) = false:=by simpa using e2
 have E2:=Lib.hid e2
 clear e2
 cases f3 : fewP [x]
 ·go_enter Tryz.func3,Tryz.ntmps3
  go_wp2_with (first
   | (go_at_call 4;have hh:=G1;clear hh;refine (r15_PFew _ 1 [x] _ (pals_one (Sl.alloc' (by simp [go_sem]) rfl (by simp [palR])) (HX.out.mono (ex)) HXL.out) hone).mono ?_;rintro e w' ⟨rfl,hx⟩;obtain ⟨y2,rfl⟩:=hx.get;clear hx)
   | (go_at_call 4;refine (r15_PFew A0 k0 l _ (HP.out.mono (ex)) HL.out).mono ?_;rintro e w' ⟨rfl,hx⟩;have G1:=Lib.hid trivial;obtain ⟨y1,rfl⟩:=hx.get;clear hx)
   | (go_at_call 5;have hh:=G2;clear hh;refine (r15_PCheck _ 1 [x] _ (pals_one (Sl.alloc' (by simp [go_sem]) rfl (by simp [palR])) (HX.out.mono (ex)) HXL.out) hone).mono ?_;rintro e w' ⟨rfl,hx⟩;obtain ⟨y4,rfl⟩:=hx.get;clear hx)
   | (go_at_call 5;refine (r15_PCheck A0 k0 l _ (HP.out.mono (ex)) HL.out).mono ?_;rintro e w' ⟨rfl,hx⟩;have G2:=Lib.hid trivial;obtain ⟨y3,rfl⟩:=hx.get;clear hx)
   | (go_at_call 6;refine (r16_Few c A k B m _).mono ?_;rintro e w' ⟨rfl,hx⟩;obtain ⟨y,rfl⟩:=hx.get;clear hx)
   | (go_at_call 7;refine (r16_Check c A k B m _ (HC.out.mono (ex))).mono ?_;rintro e w' ⟨rfl,hx⟩;obtain ⟨y,rfl⟩:=hx.get;clear hx)
   | (go_at_call 8;refine (top_casePalette _).mono ?_;rintro e w' ⟨rfl,hx⟩;obtain ⟨y,rfl⟩:=hx.get;clear hx))
  go_ret
  exact ⟨rfl,ex⟩
 by_cases e4 : palsE [x] = 0
 rotate_left
 ·have f4 : (palsE [x] != 0) = true:=by simpa using e4
  clear e4
  go_enter Tryz.func3,Tryz.ntmps3
  go_wp2_with (first
   | (go_at_call 4;have hh:=G1;clear hh;refine (r15_PFew _ 1 [x] _ (pals_one (Sl.alloc' (by simp [go_sem]) rfl (by simp [palR])) (HX.out.mono (ex)) HXL.out) hone).mono ?_;rintro e w' ⟨rfl,hx⟩;obtain ⟨y2,rfl⟩:=hx.get;clear hx)
   | (go_at_call 4;refine (r15_PFew A0 k0 l _ (HP.out.mono (ex)) HL.out).mono ?_;rintro e w' ⟨rfl,hx⟩;have G1:=Lib.hid trivial;obtain ⟨y1,rfl⟩:=hx.get;clear hx)
   | (go_at_call 5;have hh:=G2;clear hh;refine (r15_PCheck _ 1 [x] _ (pals_one (Sl.alloc' (by simp [go_sem]) rfl (by simp [palR])) (HX.out.mono (ex)) HXL.out) hone).mono ?_;rintro e w' ⟨rfl,hx⟩;obtain ⟨y4,rfl⟩:=hx.get;clear hx)
   | (go_at_call 5;refine (r15_PCheck A0 k0 l _ (HP.out.mono (ex)) HL.out).mono ?_;rintro e w' ⟨rfl,hx⟩;have G2:=Lib.hid trivial;obtain ⟨y3,rfl⟩:=hx.get;clear hx)
   | (go_at_call 6;refine (r16_Few c A k B m _).mono ?_;rintro e w' ⟨rfl,hx⟩;obtain ⟨y,rfl⟩:=hx.get;clear hx)
   | (go_at_call 7;refine (r16_Check c A k B m _ (HC.out.mono (ex))).mono ?_;rintro e w' ⟨rfl,hx⟩;obtain ⟨y,rfl⟩:=hx.get;clear hx)
   | (go_at_call 8;refine (top_casePalette _).mono ?_;rintro e w' ⟨rfl,hx⟩;obtain ⟨y,rfl⟩:=hx.get;clear hx))
  go_ret
  exact ⟨rfl,ex⟩
 have f4 : (palsE [x] != 0) = false:=by simpa using e4
 have E4:=Lib.hid e4
 clear e4
 cases f5 : few c
 ·go_enter Tryz.func3,Tryz.ntmps3
  go_wp2_with (first
   | (go_at_call 4;have hh:=G1;clear hh;refine (r15_PFew _ 1 [x] _ (pals_one (Sl.alloc' (by simp [go_sem]) rfl (by simp [palR])) (HX.out.mono (ex)) HXL.out) hone).mono ?_;rintro e w' ⟨rfl,hx⟩;obtain ⟨y2,rfl⟩:=hx.get;clear hx)
   | (go_at_call 4;refine (r15_PFew A0 k0 l _ (HP.out.mono (ex)) HL.out).mono ?_;rintro e w' ⟨rfl,hx⟩;have G1:=Lib.hid trivial;obtain ⟨y1,rfl⟩:=hx.get;clear hx)
   | (go_at_call 5;have hh:=G2;clear hh;refine (r15_PCheck _ 1 [x] _ (pals_one (Sl.alloc' (by simp [go_sem]) rfl (by simp [palR])) (HX.out.mono (ex)) HXL.out) hone).mono ?_;rintro e w' ⟨rfl,hx⟩;obtain ⟨y4,rfl⟩:=hx.get;clear hx)
   | (go_at_call 5;refine (r15_PCheck A0 k0 l _ (HP.out.mono (ex)) HL.out).mono ?_;rintro e w' ⟨rfl,hx⟩;have G2:=Lib.hid trivial;obtain ⟨y3,rfl⟩:=hx.get;clear hx)
   | (go_at_call 6;refine (r16_Few c A k B m _).mono ?_;rintro e w' ⟨rfl,hx⟩;obtain ⟨y,rfl⟩:=hx.get;clear hx)
   | (go_at_call 7;refine (r16_Check c A k B m _ (HC.out.mono (ex))).mono ?_;rintro e w' ⟨rfl,hx⟩;obtain ⟨y,rfl⟩:=hx.get;clear hx)
   | (go_at_call 8;refine (top_casePalette _).mono ?_;rintro e w' ⟨rfl,hx⟩;obtain ⟨y,rfl⟩:=hx.get;clear hx))
  go_ret
  exact ⟨rfl,ex⟩
 by_cases e6 : cueE c = 0
 rotate_left
 ·have f6 : (cueE c != 0) = true:=by simpa using e6
  clear e6
  go_enter Tryz.func3,Tryz.ntmps3
  go_wp2_with (first
   | (go_at_call 4;have hh:=G1;clear hh;refine (r15_PFew _ 1 [x] _ (pals_one (Sl.alloc' (by simp [go_sem]) rfl (by simp [palR])) (HX.out.mono (ex)) HXL.out) hone).mono ?_;rintro e w' ⟨rfl,hx⟩;obtain ⟨y2,rfl⟩:=hx.get;clear hx)
   | (go_at_call 4;refine (r15_PFew A0 k0 l _ (HP.out.mono (ex)) HL.out).mono ?_;rintro e w' ⟨rfl,hx⟩;have G1:=Lib.hid trivial;obtain ⟨y1,rfl⟩:=hx.get;clear hx)
   | (go_at_call 5;have hh:=G2;clear hh;refine (r15_PCheck _ 1 [x] _ (pals_one (Sl.alloc' (by simp [go_sem]) rfl (by simp [palR])) (HX.out.mono (ex)) HXL.out) hone).mono ?_;rintro e w' ⟨rfl,hx⟩;obtain ⟨y4,rfl⟩:=hx.get;clear hx)
   | (go_at_call 5;refine (r15_PCheck A0 k0 l _ (HP.out.mono (ex)) HL.out).mono ?_;rintro e w' ⟨rfl,hx⟩;have G2:=Lib.hid trivial;obtain ⟨y3,rfl⟩:=hx.get;clear hx)
   | (go_at_call 6;refine (r16_Few c A k B m _).mono ?_;rintro e w' ⟨rfl,hx⟩;obtain ⟨y,rfl⟩:=hx.get;clear hx)
   | (go_at_call 7;refine (r16_Check c A k B m _ (HC.out.mono (ex))).mono ?_;rintro e w' ⟨rfl,hx⟩;obtain ⟨y,rfl⟩:=hx.get;clear hx)
   | (go_at_call 8;refine (top_casePalette _).mono ?_;rintro e w' ⟨rfl,hx⟩;obtain ⟨y,rfl⟩:=hx.get;clear hx))
  go_ret
  exact ⟨rfl,ex⟩
 have f6 : (cueE c != 0) = false:=by simpa using e6
 have E6:=Lib.hid e6
 clear e6
 have hll:=(palsE_scan E2.out).1
 have HS2:=Lib.hid (palsE_scan E2.out).2
 have HS4:=Lib.hid (palsE_scan E4.out).2
 have HMV:=Lib.hid (cueE_ok E6.out).2.2.1
 have HEV:=Lib.hid (show entriesV c = (valuesL c.moves,0) by unfold entriesV;rw [if_neg (by rw [E6.out];simp)])
 have HES:=Lib.hid (values_ok HMV.out)
 obtain ⟨es,hes⟩ : ∃ es,valuesL c.moves = es:=⟨_,rfl⟩
 rw [hes] at HEV HES
 clear hes
 have hel:=(entries_ok HES.out).1
 by_cases hful : foundN l x.number = false ∧ l.length = 32
 ·obtain ⟨hf,h32⟩:=hful
  have HF:=Lib.hid hf
  have H32:=Lib.hid h32
  clear hf h32
  go_enter Tryz.func3,Tryz.ntmps3
  go_wp2_with (first
   | (go_at_call 4;have hh:=G1;clear hh;refine (r15_PFew _ 1 [x] _ (pals_one (Sl.alloc' (by simp [go_sem]) rfl (by simp [palR])) (HX.out.mono (ex)) HXL.out) hone).mono ?_;rintro e w' ⟨rfl,hx⟩;obtain ⟨y2,rfl⟩:=hx.get;clear hx)
   | (go_at_call 4;refine (r15_PFew A0 k0 l _ (HP.out.mono (ex)) HL.out).mono ?_;rintro e w' ⟨rfl,hx⟩;have G1:=Lib.hid trivial;obtain ⟨y1,rfl⟩:=hx.get;clear hx)
   | (go_at_call 5;have hh:=G2;clear hh;refine (r15_PCheck _ 1 [x] _ (pals_one (Sl.alloc' (by simp [go_sem]) rfl (by simp [palR])) (HX.out.mono (ex)) HXL.out) hone).mono ?_;rintro e w' ⟨rfl,hx⟩;obtain ⟨y4,rfl⟩:=hx.get;clear hx)
   | (go_at_call 5;refine (r15_PCheck A0 k0 l _ (HP.out.mono (ex)) HL.out).mono ?_;rintro e w' ⟨rfl,hx⟩;have G2:=Lib.hid trivial;obtain ⟨y3,rfl⟩:=hx.get;clear hx)
   | (go_at_call 6;refine (r16_Few c A k B m _).mono ?_;rintro e w' ⟨rfl,hx⟩;obtain ⟨y,rfl⟩:=hx.get;clear hx)
   | (go_at_call 7;refine (r16_Check c A k B m _ (HC.out.mono (ex))).mono ?_;rintro e w' ⟨rfl,hx⟩;obtain ⟨y,rfl⟩:=hx.get;clear hx)
   | (go_at_call 8;refine (top_casePalette _).mono ?_;rintro e w' ⟨rfl,hx⟩;obtain ⟨y,rfl⟩:=hx.get;clear hx)
   | (go_at_call 9;refine (pal_Put_full A0 k0 l x _ (HP.out.mono (ex)) E2.out (HX.out.mono (ex)) HXL.out E4.out HF.out H32.out).mono ?_;rintro e w' ⟨rfl,hx⟩;obtain ⟨y,rfl⟩:=hx.get;clear hx)
   | (go_at_call 10;refine (cue_Entries c A k B m _ (HC.out.mono (ex))).mono ?_;rintro e w' ⟨D,d,he,hx,hs,hsl,hsk⟩;rw [HEV.out] at he hs;subst he;obtain ⟨y7,rfl⟩:=hx.get;clear hx hs hsl hsk))
  go_ret
  exact ⟨rfl,ex⟩
 have HNE:=Lib.hid (show foundN l x.number = true ∨ l.length < 32 by
  cases hf : foundN l x.number
  ·exact .inr (by have : ¬ l.length = 32:=fun h => hful ⟨hf,h⟩;omega)
  ·exact .inl rfl)
 clear hful
 have HSN:=Lib.hid (placeP_ok HS2.out HS4.out)
 have HPN:=Lib.hid (show palsE (placeP l x) = 0 by unfold palsE;rw [if_neg (by have:=placeP_len HNE.out hll;omega)];exact HSN.out)
 have hpn:=placeP_len HNE.out hll
 go_enter Tryz.func3,Tryz.ntmps3
 go_wp2_with (first
  | (go_at_call 4;have hh:=G1;clear hh;refine (r15_PFew _ 1 [x] _ (pals_one (Sl.alloc' (by simp [go_sem]) rfl (by simp [palR])) (HX.out.mono (ex)) HXL.out) hone).mono ?_;rintro e w' ⟨rfl,hx⟩;obtain ⟨y2,rfl⟩:=hx.get;clear hx)
  | (go_at_call 4;refine (r15_PFew A0 k0 l _ (HP.out.mono (ex)) HL.out).mono ?_;rintro e w' ⟨rfl,hx⟩;have G1:=Lib.hid trivial;obtain ⟨y1,rfl⟩:=hx.get;clear hx)
  | (go_at_call 5;have hh:=G2;clear hh;refine (r15_PCheck _ 1 [x] _ (pals_one (Sl.alloc' (by simp [go_sem]) rfl (by simp [palR])) (HX.out.mono (ex)) HXL.out) hone).mono ?_;rintro e w' ⟨rfl,hx⟩;obtain ⟨y4,rfl⟩:=hx.get;clear hx)
  | (go_at_call 5;refine (r15_PCheck A0 k0 l _ (HP.out.mono (ex)) HL.out).mono ?_;rintro e w' ⟨rfl,hx⟩;have G2:=Lib.hid trivial;obtain ⟨y3,rfl⟩:=hx.get;clear hx)
  | (go_at_call 6;refine (r16_Few c A k B m _).mono ?_;rintro e w' ⟨rfl,hx⟩;obtain ⟨y,rfl⟩:=hx.get;clear hx)
  | (go_at_call 7;refine (r16_Check c A k B m _ (HC.out.mono (ex))).mono ?_;rintro e w' ⟨rfl,hx⟩;obtain ⟨y,rfl⟩:=hx.get;clear hx)
  | (go_at_call 8;refine (top_casePalette _).mono ?_;rintro e w' ⟨rfl,hx⟩;obtain ⟨y,rfl⟩:=hx.get;clear hx)
  | (go_at_call 9;refine (pal_Put_ok A0 k0 l x _ (HP.out.mono (ex)) E2.out (HX.out.mono (ex)) HXL.out E4.out HNE.out).mono ?_;rintro e w' ⟨D0,d0,rfl,hx,hq⟩;have HN:=Lib.hid hq;obtain ⟨y6,rfl⟩:=hx.get;clear hx hq)
  | (go_at_call 10;refine (cue_Entries c A k B m _ (HC.out.mono (ex))).mono ?_;rintro e w' ⟨D,d,he,hx,hs,hsl,hsk⟩;rw [HEV.out] at he hs;subst he;have HD:=Lib.hid hs;obtain ⟨y7,rfl⟩:=hx.get;clear hx hs hsl hsk)
  | (go_at_call 11;have hh:=G4;clear hh;refine (pal_Flat _ 1 [x] D d es _ (pals_one (Sl.alloc' (by simp [go_sem]) rfl (by simp [palR])) (HX.out.mono (ex)) HXL.out) E4.out (HD.out.mono (ex)) HES.out).mono ?_;rintro e w' ⟨D3,d3,rfl,hx,hs⟩;have H3:=Lib.hid hs;obtain ⟨y10,rfl⟩:=hx.get;clear hx hs)
  | (go_at_call 11;have hh:=G3;clear hh;refine (pal_Flat D0 d0 (placeP l x) D d es _ (HN.out.mono (ex)) HPN.out (HD.out.mono (ex)) HES.out).mono ?_;rintro e w' ⟨D2,d2,rfl,hx,hs⟩;have H2:=Lib.hid hs;have G4:=Lib.hid trivial;obtain ⟨y9,rfl⟩:=hx.get;clear hx hs)
  | (go_at_call 11;refine (pal_Flat A0 k0 l D d es _ (HP.out.mono (ex)) E2.out (HD.out.mono (ex)) HES.out).mono ?_;rintro e w' ⟨D1,d1,rfl,hx,hs⟩;have H1:=Lib.hid hs;have G3:=Lib.hid trivial;obtain ⟨y8,rfl⟩:=hx.get;clear hx hs))
 refine wp_named (fun W hW => ?_)
 have q0 : W.cell? ⟨w.heap.size,0,none⟩ = some (.int .i64 x.number):=by rw [hW];simp [go_sem]
 have hx0 : Ext w W:=by rw [hW];exact (ex)
 have HD:=Lib.hid (HD.out.mono (show Ext _ W by rw [hW];exact (ex)))
 have H1:=Lib.hid (H1.out.mono (show Ext _ W by rw [hW];exact (ex)))
 have H2:=Lib.hid (H2.out.mono (show Ext _ W by rw [hW];exact (ex)))
 have H3:=Lib.hid (H3.out.mono (show Ext _ W by rw [hW];exact (ex)))
 clear hW
 go_loopw [125] (fun i wr => ∃ j : Nat,j ≤ es.length ∧ i = .int .i64 j ∧ Ext W wr) (fun i _ => es.length - (intOf i).toNat)
 case atStart => exact ⟨0,by omega,rfl,Ext.refl _⟩
 case round =>
  obtain ⟨j,hj,rfl,hx⟩:=hrel
  obtain ⟨y,rfl⟩:=hx.get
  clear hx
  by_cases hlt : j < es.length
  ·obtain ⟨e,he⟩ : ∃ e,es[j]? = some e:=⟨_,List.getElem?_eq_getElem hlt⟩
   obtain ⟨u,hu⟩ : ∃ u,flatE [x] e = u:=⟨_,rfl⟩
   obtain ⟨v,hv⟩ : ∃ v,flatE l e = v:=⟨_,rfl⟩
   obtain ⟨b,o,rfl,hc0,hc1,hc2,hc3⟩:=HD.out.row4 (i:=j) (by rw [List.getElem?_map,he];rfl)
   obtain ⟨b1,o1,rfl,ha0,ha1,ha2,ha3⟩:=H1.out.row4 (i:=j) (by rw [List.getElem?_map,List.getElem?_map,he];show _ = some (en (flatE l e));rfl)
   obtain ⟨b3,o3,rfl,hg0,hg1,hg2,hg3⟩:=H3.out.row4 (i:=j) (by rw [List.getElem?_map,List.getElem?_map,he];show _ = some (en (flatE [x] e));rfl)
   obtain ⟨b2,o2,rfl,hd0,hd1,hd2,hd3⟩:=H2.out.row4 (i:=j) (by rw [List.getElem?_map,List.getElem?_map,he];show _ = some (en (flatE (placeP l x) e));rfl)
   rw [flat_follow HS2.out HS4.out] at hd0 hd1 hd2 hd3
   rw [hu] at hd0 hd1 hd2 hd3 hg0 hg1 hg2 hg3
   rw [hv] at hd0 hd1 hd2 hd3 ha0 ha1 ha2 ha3
   have hb0 : (0 : Int) ≤ (j : Int):=by omega
   have hb1 : (j : Int) < (es.length : Int):=by omega
   clear he hu hv
   by_cases hn : e.v.pal = x.number
   ·rw [if_pos hn] at hd0 hd1 hd2 hd3
    have hz : (e.v.pal == x.number) = true:=by simpa using hn
    have HZ:=Lib.hid (show eqE ⟨⟨u.p.ch,u.p.attr⟩,⟨u.v.pal,u.v.lev⟩⟩ ⟨⟨u.p.ch,u.p.attr⟩,⟨u.v.pal,u.v.lev⟩⟩ = true by rw [eqE_def];simp)
    clear hn
    go_wp2
    (refine wp_region_grows (by kernel_rfl) (by kernel_rfl) ?_;(repeat (go_big_quiet_step (fail)));refine wpQuiet_nil ?_;rintro _ ⟨y,rfl⟩)
    rw [HZ.out]
    go_wp2
    go_light
    exact ⟨⟨j + 1,by omega,by go_num,ex⟩,by simp [intOf];omega⟩
   ·rw [if_neg hn] at hd0 hd1 hd2 hd3
    have hz : (e.v.pal == x.number) = false:=by simpa using hn
    have HZ:=Lib.hid (show eqE ⟨⟨v.p.ch,v.p.attr⟩,⟨v.v.pal,v.v.lev⟩⟩ ⟨⟨v.p.ch,v.p.attr⟩,⟨v.v.pal,v.v.lev⟩⟩ = true by rw [eqE_def];simp)
    clear hn
    go_wp2
    (refine wp_region_grows (by kernel_rfl) (by kernel_rfl) ?_;(repeat (go_big_quiet_step (fail)));refine wpQuiet_nil ?_;rintro _ ⟨y,rfl⟩)
    rw [HZ.out]
    go_wp2
    go_light
    exact ⟨⟨j + 1,by omega,by go_num,ex⟩,by simp [intOf];omega⟩
  ·go_wp2_with (go_at_call 8;refine (top_casePalette _).mono ?_;rintro e w' ⟨rfl,hx⟩;obtain ⟨y,rfl⟩:=hx.get;clear hx)
   go_ret
   exact ⟨rfl,hx0.trans (ex)⟩
end Go.Proofs.YtgbecbnjokkfoaaGreat
