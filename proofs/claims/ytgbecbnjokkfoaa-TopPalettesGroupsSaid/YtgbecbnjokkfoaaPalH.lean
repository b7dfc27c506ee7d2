import Derived.Test.YtgbecbnjokkfoaaGrpG
import Derived.Test.YtgbecbnjokkfoaaGrp2
import Derived.Test.YtgbecbnjokkfoaaRowGrp
namespace Go.Proofs.Ytgbecbnjokkfoaa
set_option maxHeartbeats 6400000
set_option maxRecDepth 100000
open Go.RowKit

theorem wp_nameh {P : Program} {c : Code} {Q : Exit → Act → World → Prop} {a : Act} {W : World} (h : ∀ W',W' = W → c.wp P Q a W') : c.wp P Q a W:=h W rfl
theorem wf_sm {z : Int} (h1 : -1000000 ≤ z) (h2 : z ≤ 1000000) : (Lit.int .i64 z).wf = true:=by
 simp only [Lit.wf,Bool.and_eq_true,decide_eq_true_eq]
 have h3 : IntKind.i64.min = -9223372036854775808:=rfl
 have h4 : IntKind.i64.max = 9223372036854775807:=rfl
 omega
theorem MapO.new' {w : World} {n : Nat} (h : w.heap.size = n) : MapO (w.alloc (.map #[] 0)) n 0 (fun _ => none):=by subst h;exact MapO.new w
theorem hueR_one (l : List Hue) : ∀ r ∈ l.map hueR,∀ u ∈ r,u.oneCell' = true:=fun r hr u hu => by
 obtain ⟨m,_,rfl⟩:=List.mem_map.1 hr
 simp [hueR] at hu
 rcases hu with rfl | rfl | rfl <;> rfl
def Apart2 (H E : Option Addr) : Prop:=∀ a b,H = some a → E = some b → a.block ≠ b.block
theorem Apart2.symm {H E : Option Addr} (h : Apart2 H E) : Apart2 E H:=fun a b ha hb e => h b a hb ha e.symm
theorem Apart2.grow {w0 W : World} {H H1 E : Option Addr} {T : TypeId} {sz r e : Nat} {rows : List (List Value)} (hap : Apart2 H E) (hA : H1 = H ∨ H1 = some ⟨W.heap.size,0,none⟩) (hE : Own w0 W T sz E r e rows) (he : e = 0 → E = none) : Apart2 H1 E:=by
 rcases hA with rfl | rfl
 ·exact hap
 ·intro a b ha hb
  injection ha with ha
  subst ha
  have:=hE.lt (fun h => by rw [he h] at hb;cases hb) b hb
  simp only [];omega
theorem Own.keptA {w0 w w' : World} {T : TypeId} {size n k : Nat} {A H : Option Addr} {rows : List (List Value)} (h : Own w0 w T size A n k rows) (hg : w.grownBy w' (H.map (·.block))) (hap : Apart2 H A) : Own w0 w' T size A n k rows :=
 h.kept hg fun a ha => by
  cases H with
  | none => simp
  | some b => simp only [Option.map_some,ne_eq,Option.some.injEq];exact fun e => hap b a rfl ha e.symm
theorem pal_Level_as {l : List Pal} {v0 : Val} {q : Param} {home x : Int} (hl : levelV l v0 q home = (x,0)) (D : Option Addr) (c : Nat) (w : World) (hp : Pals w D l) (hn : l.length ≤ maxLen) :
  Calls Try.prog 11 #[.slice D l.length c,.agg (vl v0).toArray,.agg (prm q).toArray,.int .i64 home] w fun e w' => e = .returned (.tuple #[.int .i64 x,.int .i64 0]) ∧ Ext w w' :=
 (pal_Level D c l v0 q home w hp hn).mono fun e w' ⟨h3,h4⟩ => by
  rw [hl] at h3
  exact ⟨h3,h4⟩
theorem info_Hue : infoOk Try.prog 38 3 24 = true:=by kernel_rfl
theorem hue_app (us : List (Int × Int)) (p : Int × Int) : (us.map hueOf).map hueR ++ [hueR (hueOf p)] = ((us ++ [p]).map hueOf).map hueR:=by simp
theorem ent_app (us : List (Int × Int)) (p : Int × Int) : (us.map entOf).map en ++ [en (entOf p)] = ((us ++ [p]).map entOf).map en:=by simp

theorem l_Groups (num : Int) (A : Option Addr) (k : Nat) (ch : List Int) (fr tt : Int) (w : World) (hs : Sl w A 1 (ch.map iv)) (hl : ch.length ≤ k) (hk : k ≤ maxLen) (hf : 0 ≤ fr ∧ fr ≤ 65535) (ht : 0 ≤ tt ∧ tt ≤ 65535) :
  Calls Try.prog 3 #[.agg #[.int .i64 num,.slice A ch.length k],.int .u16 fr,.int .u16 tt] w fun e w' => e = .returned (.bool true) ∧ Ext w w':=by
 obtain ⟨hf1,hf2⟩:=hf
 obtain ⟨ht1,ht2⟩:=ht
 have HS:=Lib.hid hs
 have hk2 : k ≤ 9223372036854775807:=by unfold maxLen at hk;exact hk
 have HK:=Lib.hid hk
 clear hs hk
 have hn0 : (0 : Int) ≤ (ch.length : Int):=by omega
 by_cases h60 : 60 < ch.length
 ·go_enter Try.func3,Try.ntmps3
  go_wp2_with (go_at_call 5;refine (top_casePalette _).mono ?_;rintro e w' ⟨rfl,hx⟩;obtain ⟨y,rfl⟩:=hx.get;clear hx)
  go_ret
  exact ⟨rfl,ex⟩
 have h60' : (ch.length : Int) ≤ 60:=by omega
 by_cases hg : groupE num ch = 0
 rotate_left
 ·have hz : (groupE num ch != 0) = true:=by simpa using hg
  clear hg
  go_enter Try.func3,Try.ntmps3
  go_wp2_with (first | (go_at_call 4;refine (r14_Check num A k ch _ (HS.out.mono (ex)) hl HK.out).mono ?_;rintro e w' ⟨rfl,hx⟩;obtain ⟨y,rfl⟩:=hx.get;clear hx) | (go_at_call 5;refine (top_casePalette _).mono ?_;rintro e w' ⟨rfl,hx⟩;obtain ⟨y,rfl⟩:=hx.get;clear hx))
  go_ret
  exact ⟨rfl,ex⟩
 have hz : (groupE num ch != 0) = false:=by simpa using hg
 have HG:=Lib.hid (groupE_ok hg)
 clear hg
 by_cases h0 : ch.length = 0
 ·have hz0 : ((ch.length : Int) == 0) = true:=by rw [h0];rfl
  clear h0
  go_enter Try.func3,Try.ntmps3
  go_wp2_with (first | (go_at_call 4;refine (r14_Check num A k ch _ (HS.out.mono (ex)) hl HK.out).mono ?_;rintro e w' ⟨rfl,hx⟩;obtain ⟨y,rfl⟩:=hx.get;clear hx) | (go_at_call 5;refine (top_casePalette _).mono ?_;rintro e w' ⟨rfl,hx⟩;obtain ⟨y,rfl⟩:=hx.get;clear hx))
  go_ret
  exact ⟨rfl,ex⟩
 have hz0 : ((ch.length : Int) == 0) = false:=by rw [beq_eq_false_iff_ne];omega
 have hn1 : 1 ≤ ch.length:=by omega
 clear h0
 go_enter Try.func3,Try.ntmps3
 have hmm:=@run_makeMap Try.prog
 go_wp2_with (first
  | (go_at_call 4;refine (r14_Check num A k ch _ (HS.out.mono (ex)) hl HK.out).mono ?_;rintro e w' ⟨rfl,hx⟩;obtain ⟨y,rfl⟩:=hx.get;clear hx)
  | (go_at_call 6;refine (grp_Fan fr tt ch.length _ hf1 hf2 ht1 ht2 hn1 (by omega)).mono ?_;rintro e w' ⟨D,q,lv,rfl,hx,ho,hlv,hvr⟩;obtain ⟨g,rfl,_,_⟩:=ho.there (i:=0) (by omega);have HLB:=Lib.hid (ho.lt (by have:=ho.le;omega) _ rfl);have HO:=Lib.hid ho.sl;have HL:=Lib.hid hlv;have HV:=Lib.hid hvr;obtain ⟨y1,rfl⟩:=hx.get;clear hx ho hlv hvr))
 clear hmm
 refine wp_nameh (fun W hW => ?_)
 obtain ⟨bm,hbm⟩ : ∃ bm,w.heap.size + 1 + y.n + y1.n = bm:=⟨_,rfl⟩
 have hM:=MapO.new' (w:=xt (xt (w.alloc (.cells #[.int .i64 num,.slice A ch.length k] 24)) y) y1) (n:=w.heap.size + 1 + y.n + y1.n) (by simp [go_sem])
 have hS : Sl W (some ⟨g,0,none⟩) 1 (lv.map iv):=by rw [hW];exact HO.out.mono (ex)
 have hG1 : W.cell? ⟨w.heap.size,1,none⟩ = some (.slice A ch.length k):=by rw [hW];simp [go_sem]
 have hx0 : Ext w W:=by rw [hW];exact (ex)
 have hgb : g ≠ bm:=by have:=HLB.out;rw [← hbm];simp [go_sem] at this;omega
 have hbw : w.heap.size < bm:=by rw [← hbm];omega
 have hM : MapO W bm 0 (lkU ch lv 0):=by rw [hW,← hbm];exact hM
 rw [hbm]
 have HM:=Lib.hid hM
 have HSL:=Lib.hid hS
 have HG1:=Lib.hid hG1
 clear hW hM hS hG1 hbm HLB HO
 go_loopw [68] (fun i wr => ∃ V,V = wr ∧ ∃ j : Nat,j ≤ ch.length ∧ i = .int .i64 j ∧ Ext w V ∧ Hid (MapO V bm j (lkU ch lv j)) ∧ Hid (Sl V (some ⟨g,0,none⟩) 1 (lv.map iv)) ∧ Hid (V.cell? ⟨w.heap.size,1,none⟩ = some (.slice A ch.length k))) (fun i _ => ch.length - (intOf i).toNat)
 case atStart => exact ⟨_,rfl,0,by omega,rfl,hx0,HM,HSL,HG1⟩
 case round =>
  obtain ⟨V,rfl,j,hj,rfl,hx,HM,HSL,HG1⟩:=hrel
  clear hx0
  by_cases hlt : j < ch.length
  ·obtain ⟨c,hc⟩ : ∃ c,ch[j]? = some c:=⟨_,List.getElem?_eq_getElem hlt⟩
   obtain ⟨v,hv⟩ : ∃ v,lv[j]? = some v:=⟨_,List.getElem?_eq_getElem (by rw [HL.out];exact hlt)⟩
   obtain ⟨b,o,rfl,hc0⟩:=(HS.out.mono hx).row1v (i:=j) (by rw [List.getElem?_map,hc];rfl)
   obtain ⟨b2,o2,he,hv0⟩:=HSL.out.row1v (i:=j) (by rw [List.getElem?_map,hv];rfl)
   injection he with he
   injection he with e1 e2
   subst e1 e2
   simp only [Nat.zero_add] at hv0
   have hcr:=HG.out.1 c (List.mem_of_getElem? hc)
   have hvr:=HV.out v (List.mem_of_getElem? hv)
   have HW1:=Lib.hid (wf_sm (z:=c) (by omega) (by omega))
   have HW2:=Lib.hid (wf_sm (z:=v) (by omega) (by omega))
   have HLK:=Lib.hid (show lkU ch lv (j + 1) = fun q => if q = c then some v else lkU ch lv j q by show (fun q => if q = ch.getD j 0 then _ else _) = _;rw [List.getD_eq_getElem?_getD,List.getD_eq_getElem?_getD,hc,hv];rfl)
   have hb0 : (0 : Int) ≤ (j : Int):=by omega
   have hb1 : (j : Int) < (ch.length : Int):=by omega
   clear hc hv hcr hvr
   go_wp2_with (at_mapUpdate;refine wpList_put_mo (w0:=w) rfl _ _ _ rfl bm j _ hx (by omega) (by rfl) HM.out (by unfold maxLen;omega) c v (by rfl) (by rfl) HW1.out HW2.out ?_;intro w1 hx1 hm1 hg1;have HM1:=Lib.hid hm1;have HS1:=Lib.hid (HSL.out.kept hg1 (fun a ha => by injection ha with ha;subst ha;simpa using hgb));have HG2:=Lib.hid (kept_cell hg1 (by omega) HG1.out);clear hm1 hg1)
   go_light
   exact ⟨⟨_,rfl,j + 1,by omega,by go_num,hx1,Lib.hid (by rw [HLK.out];exact HM1.out),HS1,HG2⟩,by simp [intOf];omega⟩
  ·obtain rfl : j = ch.length:=by omega
   obtain ⟨f,hf⟩ : ∃ f,lkU ch lv ch.length = f:=⟨_,rfl⟩
   have HF:=Lib.hid hf
   rw [hf] at HM
   clear hf
   have hvs : w.heap.size < V.heap.size:=lt_of_some (p:=⟨w.heap.size,1,none⟩) (by rw [HG1.out];rfl)
   go_wp2
   go_loopw [13,14] (fun s i wr => ∃ (c : Nat) (H : Option Addr) (q d : Nat) (E : Option Addr) (r e : Nat),c ≤ 999 ∧ i = .int .i64 ((c : Int) + 1) ∧ s = .slice E r e ∧ q ≤ c ∧ r ≤ c ∧ Ext (V.alloc (.cells #[.int .i64 7,.slice H q d] 34)) wr ∧ Hid (q = (ups f c).length) ∧ Hid (r = (ups f c).length) ∧ Hid (Apart2 H E) ∧ Hid (e = 0 → E = none) ∧ Hid (d = 0 → H = none) ∧ Hid (Own (V.alloc (.cells #[.int .i64 7,.slice H q d] 34)) wr 38 3 H q d (((ups f c).map hueOf).map hueR)) ∧ Hid (Own (V.alloc (.cells #[.int .i64 7,.slice H q d] 34)) wr 45 4 E r e (((ups f c).map entOf).map en))) (fun _ i _ => 1000 - (intOf i).toNat)
   case atStart => exact ⟨0,none,0,0,none,0,0,by omega,rfl,rfl,by omega,by omega,ex,Lib.hid rfl,Lib.hid rfl,Lib.hid (fun a b ha => by cases ha),Lib.hid (fun _ => rfl),Lib.hid (fun _ => rfl),Lib.hid (Own.nil _),Lib.hid (Own.nil _)⟩
   case round =>
    obtain ⟨c,H,q,d,E,r,e,hc,rfl,rfl,hq,hr,hxx,HQ,HR,HAP,HE0,HH0,HH,HE⟩:=hrel
    obtain ⟨y2,rfl⟩:=hxx.get
    clear hxx
    have hb0 : (0 : Int) ≤ (c : Int):=by omega
    by_cases hlt2 : c < 999
    ·have hb1 : (c : Int) + 1 ≤ 999:=by omega
     have HWF:=Lib.hid (wf_sm (z:=(c : Int) + 1) (by omega) (by omega))
     cases hfc : f ((c : Int) + 1)
     ·have HFC:=Lib.hid hfc
      have HU:=Lib.hid (ups_no hfc)
      clear hfc
      go_wp2_with (at_lookup;refine wpList_look_no rfl _ _ rfl bm ch.length f (by rfl) (HM.out.mono (ex)) ((c : Int) + 1) (by rfl) HWF.out HFC.out ?_;intro c9)
      go_light
      exact ⟨⟨c + 1,H,q,d,E,r,e,by omega,by go_num,rfl,by omega,by omega,ex,Lib.hid (by rw [HU.out];exact HQ.out),Lib.hid (by rw [HU.out];exact HR.out),HAP,HE0,HH0,Lib.hid (by rw [HU.out];exact HH.out.mono (ex)),Lib.hid (by rw [HU.out];exact HE.out.mono (ex))⟩,by simp [intOf];omega⟩
     ·rename_i v
      have HFC:=Lib.hid hfc
      have HU:=Lib.hid (ups_yes hfc)
      clear hfc
      go_wp2_with (first
       | (at_lookup;refine wpList_look_yes rfl _ _ rfl bm ch.length f (by rfl) (HM.out.mono (ex)) ((c : Int) + 1) v (by rfl) HWF.out HFC.out ?_)
       | (go_at_call 7;refine (r15_Of4 7 _).mono ?_;rintro e w' ⟨rfl,hx⟩;obtain ⟨y,rfl⟩:=hx.get;clear hx)
       | (at_builtin;have hh:=HH1;clear hh;refine wpList_append_mine (w0:=V.alloc (.cells #[.int .i64 7,.slice H1 (q + 1) d1] 34)) rfl _ _ 35 35 rfl 45 45 4 32 Try.underlying35 Try.underlying35 info_E (by decide) (ex) E r e _ rfl ((Own.swapped HE1.out (by simp [go_sem]) (Ext.refl _)).mono (ex)) _ 1 1 [en (entOf ((c : Int) + 1,v))] rfl (Sl.alloc' (by simp [go_sem]) rfl (by simp [en,entOf])) rfl (en_one [entOf ((c : Int) + 1,v)]) (by unfold maxLen;omega) (by omega) (r + 1) rfl _ rfl ?_;intro E1 e1 w1 hx1 hown hg hA;have HE2:=Lib.hid hown;have HH2:=Lib.hid (Own.keptA ((Own.swapped (w:=V.alloc (.cells #[.int .i64 7,.slice H1 (q + 1) d1] 34)) HH1.out (by simp [go_sem]) (Ext.refl _)).mono (ex)) hg HAP1.out.symm);have HAP2:=Lib.hid (Apart2.grow HAP1.out.symm hA ((Own.swapped (w:=V.alloc (.cells #[.int .i64 7,.slice H1 (q + 1) d1] 34)) HH1.out (by simp [go_sem]) (Ext.refl _)).mono (ex)) (fun h => by have:=HH1.out.le;omega)).symm;obtain ⟨y4,rfl⟩:=hx1.get;clear hown hx1 hg hA)
       | (at_builtin;refine wpList_append_mine (w0:=V.alloc (.cells #[.int .i64 7,.slice H q d] 34)) rfl _ _ 32 32 rfl 38 38 3 24 Try.underlying32 Try.underlying32 info_Hue (by decide) (ex) H q d _ rfl (HH.out.mono (ex)) _ 1 1 [hueR (hueOf ((c : Int) + 1,v))] rfl (Sl.alloc' (by simp [go_sem]) rfl (by simp [hueR,hueOf])) rfl (hueR_one [hueOf ((c : Int) + 1,v)]) (by unfold maxLen;omega) (by omega) (q + 1) rfl _ rfl ?_;intro H1 d1 w1 hx1 hown hg hA;have HH1:=Lib.hid hown;have HE1:=Lib.hid (Own.keptA (HE.out.mono (ex)) hg HAP.out);have HAP1:=Lib.hid (Apart2.grow HAP.out hA (HE.out.mono (ex)) HE0.out);obtain ⟨y3,rfl⟩:=hx1.get;clear hown hx1 hg hA))
      go_light
      exact ⟨⟨c + 1,H1,q + 1,d1,E1,r + 1,e1,by omega,by go_num,rfl,by omega,by omega,ex,Lib.hid (by rw [HU.out,List.length_append,← HQ.out];rfl),Lib.hid (by rw [HU.out,List.length_append,← HR.out];rfl),HAP2,Lib.hid (fun h => by have:=HE2.out.le;omega),Lib.hid (fun h => by have:=HH1.out.le;omega),Lib.hid (by rw [HU.out,← hue_app];exact HH2.out.mono (ex)),Lib.hid (by rw [HU.out,← ent_app];exact HE2.out.mono (ex))⟩,by simp [intOf];omega⟩
    ·obtain rfl : c = 999:=by omega
     obtain ⟨us,hus⟩ : ∃ us,ups f 999 = us:=⟨_,rfl⟩
     rw [hus] at HQ HR HH HE
     have HFN:=Lib.hid (show Fanned us by rw [← hus,← HF.out];exact Fanned.of (by omega) HL.out HV.out)
     have HUM:=Lib.hid (show ∀ i,i < ch.length → (ch.getD i 0,lv.getD i 0) ∈ us from fun i hi => by
      have hm : ch.getD i 0 ∈ ch:=by rw [List.getD_eq_getElem?_getD,List.getElem?_eq_getElem hi];exact List.getElem_mem hi
      have hr:=HG.out.1 _ hm
      rw [← hus,← HF.out,ups_mem]
      exact ⟨hr.1,by have:=hr.2;simp only [];omega,lkU_at HG.out.2 hi (Nat.le_refl _)⟩)
     obtain ⟨hu,hhu⟩ : ∃ hu,us.map hueOf = hu:=⟨_,rfl⟩
     obtain ⟨eu,heu⟩ : ∃ eu,us.map entOf = eu:=⟨_,rfl⟩
     obtain ⟨mu,hmu⟩ : ∃ mu,us.map movOf = mu:=⟨_,rfl⟩
     rw [hhu] at HH
     rw [heu] at HE
     have hqq : q = hu.length:=by rw [← hhu,List.length_map];exact HQ.out
     have hrr : r = eu.length:=by rw [← heu,List.length_map];exact HR.out
     subst hqq hrr
     have hul:=HFN.out.len
     have HL1:=Lib.hid (show hu.length ≤ maxLen by rw [← hhu,List.length_map];unfold maxLen;omega)
     have HL2:=Lib.hid (show eu.length ≤ maxLen by rw [← heu,List.length_map];unfold maxLen;omega)
     have HPL:=Lib.hid (show palsE [⟨7,hu,H,d⟩] = 0 by rw [← hhu];exact HFN.out.pal H d)
     have HST:=Lib.hid (show csetV (oneC []) eu 1 = (oneC mu,0) by rw [← heu,← hmu];exact HFN.out.set)
     have hml : mu.length ≤ 60:=by rw [← hmu,List.length_map];exact hul
     have HFI:=Lib.hid (show ∀ i,i < ch.length → findV (oneC mu) ⟨ch.getD i 0,1⟩ = ((posP mu ⟨ch.getD i 0,1⟩ : Int),true,0) ∧ mu[posP mu ⟨ch.getD i 0,1⟩]? = some ⟨⟨ch.getD i 0,1⟩,⟨7,0⟩,1⟩ from fun i hi => by rw [← hmu];exact HFN.out.find (HUM.out i hi))
     have HLE:=Lib.hid (show ∀ i,i < ch.length → levelV [pal6,⟨7,hu,H,d⟩] ⟨7,0⟩ ⟨ch.getD i 0,1⟩ 1 = (lv.getD i 0,0) from fun i hi => by rw [← hhu];exact HFN.out.level (HUM.out i hi) H d)
     have HCU:=Lib.hid (show cueE (oneC mu) = 0 by rw [← hmu];exact HFN.out.cue)
     clear hus HQ HR HAP HE0 HH0 hq hr hlt hlt2 hb0 hc hhu heu hmu HUM
     have hg1:=HG1.out
     go_wp2_with (first
      | (go_at_call 8;refine (pal_Put_ok _ 1 [pal6] ⟨7,hu,H,d⟩ _ (pals_one (x:=pal6) (Sl.alloc' (by simp [go_sem]) rfl (by simp [palR,pal6])) (Sl.nil _ _ _) (by decide)) (by decide) (HH.out.sl.mono (ex)) HL1.out HPL.out (.inr (by decide))).mono ?_;rintro e' w' ⟨D2,d2,he,hx,hp⟩;rw [place6 _ rfl] at he hp;simp only [List.length_cons,List.length_nil,Nat.zero_add] at he;subst he;have HP2:=Lib.hid hp;obtain ⟨y5,rfl⟩:=hx.get;clear hx hp)
      | (go_at_call 9;refine (cue_SetO (oneC []) none 0 _ 1 E e eu 1 _ ⟨Sl.nil _ _ _,Sl.one6 (by simp [go_sem]) (by simp [go_sem]) (by simp [go_sem]) (by simp [go_sem]) (by simp [go_sem]) (by simp [go_sem]),by decide,by decide,by decide,by decide,by decide,by decide,by decide⟩ (HE.out.sl.mono (ex)) HL2.out).mono ?_;rintro e' w' ⟨A3,k3,B3,m3,he,hx,hcu⟩;rw [HST.out] at he hcu;simp only [cueV,oneC,List.length_cons,List.length_nil,Nat.zero_add] at he;subst he;have HC3:=Lib.hid hcu;obtain ⟨y6,rfl⟩:=hx.get;clear hx hcu))
     refine wp_nameh (fun W3 hW3 => ?_)
     obtain ⟨n8,hn8⟩ : ∃ n8,V.heap.size + 1 + y2.n + 1 + y5.n + 1 + y6.n = n8:=⟨_,rfl⟩
     have r0 : W3.cell? ⟨V.heap.size + 1 + y2.n + 1 + y5.n + 1 + y6.n,0,none⟩ = some (.string ⟨#[49]⟩):=by rw [hW3];simp [go_sem]
     have r1 : W3.cell? ⟨V.heap.size + 1 + y2.n + 1 + y5.n + 1 + y6.n,1,none⟩ = some (.string ⟨#[]⟩):=by rw [hW3];simp [go_sem]
     have r2 : W3.cell? ⟨V.heap.size + 1 + y2.n + 1 + y5.n + 1 + y6.n,2,none⟩ = some (.slice A3 mu.length k3):=by rw [hW3];simp [go_sem]
     have r3 : W3.cell? ⟨V.heap.size + 1 + y2.n + 1 + y5.n + 1 + y6.n,3,none⟩ = some (.slice B3 1 m3):=by rw [hW3];simp [go_sem]
     have r4 : W3.cell? ⟨V.heap.size + 1 + y2.n + 1 + y5.n + 1 + y6.n,4,none⟩ = some (.bool false):=by rw [hW3];simp [go_sem]
     have r5 : W3.cell? ⟨V.heap.size + 1 + y2.n + 1 + y5.n + 1 + y6.n,5,none⟩ = some (.bool false):=by rw [hW3];simp [go_sem]
     have r6 : W3.cell? ⟨V.heap.size + 1 + y2.n + 1 + y5.n + 1 + y6.n,6,none⟩ = some (.int .i64 (-1)):=by rw [hW3];simp [go_sem]
     have r7 : W3.cell? ⟨V.heap.size + 1 + y2.n + 1 + y5.n + 1 + y6.n,7,none⟩ = some (.string ⟨#[]⟩):=by rw [hW3];simp [go_sem]
     have r8 : W3.cell? ⟨V.heap.size + 1 + y2.n + 1 + y5.n + 1 + y6.n,8,none⟩ = some (.int .i64 0):=by rw [hW3];simp [go_sem]
     rw [hn8] at r0 r1 r2 r3 r4 r5 r6 r7 r8 ⊢
     have hx3 : Ext V W3:=by rw [hW3];exact (ex)
     have HCA:=Lib.hid (show CueAt W3 (oneC mu) A3 k3 B3 m3 by rw [hW3];exact HC3.out.at_.mono (ex))
     have HPA:=Lib.hid (show Pals W3 D2 [pal6,⟨7,hu,H,d⟩] by rw [hW3];exact HP2.out.mono (ex))
     have HSL3:=Lib.hid (HSL.out.mono hx3)
     have HS3:=Lib.hid (HS.out.mono (hx.trans hx3))
     have HX3:=Lib.hid (hx.trans hx3)
     clear hW3 hn8 HC3 HP2 HH HE HM HSL HG1 hg1 hx hx3 HPL HST HL1 HL2
     go_loopw [130] (fun i wr => ∃ j : Nat,j ≤ ch.length ∧ i = .int .i64 j ∧ Ext W3 wr) (fun i _ => ch.length - (intOf i).toNat)
     case atStart => exact ⟨0,by omega,rfl,Ext.refl _⟩
     case round =>
      obtain ⟨j,hj,rfl,hxr⟩:=hrel
      obtain ⟨y7,rfl⟩:=hxr.get
      clear hxr
      by_cases hlj : j < ch.length
      ·obtain ⟨c,hc⟩ : ∃ c,ch[j]? = some c:=⟨_,List.getElem?_eq_getElem hlj⟩
       obtain ⟨v,hv⟩ : ∃ v,lv[j]? = some v:=⟨_,List.getElem?_eq_getElem (by rw [HL.out];exact hlj)⟩
       have hfi:=HFI.out j hlj
       have hle:=HLE.out j hlj
       rw [List.getD_eq_getElem?_getD,hc,Option.getD_some] at hfi hle
       rw [List.getD_eq_getElem?_getD,hv,Option.getD_some] at hle
       obtain ⟨ps,hps⟩ : ∃ ps,posP mu ⟨c,1⟩ = ps:=⟨_,rfl⟩
       rw [hps] at hfi
       have HFJ:=Lib.hid hfi.1
       have HLJ:=Lib.hid hle
       have hpl : ps < mu.length:=(List.getElem?_eq_some_iff.1 hfi.2).1
       obtain ⟨b,o,rfl,hc0⟩:=HS3.out.row1v (i:=j) (by rw [List.getElem?_map,hc];rfl)
       obtain ⟨b2,o2,he,hv0⟩:=HSL3.out.row1v (i:=j) (by rw [List.getElem?_map,hv];rfl)
       injection he with he
       injection he with e1 e2
       subst e1 e2
       simp only [Nat.zero_add] at hv0
       obtain ⟨b5,o5,rfl,hm0,hm1,hm2,hm3,hm4⟩:=HCA.out.mv.row5 (i:=ps) (by show (mu.map mv)[ps]? = _;rw [List.getElem?_map,hfi.2];rfl)
       have hb0 : (0 : Int) ≤ (j : Int):=by omega
       have hb1 : (j : Int) < (ch.length : Int):=by omega
       have hb2 : (0 : Int) ≤ (ps : Int):=by omega
       have hb3 : (ps : Int) < (mu.length : Int):=by omega
       clear hc hv hfi hle hps
       go_wp2_with (go_at_call 10;refine (cue_Find (oneC mu) _ k3 B3 m3 ⟨c,1⟩ _ (HCA.out.mono (ex))).mono ?_;rintro e' w' ⟨he,hx⟩;rw [HFJ.out] at he;dsimp only at he;subst he;obtain ⟨y8,rfl⟩:=hx.get;clear hx)
       (refine wp_region_grows (by kernel_rfl) (by kernel_rfl) ?_;(repeat (go_big_quiet_step ((go_at_call 11;exact Calls.grows (pal_Level_as HLJ.out D2 d2 _ (HPA.out.mono (ex)) (by exact (by decide : 2 ≤ maxLen)))))));refine wpQuiet_nil ?_;rintro _ ⟨y,rfl⟩)
       go_wp2
       go_light
       exact ⟨⟨j + 1,by omega,by go_num,ex⟩,by simp [intOf];omega⟩
      ·go_wp2_with (go_at_call 5;refine (top_casePalette _).mono ?_;rintro e w' ⟨rfl,hx⟩;obtain ⟨y,rfl⟩:=hx.get;clear hx)
       go_ret
       exact ⟨rfl,HX3.out.trans (ex)⟩
end Go.Proofs.Ytgbecbnjokkfoaa
