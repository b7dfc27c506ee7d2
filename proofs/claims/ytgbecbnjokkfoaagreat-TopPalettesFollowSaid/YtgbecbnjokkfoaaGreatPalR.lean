import Derived.Test.YtgbecbnjokkfoaaGreatGpal
import Derived.Test.YtgbecbnjokkfoaaGreatEnt
namespace Go.Proofs.YtgbecbnjokkfoaaGreat
set_option maxHeartbeats 1600000
set_option maxRecDepth 100000
open Go.RowKit

theorem r15_IsLevel (v : Int) (w : World) : Calls Tryz.prog 32 #[.int .i64 v] w fun e w' => e = .returned (.bool (levB v)) ∧ Ext w w':=by
  go_enter Tryz.func32,Tryz.ntmps32
  go_wp2
  all_goals
    go_ret
    go_light
    refine ⟨ret_b ?_,ex⟩
    first | grind [levB] | simp [levB, *]

theorem r15_hues (A : Option Addr) (c : Nat) (l : List Hue) (w : World) (hs : Sl w A 3 (l.map hueR)) (hl : l.length ≤ maxLen) :
    Calls Tryz.prog 12 #[.slice A l.length c] w fun e w' => e = .returned (.int .i64 (huesE l)) ∧ Ext w w':=by
  unfold maxLen at hl
  by_cases h128 : 256 < l.length
  · go_enter Tryz.func12,Tryz.ntmps12
    go_wp2
    go_ret
    exact ⟨ret_i (by simp [huesE,h128]),Ext.refl _⟩
  have h0 : (0 : Int) ≤ l.length:=by omega
  have HM : Hid (huesE l = scan hueE none l):=Lib.hid (by unfold huesE;rw [if_neg h128])
  go_enter Tryz.func12,Tryz.ntmps12
  go_wp2
  go_loopw [3] (fun i wr => ∃ k : Nat,k ≤ l.length ∧ i = .int .i64 k ∧ Ext w wr ∧ Hid (huesE l = scan hueE (prv l k) (l.drop k))) (fun i _ => l.length - (intOf i).toNat)
  case atStart => exact ⟨0,by omega,rfl,Ext.refl _,HM⟩
  case round =>
    obtain ⟨k,hk,rfl,hx,HE⟩:=hrel
    obtain ⟨y,rfl⟩:=hx.get
    clear hx HM
    by_cases hlt : k < l.length
    · obtain ⟨m,hm⟩ : ∃ m,l[k]? = some m:=⟨_,List.getElem?_eq_getElem hlt⟩
      obtain ⟨b,o,rfl,hc0,hc1,hc2⟩:=hs.row3 (i:=k) (by rw [List.getElem?_map,hm];rfl)
      have HS:=Lib.hid (HE.out.trans (scan_at hueE l k m hm))
      have hb0 : (0 : Int) ≤ (k : Int):=by omega
      have hb1 : (k : Int) < (l.length : Int):=by omega
      clear HE
      cases hlv : levB m.lev
      · have HV:=Lib.hid (show huesE l = 2 by
          have h1 : hueE (prv l k) m = 2:=by unfold hueE hueE1;rw [hlv];rfl
          rw [HS.out,h1];rfl)
        clear hm hs
        go_wp2_with (go_at_call 32;refine (r15_IsLevel m.lev _).mono ?_;rintro e w' ⟨rfl,hx⟩;obtain ⟨y,rfl⟩:=hx.get;clear hx)
        all_goals (go_ret;rw [HV.out];exact ⟨rfl,ex⟩)
      · have HE1:=Lib.hid (show hueE1 m = paramE0 m.p by unfold hueE1;rw [hlv];rfl)
        by_cases hk0 : 0 < k
        · obtain ⟨m',hm'⟩ : ∃ m',l[k - 1]? = some m':=⟨_,List.getElem?_eq_getElem (by omega)⟩
          obtain ⟨b',o',he,hp0,hp1,hp2⟩:=hs.row3 (i:=k - 1) (by rw [List.getElem?_map,hm'];rfl)
          injection he with he
          injection he with hb ho
          subst hb ho
          have HP:=Lib.hid (show prv l k = some m' by unfold prv;rw [if_neg (by omega),hm'])
          clear hm hm' hs hp2
          go_wp2_with (go_at_call 32;refine (r15_IsLevel m.lev _).mono ?_;rintro e w' ⟨rfl,hx⟩;obtain ⟨y,rfl⟩:=hx.get;clear hx)
          all_goals try (go_ret;go_light;refine ⟨ret_i ?_,ex⟩;have hS:=HS.out;have h1:=HE1.out;rw [HP.out] at hS;unfold paramE0 at h1;grind [hueE])
          (refine wp_region_grows (by kernel_rfl) (by kernel_rfl) ?_;(repeat (go_big_quiet_step ((go_at_call 33;exact Calls.grows (r15_Before m'.p m.p _)))));refine wpQuiet_nil ?_;rintro _ ⟨y,rfl⟩)
          go_wp2
          · go_ret
            go_light
            have hS:=HS.out
            have h1:=HE1.out
            refine ⟨ret_i ?_,ex⟩
            rw [HP.out] at hS
            unfold paramE0 at h1
            grind [hueE]
          · go_light
            have hS:=HS.out
            have h1:=HE1.out
            refine ⟨⟨k + 1,by omega,by go_num,ex,Lib.hid ?_⟩,by simp [intOf];omega⟩
            rw [HP.out] at hS
            unfold paramE0 at h1
            grind [hueE]
        · have HP : Hid (prv l k = none):=Lib.hid (by unfold prv;rw [if_pos (by omega)])
          obtain rfl : k = 0:=by omega
          simp only [Nat.zero_mul,Nat.add_zero] at hc0 hc1 hc2
          clear hm hs hk0
          go_wp2_with (go_at_call 32;refine (r15_IsLevel m.lev _).mono ?_;rintro e w' ⟨rfl,hx⟩;obtain ⟨y,rfl⟩:=hx.get;clear hx)
          all_goals try (go_ret;go_light;refine ⟨ret_i ?_,ex⟩;have hS:=HS.out;have h1:=HE1.out;rw [HP.out] at hS;unfold paramE0 at h1;grind [hueE])
          (refine wp_region_grows (by kernel_rfl) (by kernel_rfl) ?_;(repeat (go_big_quiet_step (fail)));refine wpQuiet_nil ?_;rintro _ ⟨y,rfl⟩)
          go_wp2
          go_light
          have hS:=HS.out
          have h1:=HE1.out
          refine ⟨⟨1,by omega,by rfl,ex,Lib.hid ?_⟩,by simp [intOf];omega⟩
          rw [HP.out] at hS
          unfold paramE0 at h1
          grind [hueE]
    · have HS:=Lib.hid (HE.out.trans (scan_end hueE l k _ (by omega)))
      go_wp2
      go_ret
      rw [HS.out]
      exact ⟨rfl,ex⟩

theorem r15_PCheck (A : Option Addr) (c : Nat) (l : List Pal) (w : World) (hp : Pals w A l) (hl : l.length ≤ maxLen) :
    Calls Tryz.prog 5 #[.slice A l.length c] w fun e w' => e = .returned (.int .i64 (palsE l)) ∧ Ext w w':=by
  unfold maxLen at hl
  by_cases h128 : 32 < l.length
  · go_enter Tryz.func5,Tryz.ntmps5
    go_wp2
    go_ret
    exact ⟨ret_i (by simp [palsE,h128]),Ext.refl _⟩
  have hs:=hp.sl
  have HU:=Lib.hid hp.hu
  clear hp
  have h0 : (0 : Int) ≤ l.length:=by omega
  have HM : Hid (palsE l = scan palE none l):=Lib.hid (by unfold palsE;rw [if_neg h128])
  go_enter Tryz.func5,Tryz.ntmps5
  go_wp2
  go_loopw [3] (fun i wr => ∃ k : Nat,k ≤ l.length ∧ i = .int .i64 k ∧ Ext w wr ∧ Hid (palsE l = scan palE (prv l k) (l.drop k))) (fun i _ => l.length - (intOf i).toNat)
  case atStart => exact ⟨0,by omega,rfl,Ext.refl _,HM⟩
  case round =>
    obtain ⟨k,hk,rfl,hx,HE⟩:=hrel
    obtain ⟨y,rfl⟩:=hx.get
    clear hx HM
    by_cases hlt : k < l.length
    · obtain ⟨m,hm⟩ : ∃ m,l[k]? = some m:=⟨_,List.getElem?_eq_getElem hlt⟩
      have HMU:=Lib.hid (HU.out m (List.mem_of_getElem? hm))
      obtain ⟨b,o,rfl,hc0,hc1⟩:=hs.row2 (i:=k) (by rw [List.getElem?_map,hm];rfl)
      have HS:=Lib.hid (HE.out.trans (scan_at palE l k m hm))
      have hb0 : (0 : Int) ≤ (k : Int):=by omega
      have hb1 : (k : Int) < (l.length : Int):=by omega
      clear HE
      by_cases hk0 : 0 < k
      · obtain ⟨m',hm'⟩ : ∃ m',l[k - 1]? = some m':=⟨_,List.getElem?_eq_getElem (by omega)⟩
        obtain ⟨b',o',he,hp0,hp1⟩:=hs.row2 (i:=k - 1) (by rw [List.getElem?_map,hm'];rfl)
        injection he with he
        injection he with hb ho
        subst hb ho
        have HP:=Lib.hid (show prv l k = some m' by unfold prv;rw [if_neg (by omega),hm'])
        clear hm hm' hs hp1
        go_wp2
        all_goals try (go_ret;go_light;refine ⟨ret_i ?_,ex⟩;have hS:=HS.out;rw [HP.out] at hS;grind [palE])
        (refine wp_region_grows (by kernel_rfl) (by kernel_rfl) ?_;(repeat (go_big_quiet_step (fail)));refine wpQuiet_nil ?_;rintro _ ⟨y,rfl⟩)
        go_wp2_with (go_at_call 12;refine (r15_hues m.at_ m.cap m.hues _ (HMU.out.1.mono (ex)) HMU.out.2).mono ?_;rintro e w' ⟨rfl,hx⟩;obtain ⟨y,rfl⟩:=hx.get;clear hx)
        all_goals first
          | (go_ret;go_light;refine ⟨ret_i ?_,ex⟩;have hS:=HS.out;rw [HP.out] at hS;grind [palE])
          | (go_light
             have hS:=HS.out
             refine ⟨⟨k + 1,by omega,by go_num,ex,Lib.hid ?_⟩,by simp [intOf];omega⟩
             rw [HP.out] at hS
             grind [palE])
      · have HP : Hid (prv l k = none):=Lib.hid (by unfold prv;rw [if_pos (by omega)])
        obtain rfl : k = 0:=by omega
        simp only [Nat.zero_mul,Nat.add_zero] at hc0 hc1
        clear hm hs hk0
        go_wp2
        all_goals try (go_ret;go_light;refine ⟨ret_i ?_,ex⟩;have hS:=HS.out;rw [HP.out] at hS;grind [palE])
        (refine wp_region_grows (by kernel_rfl) (by kernel_rfl) ?_;(repeat (go_big_quiet_step (fail)));refine wpQuiet_nil ?_;rintro _ ⟨y,rfl⟩)
        go_wp2_with (go_at_call 12;refine (r15_hues m.at_ m.cap m.hues _ (HMU.out.1.mono (ex)) HMU.out.2).mono ?_;rintro e w' ⟨rfl,hx⟩;obtain ⟨y,rfl⟩:=hx.get;clear hx)
        all_goals first
          | (go_ret;go_light;refine ⟨ret_i ?_,ex⟩;have hS:=HS.out;rw [HP.out] at hS;grind [palE])
          | (go_light
             have hS:=HS.out
             refine ⟨⟨1,by omega,by rfl,ex,Lib.hid ?_⟩,by simp [intOf];omega⟩
             rw [HP.out] at hS
             grind [palE])
    · have HS:=Lib.hid (HE.out.trans (scan_end palE l k _ (by omega)))
      go_wp2
      go_ret
      rw [HS.out]
      exact ⟨rfl,ex⟩

def fewP (l : List Pal) : Bool:=decide (l.length ≤ 64) && l.all fun p => decide (p.hues.length ≤ 512)
def fewPk (l : List Pal) (k : Nat) : Bool:=(l.drop k).all fun p => decide (p.hues.length ≤ 512)
theorem fewPk_at {l : List Pal} {k : Nat} {m : Pal} (h : l[k]? = some m) : fewPk l k = (decide (m.hues.length ≤ 512) && fewPk l (k + 1)):=by
  unfold fewPk
  obtain ⟨h1,rfl⟩:=List.getElem?_eq_some_iff.1 h
  rw [List.drop_eq_getElem_cons h1,List.all_cons]
theorem r15_PFew (A : Option Addr) (c : Nat) (l : List Pal) (w : World) (hp : Pals w A l) (hl : l.length ≤ maxLen) :
    Calls Tryz.prog 4 #[.slice A l.length c] w fun e w' => e = .returned (.bool (fewP l)) ∧ Ext w w':=by
  unfold maxLen at hl
  by_cases h128 : 64 < l.length
  · have HV:=Lib.hid (show fewP l = false by unfold fewP;rw [decide_eq_false (by omega)];rfl)
    go_enter Tryz.func4,Tryz.ntmps4
    go_wp2
    go_ret
    rw [HV.out]
    exact ⟨rfl,Ext.refl _⟩
  have hs:=hp.sl
  clear hp
  have h0 : (0 : Int) ≤ l.length:=by omega
  have HM:=Lib.hid (show fewP l = fewPk l 0 by unfold fewP fewPk;rw [decide_eq_true (by omega)];rfl)
  go_enter Tryz.func4,Tryz.ntmps4
  go_wp2
  go_loopw [3] (fun i wr => ∃ k : Nat,k ≤ l.length ∧ i = .int .i64 k ∧ Ext w wr ∧ Hid (fewP l = fewPk l k)) (fun i _ => l.length - (intOf i).toNat)
  case atStart => exact ⟨0,by omega,rfl,Ext.refl _,HM⟩
  case round =>
    obtain ⟨k,hk,rfl,hx,HE⟩:=hrel
    obtain ⟨y,rfl⟩:=hx.get
    clear hx HM
    by_cases hlt : k < l.length
    · obtain ⟨m,hm⟩ : ∃ m,l[k]? = some m:=⟨_,List.getElem?_eq_getElem hlt⟩
      obtain ⟨b,o,rfl,hc0,hc1⟩:=hs.row2 (i:=k) (by rw [List.getElem?_map,hm];rfl)
      have HS:=Lib.hid (HE.out.trans (fewPk_at hm))
      have hb0 : (0 : Int) ≤ (k : Int):=by omega
      have hb1 : (k : Int) < (l.length : Int):=by omega
      clear HE hm hs
      by_cases h5 : 512 < m.hues.length
      · have hd : decide ((512 : Int) < (m.hues.length : Int)) = true:=decide_eq_true (by omega)
        have HV:=Lib.hid (show fewP l = false by rw [HS.out,decide_eq_false (by omega)];rfl)
        go_wp2
        go_ret
        rw [HV.out]
        exact ⟨rfl,ex⟩
      · have hd : decide ((512 : Int) < (m.hues.length : Int)) = false:=decide_eq_false (by omega)
        have HV:=Lib.hid (show fewP l = fewPk l (k + 1) by rw [HS.out,decide_eq_true (by omega)];rfl)
        go_wp2
        go_light
        exact ⟨⟨k + 1,by omega,by go_num,ex,HV⟩,by simp [intOf];omega⟩
    · have HV:=Lib.hid (show fewP l = true by rw [HE.out];unfold fewPk;rw [List.drop_eq_nil_of_le (by omega)];rfl)
      go_wp2
      go_ret
      rw [HV.out]
      exact ⟨rfl,ex⟩
end Go.Proofs.YtgbecbnjokkfoaaGreat
