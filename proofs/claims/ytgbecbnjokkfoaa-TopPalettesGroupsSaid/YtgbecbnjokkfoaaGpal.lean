import Derived.Test.YtgbecbnjokkfoaaEnt
set_option maxHeartbeats 1600000
set_option maxRecDepth 100000
namespace Go.Proofs.Ytgbecbnjokkfoaa
open Go.RowKit

structure Hue where
  p : Param
  lev : Int
  deriving DecidableEq
def hueR (h : Hue) : List Value:=[.int .i64 h.p.ch,.int .i64 h.p.attr,.int .i64 h.lev]
def levB (v : Int) : Bool:=decide (0 ≤ v) && decide (v ≤ 65535)
def paramE0 (p : Param) : Int:=if p.ch < 0 ∨ 999 < p.ch ∨ p.attr < 0 ∨ 15 ≤ p.attr then 2 else 0
def hueE1 (h : Hue) : Int:=if levB h.lev then paramE0 h.p else 2
def hueE (q : Option Hue) (h : Hue) : Int:=if hueE1 h ≠ 0 then hueE1 h else match q with | some n => if before n.p h.p then 0 else 9 | none => 0
def huesE (l : List Hue) : Int:=if 256 < l.length then 5 else scan hueE none l
theorem paramE0_ok {p : Param} (h : paramE0 p = 0) : 0 ≤ p.ch ∧ p.ch ≤ 999 ∧ 0 ≤ p.attr ∧ p.attr < 15:=by
  unfold paramE0 at h;split at h <;> omega
theorem hueE1_ok {h : Hue} (e : hueE1 h = 0) : paramE0 h.p = 0:=by
  unfold hueE1 at e
  split at e
  · exact e
  · simp at e
theorem paramE_zero {p : Param} (h : paramE p = 0) : paramE0 p = 0:=by
  have:=paramE_ok h
  unfold paramE0
  rw [if_neg (by omega)]

theorem pal_level (v : Int) (w : World) : Calls Try.prog 28 #[.int .i64 v] w fun e w' => e = .returned (.bool (levB v)) ∧ Ext w w':=by
  go_enter Try.func28,Try.ntmps28
  go_wp2
  all_goals
    go_ret
    go_light
    refine ⟨ret_b ?_,ex⟩
    first | grind [levB] | simp [levB, *]
theorem pal_param0 (p : Param) (w : World) : Calls Try.prog 27 #[.agg (prm p).toArray,.int .i64 0] w fun e w' => e = .returned (.int .i64 (paramE0 p)) ∧ Ext w w':=by
  simp only [prm]
  go_enter Try.func27,Try.ntmps27
  go_wp2
  all_goals
    go_ret
    go_light
    refine ⟨ret_i ?_,ex⟩
    grind [paramE0]
theorem pal_compare0 (p q : Param) (w : World) (hp : paramE0 p = 0) (hq : paramE0 q = 0) : Calls Try.prog 47 #[.agg (prm p).toArray,.agg (prm q).toArray] w fun e w' => e = .returned (.int .i64 (cmpP p q)) ∧ Ext w w':=by
  obtain ⟨h1,h2,h3,h4⟩:=paramE0_ok hp
  obtain ⟨h5,h6,h7,h8⟩:=paramE0_ok hq
  clear hp hq
  simp only [prm]
  go_enter Try.func47,Try.ntmps47
  go_wp2
  all_goals
    go_ret
    go_light
    refine ⟨ret_i ?_,ex⟩
    grind [cmpP]
theorem pal_place (h : Hue) (w : World) : Calls Try.prog 56 #[.agg (hueR h).toArray] w fun e w' => e = .returned (.agg #[.int .i64 h.p.ch,.int .i64 h.p.attr]) ∧ Ext w w':=by
  simp only [hueR]
  go_enter Try.func56,Try.ntmps56
  go_wp2
  exact bodyPost_ret (v:=.agg #[.int .i64 h.p.ch,.int .i64 h.p.attr]) (by simp [results,Try.results56,go_sem]) rfl ⟨rfl,ex⟩
theorem pal_hues1 (h : Hue) (w : World) : Calls Try.prog 57 #[.agg (hueR h).toArray] w fun e w' => e = .returned (.int .i64 (hueE1 h)) ∧ Ext w w':=by
  cases hl : levB h.lev
  all_goals
    simp only [hueR]
    go_enter Try.func57,Try.ntmps57
    go_wp2_with (first | (go_at_call 28;refine (pal_level h.lev _).mono ?_;rintro e w' ⟨rfl,hx⟩;obtain ⟨y,rfl⟩:=hx.get;clear hx) | (go_at_call 56;refine (pal_place h _).mono ?_;rintro e w' ⟨rfl,hx⟩;obtain ⟨y,rfl⟩:=hx.get;clear hx) | (go_at_call 27;refine (pal_param0 h.p _).mono ?_;rintro e w' ⟨rfl,hx⟩;obtain ⟨y,rfl⟩:=hx.get;clear hx))
    go_ret
    refine ⟨ret_i ?_,ex⟩
    unfold hueE1
    rw [hl];rfl
theorem pal_hues2 (h g : Hue) (w : World) (hp : paramE0 h.p = 0) (hq : paramE0 g.p = 0) : Calls Try.prog 59 #[.agg (hueR h).toArray,.agg (hueR g).toArray] w fun e w' => e = .returned (.int .i64 (cmpP h.p g.p)) ∧ Ext w w':=by
  have HP:=Lib.hid hp
  have HQ:=Lib.hid hq
  clear hp hq
  simp only [hueR]
  go_enter Try.func59,Try.ntmps59
  go_wp2
  (refine wp_region_grows (by kernel_rfl) (by kernel_rfl) ?_;(repeat (go_big_quiet_step (first | (go_at_call 56;exact Calls.grows (pal_place (⟨⟨_,_⟩,_⟩ : Hue) _)) | (go_at_call 47;exact Calls.grows (pal_compare0 h.p g.p _ HP.out HQ.out)))));refine wpQuiet_nil ?_;rintro _ ⟨y,rfl⟩)
  go_wp2
  go_ret
  exact ⟨rfl,ex⟩

theorem pal_listH (A : Option Addr) (c : Nat) (l : List Hue) (w : World) (hs : Sl w A 3 (l.map hueR)) (hl : l.length ≤ maxLen) :
    Calls Try.prog 58 #[.slice A l.length c,.int .i64 256,.func (Fn.func 57) #[] #[],.func (Fn.func 59) #[] #[]] w fun e w' => e = .returned (.int .i64 (huesE l)) ∧ Ext w w':=by
  unfold maxLen at hl
  by_cases h128 : 256 < l.length
  · go_enter Try.func58,Try.ntmps58
    go_wp2
    go_ret
    exact ⟨ret_i (by simp [huesE,h128]),Ext.refl _⟩
  have h0 : (0 : Int) ≤ l.length:=by omega
  have HM : Hid (huesE l = scan hueE none l):=Lib.hid (by unfold huesE;rw [if_neg h128])
  go_enter Try.func58,Try.ntmps58
  go_wp2
  go_loopw [18] (fun i wr => ∃ k : Nat,k ≤ l.length ∧ i = .int .i64 k ∧ Ext w wr ∧ Hid (huesE l = scan hueE (prv l k) (l.drop k)) ∧ Hid (∀ m',prv l k = some m' → paramE0 m'.p = 0)) (fun i _ => l.length - (intOf i).toNat)
  case atStart => exact ⟨0,by omega,rfl,Ext.refl _,HM,Lib.hid (by intro m' h;simp [prv] at h)⟩
  case round =>
    obtain ⟨k,hk,rfl,hx,HE,HQ⟩:=hrel
    obtain ⟨y,rfl⟩:=hx.get
    clear hx HM
    by_cases hlt : k < l.length
    · obtain ⟨m,hm⟩ : ∃ m,l[k]? = some m:=⟨_,List.getElem?_eq_getElem hlt⟩
      have HMM:=Lib.hid hm
      obtain ⟨b,o,rfl,hc0,hc1,hc2⟩:=hs.row3 (i:=k) (by rw [List.getElem?_map,hm];rfl)
      have HS:=Lib.hid (HE.out.trans (scan_at hueE l k m hm))
      have hb0 : (0 : Int) ≤ (k : Int):=by omega
      have hb1 : (k : Int) < (l.length : Int):=by omega
      clear HE
      by_cases he : hueE1 m = 0
      · have HI:=Lib.hid (hueE1_ok he)
        have he' : (hueE1 m != 0) = false:=by simpa using he
        have HE1:=Lib.hid he
        clear he
        by_cases hk0 : 0 < k
        · obtain ⟨m',hm'⟩ : ∃ m',l[k - 1]? = some m':=⟨_,List.getElem?_eq_getElem (by omega)⟩
          obtain ⟨b',o',he,hp0,hp1,hp2⟩:=hs.row3 (i:=k - 1) (by rw [List.getElem?_map,hm'];rfl)
          injection he with he
          injection he with hb ho
          subst hb ho
          have hP : prv l k = some m':=by unfold prv;rw [if_neg (by omega),hm']
          have HP:=Lib.hid hP
          have HQ':=Lib.hid (HQ.out m' hP)
          have HB:=Lib.hid (cmpP_before m'.p m.p)
          clear hm hm' hs hP HQ
          go_wp2_with (go_at_call 57;refine (pal_hues1 m _).mono ?_;rintro e w' ⟨rfl,hx⟩;obtain ⟨y,rfl⟩:=hx.get;clear hx)
          (refine wp_region_grows (by kernel_rfl) (by kernel_rfl) ?_;(repeat (go_big_quiet_step ((go_at_call 59;exact Calls.grows (pal_hues2 m' m _ HQ'.out HI.out)))));refine wpQuiet_nil ?_;rintro _ ⟨y,rfl⟩)
          go_wp2
          · go_ret
            go_light
            refine ⟨ret_i ?_,ex⟩
            have hS:=HS.out
            have hB:=HB.out
            have h1:=HE1.out
            rw [HP.out] at hS
            grind [hueE]
          · go_light
            have hS:=HS.out
            have hB:=HB.out
            have h1:=HE1.out
            refine ⟨⟨k + 1,by omega,by go_num,ex,Lib.hid ?_,Lib.hid ?_⟩,by simp [intOf];omega⟩
            · rw [HP.out] at hS
              grind [hueE]
            · intro n hn
              rw [prv_succ,HMM.out] at hn
              injection hn with hn
              subst hn
              exact HI.out
        · have HP : Hid (prv l k = none):=Lib.hid (by unfold prv;rw [if_pos (by omega)])
          obtain rfl : k = 0:=by omega
          simp only [Nat.zero_mul,Nat.add_zero] at hc0 hc1 hc2
          clear hm hs hk0 HQ
          go_wp2_with (go_at_call 57;refine (pal_hues1 m _).mono ?_;rintro e w' ⟨rfl,hx⟩;obtain ⟨y,rfl⟩:=hx.get;clear hx)
          (refine wp_region_grows (by kernel_rfl) (by kernel_rfl) ?_;(repeat (go_big_quiet_step (fail)));refine wpQuiet_nil ?_;rintro _ ⟨y,rfl⟩)
          go_wp2
          go_light
          have hS:=HS.out
          have h1:=HE1.out
          refine ⟨⟨1,by omega,by rfl,ex,Lib.hid ?_,Lib.hid ?_⟩,by simp [intOf];omega⟩
          · rw [HP.out] at hS
            grind [hueE]
          · intro n hn
            rw [prv_succ,HMM.out] at hn
            injection hn with hn
            subst hn
            exact HI.out
      · have he' : (hueE1 m != 0) = true:=by simpa using he
        have HE1:=Lib.hid he
        clear he hm hs
        go_wp2_with (go_at_call 57;refine (pal_hues1 m _).mono ?_;rintro e w' ⟨rfl,hx⟩;obtain ⟨y,rfl⟩:=hx.get;clear hx)
        go_ret
        go_light
        refine ⟨ret_i ?_,ex⟩
        have hS:=HS.out
        have h1:=HE1.out
        have h2 : hueE (prv l k) m = hueE1 m:=by unfold hueE;rw [if_pos h1]
        rw [h2,if_pos h1] at hS
        exact hS.symm
    · have HS:=Lib.hid (HE.out.trans (scan_end hueE l k _ (by omega)))
      go_wp2
      go_ret
      rw [HS.out]
      exact ⟨rfl,ex⟩
theorem pal_hues (A : Option Addr) (c : Nat) (l : List Hue) (w : World) (hs : Sl w A 3 (l.map hueR)) (hl : l.length ≤ maxLen) :
    Calls Try.prog 31 #[.slice A l.length c] w fun e w' => e = .returned (.int .i64 (huesE l)) ∧ Ext w w':=by
  go_enter Try.func31,Try.ntmps31
  go_wp2_with (go_at_call 58;refine (pal_listH A c l _ hs hl).mono ?_;rintro e w' ⟨rfl,hx⟩;obtain ⟨y,rfl⟩:=hx.get;clear hx)
  go_ret
  exact ⟨rfl,ex⟩
end Go.Proofs.Ytgbecbnjokkfoaa

namespace Go.Proofs.Ytgbecbnjokkfoaa
open Go.RowKit

structure Pal where
  number : Int
  hues : List Hue
  at_ : Option Addr
  cap : Nat
def palR (p : Pal) : List Value:=[.int .i64 p.number,.slice p.at_ p.hues.length p.cap]
structure Pals (w : World) (A : Option Addr) (l : List Pal) : Prop where
  sl : Sl w A 2 (l.map palR)
  hu : ∀ p ∈ l,Sl w p.at_ 3 (p.hues.map hueR) ∧ p.hues.length ≤ maxLen
theorem Pals.mono {w w' : World} {A : Option Addr} {l : List Pal} (h : Pals w A l) (hx : Ext w w') : Pals w' A l:=⟨h.sl.mono hx,fun p hp => ⟨(h.hu p hp).1.mono hx,(h.hu p hp).2⟩⟩
def palE (q : Option Pal) (p : Pal) : Int:=if p.number < 1 ∨ 1048576 < p.number then 2 else if (match q with | some n => decide (p.number ≤ n.number) | none => false) then 9 else huesE p.hues
def palsE (l : List Pal) : Int:=if 32 < l.length then 5 else scan palE none l

theorem pal_Check (A : Option Addr) (c : Nat) (l : List Pal) (w : World) (hp : Pals w A l) (hl : l.length ≤ maxLen) :
    Calls Try.prog 16 #[.slice A l.length c] w fun e w' => e = .returned (.int .i64 (palsE l)) ∧ Ext w w':=by
  unfold maxLen at hl
  by_cases h128 : 32 < l.length
  · go_enter Try.func16,Try.ntmps16
    go_wp2
    go_ret
    exact ⟨ret_i (by simp [palsE,h128]),Ext.refl _⟩
  have hs:=hp.sl
  have HU:=Lib.hid hp.hu
  clear hp
  have h0 : (0 : Int) ≤ l.length:=by omega
  have HM : Hid (palsE l = scan palE none l):=Lib.hid (by unfold palsE;rw [if_neg h128])
  go_enter Try.func16,Try.ntmps16
  go_wp2
  go_loopw [11] (fun i wr => ∃ k : Nat,k ≤ l.length ∧ i = .int .i64 k ∧ Ext w wr ∧ Hid (palsE l = scan palE (prv l k) (l.drop k))) (fun i _ => l.length - (intOf i).toNat)
  case atStart => exact ⟨0,by omega,rfl,Ext.refl _,HM⟩
  case round =>
    obtain ⟨k,hk,rfl,hx,HE⟩:=hrel
    obtain ⟨y,rfl⟩:=hx.get
    clear hx HM
    by_cases hlt : k < l.length
    · obtain ⟨m,hm⟩ : ∃ m,l[k]? = some m:=⟨_,List.getElem?_eq_getElem hlt⟩
      have HMU:=Lib.hid (HU.out m (List.mem_of_getElem? hm))
      obtain ⟨b,o,rfl,hc0,hc1⟩:=hs.row2 (i:=k) (by rw [List.getElem?_map,hm];rfl)
      have HS:=Lib.hid (HE.out.trans (scan_at palE l k m hm))
      have hb0 : (0 : Int) ≤ (k : Int):=by omega
      have hb1 : (k : Int) < (l.length : Int):=by omega
      clear HE
      by_cases hk0 : 0 < k
      · obtain ⟨m',hm'⟩ : ∃ m',l[k - 1]? = some m':=⟨_,List.getElem?_eq_getElem (by omega)⟩
        obtain ⟨b',o',he,hp0,hp1⟩:=hs.row2 (i:=k - 1) (by rw [List.getElem?_map,hm'];rfl)
        injection he with he
        injection he with hb ho
        subst hb ho
        have HP:=Lib.hid (show prv l k = some m' by unfold prv;rw [if_neg (by omega),hm'])
        clear hm hm' hs hp1
        go_wp2
        all_goals try (go_ret;go_light;refine ⟨ret_i ?_,ex⟩;have hS:=HS.out;rw [HP.out] at hS;grind [palE])
        (refine wp_region_grows (by kernel_rfl) (by kernel_rfl) ?_;(repeat (go_big_quiet_step (fail)));refine wpQuiet_nil ?_;rintro _ ⟨y,rfl⟩)
        go_wp2_with (go_at_call 31;refine (pal_hues m.at_ m.cap m.hues _ (HMU.out.1.mono (ex)) HMU.out.2).mono ?_;rintro e w' ⟨rfl,hx⟩;obtain ⟨y,rfl⟩:=hx.get;clear hx)
        all_goals first
          | (go_ret;go_light;refine ⟨ret_i ?_,ex⟩;have hS:=HS.out;rw [HP.out] at hS;grind [palE])
          | (go_light
             have hS:=HS.out
             refine ⟨⟨k + 1,by omega,by go_num,ex,Lib.hid ?_⟩,by simp [intOf];omega⟩
             rw [HP.out] at hS
             grind [palE])
      · have HP : Hid (prv l k = none):=Lib.hid (by unfold prv;rw [if_pos (by omega)])
        obtain rfl : k = 0:=by omega
        simp only [Nat.zero_mul,Nat.add_zero] at hc0 hc1
        clear hm hs hk0
        go_wp2
        all_goals try (go_ret;go_light;refine ⟨ret_i ?_,ex⟩;have hS:=HS.out;rw [HP.out] at hS;grind [palE])
        (refine wp_region_grows (by kernel_rfl) (by kernel_rfl) ?_;(repeat (go_big_quiet_step (fail)));refine wpQuiet_nil ?_;rintro _ ⟨y,rfl⟩)
        go_wp2_with (go_at_call 31;refine (pal_hues m.at_ m.cap m.hues _ (HMU.out.1.mono (ex)) HMU.out.2).mono ?_;rintro e w' ⟨rfl,hx⟩;obtain ⟨y,rfl⟩:=hx.get;clear hx)
        all_goals first
          | (go_ret;go_light;refine ⟨ret_i ?_,ex⟩;have hS:=HS.out;rw [HP.out] at hS;grind [palE])
          | (go_light
             have hS:=HS.out
             refine ⟨⟨1,by omega,by rfl,ex,Lib.hid ?_⟩,by simp [intOf];omega⟩
             rw [HP.out] at hS
             grind [palE])
    · have HS:=Lib.hid (HE.out.trans (scan_end palE l k _ (by omega)))
      go_wp2
      go_ret
      rw [HS.out]
      exact ⟨rfl,ex⟩
end Go.Proofs.Ytgbecbnjokkfoaa
