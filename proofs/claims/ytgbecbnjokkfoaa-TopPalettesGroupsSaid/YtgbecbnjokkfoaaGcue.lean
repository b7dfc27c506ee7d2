import Derived.Test.YtgbecbnjokkfoaaStr
set_option maxHeartbeats 800000
set_option maxRecDepth 100000
namespace Go.Proofs.Ytgbecbnjokkfoaa
open Go.RowKit

theorem cue_param (p : Param) (w : World) : Calls Try.prog 24 #[.agg (prm p).toArray] w fun e w' => e = .returned (.int .i64 (paramE p)) ∧ Ext w w':=by
  obtain ⟨ch,at_⟩:=p
  simp only [prm]
  go_enter Try.func24,Try.ntmps24
  go_wp2
  all_goals go_ret
  all_goals refine ⟨ret_i ?_,ex⟩
  all_goals (simp only [paramE];split <;> omega)
theorem pal_Value (v : Val) (w : World) : Calls Try.prog 26 #[.agg (vl v).toArray] w fun e w' => e = .returned (.int .i64 (valueE v)) ∧ Ext w w':=by
  obtain ⟨ch,at_⟩:=v
  simp only [vl]
  go_enter Try.func26,Try.ntmps26
  go_wp2
  all_goals go_ret
  all_goals refine ⟨ret_i ?_,ex⟩
  all_goals grind [valueE]
theorem cue_compare (p q : Param) (w : World) (hp : paramE p = 0) (hq : paramE q = 0) : Calls Try.prog 53 #[.agg (prm p).toArray,.agg (prm q).toArray] w fun e w' => e = .returned (.int .i64 (cmpP p q)) ∧ Ext w w':=by
  obtain ⟨ch,at_⟩:=p
  obtain ⟨ch',at'⟩:=q
  obtain ⟨h1,h2,h3,h4⟩:=paramE_ok hp
  obtain ⟨k1,k2,k3,k4⟩:=paramE_ok hq
  simp only [] at h1 h2 h3 h4 k1 k2 k3 k4
  clear hp hq
  simp only [prm]
  go_enter Try.func53,Try.ntmps53
  go_wp2
  all_goals go_ret
  all_goals refine ⟨ret_i ?_,ex⟩
  all_goals (simp only [cmpP];grind)
theorem cue_move0 (m : Move) (A : Option Addr) (c : Nat) (w : World) : Calls Try.prog 67 #[.agg (mv m).toArray,.slice A 0 c] w fun e w' => e = .returned (.int .i64 (moveE none m)) ∧ Ext w w':=by
  simp only [mv]
  go_enter Try.func67,Try.ntmps67
  go_wp2_with (first | (go_at_call 24;refine (cue_param m.p _).mono ?_;rintro e w' ⟨rfl,hx⟩;obtain ⟨y,rfl⟩:=hx.get;clear hx) | (go_at_call 26;refine (pal_Value m.v _).mono ?_;rintro e w' ⟨rfl,hx⟩;obtain ⟨y,rfl⟩:=hx.get;clear hx))
  all_goals try (go_ret;go_light;refine ⟨ret_i ?_,ex⟩;grind [moveE,moveE1])
  (refine wp_region_grows (by kernel_rfl) (by kernel_rfl) ?_;(repeat (go_big_quiet_step (fail)));refine wpQuiet_nil ?_;rintro _ ⟨y,rfl⟩)
  go_wp2
  go_ret
  go_light
  refine ⟨ret_i ?_,ex⟩
  grind [moveE,moveE1]
theorem cue_move1 (m m' : Move) (b o k c : Nat) (w : World) (hk : 0 < k) (hkm : k ≤ 1000000) (hp : paramE m'.p = 0)
    (hp0 : w.cell? ⟨b,o + (k - 1) * 5,none⟩ = some (.int .i64 m'.p.ch)) (hp1 : w.cell? ⟨b,o + (k - 1) * 5 + 1,none⟩ = some (.int .i64 m'.p.attr)) :
    Calls Try.prog 67 #[.agg (mv m).toArray,.slice (some ⟨b,o,none⟩) k c] w fun e w' => e = .returned (.int .i64 (moveE (some m') m)) ∧ Ext w w':=by
  simp only [mv]
  have HP:=Lib.hid hp
  have hk1 : (0 : Int) < (k : Int):=by omega
  have hk2 : (k : Int) ≤ 1000000:=by omega
  clear hp hkm
  by_cases h0 : paramE m.p = 0
  · have C : Hid (∀ w,Calls Try.prog 53 #[.agg (prm m'.p).toArray,.agg (prm m.p).toArray] w fun e w' => e = .returned (.int .i64 (cmpP m'.p m.p)) ∧ Ext w w'):=Lib.hid fun w => cue_compare m'.p m.p w HP.out h0
    have HB:=Lib.hid (cmpP_before m'.p m.p)
    have H0:=Lib.hid h0
    clear h0
    go_enter Try.func67,Try.ntmps67
    go_wp2_with (first | (go_at_call 24;refine (cue_param m.p _).mono ?_;rintro e w' ⟨rfl,hx⟩;obtain ⟨y,rfl⟩:=hx.get;clear hx) | (go_at_call 26;refine (pal_Value m.v _).mono ?_;rintro e w' ⟨rfl,hx⟩;obtain ⟨y,rfl⟩:=hx.get;clear hx))
    all_goals try (go_ret;go_light;refine ⟨ret_i ?_,ex⟩;have hh:=H0.out;grind [moveE,moveE1])
    (refine wp_region_grows (by kernel_rfl) (by kernel_rfl) ?_;(repeat (go_big_quiet_step ((go_at_call 53;exact Calls.grows (C.out _)))));refine wpQuiet_nil ?_;rintro _ ⟨y,rfl⟩)
    go_wp2
    all_goals
      go_ret
      go_light
      refine ⟨ret_i ?_,ex⟩
      have hh:=H0.out
      have hb:=HB.out
      grind [moveE,moveE1]
  · have hb : (paramE m.p != 0) = true:=by simpa using h0
    have H0:=Lib.hid h0
    clear h0
    go_enter Try.func67,Try.ntmps67
    go_wp2_with (go_at_call 24;refine (cue_param m.p _).mono ?_;rintro e w' ⟨rfl,hx⟩;obtain ⟨y,rfl⟩:=hx.get;clear hx)
    go_ret
    go_light
    refine ⟨ret_i ?_,ex⟩
    have hh:=H0.out
    grind [moveE,moveE1]

theorem cue_Moves (A : Option Addr) (c : Nat) (l : List Move) (w : World) (hs : Sl w A 5 (l.map mv)) (hl : l.length ≤ maxLen) (hc : l.length ≤ c) (hcm : c ≤ maxLen) :
    Calls Try.prog 41 #[.slice A l.length c] w fun e w' => e = .returned (.int .i64 (movesE l)) ∧ Ext w w':=by
  unfold maxLen at hl hcm
  by_cases h128 : 128 < l.length
  · go_enter Try.func41,Try.ntmps41
    go_wp2
    go_ret
    exact ⟨ret_i (by simp [movesE,h128]),Ext.refl _⟩
  have h0 : (0 : Int) ≤ l.length:=by omega
  have HM : Hid (movesE l = scan moveE none l):=Lib.hid (by unfold movesE;rw [if_neg h128])
  go_enter Try.func41,Try.ntmps41
  go_wp2
  go_loopw [11] (fun i wr => ∃ k : Nat,k ≤ l.length ∧ i = .int .i64 k ∧ Ext w wr ∧ Hid (movesE l = scan moveE (prv l k) (l.drop k)) ∧ Hid (∀ m',prv l k = some m' → paramE m'.p = 0)) (fun i _ => l.length - (intOf i).toNat)
  case atStart => exact ⟨0,by omega,rfl,Ext.refl _,HM,Lib.hid (by intro m' h;simp [prv] at h)⟩
  case round =>
    obtain ⟨k,hk,rfl,hx,HE,HQ⟩:=hrel
    obtain ⟨y,rfl⟩:=hx.get
    clear hx HM
    by_cases hlt : k < l.length
    · obtain ⟨m,hm⟩ : ∃ m,l[k]? = some m:=⟨_,List.getElem?_eq_getElem hlt⟩
      have HM:=Lib.hid hm
      obtain ⟨b,o,rfl,hc0,hc1,hc2,hc3,hc4⟩:=hs.row5 (i:=k) (by rw [List.getElem?_map,hm];rfl)
      have HS:=Lib.hid (HE.out.trans (scan_at moveE l k m hm))
      clear HE
      have hb0 : (0 : Int) ≤ (k : Int):=by omega
      have hb1 : (k : Int) ≤ (l.length : Int):=by omega
      have hb2 : (k : Int) ≤ (c : Int):=by omega
      by_cases hk0 : 0 < k
      · obtain ⟨m',hm'⟩ : ∃ m',l[k - 1]? = some m':=⟨_,List.getElem?_eq_getElem (by omega)⟩
        obtain ⟨b',o',he,hp0,hp1,hp2,hp3,hp4⟩:=hs.row5 (i:=k - 1) (by rw [List.getElem?_map,hm'];rfl)
        injection he with he
        injection he with hb ho
        subst hb ho
        have hP : prv l k = some m':=by unfold prv;rw [if_neg (by omega),hm']
        have HP:=Lib.hid hP
        have HQ':=Lib.hid (HQ.out m' hP)
        clear hm hm' hs hp2 hp3 hp4 hP HQ
        go_wp2
        (refine wp_region_grows (by kernel_rfl) (by kernel_rfl) ?_;(repeat (go_big_quiet_step ((go_at_call 67;exact Calls.grows (cue_move1 m m' b o k _ _ (by omega) (by omega) HQ'.out (by simp [go_sem, *]) (by simp [go_sem, *]))))));refine wpQuiet_nil ?_;rintro _ ⟨y,rfl⟩)
        go_wp2
        · go_ret
          go_light
          have hS:=HS.out
          have hP:=HP.out
          refine ⟨ret_i ?_,ex⟩
          rw [hP] at hS
          grind
        · go_light
          have hS:=HS.out
          have hP:=HP.out
          have hM:=HM.out
          refine ⟨⟨k + 1,by omega,by go_num,ex,Lib.hid ?_,Lib.hid ?_⟩,by simp [intOf];omega⟩
          · rw [hP] at hS
            grind
          · intro n hn
            rw [prv_succ,hM] at hn
            injection hn with hn
            subst hn
            exact moveE_param (q:=some m') (by grind)
      · have HP : Hid (prv l k = none):=Lib.hid (by unfold prv;rw [if_pos (by omega)])
        obtain rfl : k = 0:=by omega
        simp only [Nat.zero_mul,Nat.add_zero] at hc0 hc1 hc2 hc3 hc4
        clear hm hs hk0 HQ
        go_wp2
        (refine wp_region_grows (by kernel_rfl) (by kernel_rfl) ?_;(repeat (go_big_quiet_step ((go_at_call 67;exact Calls.grows (cue_move0 m _ _ _)))));refine wpQuiet_nil ?_;rintro _ ⟨y,rfl⟩)
        go_wp2
        · go_ret
          go_light
          have hS:=HS.out
          have hP:=HP.out
          refine ⟨ret_i ?_,ex⟩
          rw [hP] at hS
          grind
        · go_light
          have hS:=HS.out
          have hP:=HP.out
          have hM:=HM.out
          refine ⟨⟨1,by omega,by rfl,ex,Lib.hid ?_,Lib.hid ?_⟩,by simp [intOf];omega⟩
          · rw [hP] at hS
            grind
          · intro n hn
            rw [prv_succ,hM] at hn
            injection hn with hn
            subst hn
            exact moveE_param (q:=none) (by grind)
    · have HS:=Lib.hid (HE.out.trans (scan_end moveE l k _ (by omega)))
      go_wp2
      go_ret
      rw [HS.out]
      exact ⟨rfl,ex⟩
end Go.Proofs.Ytgbecbnjokkfoaa

namespace Go.Proofs.Ytgbecbnjokkfoaa
open Go.RowKit

theorem byte_at (s : ByteArray) (k : Nat) (h : k < s.size) : s.data.toList[k]? = some s[k]:=by
  rw [List.getElem?_eq_getElem (by exact h)];rfl

theorem cue_label (s : ByteArray) (w : World) (hs : s.size ≤ maxLen) : Calls Try.prog 39 #[.string s] w fun e w' => e = .returned (.int .i64 (labelE s)) ∧ Ext w w':=by
  unfold maxLen at hs
  by_cases h24 : 24 < s.size
  · have h24' : (24 : Int) < (s.size : Int):=by omega
    have E : Hid (labelE s = 13):=Lib.hid (by unfold labelE;rw [if_pos h24])
    go_enter Try.func39,Try.ntmps39
    go_wp2
    go_ret
    rw [E.out]
    exact ⟨rfl,Ext.refl _⟩
  have E : Hid (labelE s = if s.data.toList.all labelOkC then 0 else 3):=Lib.hid (by unfold labelE;rw [if_neg h24])
  have h24' : (s.size : Int) ≤ 24:=by omega
  obtain ⟨y,cap,hcv,hby⟩:=run_bytes (P:=Try.prog) w 9 117 5 s Try.underlying9 Try.underlying117 Try.underlying5
  have HY:=Lib.hid hby
  clear hby
  go_enter Try.func39,Try.ntmps39
  go_wp2
  go_loop [11] (fun i => ∃ k : Nat,k ≤ s.size ∧ i = .int .i64 k ∧ Hid ((s.data.toList.take k).all labelOkC = true)) (fun i => s.size - (intOf i).toNat)
  case atStart => exact ⟨0,by omega,rfl,Lib.hid (by simp)⟩
  case round =>
    obtain ⟨k,hk,rfl,HN⟩:=hrel
    by_cases hlt : k < s.size
    · have HB:=Lib.hid (byte_at s k hlt)
      have HL : Hid (labelOkC s[k] = !(decide ((s[k].toNat : Int) < 32) || decide (126 < (s[k].toNat : Int)) || ((s[k].toNat : Int) == 34))):=Lib.hid rfl
      have hy:=HY.out k hlt
      go_wp2
      all_goals first
        | (go_ret;go_light;refine ⟨ret_i ?_,ex⟩;rw [E.out,all_not HB.out (by rw [HL.out];first | (simp [*];done) | grind)];rfl)
        | (go_round
           case rel => exact ⟨k + 1,by omega,by go_num,Lib.hid (all_step HB.out (by rw [HL.out];first | (simp [*];done) | grind) HN.out)⟩
           case measure => simp [intOf];omega)
    · have HA:=Lib.hid (all_full (p:=labelOkC) (l:=s.data.toList) (k:=k) (by change s.size ≤ k;omega) HN.out)
      go_wp2
      go_ret
      rw [E.out,HA.out]
      exact ⟨rfl,ex⟩

end Go.Proofs.Ytgbecbnjokkfoaa

namespace Go.Proofs.Ytgbecbnjokkfoaa
open Go.RowKit

def nextE (c : Cue) : Int :=
  if c.follow ≠ -1 ∧ (c.follow < 25 ∨ 10000000 < c.follow) then 2 else if ¬ c.link.toList = [] ∧ numE c.link ≠ 0 then numE c.link
  else if c.loops < 0 ∨ 100 < c.loops then 2 else if 0 < c.loops ∧ c.link.toList = [] then 11 else 0
def cueE (c : Cue) : Int :=
  if numE c.number ≠ 0 then numE c.number else if labelE c.label ≠ 0 then labelE c.label else if movesE c.moves ≠ 0 then movesE c.moves
  else if partsE c ≠ 0 then partsE c else nextE c

def cueV (c : Cue) (A : Option Addr) (k : Nat) (B : Option Addr) (m : Nat) : List Value :=
  [.string c.number,.string c.label,.slice A c.moves.length k,.slice B c.parts.length m,.bool c.block,.bool c.mark,.int .i64 c.follow,.string c.link,.int .i64 c.loops]
structure CueAt (w : World) (c : Cue) (A : Option Addr) (k : Nat) (B : Option Addr) (m : Nat) : Prop where
  mv : Sl w A 5 (c.moves.map mv)
  pt : Sl w B 6 (c.parts.map tmg)
  hk : c.moves.length ≤ k
  hm : c.parts.length ≤ m
  hk' : k ≤ maxLen
  hm' : m ≤ maxLen
  num : c.number.size ≤ maxLen
  lab : c.label.size ≤ maxLen
  lnk : c.link.size ≤ maxLen
theorem CueAt.mono {w w' : World} {c : Cue} {A : Option Addr} {k : Nat} {B : Option Addr} {m : Nat} (h : CueAt w c A k B m) (hx : Ext w w') : CueAt w' c A k B m :=
  ⟨h.mv.mono hx,h.pt.mono hx,h.hk,h.hm,h.hk',h.hm',h.num,h.lab,h.lnk⟩

theorem cue_next (c : Cue) (A : Option Addr) (k : Nat) (B : Option Addr) (m : Nat) (w : World) (hc : CueAt w c A k B m) :
    Calls Try.prog 43 #[.agg (cueV c A k B m).toArray] w fun e w' => e = .returned (.int .i64 (nextE c)) ∧ Ext w w':=by
  have hl:=hc.lnk
  clear hc
  simp only [cueV]
  go_enter Try.func43,Try.ntmps43
  go_wp2_with (go_at_call 37;refine (num_Check c.link _ hl).mono ?_;rintro e w' ⟨rfl,hx⟩;obtain ⟨y,rfl⟩:=hx.get;clear hx)
  all_goals
    go_ret
    go_light
    refine ⟨ret_i ?_,ex⟩
    grind [nextE]

theorem cue_parts1 (m : Move) (b : Nat) (B : Option Addr) (n k : Nat) (w : World) (h : w.cell? ⟨b,3,none⟩ = some (.slice B n k)) :
    Calls Try.prog 69 #[.agg (mv m).toArray,.pointer (some ⟨b,0,none⟩)] w fun e w' => e = .returned (.bool (decide ((n : Int) < m.part))) ∧ Ext w w':=by
  simp only [mv]
  go_enter Try.func69,Try.ntmps69
  go_wp2
  go_ret
  exact ⟨rfl,ex⟩

theorem IndexFunc_parts (A : Option Addr) (c : Nat) (l : List Move) (b : Nat) (B : Option Addr) (n k : Nat) (w : World) (hs : Sl w A 5 (l.map mv)) (hl : l.length ≤ maxLen) (hb : w.cell? ⟨b,3,none⟩ = some (.slice B n k)) :
    Calls Try.prog 77 #[.slice A l.length c,.func (Fn.func 69) #[] #[.pointer (some ⟨b,0,none⟩)]] w
      fun e w' => IntSign (l.any fun m => decide ((n : Int) < m.part)) e ∧ Ext w w':=by
  unfold maxLen at hl
  go_enter Try.func77,Try.ntmps77
  go_wp2
  go_loopw [8] (fun i wr => ∃ j : Nat,j ≤ l.length ∧ i = .int .i64 j ∧ Ext w wr ∧ Hid ((l.take j).all (fun m => !decide ((n : Int) < m.part)) = true)) (fun i _ => l.length - (intOf i).toNat)
  case atStart => exact ⟨0,by omega,rfl,Ext.refl _,Lib.hid (by simp)⟩
  case round =>
    obtain ⟨j,hj,rfl,hx,HN⟩:=hrel
    obtain ⟨y,rfl⟩:=hx.get
    clear hx
    by_cases hlt : j < l.length
    · obtain ⟨m,hm⟩ : ∃ m,l[j]? = some m:=⟨_,List.getElem?_eq_getElem hlt⟩
      have HM:=Lib.hid hm
      obtain ⟨b',o,rfl,hc0,hc1,hc2,hc3,hc4⟩:=hs.row5 (i:=j) (by rw [List.getElem?_map,hm];rfl)
      clear hm hs
      go_wp2_with (go_at_call 69;refine (cue_parts1 m b B n k _ (by simp [go_sem, *])).mono ?_;rintro e w' ⟨rfl,hx⟩;obtain ⟨y,rfl⟩:=hx.get;clear hx)
      · go_ret
        go_light
        refine ⟨⟨j,rfl,?_⟩,ex⟩
        have hM:=HM.out
        obtain ⟨_,hx⟩:=List.getElem?_eq_some_iff.1 hM
        rw [decide_eq_true (by omega)]
        symm
        rw [List.any_eq_true]
        exact ⟨m,by rw [← hx];exact List.getElem_mem _,by simpa using ‹_›⟩
      · go_roundw
        case rel => exact ⟨j + 1,by omega,by go_num,ex,Lib.hid (all_step HM.out (by simpa using ‹_›) HN.out)⟩
        case measure => simp [intOf];omega
    · have HA:=Lib.hid (all_full (l:=l) (k:=j) (by omega) HN.out)
      go_wp2
      go_ret
      go_light
      refine ⟨⟨-1,rfl,?_⟩,ex⟩
      rw [decide_eq_false (by omega)]
      symm
      rw [List.any_eq_false]
      intro m hm
      have:=List.all_eq_true.1 HA.out m hm
      simpa using this

theorem ContainsFunc_parts (A : Option Addr) (c : Nat) (l : List Move) (b : Nat) (B : Option Addr) (n k : Nat) (w : World) (hs : Sl w A 5 (l.map mv)) (hl : l.length ≤ maxLen) (hb : w.cell? ⟨b,3,none⟩ = some (.slice B n k)) :
    Calls Try.prog 68 #[.slice A l.length c,.func (Fn.func 69) #[] #[.pointer (some ⟨b,0,none⟩)]] w
      fun e w' => e = .returned (.bool (l.any fun m => decide ((n : Int) < m.part))) ∧ Ext w w':=by
  go_enter Try.func68,Try.ntmps68
  go_wp2_with fail
  refine (IndexFunc_parts A c l b B n k _ hs hl hb).mono ?_
  rintro e w' ⟨⟨r,rfl,hr⟩,hx⟩
  obtain ⟨y,rfl⟩:=hx.get
  clear hx
  have HR:=Lib.hid hr
  clear hr
  go_wp2
  go_ret
  rw [← HR.out]
  exact ⟨rfl,ex⟩
end Go.Proofs.Ytgbecbnjokkfoaa
