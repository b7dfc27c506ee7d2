import Derived.Test.YtgbecbnjokkfoaaGreatGcue
set_option maxHeartbeats 2000000
namespace Go.Proofs.YtgbecbnjokkfoaaGreat
open Go.RowKit

theorem run_tnth (x : Timing) : ∀ (k : Nat),k < 6 → ∀ w : World,
  (Instr.index 122 (.agg #[.int .i64 x.up,.int .i64 x.down,.int .i64 x.pos,.int .i64 x.col,.int .i64 x.beam,.int .i64 x.del]) (.int .i64 (k : Int))).run Tryz.prog w = .ok (.int .i64 (tnth x k)) w:=by
 intro k hk w
 rcases (by omega : k = 0 ∨ k = 1 ∨ k = 2 ∨ k = 3 ∨ k = 4 ∨ k = 5) with rfl | rfl | rfl | rfl | rfl | rfl
 all_goals kernel_rfl

theorem cue_parts (c : Cue) (A : Option Addr) (k : Nat) (B : Option Addr) (m : Nat) (w : World) (hc : CueAt w c A k B m) :
  Calls Tryz.prog 56 #[.agg (cueV c A k B m).toArray] w fun e w' => e = .returned (.int .i64 (partsE c)) ∧ Ext w w':=by
 have hl : c.parts.length ≤ maxLen:=Nat.le_trans hc.hm hc.hm'
 have hl2 : c.moves.length ≤ maxLen:=Nat.le_trans hc.hk hc.hk'
 have hs:=hc.pt
 have hmv:=hc.mv
 clear hc
 unfold maxLen at hl
 simp only [cueV]
 by_cases h0 : c.parts.length = 0
 ·have hb : ((c.parts.length : Int) == 0) = true:=by rw [h0];rfl
  have E : Hid (partsE c = 12):=Lib.hid (by unfold partsE timesE;rw [if_pos h0];rfl)
  go_enter Tryz.func56,Tryz.ntmps56
  go_wp2
  go_ret
  rw [E.out]
  exact ⟨rfl,ex⟩
 have hb : ((c.parts.length : Int) == 0) = false:=by rw [beq_eq_false_iff_ne];omega
 by_cases h4 : 4 < c.parts.length
 ·have E : Hid (partsE c = 5):=Lib.hid (by unfold partsE timesE;rw [if_neg h0,if_pos h4];rfl)
  go_enter Tryz.func56,Tryz.ntmps56
  go_wp2
  go_ret
  rw [E.out]
  exact ⟨rfl,ex⟩
 have E : Hid (partsE c = if c.parts.all timingOk = true then (if c.moves.any (fun m => decide ((c.parts.length : Int) < m.part)) then 6 else 0) else 2):=Lib.hid (by
  unfold partsE timesE
  rw [if_neg h0,if_neg h4]
  cases c.parts.all timingOk <;> simp)
 go_enter Tryz.func56,Tryz.ntmps56
 go_wp2
 go_loopw [20] (fun i wr => ∃ j : Nat,j ≤ c.parts.length ∧ i = .int .i64 j ∧ Ext (w.alloc (.cells (cueV c A k B m).toArray 29)) wr ∧ Hid ((c.parts.take j).all timingOk = true)) (fun i _ => c.parts.length - (intOf i).toNat)
 case atStart => exact ⟨0,by omega,rfl,Ext.refl _,Lib.hid (by simp)⟩
 case round =>
  obtain ⟨j,hj,rfl,hx,HN⟩:=hrel
  obtain ⟨y,rfl⟩:=hx.get
  clear hx
  by_cases hlt : j < c.parts.length
  ·obtain ⟨t,ht⟩ : ∃ t,c.parts[j]? = some t:=⟨_,List.getElem?_eq_getElem hlt⟩
   have HT:=Lib.hid ht
   obtain ⟨b,o,rfl,hc0,hc1,hc2,hc3,hc4,hc5⟩:=hs.row6 (i:=j) (by rw [List.getElem?_map,ht];rfl)
   clear ht hs
   simp only [cueV]
   go_wp2
   go_loop [37] (fun i => ∃ q : Nat,q ≤ 6 ∧ i = .int .i64 q ∧ Hid (∀ r,r < q → isTime (tnth t r) = true)) (fun i => 6 - (intOf i).toNat)
   case atStart => exact ⟨0,by omega,rfl,Lib.hid (by intro r hr;omega)⟩
   case round =>
    obtain ⟨q,hq,rfl,HQ⟩:=hrel
    by_cases hq6 : q < 6
    ·have hix:=run_tnth t q hq6
     by_cases hti : isTime (tnth t q) = true
     ·have hQ : Hid (∀ r,r < q + 1 → isTime (tnth t r) = true):=Lib.hid fun r hr => by
       by_cases h : r = q
       ·subst h;exact hti
       ·exact HQ.out r (by omega)
      have hb:=hti
      simp only [isTime,decide_eq_true_eq] at hb
      obtain ⟨hb1,hb2⟩:=hb
      clear hti HQ
      generalize tnth t q = z at hix hb1 hb2
      go_wp2
      go_round
      case rel => exact ⟨q + 1,by omega,by go_num,hQ⟩
      case measure => simp [intOf];omega
     ·have HF : Hid (c.parts.all timingOk = false):=Lib.hid (all_not HT.out (by
       rw [Bool.eq_false_iff]
       intro h
       exact hti ((timingOk_nth t).1 h q hq6)))
      have hb:=hti
      simp only [isTime,decide_eq_true_eq] at hb
      have hb' : tnth t q < 0 ∨ (0 ≤ tnth t q ∧ 10000000 < tnth t q):=by omega
      clear hti hb HQ
      generalize tnth t q = z at hix hb'
      rcases hb' with hb' | ⟨hb1,hb'⟩
      ·go_wp2
       go_ret
       rw [E.out,HF.out]
       exact ⟨rfl,ex⟩
      ·go_wp2
       go_ret
       rw [E.out,HF.out]
       exact ⟨rfl,ex⟩
    ·have HK : Hid ((c.parts.take (j + 1)).all timingOk = true):=Lib.hid (all_step HT.out ((timingOk_nth t).2 fun r hr => HQ.out r (by omega)) HN.out)
     go_wp2
     refine ⟨⟨j + 1,by omega,by go_num,ex,HK⟩,by simp [intOf];omega⟩
  ·have HA:=Lib.hid (all_full (p:=timingOk) (l:=c.parts) (k:=j) (by omega) HN.out)
   simp only [cueV]
   go_wp2_with (go_at_call 80;refine (ContainsFunc_parts A k c.moves _ B c.parts.length m _ (hmv.mono (ex)) hl2 (by simp [go_sem, *])).mono ?_;rintro e w' ⟨rfl,hx⟩;obtain ⟨y,rfl⟩:=hx.get;clear hx)
   all_goals
    go_ret
    go_light
    refine ⟨ret_i ?_,ex⟩
    rw [E.out,HA.out]
    simp [*]

theorem r16_Check (c : Cue) (A : Option Addr) (k : Nat) (B : Option Addr) (m : Nat) (w : World) (hc : CueAt w c A k B m) :
  Calls Tryz.prog 7 #[.agg (cueV c A k B m).toArray] w fun e w' => e = .returned (.int .i64 (cueE c)) ∧ Ext w w':=by
 have hl : c.parts.length ≤ maxLen:=Nat.le_trans hc.hm hc.hm'
 have hl2 : c.moves.length ≤ maxLen:=Nat.le_trans hc.hk hc.hk'
 have hs:=hc.pt
 have hmv:=hc.mv
 have hn:=hc.num
 have hlb:=hc.lab
 have HC:=Lib.hid hc
 have hl3:=hl2
 unfold maxLen at hl3
 have hl4:=hl
 unfold maxLen at hl4
 have h0 : (0 : Int) ≤ c.moves.length:=by omega
 clear hc
 simp only [cueV]
 go_enter Tryz.func7,Tryz.ntmps7
 go_wp2_with (first | (go_at_call 14;refine (r05_Check c.number _ hn).mono ?_;rintro e w' ⟨rfl,hx⟩;obtain ⟨y,rfl⟩:=hx.get;clear hx) | (go_at_call 15;refine (r16_Label c.label _ hlb).mono ?_;rintro e w' ⟨rfl,rfl⟩) | (go_at_call 16;refine (r16_Moves A k c.moves _ (hmv.mono (ex)) hl2).mono ?_;rintro e w' ⟨rfl,hx⟩;obtain ⟨y,rfl⟩:=hx.get;clear hx) | (go_at_call 17;refine (r16_parts B m c.parts _ (hs.mono (ex)) hl).mono ?_;rintro e w' ⟨rfl,hx⟩;obtain ⟨y,rfl⟩:=hx.get;clear hx))
 all_goals try (go_ret;go_light;refine ⟨ret_i ?_,ex⟩;grind [cueE,partsE])
 go_loopw [7] (fun i wr => ∃ j : Nat,j ≤ c.moves.length ∧ i = .int .i64 j ∧ Ext (w.alloc (.cells (cueV c A k B m).toArray 29)) wr ∧ Hid ((c.moves.take j).all (fun m => !decide ((c.parts.length : Int) < m.part)) = true)) (fun i _ => c.moves.length - (intOf i).toNat)
 case atStart => exact ⟨0,by omega,rfl,ex,Lib.hid (by simp)⟩
 case round =>
  obtain ⟨j,hj,rfl,hx,HA⟩:=hrel
  obtain ⟨y,rfl⟩:=hx.get
  clear hx
  simp only [cueV]
  by_cases hlt : j < c.moves.length
  ·obtain ⟨q,hq⟩ : ∃ q,c.moves[j]? = some q:=⟨_,List.getElem?_eq_getElem hlt⟩
   have HM:=Lib.hid hq
   obtain ⟨b',o,rfl,hc0,hc1,hc2,hc3,hc4⟩:=hmv.row5 (i:=j) (by rw [List.getElem?_map,hq];rfl)
   clear hq hmv
   have hb0 : (0 : Int) ≤ (j : Int):=by omega
   have hb1 : (j : Int) < (c.moves.length : Int):=by omega
   go_wp2
   (refine wp_region_grows (by kernel_rfl) (by kernel_rfl) ?_;(repeat (go_big_quiet_step (fail)));refine wpQuiet_nil ?_;rintro _ ⟨y,rfl⟩)
   go_wp2
   ·go_ret
    go_light
    refine ⟨ret_i ?_,ex⟩
    have h1 : (c.moves.any fun m => decide ((c.parts.length : Int) < m.part)) = true:=by
     rw [List.any_eq_true]
     obtain ⟨_,hx⟩:=List.getElem?_eq_some_iff.1 HM.out
     exact ⟨q,by rw [← hx];exact List.getElem_mem _,by simpa using ‹_›⟩
    grind [cueE,partsE]
   ·go_light
    refine ⟨⟨j + 1,by omega,by go_num,ex,Lib.hid (all_step HM.out (by simpa using ‹_›) HA.out)⟩,by simp [intOf];omega⟩
  ·have HF:=Lib.hid (all_full (l:=c.moves) (k:=j) (by omega) HA.out)
   go_wp2_with (go_at_call 18;refine (r16_next c A k B m _ (HC.out.mono (ex))).mono ?_;rintro e w' ⟨rfl,hx⟩;obtain ⟨y,rfl⟩:=hx.get;clear hx)
   go_ret
   go_light
   refine ⟨ret_i ?_,ex⟩
   have h1 : (c.moves.any fun m => decide ((c.parts.length : Int) < m.part)) = false:=by
    rw [List.any_eq_false]
    intro m hm
    have:=List.all_eq_true.1 HF.out m hm
    simpa using this
   grind [cueE,partsE]
end Go.Proofs.YtgbecbnjokkfoaaGreat

namespace Go.Proofs.YtgbecbnjokkfoaaGreat
open Go.RowKit

section
variable (c : Cue) (A : Option Addr) (k : Nat) (B : Option Addr) (m : Nat) (w : World) (hc : CueAt w c A k B m)
include hc
theorem cue_Check1 : Calls Tryz.prog 50 #[.agg (cueV c A k B m).toArray] w fun e w' => e = .returned (.int .i64 (numE c.number)) ∧ Ext w w':=by
 have hn:=hc.num
 clear hc
 simp only [cueV]
 go_enter Tryz.func50,Tryz.ntmps50
 go_wp2_with (go_at_call 51;refine (num_Check c.number _ hn).mono ?_;rintro e w' ⟨rfl,hx⟩;obtain ⟨y,rfl⟩:=hx.get;clear hx)
 go_ret
 exact ⟨rfl,ex⟩
theorem cue_Check2 : Calls Tryz.prog 52 #[.agg (cueV c A k B m).toArray] w fun e w' => e = .returned (.int .i64 (labelE c.label)) ∧ Ext w w':=by
 have hn:=hc.lab
 clear hc
 simp only [cueV]
 go_enter Tryz.func52,Tryz.ntmps52
 go_wp2_with (go_at_call 53;refine (cue_label c.label _ hn).mono ?_;rintro e w' ⟨rfl,hx⟩;obtain ⟨y,rfl⟩:=hx.get;clear hx)
 go_ret
 exact ⟨rfl,ex⟩
theorem cue_Check3 : Calls Tryz.prog 54 #[.agg (cueV c A k B m).toArray] w fun e w' => e = .returned (.int .i64 (movesE c.moves)) ∧ Ext w w':=by
 have hl2 : c.moves.length ≤ maxLen:=Nat.le_trans hc.hk hc.hk'
 have hk:=hc.hk
 have hk':=hc.hk'
 have hmv:=hc.mv
 clear hc
 simp only [cueV]
 go_enter Tryz.func54,Tryz.ntmps54
 go_wp2_with (go_at_call 55;refine (cue_Moves A k c.moves _ (hmv.mono (ex)) hl2 hk hk').mono ?_;rintro e w' ⟨rfl,hx⟩;obtain ⟨y,rfl⟩:=hx.get;clear hx)
 go_ret
 exact ⟨rfl,ex⟩
theorem cue_Check : Calls Tryz.prog 27 #[.agg (cueV c A k B m).toArray] w fun e w' => e = .returned (.int .i64 (cueE c)) ∧ Ext w w':=by
 have HC:=Lib.hid hc
 clear hc
 simp only [cueV]
 go_enter Tryz.func27,Tryz.ntmps27
 go_wp2
 refine wp_loop_rounds 6 ?_
 rw [rounds_succ]
 go_wp2_with (go_at_call 50;refine (cue_Check1 c A k B m _ (HC.out.mono (ex))).mono ?_;rintro e w' ⟨rfl,hx⟩;obtain ⟨y,rfl⟩:=hx.get;clear hx)
 all_goals try (go_ret;go_light;refine ⟨ret_i ?_,ex⟩;grind [cueE])
 rw [rounds_succ]
 go_wp2_with (go_at_call 52;refine (cue_Check2 c A k B m _ (HC.out.mono (ex))).mono ?_;rintro e w' ⟨rfl,hx⟩;obtain ⟨y,rfl⟩:=hx.get;clear hx)
 all_goals try (go_ret;go_light;refine ⟨ret_i ?_,ex⟩;grind [cueE])
 rw [rounds_succ]
 go_wp2_with (go_at_call 54;refine (cue_Check3 c A k B m _ (HC.out.mono (ex))).mono ?_;rintro e w' ⟨rfl,hx⟩;obtain ⟨y,rfl⟩:=hx.get;clear hx)
 all_goals try (go_ret;go_light;refine ⟨ret_i ?_,ex⟩;grind [cueE])
 rw [rounds_succ]
 go_wp2_with (go_at_call 56;refine (cue_parts c A k B m _ (HC.out.mono (ex))).mono ?_;rintro e w' ⟨rfl,hx⟩;obtain ⟨y,rfl⟩:=hx.get;clear hx)
 all_goals try (go_ret;go_light;refine ⟨ret_i ?_,ex⟩;grind [cueE])
 rw [rounds_succ]
 go_wp2_with (go_at_call 57;refine (cue_next c A k B m _ (HC.out.mono (ex))).mono ?_;rintro e w' ⟨rfl,hx⟩;obtain ⟨y,rfl⟩:=hx.get;clear hx)
 all_goals try (go_ret;go_light;refine ⟨ret_i ?_,ex⟩;grind [cueE])
 rw [rounds_succ]
 go_wp2
 go_ret
 go_light
 refine ⟨ret_i ?_,ex⟩
 grind [cueE]
end
end Go.Proofs.YtgbecbnjokkfoaaGreat
