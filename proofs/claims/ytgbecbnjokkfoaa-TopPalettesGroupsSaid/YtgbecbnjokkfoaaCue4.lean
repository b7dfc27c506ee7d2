import Derived.Test.YtgbecbnjokkfoaaGcue
set_option maxHeartbeats 2000000
namespace Go.Proofs.Ytgbecbnjokkfoaa
open Go.RowKit

theorem run_tnth (x : Timing) : ∀ (k : Nat),k < 6 → ∀ w : World,
  (Instr.index 119 (.agg #[.int .i64 x.up,.int .i64 x.down,.int .i64 x.pos,.int .i64 x.col,.int .i64 x.beam,.int .i64 x.del]) (.int .i64 (k : Int))).run Try.prog w = .ok (.int .i64 (tnth x k)) w:=by
 intro k hk w
 rcases (by omega : k = 0 ∨ k = 1 ∨ k = 2 ∨ k = 3 ∨ k = 4 ∨ k = 5) with rfl | rfl | rfl | rfl | rfl | rfl
 all_goals kernel_rfl

theorem cue_parts (c : Cue) (A : Option Addr) (k : Nat) (B : Option Addr) (m : Nat) (w : World) (hc : CueAt w c A k B m) :
  Calls Try.prog 42 #[.agg (cueV c A k B m).toArray] w fun e w' => e = .returned (.int .i64 (partsE c)) ∧ Ext w w':=by
 have hl : c.parts.length ≤ maxLen:=Nat.le_trans hc.hm hc.hm'
 have hl2 : c.moves.length ≤ maxLen:=Nat.le_trans hc.hk hc.hk'
 have hs:=hc.pt
 have hmv:=hc.mv
 clear hc
 unfold maxLen at hl
 simp only [cueV]
 by_cases h0 : c.parts.length = 0
 ·have hb : ((c.parts.length : Int) == 0) = true:=by rw [h0];rfl
  have E : Hid (partsE c = 12):=Lib.hid (by unfold partsE timesE;rw [if_pos h0];rfl)
  go_enter Try.func42,Try.ntmps42
  go_wp2
  go_ret
  rw [E.out]
  exact ⟨rfl,ex⟩
 have hb : ((c.parts.length : Int) == 0) = false:=by rw [beq_eq_false_iff_ne];omega
 by_cases h4 : 4 < c.parts.length
 ·have E : Hid (partsE c = 5):=Lib.hid (by unfold partsE timesE;rw [if_neg h0,if_pos h4];rfl)
  go_enter Try.func42,Try.ntmps42
  go_wp2
  go_ret
  rw [E.out]
  exact ⟨rfl,ex⟩
 have E : Hid (partsE c = if c.parts.all timingOk = true then (if c.moves.any (fun m => decide ((c.parts.length : Int) < m.part)) then 6 else 0) else 2):=Lib.hid (by
  unfold partsE timesE
  rw [if_neg h0,if_neg h4]
  cases c.parts.all timingOk <;> simp)
 go_enter Try.func42,Try.ntmps42
 go_wp2
 go_loopw [20] (fun i wr => ∃ j : Nat,j ≤ c.parts.length ∧ i = .int .i64 j ∧ Ext (w.alloc (.cells (cueV c A k B m).toArray 52)) wr ∧ Hid ((c.parts.take j).all timingOk = true)) (fun i _ => c.parts.length - (intOf i).toNat)
 case atStart => exact ⟨0,by omega,rfl,Ext.refl _,Lib.hid (by simp)⟩
 case round =>
  obtain ⟨j,hj,rfl,hx,HN⟩:=hrel
  obtain ⟨y,rfl⟩:=hx.get
  clear hx
  by_cases hlt : j < c.parts.length
  ·obtain ⟨t,ht⟩ : ∃ t,c.parts[j]? = some t:=⟨_,List.getElem?_eq_getElem hlt⟩
   have HT:=Lib.hid ht
   obtain ⟨b,o,rfl,hc0,hc1,hc2,hc3,hc4,hc5⟩:=hs.row6 (i:=j) (by rw [List.getElem?_map,ht];rfl)
   clear ht hs
   simp only [cueV]
   go_wp2
   go_loop [37] (fun i => ∃ q : Nat,q ≤ 6 ∧ i = .int .i64 q ∧ Hid (∀ r,r < q → isTime (tnth t r) = true)) (fun i => 6 - (intOf i).toNat)
   case atStart => exact ⟨0,by omega,rfl,Lib.hid (by intro r hr;omega)⟩
   case round =>
    obtain ⟨q,hq,rfl,HQ⟩:=hrel
    by_cases hq6 : q < 6
    ·have hix:=run_tnth t q hq6
     by_cases hti : isTime (tnth t q) = true
     ·have hQ : Hid (∀ r,r < q + 1 → isTime (tnth t r) = true):=Lib.hid fun r hr => by
       by_cases h : r = q
       ·subst h;exact hti
       ·exact HQ.out r (by omega)
      have hb:=hti
      simp only [isTime,decide_eq_true_eq] at hb
      obtain ⟨hb1,hb2⟩:=hb
      clear hti HQ
      generalize tnth t q = z at hix hb1 hb2
      go_wp2
      go_round
      case rel => exact ⟨q + 1,by omega,by go_num,hQ⟩
      case measure => simp [intOf];omega
     ·have HF : Hid (c.parts.all timingOk = false):=Lib.hid (all_not HT.out (by
       rw [Bool.eq_false_iff]
       intro h
       exact hti ((timingOk_nth t).1 h q hq6)))
      have hb:=hti
      simp only [isTime,decide_eq_true_eq] at hb
      have hb' : tnth t q < 0 ∨ (0 ≤ tnth t q ∧ 10000000 < tnth t q):=by omega
      clear hti hb HQ
      generalize tnth t q = z at hix hb'
      rcases hb' with hb' | ⟨hb1,hb'⟩
      ·go_wp2
       go_ret
       rw [E.out,HF.out]
       exact ⟨rfl,ex⟩
      ·go_wp2
       go_ret
       rw [E.out,HF.out]
       exact ⟨rfl,ex⟩
    ·have HK : Hid ((c.parts.take (j + 1)).all timingOk = true):=Lib.hid (all_step HT.out ((timingOk_nth t).2 fun r hr => HQ.out r (by omega)) HN.out)
     go_wp2
     refine ⟨⟨j + 1,by omega,by go_num,ex,HK⟩,by simp [intOf];omega⟩
  ·have HA:=Lib.hid (all_full (p:=timingOk) (l:=c.parts) (k:=j) (by omega) HN.out)
   simp only [cueV]
   go_wp2_with (go_at_call 68;refine (ContainsFunc_parts A k c.moves _ B c.parts.length m _ (hmv.mono (ex)) hl2 (by simp [go_sem, *])).mono ?_;rintro e w' ⟨rfl,hx⟩;obtain ⟨y,rfl⟩:=hx.get;clear hx)
   all_goals
    go_ret
    go_light
    refine ⟨ret_i ?_,ex⟩
    rw [E.out,HA.out]
    simp [*]

end Go.Proofs.Ytgbecbnjokkfoaa

namespace Go.Proofs.Ytgbecbnjokkfoaa
open Go.RowKit

section
variable (c : Cue) (A : Option Addr) (k : Nat) (B : Option Addr) (m : Nat) (w : World) (hc : CueAt w c A k B m)
include hc
theorem cue_Check1 : Calls Try.prog 36 #[.agg (cueV c A k B m).toArray] w fun e w' => e = .returned (.int .i64 (numE c.number)) ∧ Ext w w':=by
 have hn:=hc.num
 clear hc
 simp only [cueV]
 go_enter Try.func36,Try.ntmps36
 go_wp2_with (go_at_call 37;refine (num_Check c.number _ hn).mono ?_;rintro e w' ⟨rfl,hx⟩;obtain ⟨y,rfl⟩:=hx.get;clear hx)
 go_ret
 exact ⟨rfl,ex⟩
theorem cue_Check2 : Calls Try.prog 38 #[.agg (cueV c A k B m).toArray] w fun e w' => e = .returned (.int .i64 (labelE c.label)) ∧ Ext w w':=by
 have hn:=hc.lab
 clear hc
 simp only [cueV]
 go_enter Try.func38,Try.ntmps38
 go_wp2_with (go_at_call 39;refine (cue_label c.label _ hn).mono ?_;rintro e w' ⟨rfl,hx⟩;obtain ⟨y,rfl⟩:=hx.get;clear hx)
 go_ret
 exact ⟨rfl,ex⟩
theorem cue_Check3 : Calls Try.prog 40 #[.agg (cueV c A k B m).toArray] w fun e w' => e = .returned (.int .i64 (movesE c.moves)) ∧ Ext w w':=by
 have hl2 : c.moves.length ≤ maxLen:=Nat.le_trans hc.hk hc.hk'
 have hk:=hc.hk
 have hk':=hc.hk'
 have hmv:=hc.mv
 clear hc
 simp only [cueV]
 go_enter Try.func40,Try.ntmps40
 go_wp2_with (go_at_call 41;refine (cue_Moves A k c.moves _ (hmv.mono (ex)) hl2 hk hk').mono ?_;rintro e w' ⟨rfl,hx⟩;obtain ⟨y,rfl⟩:=hx.get;clear hx)
 go_ret
 exact ⟨rfl,ex⟩
theorem cue_Check : Calls Try.prog 20 #[.agg (cueV c A k B m).toArray] w fun e w' => e = .returned (.int .i64 (cueE c)) ∧ Ext w w':=by
 have HC:=Lib.hid hc
 clear hc
 simp only [cueV]
 go_enter Try.func20,Try.ntmps20
 go_wp2
 refine wp_loop_rounds 6 ?_
 rw [rounds_succ]
 go_wp2_with (go_at_call 36;refine (cue_Check1 c A k B m _ (HC.out.mono (ex))).mono ?_;rintro e w' ⟨rfl,hx⟩;obtain ⟨y,rfl⟩:=hx.get;clear hx)
 all_goals try (go_ret;go_light;refine ⟨ret_i ?_,ex⟩;grind [cueE])
 rw [rounds_succ]
 go_wp2_with (go_at_call 38;refine (cue_Check2 c A k B m _ (HC.out.mono (ex))).mono ?_;rintro e w' ⟨rfl,hx⟩;obtain ⟨y,rfl⟩:=hx.get;clear hx)
 all_goals try (go_ret;go_light;refine ⟨ret_i ?_,ex⟩;grind [cueE])
 rw [rounds_succ]
 go_wp2_with (go_at_call 40;refine (cue_Check3 c A k B m _ (HC.out.mono (ex))).mono ?_;rintro e w' ⟨rfl,hx⟩;obtain ⟨y,rfl⟩:=hx.get;clear hx)
 all_goals try (go_ret;go_light;refine ⟨ret_i ?_,ex⟩;grind [cueE])
 rw [rounds_succ]
 go_wp2_with (go_at_call 42;refine (cue_parts c A k B m _ (HC.out.mono (ex))).mono ?_;rintro e w' ⟨rfl,hx⟩;obtain ⟨y,rfl⟩:=hx.get;clear hx)
 all_goals try (go_ret;go_light;refine ⟨ret_i ?_,ex⟩;grind [cueE])
 rw [rounds_succ]
 go_wp2_with (go_at_call 43;refine (cue_next c A k B m _ (HC.out.mono (ex))).mono ?_;rintro e w' ⟨rfl,hx⟩;obtain ⟨y,rfl⟩:=hx.get;clear hx)
 all_goals try (go_ret;go_light;refine ⟨ret_i ?_,ex⟩;grind [cueE])
 rw [rounds_succ]
 go_wp2
 go_ret
 go_light
 refine ⟨ret_i ?_,ex⟩
 grind [cueE]
end
end Go.Proofs.Ytgbecbnjokkfoaa
