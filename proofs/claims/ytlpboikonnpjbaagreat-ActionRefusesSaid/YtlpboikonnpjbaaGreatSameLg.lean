/-
  Logs of actions: a list is the same as itself, wherever it lies.
-/
import Derived.Test.YtlpboikonnpjbaaGreatARef4
import Derived.Test.YtlpboikonnpjbaaGreatGlog
import Derived.Test.YtlpboikonnpjbaaGreatQuiet
namespace Go.Proofs.YtlpboikonnpjbaaGreat
open Go.RowKit

theorem r33_Same_self (a : Acn) (w : World) (ha : AcnAt w a) : Calls Tryz.prog 79 #[.agg (acnR a).toArray, .agg (acnR a).toArray] w fun r w' => r = .returned (.bool true) ∧ Ext w w' := by
  rw [← sameA_refl a]
  exact r33_Same a a w ha ha
set_option maxHeartbeats 1600000 in
set_option maxRecDepth 100000 in
theorem r33_SameLog1 (A B : Option Addr) (c d : Nat) (l : List Acn) (w : World) (ha : LogAt w A c l) (hb : LogAt w B d l) :
    Calls Tryz.prog 40 #[.slice A l.length c, .slice B l.length d] w fun e w' => e = .returned (.bool true) ∧ Ext w w' := by
  have hl := Nat.le_trans ha.le ha.cap
  unfold maxLen at hl
  have H1 := Lib.hid ha
  have H2 := Lib.hid hb
  clear ha hb
  go_enter Tryz.func40, Tryz.ntmps40
  go_wp2
  go_loopw [5] (fun i wr => ∃ k : Nat, k ≤ l.length ∧ i = .int .i64 k ∧ Ext w wr) (fun i _ => l.length - (intOf i).toNat)
  case atStart => exact ⟨0, by omega, rfl, Ext.refl _⟩
  case round =>
    obtain ⟨k, hk, rfl, hx⟩ := hrel
    obtain ⟨y, rfl⟩ := hx.get
    clear hx
    by_cases hlt : k < l.length
    · obtain ⟨m, hm⟩ : ∃ m, l[k]? = some m := ⟨_, List.getElem?_eq_getElem hlt⟩
      obtain ⟨⟨b, o, rfl, hr⟩, hat⟩ := H1.out.get hm
      obtain ⟨⟨b2, o2, rfl, hr2⟩, -⟩ := H2.out.get hm
      have hb0 : (0 : Int) ≤ (k : Int) := by omega
      have hb1 : (k : Int) < (l.length : Int) := by omega
      have HR := Lib.hid hr
      have HR2 := Lib.hid hr2
      have HA := Lib.hid hat
      clear hr hr2 hat hm
      go_wp2
      refine wp_region_grows (by kernel_rfl) (by kernel_rfl) ?_
      repeat (first
        | (go_big_quiet_want; refine quiet_load_row 45 (.tmp 19) rfl b (o + k * 44) rfl (acnR m) _ Tryz.underlying45 rfl (by kernel_rfl) (fun wx hwx => by obtain ⟨yy, rfl⟩ := hwx; exact rangeAt_mono HR.out (by repeat (first | exact Ext.refl _ | assumption | apply Ext.xt | apply Ext.alloc | apply Ext.drew | apply Ext.drewN))) (by simp [Act.put]; rfl) ?_; go_big_quiet_on)
        | (go_big_quiet_want; refine quiet_load_row 45 (.tmp 23) rfl b2 (o2 + k * 44) rfl (acnR m) _ Tryz.underlying45 rfl (by kernel_rfl) (fun wx hwx => by obtain ⟨yy, rfl⟩ := hwx; exact rangeAt_mono HR2.out (by repeat (first | exact Ext.refl _ | assumption | apply Ext.xt | apply Ext.alloc | apply Ext.drew | apply Ext.drewN))) (by simp [Act.put]; rfl) ?_; go_big_quiet_on)
        | go_big_quiet_step ((go_at_call 79; exact Calls.grows (r33_Same_self m _ (HA.out.mono (by repeat (first | exact Ext.refl _ | assumption | apply Ext.xt | apply Ext.alloc | apply Ext.drew | apply Ext.drewN)))))))
      refine wpQuiet_nil ?_
      rintro _ ⟨y2, rfl⟩
      go_wp2
      go_light
      exact ⟨⟨k + 1, by omega, by go_num, by repeat (first | exact Ext.refl _ | assumption | apply Ext.xt | apply Ext.alloc | apply Ext.drew | apply Ext.drewN)⟩, by simp [intOf]; omega⟩
    · go_wp2
      go_ret
      exact ⟨rfl, by repeat (first | exact Ext.refl _ | assumption | apply Ext.xt | apply Ext.alloc | apply Ext.drew | apply Ext.drewN)⟩
end Go.Proofs.YtlpboikonnpjbaaGreat
