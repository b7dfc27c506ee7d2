/-
  A palette put into an empty list.
-/
import Derived.Test.YtgmicckeefoghaaPal6
import Derived.Test.YtgmicckeefoghaaSet
namespace Go.Proofs.Ytgmicckeefoghaa
open Go.RowKit

theorem info_Pal : infoOk Try.prog 98 2 32 = true := by kernel_rfl
theorem palR_one (l : List Pal) : ∀ r ∈ l.map palR, ∀ u ∈ r, u.oneCell' = true := fun r hr u hu => by
  obtain ⟨m, _, rfl⟩ := List.mem_map.1 hr
  simp [palR] at hu
  rcases hu with rfl | rfl <;> rfl
@[go_sem] theorem nil_Pal (A : Option Addr) (n c n' c' : Nat) (w : World) : (binOp .eql 99 (.slice A n c) (.slice none n' c')).run Try.prog w = .ok (.bool A.isNone) w := Lib.run_eql_slice_nil w _ _ A n c n' c' Try.underlying99

set_option maxHeartbeats 400000 in
set_option maxRecDepth 100000 in
theorem Clone_nilP (w : World) : Calls Try.prog 136 #[.slice none 0 0] w fun e w' => e = .returned (.slice none 0 0) ∧ Ext w w' := by
  go_enter Try.func136, Try.ntmps136
  go_wp2
  go_ret
  exact ⟨rfl, by repeat (first | exact Ext.refl _ | assumption | apply Ext.xt | apply Ext.alloc | apply Ext.drew | apply Ext.drewN)⟩
set_option maxHeartbeats 800000 in
set_option maxRecDepth 100000 in
theorem Insert_nilP (V : Option Addr) (c : Nat) (x : Pal) (w : World) (hs : Sl w V 2 [palR x]) : Calls Try.prog 137 #[.slice none 0 0, .int .i64 0, .slice V 1 c] w (RetSl w 98 2 1 [palR x]) := by
  go_enter Try.func137, Try.ntmps137
  go_wp2_with (at_builtin; refine wpList_append_mine (w0 := w) rfl _ _ 99 99 rfl 98 98 2 32 Try.underlying99 Try.underlying99 info_Pal (by decide) (by repeat (first | exact Ext.refl _ | assumption | apply Ext.xt | apply Ext.alloc | apply Ext.drew | apply Ext.drewN)) none 0 0 [] rfl (Own.nil _) V 1 c [palR x] rfl (hs.mono (by repeat (first | exact Ext.refl _ | assumption | apply Ext.xt | apply Ext.alloc | apply Ext.drew | apply Ext.drewN))) rfl (palR_one [x]) (by unfold maxLen; omega) (by omega) 1 rfl [palR x] rfl ?_; intro D k' w1 hx1 hown hg hA; have HO := Lib.hid hown; obtain ⟨y, rfl⟩ := hx1.get; clear hown hx1 hg hA)
  go_ret
  exact ⟨D, k', rfl, by repeat (first | exact Ext.refl _ | assumption | apply Ext.xt | apply Ext.alloc | apply Ext.drew | apply Ext.drewN), HO.out⟩
theorem pals_one {w : World} {A : Option Addr} {x : Pal} (hs : Sl w A 2 [palR x]) (hx : Sl w x.at_ 3 (x.hues.map hueR)) (hl : x.hues.length ≤ maxLen) : Pals w A [x] := ⟨hs, fun p hp => by
  obtain rfl := List.mem_singleton.1 hp
  exact ⟨hx, hl⟩⟩

set_option maxHeartbeats 1600000 in
set_option maxRecDepth 100000 in
theorem pal_Put_nil (x : Pal) (w : World) (hx : Sl w x.at_ 3 (x.hues.map hueR)) (hok : palsE [x] = 0) (hl : x.hues.length ≤ maxLen) :
    Calls Try.prog 73 #[.slice none 0 0, .agg (palR x).toArray] w fun e w' => ∃ D q, e = .returned (.tuple #[.slice D 1 q, .int .i64 0]) ∧ Ext w w' ∧ Pals w' D [x] := by
  have HX := Lib.hid hx
  have HL := Lib.hid hl
  have hone : [x].length ≤ maxLen := (by decide : 1 ≤ maxLen)
  have h0 : palsE [] = 0 := by decide
  have h1 : palsE [x] = 0 := hok
  have hp0 : posN [] x.number = 0 := rfl
  have hf0 : foundN [] x.number = false := rfl
  have HN := Lib.hid (show -2000000 ≤ x.number ∧ x.number ≤ 2000000 by have := pal_in (palsE_scan hok).2 (i := 0) (a := x) rfl; omega)
  clear hx hok hl
  simp only [palR]
  go_enter Try.func73, Try.ntmps73
  go_wp2_with (first
    | (go_at_call 117; have hh := G1; clear hh; refine (pal_Check _ 1 [x] _ (pals_one (Sl.alloc' (by simp [go_sem]) rfl (by simp [palR])) (HX.out.mono (by repeat (first | exact Ext.refl _ | assumption | apply Ext.xt | apply Ext.alloc | apply Ext.drew | apply Ext.drewN))) HL.out) hone).mono ?_; rintro e w' ⟨rfl, hx⟩; obtain ⟨y2, rfl⟩ := hx.get; clear hx)
    | (go_at_call 117; refine (pal_Check none 0 [] _ ⟨Sl.nil _ _ _, by simp⟩ (by decide)).mono ?_; rintro e w' ⟨rfl, hx⟩; have G1 := Lib.hid trivial; obtain ⟨y1, rfl⟩ := hx.get; clear hx)
    | (go_at_call 135; refine (pal_search none 0 [] x.number _ (Sl.nil _ _ _) (by decide) (by decide) HN.out).mono ?_; rintro e w' ⟨rfl, hx⟩; obtain ⟨y, rfl⟩ := hx.get; clear hx)
    | (go_at_call 136; refine (Clone_nilP _).mono ?_; rintro e w' ⟨rfl, hx⟩; obtain ⟨y, rfl⟩ := hx.get; clear hx)
    | (go_at_call 137; refine (Insert_nilP _ 1 x _ (Sl.alloc' (by simp [go_sem]) rfl (by simp [palR]))).mono ?_; rintro e w' ⟨D, q, rfl, hx, hown⟩; have HO := Lib.hid hown; obtain ⟨y3, rfl⟩ := hx.get; clear hx hown))
  go_ret2
  exact ⟨D, q, rfl, by repeat (first | exact Ext.refl _ | assumption | apply Ext.xt | apply Ext.alloc | apply Ext.drew | apply Ext.drewN), pals_one (HO.out.sl.mono (by repeat (first | exact Ext.refl _ | assumption | apply Ext.xt | apply Ext.alloc | apply Ext.drew | apply Ext.drewN))) (HX.out.mono (by repeat (first | exact Ext.refl _ | assumption | apply Ext.xt | apply Ext.alloc | apply Ext.drew | apply Ext.drewN))) HL.out⟩
end Go.Proofs.Ytgmicckeefoghaa
