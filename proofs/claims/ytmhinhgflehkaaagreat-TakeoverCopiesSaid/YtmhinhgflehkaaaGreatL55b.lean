/-
 Chapter 55: whether a log begins with records (of two equal logs).
-/
import Derived.Test.YtmhinhgflehkaaaGreatRq4
namespace Go.Proofs.YtmhinhgflehkaaaGreat
open Go.RowKit

set_option maxHeartbeats 3200000 in
set_option maxRecDepth 100000 in
theorem l55_begins (A : Option Addr) (c n : Nat) (B : Option Addr) (d k : Nat) (l : List Rec) (hn : l.length = n) (hk : l.length = k) (w : World) (h1 : RecsAt w A c l) (h2 : RecsAt w B d l) : Calls Tryz.prog 31 #[.slice A n c, .slice B k d] w fun e w' => e = .returned (.bool true) ∧ Ext w w' := by
 subst hn
 subst hk
 have hl := h1.len
 have H1 := Lib.hid h1
 have H2 := Lib.hid h2
 clear h1 h2
 go_enter Tryz.func31, Tryz.ntmps31
 go_wp2
 go_loopw [14] (fun i wr => ∃ k : Nat, k ≤ l.length ∧ i = .int .i64 k ∧ Ext w wr) (fun i _ => l.length - (intOf i).toNat)
 case atStart => exact ⟨0, by omega, rfl, Ext.refl _⟩
 case round =>
  obtain ⟨k, hk, rfl, hx⟩ := hrel
  obtain ⟨y0, rfl⟩ := hx.get
  clear hx
  by_cases hlt : k < l.length
  ·obtain ⟨m, hm⟩ : ∃ m, l[k]? = some m := ⟨_, List.getElem?_eq_getElem hlt⟩
   obtain ⟨b1, o1, rfl, hrec1, hac1⟩ := H1.out.get hm
   obtain ⟨b2, o2, rfl, hrec2, -⟩ := H2.out.get hm
   have hb0 : (0 : Int) ≤ (k : Int) := by omega
   have hb1 : (k : Int) < (l.length : Int) := by omega
   have hr1 := hrec1.act
   have ht1 := hrec1.term
   have hr2 := hrec2.row
   have HAC := Lib.hid hac1
   have HSA := Lib.hid (sameA_refl m.act)
   clear hrec1 hrec2 hm hac1
   go_wp2_with (refine wpList_store_top rfl 170 (.tmp 6) (.tmp 18) rfl rfl (by simp [go_sem]) (recR m) rfl rfl (by kernel_rfl) (recR_one m) ?_)
   (try simp only [Act.put])
   (refine wp_region_grows (by kernel_rfl) (by kernel_rfl) ?_; (repeat (go_big_quiet_step ((go_at_call 83; exact Calls.grows (r33_Same_as m.act m.act true HSA.out _ (HAC.out.mono (ex)) (HAC.out.mono (ex))))))); refine wpQuiet_nil ?_; rintro _ ⟨y, rfl⟩)
   go_wp2
   go_light
   exact ⟨⟨k + 1, by omega, by go_num, ex⟩, by simp [intOf]; omega⟩
  ·go_wp2
   go_ret
   exact ⟨rfl, ex⟩
end Go.Proofs.YtmhinhgflehkaaaGreat
