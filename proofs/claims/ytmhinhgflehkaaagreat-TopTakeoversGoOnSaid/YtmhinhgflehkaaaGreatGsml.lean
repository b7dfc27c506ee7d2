/-
 Chapter 54: the actions that are known to be at both nodes.
-/
import Derived.Test.YtmhinhgflehkaaaGreatGrpn
import Derived.Test.YtmhinhgflehkaaaGreatGrqa
import Derived.Test.YtmhinhgflehkaaaGreatGarf
import Derived.Test.YtmhinhgflehkaaaGreatGlog
import Derived.Test.YtmhinhgflehkaaaGreatGwl
namespace Go.Proofs.YtmhinhgflehkaaaGreat
open Go.RowKit

def RetActs (w : World) (v : List Acn × Int) (e : Ending) (w' : World) : Prop := ∃ A k, e = .returned (.tuple #[.slice A v.1.length k, .int .i64 v.2]) ∧ Ext w w' ∧ Own w w' 87 44 A v.1.length k (v.1.map acnR) ∧ ∀ a ∈ v.1, AcnAt w a
theorem RetActs.err {w w' : World} {v : List Acn × Int} {x : Int} (h : v = ([], x)) (hx : Ext w w') : RetActs w v (.returned (.tuple #[.slice none 0 0, .int .i64 x])) w' := by
 subst h
 exact ⟨none, 0, rfl, hx, Own.nil _, by simp⟩
theorem RetActs.of {w w' : World} {v : List Acn × Int} {l : List Acn} {n k : Nat} {A : Option Addr} (h : v = (l, 0)) (hn : l.length = n) (hx : Ext w w') (ho : Own w w' 87 44 A n k (l.map acnR)) (he : ∀ a ∈ l, AcnAt w a) : RetActs w v (.returned (.tuple #[.slice A n k, .int .i64 0])) w' := by
 subst h hn
 exact ⟨A, k, rfl, hx, ho, he⟩
def actsTo (l : List Rec) (k : Nat) : List Acn := (l.take k).map (·.act)
theorem actsTo_snoc {l : List Rec} {k : Nat} {m : Rec} (h : l[k]? = some m) : (actsTo l k).map acnR ++ [acnR m.act] = (actsTo l (k + 1)).map acnR := by
 obtain ⟨h1, h2⟩ := List.getElem?_eq_some_iff.1 h
 unfold actsTo
 rw [List.take_succ_eq_append_getElem h1, h2, List.map_append, List.map_append]; rfl
theorem actsTo_len {l : List Rec} {k : Nat} (h : k ≤ l.length) : (actsTo l k).length = k := by
 unfold actsTo; rw [List.length_map, List.length_take]; omega
theorem actsTo_el {w : World} {l : List Rec} {k : Nat} (h : ∀ r ∈ l, AcnAt w r.act) : ∀ a ∈ actsTo l k, AcnAt w a := fun a ha => by
 obtain ⟨r, hr, rfl⟩ := List.mem_map.1 ha
 exact h r (List.mem_of_mem_take hr)
set_option maxHeartbeats 3200000 in
set_option maxRecDepth 100000 in
theorem rep_Actions (n : Nod) (A : Option Addr) (c : Nat) (w : World) (hs : RecsAt w A c n.log) : Calls Tryz.prog 54 #[.agg #[.int .i64 n.id, .int .i64 n.term, .bool n.speaks, .slice A n.log.length c, .int .i64 n.acked, .int .i64 n.next]] w (RetActs w (actionsV n)) := by
 have hl := hs.len
 have HS := Lib.hid hs
 by_cases h : nodE n = 0
 ·have hz : (nodE n != 0) = false := by simpa using h
  have hok := (nodE_iff n).1 h
  obtain ⟨q, hq⟩ : ∃ q : Nat, n.acked = q := ⟨n.acked.toNat, by have := hok.a0; omega⟩
  have hql : q ≤ n.log.length := by have := hok.a1; omega
  have h256 := hok.len
  have hcap := hs.le
  have i1 : (q : Int) ≤ (n.log.length : Int) := by omega
  have i2 : (q : Int) ≤ (c : Int) := by omega
  have i3 : (0 : Int) ≤ (q : Int) := by omega
  have HC := Lib.hid (fun W (hx : Ext w W) => rep_Check n A c W (hs.mono hx))
  have HV := Lib.hid (show actionsV n = (actsTo n.log q, 0) by unfold actionsV actsTo; rw [if_neg (by simpa using h), hq]; rfl)
  rw [hq] at HC ⊢
  clear h hok hq hs
  go_enter Tryz.func54, Tryz.ntmps54
  go_wp2_with (go_at_call 103; refine (HC.out _ (ex)).mono ?_; rintro e w' ⟨rfl, hx⟩; obtain ⟨y, rfl⟩ := hx.get; clear hx)
  go_loopw [5, 19] (fun v i wr => ∃ (k : Nat) (D : Option Addr) (K : Nat), k ≤ q ∧ i = .int .i64 k ∧ v = .slice D k K ∧ Ext w wr ∧ Hid (Own w wr 87 44 D k K ((actsTo n.log k).map acnR))) (fun _ i _ => q - (intOf i).toNat)
  case atStart => exact ⟨0, none, 0, by omega, rfl, rfl, ex, Lib.hid (Own.nil _)⟩
  case round =>
   obtain ⟨k, D, K, hk, rfl, rfl, hx, HO⟩ := hrel
   obtain ⟨y0, rfl⟩ := hx.get
   clear hx
   by_cases hlt : k < q
   ·obtain ⟨m, hm⟩ : ∃ m, n.log[k]? = some m := ⟨_, List.getElem?_eq_getElem (by omega)⟩
    obtain ⟨b, o, rfl, hrec, -⟩ := HS.out.get hm
    have hb0 : (0 : Int) ≤ (k : Int) := by omega
    have hb1 : (k : Int) < (q : Int) := by omega
    have hr1 := hrec.row
    have HT := Lib.hid (actsTo_snoc hm)
    clear hrec hm
    go_wp2_with (first
     | (refine wpList_store_top rfl 170 (.tmp 7) (.tmp 22) rfl rfl (by simp [go_sem]) (recR m) rfl rfl (by kernel_rfl) (recR_one m) ?_)
     | (at_builtin; refine wpList_append_mine (w0 := w) rfl _ _ 129 129 rfl 87 87 44 544 Tryz.underlying129 Tryz.underlying129 info_A (by decide) (ex) D k K ((actsTo n.log k).map acnR) rfl (HO.out.mono (ex)) _ 1 1 [acnR m.act] rfl (Sl.alloc' (by simp [go_sem]) (by simp) (acnR_rows [m.act])) rfl (acnR_ones1 m.act) (by unfold maxLen; omega) (by omega) (k + 1) rfl ((actsTo n.log (k + 1)).map acnR) HT.out ?_; intro D2 K2 w2 hx2 hown hg hA; have HO2 := Lib.hid hown; obtain ⟨y2, rfl⟩ := hx2.get; clear hown hx2 hg hA))
    go_light
    exact ⟨⟨k + 1, D2, K2, by omega, by go_num, rfl, ex, HO2⟩, by simp [intOf]; omega⟩
   ·have HK := Lib.hid (show k = q by omega)
    go_wp2
    go_ret2
    have h9 := HO.out
    rw [HK.out] at h9 ⊢
    exact RetActs.of HV.out (actsTo_len hql) (ex) h9 (actsTo_el HS.out.el)
 ·have hz : (nodE n != 0) = true := by simpa using h
  have HV := Lib.hid (show actionsV n = ([], nodE n) by unfold actionsV; rw [if_pos h])
  clear h hs
  go_enter Tryz.func54, Tryz.ntmps54
  go_wp2_with (go_at_call 103; refine (rep_Check n A c _ (HS.out.mono (ex))).mono ?_; rintro e w' ⟨rfl, hx⟩; obtain ⟨y, rfl⟩ := hx.get; clear hx)
  go_ret2
  exact RetActs.err HV.out (ex)
end Go.Proofs.YtmhinhgflehkaaaGreat

/-
 Logs of actions: a list is the same as itself, wherever it lies.
-/
namespace Go.Proofs.YtmhinhgflehkaaaGreat
open Go.RowKit

theorem r33_Same_self (a : Acn) (w : World) (ha : AcnAt w a) : Calls Tryz.prog 83 #[.agg (acnR a).toArray, .agg (acnR a).toArray] w fun r w' => r = .returned (.bool true) ∧ Ext w w' := by
 rw [← sameA_refl a]
 exact r33_Same a a w ha ha
set_option maxHeartbeats 1600000 in
set_option maxRecDepth 100000 in
theorem r33_SameLog1 (A B : Option Addr) (c d : Nat) (l : List Acn) (w : World) (ha : LogAt w A c l) (hb : LogAt w B d l) :
  Calls Tryz.prog 55 #[.slice A l.length c, .slice B l.length d] w fun e w' => e = .returned (.bool true) ∧ Ext w w' := by
 have hl := Nat.le_trans ha.le ha.cap
 unfold maxLen at hl
 have H1 := Lib.hid ha
 have H2 := Lib.hid hb
 clear ha hb
 go_enter Tryz.func55, Tryz.ntmps55
 go_wp2
 go_loopw [5] (fun i wr => ∃ k : Nat, k ≤ l.length ∧ i = .int .i64 k ∧ Ext w wr) (fun i _ => l.length - (intOf i).toNat)
 case atStart => exact ⟨0, by omega, rfl, Ext.refl _⟩
 case round =>
  obtain ⟨k, hk, rfl, hx⟩ := hrel
  obtain ⟨y, rfl⟩ := hx.get
  clear hx
  by_cases hlt : k < l.length
  ·obtain ⟨m, hm⟩ : ∃ m, l[k]? = some m := ⟨_, List.getElem?_eq_getElem hlt⟩
   obtain ⟨⟨b, o, rfl, hr⟩, hat⟩ := H1.out.get hm
   obtain ⟨⟨b2, o2, rfl, hr2⟩, -⟩ := H2.out.get hm
   have hb0 : (0 : Int) ≤ (k : Int) := by omega
   have hb1 : (k : Int) < (l.length : Int) := by omega
   have HR := Lib.hid hr
   have HR2 := Lib.hid hr2
   have HA := Lib.hid hat
   clear hr hr2 hat hm
   go_wp2
   refine wp_region_grows (by kernel_rfl) (by kernel_rfl) ?_
   repeat (first
    | (go_big_quiet_want; refine quiet_load_row 87 (.tmp 19) rfl b (o + k * 44) rfl (acnR m) _ Tryz.underlying87 rfl (by kernel_rfl) (fun wx hwx => by obtain ⟨yy, rfl⟩ := hwx; exact rangeAt_mono HR.out (ex)) (by simp [Act.put]; rfl) ?_; go_big_quiet_on)
    | (go_big_quiet_want; refine quiet_load_row 87 (.tmp 23) rfl b2 (o2 + k * 44) rfl (acnR m) _ Tryz.underlying87 rfl (by kernel_rfl) (fun wx hwx => by obtain ⟨yy, rfl⟩ := hwx; exact rangeAt_mono HR2.out (ex)) (by simp [Act.put]; rfl) ?_; go_big_quiet_on)
    | go_big_quiet_step ((go_at_call 83; exact Calls.grows (r33_Same_self m _ (HA.out.mono (ex))))))
   refine wpQuiet_nil ?_
   rintro _ ⟨y2, rfl⟩
   go_wp2
   go_light
   exact ⟨⟨k + 1, by omega, by go_num, ex⟩, by simp [intOf]; omega⟩
  ·go_wp2
   go_ret
   exact ⟨rfl, ex⟩
end Go.Proofs.YtmhinhgflehkaaaGreat

/-
 Chapter 33's reference: SameLog of lists that are the same action by action.
-/
namespace Go.Proofs.YtmhinhgflehkaaaGreat
open Go.RowKit

end Go.Proofs.YtmhinhgflehkaaaGreat

/-
 Chapter 54: what Actions leaves, by its parts.
-/
namespace Go.Proofs.YtmhinhgflehkaaaGreat
open Go.RowKit

def GotAC (w : World) (l : List Acn) (er : Int) (e : Ending) (W : World) : Prop := ∃ A k, e = .returned (.tuple #[.slice A l.length k, .int .i64 er]) ∧ Ext w W ∧ LogAt W A k l
end Go.Proofs.YtmhinhgflehkaaaGreat
