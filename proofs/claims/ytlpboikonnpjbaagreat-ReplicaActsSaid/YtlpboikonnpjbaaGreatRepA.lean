/-
  Chapter 54: the actions that are known to be at both nodes.
-/
import Derived.Test.YtlpboikonnpjbaaGreatGrpn
import Derived.Test.YtlpboikonnpjbaaGreatGrqa
namespace Go.Proofs.YtlpboikonnpjbaaGreat
open Go.RowKit

/-- Actions that the call made a list of, and an error's number. -/
def RetActs (w : World) (v : List Acn × Int) (e : Ending) (w' : World) : Prop := ∃ A k, e = .returned (.tuple #[.slice A v.1.length k, .int .i64 v.2]) ∧ Ext w w' ∧ Own w w' 45 44 A v.1.length k (v.1.map acnR) ∧ ∀ a ∈ v.1, AcnAt w a
theorem RetActs.err {w w' : World} {v : List Acn × Int} {x : Int} (h : v = ([], x)) (hx : Ext w w') : RetActs w v (.returned (.tuple #[.slice none 0 0, .int .i64 x])) w' := by
  subst h
  exact ⟨none, 0, rfl, hx, Own.nil _, by simp⟩
theorem RetActs.of {w w' : World} {v : List Acn × Int} {l : List Acn} {n k : Nat} {A : Option Addr} (h : v = (l, 0)) (hn : l.length = n) (hx : Ext w w') (ho : Own w w' 45 44 A n k (l.map acnR)) (he : ∀ a ∈ l, AcnAt w a) : RetActs w v (.returned (.tuple #[.slice A n k, .int .i64 0])) w' := by
  subst h hn
  exact ⟨A, k, rfl, hx, ho, he⟩
/-- The actions of the first k records. -/
def actsTo (l : List Rec) (k : Nat) : List Acn := (l.take k).map (·.act)
theorem actsTo_snoc {l : List Rec} {k : Nat} {m : Rec} (h : l[k]? = some m) : (actsTo l k).map acnR ++ [acnR m.act] = (actsTo l (k + 1)).map acnR := by
  obtain ⟨h1, h2⟩ := List.getElem?_eq_some_iff.1 h
  unfold actsTo
  rw [List.take_succ_eq_append_getElem h1, h2, List.map_append, List.map_append]; rfl
theorem actsTo_len {l : List Rec} {k : Nat} (h : k ≤ l.length) : (actsTo l k).length = k := by
  unfold actsTo; rw [List.length_map, List.length_take]; omega
theorem actsTo_el {w : World} {l : List Rec} {k : Nat} (h : ∀ r ∈ l, AcnAt w r.act) : ∀ a ∈ actsTo l k, AcnAt w a := fun a ha => by
  obtain ⟨r, hr, rfl⟩ := List.mem_map.1 ha
  exact h r (List.mem_of_mem_take hr)
set_option maxHeartbeats 3200000 in
set_option maxRecDepth 100000 in
theorem rep_Actions (n : Nod) (A : Option Addr) (c : Nat) (w : World) (hs : RecsAt w A c n.log) : Calls Tryz.prog 38 #[.agg #[.int .i64 n.id, .int .i64 n.term, .bool n.speaks, .slice A n.log.length c, .int .i64 n.acked, .int .i64 n.next]] w (RetActs w (actionsV n)) := by
  have hl := hs.len
  have HS := Lib.hid hs
  by_cases h : nodE n = 0
  · have hz : (nodE n != 0) = false := by simpa using h
    have hok := (nodE_iff n).1 h
    obtain ⟨q, hq⟩ : ∃ q : Nat, n.acked = q := ⟨n.acked.toNat, by have := hok.a0; omega⟩
    have hql : q ≤ n.log.length := by have := hok.a1; omega
    have h256 := hok.len
    have hcap := hs.le
    have i1 : (q : Int) ≤ (n.log.length : Int) := by omega
    have i2 : (q : Int) ≤ (c : Int) := by omega
    have i3 : (0 : Int) ≤ (q : Int) := by omega
    have HC := Lib.hid (fun W (hx : Ext w W) => rep_Check n A c W (hs.mono hx))
    have HV := Lib.hid (show actionsV n = (actsTo n.log q, 0) by unfold actionsV actsTo; rw [if_neg (by simpa using h), hq]; rfl)
    rw [hq] at HC ⊢
    clear h hok hq hs
    go_enter Tryz.func38, Tryz.ntmps38
    go_wp2_with (go_at_call 29; refine (HC.out _ (by repeat (first | exact Ext.refl _ | assumption | apply Ext.xt | apply Ext.alloc | apply Ext.drew | apply Ext.drewN))).mono ?_; rintro e w' ⟨rfl, hx⟩; obtain ⟨y, rfl⟩ := hx.get; clear hx)
    go_loopw [5, 19] (fun v i wr => ∃ (k : Nat) (D : Option Addr) (K : Nat), k ≤ q ∧ i = .int .i64 k ∧ v = .slice D k K ∧ Ext w wr ∧ Hid (Own w wr 45 44 D k K ((actsTo n.log k).map acnR))) (fun _ i _ => q - (intOf i).toNat)
    case atStart => exact ⟨0, none, 0, by omega, rfl, rfl, by repeat (first | exact Ext.refl _ | assumption | apply Ext.xt | apply Ext.alloc | apply Ext.drew | apply Ext.drewN), Lib.hid (Own.nil _)⟩
    case round =>
      obtain ⟨k, D, K, hk, rfl, rfl, hx, HO⟩ := hrel
      obtain ⟨y0, rfl⟩ := hx.get
      clear hx
      by_cases hlt : k < q
      · obtain ⟨m, hm⟩ : ∃ m, n.log[k]? = some m := ⟨_, List.getElem?_eq_getElem (by omega)⟩
        obtain ⟨b, o, rfl, hrec, -⟩ := HS.out.get hm
        have hb0 : (0 : Int) ≤ (k : Int) := by omega
        have hb1 : (k : Int) < (q : Int) := by omega
        have hr1 := hrec.row
        have HT := Lib.hid (actsTo_snoc hm)
        clear hrec hm
        go_wp2_with (first
          | (refine wpList_store_top rfl 107 (.tmp 7) (.tmp 22) rfl rfl (by simp [go_sem]) (recR m) rfl rfl (by kernel_rfl) (recR_one m) ?_)
          | (at_builtin; refine wpList_append_mine (w0 := w) rfl _ _ 90 90 rfl 45 45 44 544 Tryz.underlying90 Tryz.underlying90 info_A (by decide) (by repeat (first | exact Ext.refl _ | assumption | apply Ext.xt | apply Ext.alloc | apply Ext.drew | apply Ext.drewN)) D k K ((actsTo n.log k).map acnR) rfl (HO.out.mono (by repeat (first | exact Ext.refl _ | assumption | apply Ext.xt | apply Ext.alloc | apply Ext.drew | apply Ext.drewN))) _ 1 1 [acnR m.act] rfl (Sl.alloc' (by simp [go_sem]) (by simp) (acnR_rows [m.act])) rfl (acnR_ones1 m.act) (by unfold maxLen; omega) (by omega) (k + 1) rfl ((actsTo n.log (k + 1)).map acnR) HT.out ?_; intro D2 K2 w2 hx2 hown hg hA; have HO2 := Lib.hid hown; obtain ⟨y2, rfl⟩ := hx2.get; clear hown hx2 hg hA))
        go_light
        exact ⟨⟨k + 1, D2, K2, by omega, by go_num, rfl, by repeat (first | exact Ext.refl _ | assumption | apply Ext.xt | apply Ext.alloc | apply Ext.drew | apply Ext.drewN), HO2⟩, by simp [intOf]; omega⟩
      · have HK := Lib.hid (show k = q by omega)
        go_wp2
        go_ret2
        have h9 := HO.out
        rw [HK.out] at h9 ⊢
        exact RetActs.of HV.out (actsTo_len hql) (by repeat (first | exact Ext.refl _ | assumption | apply Ext.xt | apply Ext.alloc | apply Ext.drew | apply Ext.drewN)) h9 (actsTo_el HS.out.el)
  · have hz : (nodE n != 0) = true := by simpa using h
    have HV := Lib.hid (show actionsV n = ([], nodE n) by unfold actionsV; rw [if_pos h])
    clear h hs
    go_enter Tryz.func38, Tryz.ntmps38
    go_wp2_with (go_at_call 29; refine (rep_Check n A c _ (HS.out.mono (by repeat (first | exact Ext.refl _ | assumption | apply Ext.xt | apply Ext.alloc | apply Ext.drew | apply Ext.drewN)))).mono ?_; rintro e w' ⟨rfl, hx⟩; obtain ⟨y, rfl⟩ := hx.get; clear hx)
    go_ret2
    exact RetActs.err HV.out (by repeat (first | exact Ext.refl _ | assumption | apply Ext.xt | apply Ext.alloc | apply Ext.drew | apply Ext.drewN))
set_option maxHeartbeats 3200000 in
set_option maxRecDepth 100000 in
theorem r54_Actions (n : Nod) (A : Option Addr) (c : Nat) (w : World) (hs : RecsAt w A c n.log) : Calls Tryz.prog 39 #[.agg #[.int .i64 n.id, .int .i64 n.term, .bool n.speaks, .slice A n.log.length c, .int .i64 n.acked, .int .i64 n.next]] w (RetActs w (actionsV n)) := by
  have hl := hs.len
  have HS := Lib.hid hs
  by_cases h : nodE n = 0
  · have hz : (nodE n != 0) = false := by simpa using h
    have hok := (nodE_iff n).1 h
    obtain ⟨q, hq⟩ : ∃ q : Nat, n.acked = q := ⟨n.acked.toNat, by have := hok.a0; omega⟩
    have hql : q ≤ n.log.length := by have := hok.a1; omega
    have h256 := hok.len
    have HC := Lib.hid (fun W (hx : Ext w W) => r54_Check n A c W (hs.mono hx))
    have HV := Lib.hid (show actionsV n = (actsTo n.log q, 0) by unfold actionsV actsTo; rw [if_neg (by simpa using h), hq]; rfl)
    rw [hq] at HC ⊢
    clear h hok hq hs
    go_enter Tryz.func39, Tryz.ntmps39
    go_wp2_with (go_at_call 27; refine (HC.out _ (by repeat (first | exact Ext.refl _ | assumption | apply Ext.xt | apply Ext.alloc | apply Ext.drew | apply Ext.drewN))).mono ?_; rintro e w' ⟨rfl, hx⟩; obtain ⟨y, rfl⟩ := hx.get; clear hx)
    go_loopw [5, 6] (fun v i wr => ∃ (k : Nat) (D : Option Addr) (K : Nat), k ≤ q ∧ i = .int .i64 k ∧ v = .slice D k K ∧ Ext (w.alloc (.cells #[.int .i64 n.id, .int .i64 n.term, .bool n.speaks, .slice A n.log.length c, .int .i64 q, .int .i64 n.next] 65)) wr ∧ Hid (Own (w.alloc (.cells #[.int .i64 n.id, .int .i64 n.term, .bool n.speaks, .slice A n.log.length c, .int .i64 q, .int .i64 n.next] 65)) wr 45 44 D k K ((actsTo n.log k).map acnR))) (fun _ i _ => q - (intOf i).toNat)
    case atStart => exact ⟨0, none, 0, by omega, rfl, rfl, by repeat (first | exact Ext.refl _ | assumption | apply Ext.xt | apply Ext.alloc | apply Ext.drew | apply Ext.drewN), Lib.hid (Own.nil _)⟩
    case round =>
      obtain ⟨k, D, K, hk, rfl, rfl, hx, HO⟩ := hrel
      obtain ⟨y0, rfl⟩ := hx.get
      clear hx
      by_cases hlt : k < q
      · obtain ⟨m, hm⟩ : ∃ m, n.log[k]? = some m := ⟨_, List.getElem?_eq_getElem (by omega)⟩
        obtain ⟨b, o, rfl, hrec, -⟩ := HS.out.get hm
        have hb0 : (0 : Int) ≤ (k : Int) := by omega
        have hb1 : (k : Int) < (q : Int) := by omega
        have hb2 : (k : Int) < (n.log.length : Int) := by omega
        have hr1 := hrec.act
        have HT := Lib.hid (actsTo_snoc hm)
        clear hrec hm
        go_wp2_with (at_builtin; refine wpList_append_mine (w0 := (w.alloc (.cells #[.int .i64 n.id, .int .i64 n.term, .bool n.speaks, .slice (some ⟨b, o, none⟩) n.log.length c, .int .i64 q, .int .i64 n.next] 65))) rfl _ _ 90 90 rfl 45 45 44 544 Tryz.underlying90 Tryz.underlying90 info_A (by decide) (by repeat (first | exact Ext.refl _ | assumption | apply Ext.xt | apply Ext.alloc | apply Ext.drew | apply Ext.drewN)) D k K ((actsTo n.log k).map acnR) rfl (HO.out.mono (by repeat (first | exact Ext.refl _ | assumption | apply Ext.xt | apply Ext.alloc | apply Ext.drew | apply Ext.drewN))) _ 1 1 [acnR m.act] rfl (Sl.alloc' (by simp [go_sem]) (by simp) (acnR_rows [m.act])) rfl (acnR_ones1 m.act) (by unfold maxLen; omega) (by omega) (k + 1) rfl ((actsTo n.log (k + 1)).map acnR) HT.out ?_; intro D2 K2 w2 hx2 hown hg hA; have HO2 := Lib.hid hown; obtain ⟨y2, rfl⟩ := hx2.get; clear hown hx2 hg hA)
        go_light
        exact ⟨⟨k + 1, D2, K2, by omega, by go_num, rfl, by repeat (first | exact Ext.refl _ | assumption | apply Ext.xt | apply Ext.alloc | apply Ext.drew | apply Ext.drewN), HO2⟩, by simp [intOf]; omega⟩
      · have HK := Lib.hid (show k = q by omega)
        go_wp2
        go_ret2
        have h9 := HO.out
        rw [HK.out] at h9 ⊢
        exact RetActs.of HV.out (actsTo_len hql) (by repeat (first | exact Ext.refl _ | assumption | apply Ext.xt | apply Ext.alloc | apply Ext.drew | apply Ext.drewN)) (Own.older h9 (by repeat (first | exact Ext.refl _ | assumption | apply Ext.xt | apply Ext.alloc | apply Ext.drew | apply Ext.drewN))) (actsTo_el HS.out.el)
  · have hz : (nodE n != 0) = true := by simpa using h
    have HV := Lib.hid (show actionsV n = ([], nodE n) by unfold actionsV; rw [if_pos h])
    clear h hs
    go_enter Tryz.func39, Tryz.ntmps39
    go_wp2_with (go_at_call 27; refine (r54_Check n A c _ (HS.out.mono (by repeat (first | exact Ext.refl _ | assumption | apply Ext.xt | apply Ext.alloc | apply Ext.drew | apply Ext.drewN)))).mono ?_; rintro e w' ⟨rfl, hx⟩; obtain ⟨y, rfl⟩ := hx.get; clear hx)
    go_ret2
    exact RetActs.err HV.out (by repeat (first | exact Ext.refl _ | assumption | apply Ext.xt | apply Ext.alloc | apply Ext.drew | apply Ext.drewN))
end Go.Proofs.YtlpboikonnpjbaaGreat
