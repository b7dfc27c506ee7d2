/-
  ReplicaActs.
-/
import Derived.Test.YtlpboikonnpjbaaGreatGact
import Derived.Test.YtlpboikonnpjbaaGreatGrpn
import Derived.Test.YtlpboikonnpjbaaGreatGrpj
import Derived.Test.YtlpboikonnpjbaaGreatGrpm
import Derived.Test.YtlpboikonnpjbaaGreatGrpr
namespace Go.Proofs.YtlpboikonnpjbaaGreat
open Go.RowKit

section
variable (n : Nod) (A : Option Addr) (c : Nat) (t : Int) (a : Acn) (w : World) (hs : RecsAt w A c n.log) (ha : AcnAt w a) (hb1 : n.log.length * 552 ≤ 140737488355328)
include hs ha hb1
set_option maxHeartbeats 6400000 in
set_option maxRecDepth 100000 in
theorem l54_Acts : Calls Tryz.prog 6 #[.agg #[.int .i64 n.id, .int .i64 n.term, .bool n.speaks, .slice A n.log.length c, .int .i64 n.acked, .int .i64 n.next], .int .i64 t, .agg (acnR a).toArray] w fun e w' => e = .returned (.bool true) ∧ Ext w w' := by
  have HS := Lib.hid hs
  have HA := Lib.hid ha
  have hln := hs.len
  obtain ⟨⟨x1, e1⟩, hv1⟩ : ∃ v, leadV n t = v := ⟨_, rfl⟩
  obtain ⟨⟨x2, e2⟩, hv2⟩ : ∃ v, actV n a = v := ⟨_, rfl⟩
  obtain ⟨⟨m1, e3⟩, hv3⟩ : ∃ v, sendV n = v := ⟨_, rfl⟩
  obtain ⟨⟨l1, e4⟩, hv4⟩ : ∃ v, actionsV n = v := ⟨_, rfl⟩
  have he1 : ∀ r ∈ x1.log, AcnAt w r.act := by have := leadV_log (R := fun r => AcnAt w r.act) n t hs.el; rwa [hv1] at this
  have he2 : ∀ r ∈ x2.log, AcnAt w r.act := by have := actV_log (R := fun r => AcnAt w r.act) n a hs.el ha; rwa [hv2] at this
  have hb2 : x1.log.length * 552 ≤ 140737488355328 := by have := leadV_len n t; rw [hv1] at this; simp only at this; omega
  have hb3 : x2.log.length * 552 ≤ 140737488355328 := by have := actV_len n a; rw [hv2] at this; simp only at this; omega
  have hb4 : m1.recs.length * 552 ≤ 140737488355328 := by have := sendV_len n; rw [hv3] at this; simp only at this; omega
  have HE1 := Lib.hid he1
  have HE2 := Lib.hid he2
  have HL1 := Lib.hid (fun (W : World) (hx : Ext w W) => (rep_Lead n A c t W (hs.mono hx)).mono fun _ _ h => RetNod.parts h hv1 he1)
  have HL2 := Lib.hid (fun (W : World) (D : Option Addr) (K : Nat) (h1 : RecsAt W D K n.log) => (r54_Lead n D K t W h1).mono fun _ _ h => RetNod.parts h hv1 he1)
  have HA1 := Lib.hid (fun (W : World) (hx : Ext w W) => (rep_Act n A c a W (hs.mono hx) (ha.mono hx)).mono fun _ _ h => RetNod.parts h hv2 he2)
  have HA2 := Lib.hid (fun (W : World) (D : Option Addr) (K : Nat) (h1 : RecsAt W D K n.log) (hx : Ext w W) => (r54_Act n D K a W h1 (ha.mono hx)).mono fun _ _ h => RetNod.parts h hv2 he2)
  have HM1 := Lib.hid (fun (W : World) (hx : Ext w W) => (rep_Send n A c W (hs.mono hx)).mono fun _ _ h => RetMsgE.parts h hv3)
  have HM2 := Lib.hid (fun (W : World) (D : Option Addr) (K : Nat) (h1 : RecsAt W D K n.log) => (r54_Send n D K W h1).mono fun _ _ h => RetMsgEQ.parts h hv3)
  have HX1 := Lib.hid (fun (W : World) (hx : Ext w W) => (rep_Actions n A c W (hs.mono hx)).mono fun _ _ h => RetActs.parts h hv4)
  have HX2 := Lib.hid (fun (W : World) (D : Option Addr) (K : Nat) (h1 : RecsAt W D K n.log) => (r54_Actions n D K W h1).mono fun _ _ h => RetActs.parts h hv4)
  clear hv1 hv2 hv3 hv4 he1 he2 hs ha
  go_enter Tryz.func6, Tryz.ntmps6
  go_wp2_with (first
    | (go_at_call 17; refine (l54_few _ 1 [(n, A, c)] _ (Sl.alloc' (by simp [go_sem]) (by simp [nodR]) (by simp [nodR])) (by simp) (fun x hx => by rw [List.mem_singleton.1 hx]; exact HS.out.mono (by repeat (first | exact Ext.refl _ | assumption | apply Ext.xt | apply Ext.alloc | apply Ext.drew | apply Ext.drewN))) (fun x hx => by rw [List.mem_singleton.1 hx]; exact hb1)).mono ?_; rintro e w' ⟨⟨bb, rfl, hbb⟩, hx⟩; have HBB := Lib.hid hbb; obtain ⟨ya, rfl⟩ := hx.get; clear hx hbb)
    | (go_at_call 13; refine (r33_Few a _).mono ?_; rintro e w' ⟨⟨b2, rfl⟩, hx⟩; obtain ⟨yd, rfl⟩ := hx.get; clear hx)
    | (go_at_call 20; refine (l54_awake _).mono ?_; rintro e w' ⟨rfl, hx⟩; obtain ⟨y, rfl⟩ := hx.get; clear hx))
  all_goals try (go_ret; exact ⟨rfl, by repeat (first | exact Ext.refl _ | assumption | apply Ext.xt | apply Ext.alloc | apply Ext.drew | apply Ext.drewN)⟩)
  go_at_call 32; refine (HL1.out _ (by repeat (first | exact Ext.refl _ | assumption | apply Ext.xt | apply Ext.alloc | apply Ext.drew | apply Ext.drewN))).mono ?_; rintro e w' ⟨D, K, rfl, hx, hl⟩; have HLa := Lib.hid hl; obtain ⟨ye, rfl⟩ := hx.get; clear hx hl
  go_wp2_with fail
  go_at_call 23; refine (l54_Of n A c _ (HS.out.mono (by repeat (first | exact Ext.refl _ | assumption | apply Ext.xt | apply Ext.alloc | apply Ext.drew | apply Ext.drewN))) hb1).mono ?_; rintro e w' ⟨D1, K1, rfl, hx, hown⟩; have HO := Lib.hid (Own.recs hown rfl (fun r hr => (HS.out.el r hr).mono (Ext.trans (by repeat (first | exact Ext.refl _ | assumption | apply Ext.xt | apply Ext.alloc | apply Ext.drew | apply Ext.drewN)) hx))); obtain ⟨yf, rfl⟩ := hx.get; clear hx hown
  go_wp2_with fail
  go_at_call 33; refine (HL2.out _ D1 K1 (HO.out.mono (by repeat (first | exact Ext.refl _ | assumption | apply Ext.xt | apply Ext.alloc | apply Ext.drew | apply Ext.drewN)))).mono ?_; rintro e w' ⟨D2, K2, rfl, hx, hl⟩; have HLb := Lib.hid hl; obtain ⟨yg, rfl⟩ := hx.get; clear hx hl
  go_wp2_with fail
  refine wp_name (fun W9 hW9 => ?_)
  have k2 : BoxAt W9 w.heap.size [.int .i64 n.id, .int .i64 n.term, .bool n.speaks, .slice A n.log.length c, .int .i64 n.acked, .int .i64 n.next] 55 := by rw [hW9]; exact (by repeat (first | exact BoxAt.new (by first | rfl | (simp [go_sem]; done) | (simp [go_sem]; omega)) _ _ | apply BoxAt.xt | apply BoxAt.drew | apply BoxAt.drewN | apply BoxAt.alloc))
  have k3 : BoxAt W9 (w.heap.size + 1) (acnR a) 45 := by rw [hW9]; exact (by repeat (first | exact BoxAt.new (by first | rfl | (simp [go_sem]; done) | (simp [go_sem]; omega)) _ _ | apply BoxAt.xt | apply BoxAt.drew | apply BoxAt.drewN | apply BoxAt.alloc))
  have k7 : BoxAt W9 (w.heap.size + 1 + 1 + 1 + ya.n + yd.n + ye.n) [.int .i64 x1.id, .int .i64 x1.term, .bool x1.speaks, .slice D x1.log.length K, .int .i64 x1.acked, .int .i64 x1.next] 55 := by rw [hW9]; exact (by repeat (first | exact BoxAt.new (by first | rfl | (simp [go_sem]; done) | (simp [go_sem]; omega)) _ _ | apply BoxAt.xt | apply BoxAt.drew | apply BoxAt.drewN | apply BoxAt.alloc))
  have k9 : BoxAt W9 (w.heap.size + 1 + 1 + 1 + ya.n + yd.n + ye.n + 1 + yf.n + yg.n) [.int .i64 x1.id, .int .i64 x1.term, .bool x1.speaks, .slice D2 x1.log.length K2, .int .i64 x1.acked, .int .i64 x1.next] 65 := by rw [hW9]; exact (by repeat (first | exact BoxAt.new (by first | rfl | (simp [go_sem]; done) | (simp [go_sem]; omega)) _ _ | apply BoxAt.xt | apply BoxAt.drew | apply BoxAt.drewN | apply BoxAt.alloc))
  have hex : Ext w W9 := by rw [hW9]; exact (by repeat (first | exact Ext.refl _ | assumption | apply Ext.xt | apply Ext.alloc | apply Ext.drew | apply Ext.drewN))
  have l7 : LogW w W9 D x1.log.length K x1.log := by rw [hW9]; exact HLa.out.mono (by repeat (first | exact Ext.refl _ | assumption | apply Ext.xt | apply Ext.alloc | apply Ext.drew | apply Ext.drewN))
  have l9 : LogW w W9 D2 x1.log.length K2 x1.log := by rw [hW9]; exact HLb.out.mono (by repeat (first | exact Ext.refl _ | assumption | apply Ext.xt | apply Ext.alloc | apply Ext.drew | apply Ext.drewN))
  clear hW9 HLa HLb HO
  obtain ⟨c0, c1, c2, c3, c4, c5⟩ := k7.six
  obtain ⟨d0, d1, d2, d3, d4, d5⟩ := k9.six
  refine wp_region_stab 10 [] [Stab.is (.agg #[.int .i64 x1.id, .int .i64 x1.term, .bool x1.speaks, .slice D x1.log.length K, .int .i64 x1.acked, .int .i64 x1.next]), Stab.nodS x1, Stab.is (.agg #[.int .i64 x1.id, .int .i64 x1.term, .bool x1.speaks, .slice D2 x1.log.length K2, .int .i64 x1.acked, .int .i64 x1.next]), Stab.is (.bool true), Stab.is (.bool false), Stab.is (.bool false), Stab.is (.int .i64 e1), Stab.is (.int .i64 e1), Stab.is (.bool false), Stab.is (.bool false)] (fun u => by (simp only [putAll, List.take_succ_cons, List.take_zero, Act.put, Nat.zero_add, Nat.reduceAdd]); (try simp only [List.setIfInBounds_toArray]); (repeat (first | simp only [List.set_cons_succ] | simp only [List.set_cons_zero])); exact rfl) (by kernel_rfl) (by kernel_rfl) (fun _ _ _ _ _ h => h) ?_ ?_
  · refine ⟨?_, ?_, ?_, ?_, ?_, ?_, ?_, ?_, ?_, ?_, trivial⟩
    · (show SlotA _ _ _ _ _ _ _); intro u w1 hx1 hd; obtain ⟨y9, rfl⟩ := hx1.get; clear hx1
      refine slot_run rfl rfl rfl ?_; intro K9 hK
      go_simp; exact hK _ _ rfl (by repeat (first | exact Ext.refl _ | assumption | apply Ext.xt | apply Ext.alloc | apply Ext.drew | apply Ext.drewN)) rfl
    · (show SlotA _ _ _ _ _ _ _); intro u w1 hx1 hd; obtain ⟨y9, rfl⟩ := hx1.get; clear hx1
      have e0 : u 0 = .agg #[.int .i64 x1.id, .int .i64 x1.term, .bool x1.speaks, .slice D x1.log.length K, .int .i64 x1.acked, .int .i64 x1.next] := hd 0 (by kernel_rfl)
      simp only [e0]
      refine slot_run rfl rfl rfl ?_; intro K9 hK
      go_simp; go_at_call 23; refine (l54_Of x1 D K _ (l7.recs hex (by repeat (first | exact Ext.refl _ | assumption | apply Ext.xt | apply Ext.alloc | apply Ext.drew | apply Ext.drewN))) hb2).mono ?_; rintro e w' ⟨D, K, rfl, hx, hown⟩; exact hK _ _ rfl hx ⟨D, K, rfl, Own.recs hown rfl (fun r hr => (HE1.out r hr).mono (hex.trans (Ext.trans (by repeat (first | exact Ext.refl _ | assumption | apply Ext.xt | apply Ext.alloc | apply Ext.drew | apply Ext.drewN)) hx)))⟩
    · (show SlotA _ _ _ _ _ _ _); intro u w1 hx1 hd; obtain ⟨y9, rfl⟩ := hx1.get; clear hx1
      refine slot_run rfl rfl rfl ?_; intro K9 hK
      go_simp; exact hK _ _ rfl (by repeat (first | exact Ext.refl _ | assumption | apply Ext.xt | apply Ext.alloc | apply Ext.drew | apply Ext.drewN)) rfl
    · (show SlotA _ _ _ _ _ _ _); intro u w1 hx1 hd; obtain ⟨y9, rfl⟩ := hx1.get; clear hx1
      obtain ⟨Da, Ka, e1, ha1⟩ := hd 1 (by kernel_rfl)
      have e2 : u 2 = .agg #[.int .i64 x1.id, .int .i64 x1.term, .bool x1.speaks, .slice D2 x1.log.length K2, .int .i64 x1.acked, .int .i64 x1.next] := hd 2 (by kernel_rfl)
      simp only [e1, e2]
      refine slot_run rfl rfl rfl ?_; intro K9 hK
      go_simp; go_at_call 25; refine (r54_Same_me x1 Da Ka D2 K2 _ (ha1.mono (by repeat (first | exact Ext.refl _ | assumption | apply Ext.xt | apply Ext.alloc | apply Ext.drew | apply Ext.drewN))) (l9.recs hex (by repeat (first | exact Ext.refl _ | assumption | apply Ext.xt | apply Ext.alloc | apply Ext.drew | apply Ext.drewN)))).mono ?_; rintro e w' ⟨rfl, hx⟩; exact hK _ _ rfl hx rfl
    · (show SlotA _ _ _ _ _ _ _); intro u w1 hx1 hd; obtain ⟨y9, rfl⟩ := hx1.get; clear hx1
      have e3 : u 3 = .bool true := hd 3 (by kernel_rfl)
      simp only [e3]
      refine slot_run rfl rfl rfl ?_; intro K9 hK
      go_simp; exact hK _ _ rfl (by repeat (first | exact Ext.refl _ | assumption | apply Ext.xt | apply Ext.alloc | apply Ext.drew | apply Ext.drewN)) rfl
    · (show SlotA _ _ _ _ _ _ _); intro u w1 hx1 hd; obtain ⟨y9, rfl⟩ := hx1.get; clear hx1
      have e4 : u 4 = .bool false := hd 4 (by kernel_rfl)
      simp only [e4]
      refine slot_run rfl rfl rfl ?_; intro K9 hK
      go_simp; exact hK _ _ rfl (by repeat (first | exact Ext.refl _ | assumption | apply Ext.xt | apply Ext.alloc | apply Ext.drew | apply Ext.drewN)) rfl
    · (show SlotA _ _ _ _ _ _ _); intro u w1 hx1 hd; obtain ⟨y9, rfl⟩ := hx1.get; clear hx1
      have e5 : u 5 = .bool false := hd 5 (by kernel_rfl)
      simp only [e5]
      refine slot_run rfl rfl rfl ?_; intro K9 hK
      go_simp; exact hK _ _ rfl (by repeat (first | exact Ext.refl _ | assumption | apply Ext.xt | apply Ext.alloc | apply Ext.drew | apply Ext.drewN)) rfl
    · (show SlotA _ _ _ _ _ _ _); intro u w1 hx1 hd; obtain ⟨y9, rfl⟩ := hx1.get; clear hx1
      have e5 : u 5 = .bool false := hd 5 (by kernel_rfl)
      simp only [e5]
      refine slot_run rfl rfl rfl ?_; intro K9 hK
      go_simp; exact hK _ _ rfl (by repeat (first | exact Ext.refl _ | assumption | apply Ext.xt | apply Ext.alloc | apply Ext.drew | apply Ext.drewN)) rfl
    · (show SlotA _ _ _ _ _ _ _); intro u w1 hx1 hd; obtain ⟨y9, rfl⟩ := hx1.get; clear hx1
      have e5 : u 5 = .bool false := hd 5 (by kernel_rfl)
      have e6 : u 6 = .int .i64 e1 := hd 6 (by kernel_rfl)
      have e7 : u 7 = .int .i64 e1 := hd 7 (by kernel_rfl)
      simp only [e5, e6, e7]
      refine slot_run rfl rfl rfl ?_; intro K9 hK
      go_simp; exact hK _ _ rfl (by repeat (first | exact Ext.refl _ | assumption | apply Ext.xt | apply Ext.alloc | apply Ext.drew | apply Ext.drewN)) rfl
    · (show SlotA _ _ _ _ _ _ _); intro u w1 hx1 hd; obtain ⟨y9, rfl⟩ := hx1.get; clear hx1
      have e5 : u 5 = .bool false := hd 5 (by kernel_rfl)
      have e8 : u 8 = .bool false := hd 8 (by kernel_rfl)
      simp only [e5, e8]
      refine slot_run rfl rfl rfl ?_; intro K9 hK
      go_simp; exact hK _ _ rfl (by repeat (first | exact Ext.refl _ | assumption | apply Ext.xt | apply Ext.alloc | apply Ext.drew | apply Ext.drewN)) rfl
  · intro u w2 hx2 hT; obtain ⟨t0, t1, t2, t3, t4, t5, t6, t7, t8, t9, -⟩ := hT; obtain ⟨y9, rfl⟩ := hx2.get; clear hx2
    have e9 : u 9 = .bool false := t9
    simp only [e9]
    clear e9 t0 t1 t2 t3 t4 t5 t6 t7 t8 t9
    simp only [List.drop_succ_cons, List.drop_zero]
    refine wpList_nil ?_
    have hr9 : rowQ (xt W9.drew y9) (w.heap.size + 1) 0 44 = some (acnR a) := (k3.mono (by repeat (first | exact Ext.refl _ | assumption | apply Ext.xt | apply Ext.alloc | apply Ext.drew | apply Ext.drewN))).row rfl
    obtain ⟨a0, a1, a2, a3, a4, a5⟩ := k2.six
    go_wp2_with fail
    go_at_call 34; refine (HA1.out _ (hex.trans (by repeat (first | exact Ext.refl _ | assumption | apply Ext.xt | apply Ext.alloc | apply Ext.drew | apply Ext.drewN)))).mono ?_; rintro e w' ⟨D3, K3, rfl, hx, hl⟩; have HL3 := Lib.hid hl; have hxx : Ext W9 w' := Ext.trans (by repeat (first | exact Ext.refl _ | assumption | apply Ext.xt | apply Ext.alloc | apply Ext.drew | apply Ext.drewN)) hx; obtain ⟨yk, rfl⟩ := hxx.get; clear hx hl
    go_wp2_with (refine wpList_store_at rfl 55 (.tmp 7) (.tmp 54) rfl (k7.mono hxx) rfl [.int .i64 x2.id, .int .i64 x2.term, .bool x2.speaks, .slice D3 x2.log.length K3, .int .i64 x2.acked, .int .i64 x2.next] rfl rfl (show 6 < 44 by decide) (by kernel_rfl) (nodl_one x2 D3 K3) ?_; intro W1 ht1 hb1')
    have hexA : Ext w W1 := ht1.ext (hex.trans hxx) (by omega)
    replace k2 := (k2.mono hxx).turn ht1 (by omega)
    replace k3 := (k3.mono hxx).turn ht1 (by omega)
    replace k9 := (k9.mono hxx).turn ht1 (by omega)
    have l3 := HL3.out.turn ht1
    clear c0 c1 c2 c3 c4 c5 d0 d1 d2 d3 d4 d5 a0 a1 a2 a3 a4 a5 hr9 HL3 k7 l7 l9
    have hr1 := k3.row rfl
    obtain ⟨a0, a1, a2, a3, a4, a5⟩ := k2.six
    refine wp_region_stab 7 [6] [Stab.is (.agg #[.int .i64 n.id, .int .i64 n.term, .bool n.speaks, .slice A n.log.length c, .int .i64 n.acked, .int .i64 n.next]), Stab.nodS n, Stab.is (.agg (acnR a).toArray), Stab.gotn w x2 e2, Stab.gotn w x2 e2, Stab.nod w x2, Stab.is (.int .i64 e2)] (fun u => by (simp only [putAll, List.take_succ_cons, List.take_zero, Act.put, Nat.zero_add, Nat.reduceAdd]); (try simp only [List.setIfInBounds_toArray]); (repeat (first | simp only [List.set_cons_succ] | simp only [List.set_cons_zero])); exact rfl) (by kernel_rfl) (by kernel_rfl) (fun _ _ _ _ _ h => h) ?_ ?_
    · refine ⟨?_, ?_, ?_, ?_, ?_, ?_, ?_, trivial⟩
      · (show SlotA _ _ _ _ _ _ _); intro u w1 hx1 hd; obtain ⟨y9, rfl⟩ := hx1.get; clear hx1
        refine slot_run rfl rfl rfl ?_; intro K9 hK
        go_simp; exact hK _ _ rfl (by repeat (first | exact Ext.refl _ | assumption | apply Ext.xt | apply Ext.alloc | apply Ext.drew | apply Ext.drewN)) rfl
      · (show SlotA _ _ _ _ _ _ _); intro u w1 hx1 hd; obtain ⟨y9, rfl⟩ := hx1.get; clear hx1
        have e0 : u 0 = .agg #[.int .i64 n.id, .int .i64 n.term, .bool n.speaks, .slice A n.log.length c, .int .i64 n.acked, .int .i64 n.next] := hd 0 (by kernel_rfl)
        simp only [e0]
        refine slot_run rfl rfl rfl ?_; intro K9 hK
        go_simp; go_at_call 23; refine (l54_Of n A c _ ((HS.out.mono hexA).mono (by repeat (first | exact Ext.refl _ | assumption | apply Ext.xt | apply Ext.alloc | apply Ext.drew | apply Ext.drewN))) hb1).mono ?_; rintro e w' ⟨D, K, rfl, hx, hown⟩; exact hK _ _ rfl hx ⟨D, K, rfl, Own.recs hown rfl (fun r hr => (HS.out.el r hr).mono (hexA.trans (Ext.trans (by repeat (first | exact Ext.refl _ | assumption | apply Ext.xt | apply Ext.alloc | apply Ext.drew | apply Ext.drewN)) hx)))⟩
      · (show SlotA _ _ _ _ _ _ _); intro u w1 hx1 hd; obtain ⟨y9, rfl⟩ := hx1.get; clear hx1
        refine slot_run rfl rfl rfl ?_; intro K9 hK
        have hr8 : rowQ (xt W1.drew y9) (w.heap.size + 1) 0 44 = some (acnR a) := (k3.mono (by repeat (first | exact Ext.refl _ | assumption | apply Ext.xt | apply Ext.alloc | apply Ext.drew | apply Ext.drewN))).row rfl
        go_simp; exact hK _ _ rfl (by repeat (first | exact Ext.refl _ | assumption | apply Ext.xt | apply Ext.alloc | apply Ext.drew | apply Ext.drewN)) rfl
      · (show SlotA _ _ _ _ _ _ _); intro u w1 hx1 hd; obtain ⟨y9, rfl⟩ := hx1.get; clear hx1
        obtain ⟨Da, Ka, e1, ha1⟩ := hd 1 (by kernel_rfl)
        have e2 : u 2 = .agg (acnR a).toArray := hd 2 (by kernel_rfl)
        simp only [e1, e2]
        refine slot_run rfl rfl rfl ?_; intro K9 hK
        go_simp; go_at_call 35; refine (HA2.out _ Da Ka (ha1.mono (by repeat (first | exact Ext.refl _ | assumption | apply Ext.xt | apply Ext.alloc | apply Ext.drew | apply Ext.drewN))) (hexA.trans (by repeat (first | exact Ext.refl _ | assumption | apply Ext.xt | apply Ext.alloc | apply Ext.drew | apply Ext.drewN)))).mono ?_; rintro e w' ⟨D, K, rfl, hx, hl⟩; exact hK _ _ rfl hx ⟨D, K, rfl, hl⟩
      · (show SlotA _ _ _ _ _ _ _); intro u w1 hx1 hd; obtain ⟨y9, rfl⟩ := hx1.get; clear hx1
        obtain ⟨D4, K4, e3, h4⟩ := hd 3 (by kernel_rfl)
        simp only [e3]
        refine slot_run rfl rfl rfl ?_; intro K9 hK
        go_simp; exact hK _ _ rfl (by repeat (first | exact Ext.refl _ | assumption | apply Ext.xt | apply Ext.alloc | apply Ext.drew | apply Ext.drewN)) ⟨D4, K4, rfl, h4⟩
      · (show SlotA _ _ _ _ _ _ _); intro u w1 hx1 hd; obtain ⟨y9, rfl⟩ := hx1.get; clear hx1
        obtain ⟨D4, K4, e4, h4⟩ := hd 4 (by kernel_rfl)
        simp only [e4]
        refine slot_run rfl rfl rfl ?_; intro K9 hK
        go_simp; exact hK _ _ rfl (by repeat (first | exact Ext.refl _ | assumption | apply Ext.xt | apply Ext.alloc | apply Ext.drew | apply Ext.drewN)) ⟨D4, K4, rfl, h4⟩
      · (show PureA _ _ _ _ _ _); intro u w1 hx1 hd; obtain ⟨y9, rfl⟩ := hx1.get; clear hx1
        obtain ⟨D4, K4, e4, h4⟩ := hd 4 (by kernel_rfl)
        simp only [e4]
        refine pure_run (v := .int .i64 e2) rfl rfl (fun w9 => ?_) rfl
        go_simp
    · intro u w2 hx2 hT; obtain ⟨t0, t1, t2, t3, t4, t5, t6, -⟩ := hT; obtain ⟨y9, rfl⟩ := hx2.get; clear hx2
      obtain ⟨D5, K5, e5, h5⟩ := t5
      have e6 : u 6 = .int .i64 e2 := t6
      simp only [e5, e6]
      clear e5 e6 t0 t1 t2 t3 t4 t6
      simp only [List.drop_succ_cons, List.drop_zero]
      have hxy : Ext W1 (xt W1.drew y9) := by repeat (first | exact Ext.refl _ | assumption | apply Ext.xt | apply Ext.alloc | apply Ext.drew | apply Ext.drewN)
      go_wp2_with (refine wpList_store_at rfl 65 (.tmp 9) (.tmp 61) rfl (k9.mono hxy) rfl [.int .i64 x2.id, .int .i64 x2.term, .bool x2.speaks, .slice D5 x2.log.length K5, .int .i64 x2.acked, .int .i64 x2.next] rfl rfl (show 6 < 44 by decide) (by kernel_rfl) (nodl_one x2 D5 K5) ?_; intro W2 ht2 hb2')
      have hexB : Ext w W2 := ht2.ext (hexA.trans hxy) (by omega)
      have j2 := (k2.mono hxy).turn ht2 (by omega)
      have j7 := (hb1'.mono hxy).turn ht2 (by omega)
      have m3 := (l3.mono hxy).turn ht2
      have m5 := h5.turn ht2
      clear a0 a1 a2 a3 a4 a5 hr1 k2 k3 k9 l3 h5
      obtain ⟨a0, a1, a2, a3, a4, a5⟩ := j2.six
      obtain ⟨c0, c1, c2, c3, c4, c5⟩ := j7.six
      obtain ⟨d0, d1, d2, d3, d4, d5⟩ := hb2'.six
      refine wp_region_stab 10 [] [Stab.is (.agg #[.int .i64 x2.id, .int .i64 x2.term, .bool x2.speaks, .slice D3 x2.log.length K3, .int .i64 x2.acked, .int .i64 x2.next]), Stab.nodS x2, Stab.is (.agg #[.int .i64 x2.id, .int .i64 x2.term, .bool x2.speaks, .slice D5 x2.log.length K5, .int .i64 x2.acked, .int .i64 x2.next]), Stab.is (.bool true), Stab.is (.bool false), Stab.is (.bool false), Stab.is (.int .i64 e2), Stab.is (.int .i64 e2), Stab.is (.bool false), Stab.is (.bool false)] (fun u => by (simp only [putAll, List.take_succ_cons, List.take_zero, Act.put, Nat.zero_add, Nat.reduceAdd]); (try simp only [List.setIfInBounds_toArray]); (repeat (first | simp only [List.set_cons_succ] | simp only [List.set_cons_zero])); exact rfl) (by kernel_rfl) (by kernel_rfl) (fun _ _ _ _ _ h => h) ?_ ?_
      · refine ⟨?_, ?_, ?_, ?_, ?_, ?_, ?_, ?_, ?_, ?_, trivial⟩
        · (show SlotA _ _ _ _ _ _ _); intro u w1 hx1 hd; obtain ⟨y9, rfl⟩ := hx1.get; clear hx1
          refine slot_run rfl rfl rfl ?_; intro K9 hK
          go_simp; exact hK _ _ rfl (by repeat (first | exact Ext.refl _ | assumption | apply Ext.xt | apply Ext.alloc | apply Ext.drew | apply Ext.drewN)) rfl
        · (show SlotA _ _ _ _ _ _ _); intro u w1 hx1 hd; obtain ⟨y9, rfl⟩ := hx1.get; clear hx1
          have e0 : u 0 = .agg #[.int .i64 x2.id, .int .i64 x2.term, .bool x2.speaks, .slice D3 x2.log.length K3, .int .i64 x2.acked, .int .i64 x2.next] := hd 0 (by kernel_rfl)
          simp only [e0]
          refine slot_run rfl rfl rfl ?_; intro K9 hK
          go_simp; go_at_call 23; refine (l54_Of x2 D3 K3 _ (m3.recs hexB (by repeat (first | exact Ext.refl _ | assumption | apply Ext.xt | apply Ext.alloc | apply Ext.drew | apply Ext.drewN))) hb3).mono ?_; rintro e w' ⟨D, K, rfl, hx, hown⟩; exact hK _ _ rfl hx ⟨D, K, rfl, Own.recs hown rfl (fun r hr => (HE2.out r hr).mono (hexB.trans (Ext.trans (by repeat (first | exact Ext.refl _ | assumption | apply Ext.xt | apply Ext.alloc | apply Ext.drew | apply Ext.drewN)) hx)))⟩
        · (show SlotA _ _ _ _ _ _ _); intro u w1 hx1 hd; obtain ⟨y9, rfl⟩ := hx1.get; clear hx1
          refine slot_run rfl rfl rfl ?_; intro K9 hK
          go_simp; exact hK _ _ rfl (by repeat (first | exact Ext.refl _ | assumption | apply Ext.xt | apply Ext.alloc | apply Ext.drew | apply Ext.drewN)) rfl
        · (show SlotA _ _ _ _ _ _ _); intro u w1 hx1 hd; obtain ⟨y9, rfl⟩ := hx1.get; clear hx1
          obtain ⟨Da, Ka, e1, ha1⟩ := hd 1 (by kernel_rfl)
          have e2 : u 2 = .agg #[.int .i64 x2.id, .int .i64 x2.term, .bool x2.speaks, .slice D5 x2.log.length K5, .int .i64 x2.acked, .int .i64 x2.next] := hd 2 (by kernel_rfl)
          simp only [e1, e2]
          refine slot_run rfl rfl rfl ?_; intro K9 hK
          go_simp; go_at_call 25; refine (r54_Same_me x2 Da Ka D5 K5 _ (ha1.mono (by repeat (first | exact Ext.refl _ | assumption | apply Ext.xt | apply Ext.alloc | apply Ext.drew | apply Ext.drewN))) (m5.recs hexB (by repeat (first | exact Ext.refl _ | assumption | apply Ext.xt | apply Ext.alloc | apply Ext.drew | apply Ext.drewN)))).mono ?_; rintro e w' ⟨rfl, hx⟩; exact hK _ _ rfl hx rfl
        · (show SlotA _ _ _ _ _ _ _); intro u w1 hx1 hd; obtain ⟨y9, rfl⟩ := hx1.get; clear hx1
          have e3 : u 3 = .bool true := hd 3 (by kernel_rfl)
          simp only [e3]
          refine slot_run rfl rfl rfl ?_; intro K9 hK
          go_simp; exact hK _ _ rfl (by repeat (first | exact Ext.refl _ | assumption | apply Ext.xt | apply Ext.alloc | apply Ext.drew | apply Ext.drewN)) rfl
        · (show SlotA _ _ _ _ _ _ _); intro u w1 hx1 hd; obtain ⟨y9, rfl⟩ := hx1.get; clear hx1
          have e4 : u 4 = .bool false := hd 4 (by kernel_rfl)
          simp only [e4]
          refine slot_run rfl rfl rfl ?_; intro K9 hK
          go_simp; exact hK _ _ rfl (by repeat (first | exact Ext.refl _ | assumption | apply Ext.xt | apply Ext.alloc | apply Ext.drew | apply Ext.drewN)) rfl
        · (show SlotA _ _ _ _ _ _ _); intro u w1 hx1 hd; obtain ⟨y9, rfl⟩ := hx1.get; clear hx1
          have e5 : u 5 = .bool false := hd 5 (by kernel_rfl)
          simp only [e5]
          refine slot_run rfl rfl rfl ?_; intro K9 hK
          go_simp; exact hK _ _ rfl (by repeat (first | exact Ext.refl _ | assumption | apply Ext.xt | apply Ext.alloc | apply Ext.drew | apply Ext.drewN)) rfl
        · (show SlotA _ _ _ _ _ _ _); intro u w1 hx1 hd; obtain ⟨y9, rfl⟩ := hx1.get; clear hx1
          have e5 : u 5 = .bool false := hd 5 (by kernel_rfl)
          simp only [e5]
          refine slot_run rfl rfl rfl ?_; intro K9 hK
          go_simp; exact hK _ _ rfl (by repeat (first | exact Ext.refl _ | assumption | apply Ext.xt | apply Ext.alloc | apply Ext.drew | apply Ext.drewN)) rfl
        · (show SlotA _ _ _ _ _ _ _); intro u w1 hx1 hd; obtain ⟨y9, rfl⟩ := hx1.get; clear hx1
          have e5 : u 5 = .bool false := hd 5 (by kernel_rfl)
          have e6 : u 6 = .int .i64 e2 := hd 6 (by kernel_rfl)
          have e7 : u 7 = .int .i64 e2 := hd 7 (by kernel_rfl)
          simp only [e5, e6, e7]
          refine slot_run rfl rfl rfl ?_; intro K9 hK
          go_simp; exact hK _ _ rfl (by repeat (first | exact Ext.refl _ | assumption | apply Ext.xt | apply Ext.alloc | apply Ext.drew | apply Ext.drewN)) rfl
        · (show SlotA _ _ _ _ _ _ _); intro u w1 hx1 hd; obtain ⟨y9, rfl⟩ := hx1.get; clear hx1
          have e5 : u 5 = .bool false := hd 5 (by kernel_rfl)
          have e8 : u 8 = .bool false := hd 8 (by kernel_rfl)
          simp only [e5, e8]
          refine slot_run rfl rfl rfl ?_; intro K9 hK
          go_simp; exact hK _ _ rfl (by repeat (first | exact Ext.refl _ | assumption | apply Ext.xt | apply Ext.alloc | apply Ext.drew | apply Ext.drewN)) rfl
      · intro u w2 hx2 hT; obtain ⟨t0, t1, t2, t3, t4, t5, t6, t7, t8, t9, -⟩ := hT; obtain ⟨y9, rfl⟩ := hx2.get; clear hx2
        have e9 : u 9 = .bool false := t9
        simp only [e9]
        clear e9 t0 t1 t2 t3 t4 t5 t6 t7 t8 t9
        simp only [List.drop_succ_cons, List.drop_zero]
        refine wpList_nil ?_
        go_wp2_with fail
        go_at_call 36; refine (HM1.out _ (hexB.trans (by repeat (first | exact Ext.refl _ | assumption | apply Ext.xt | apply Ext.alloc | apply Ext.drew | apply Ext.drewN)))).mono ?_; rintro e w' ⟨D6, K6, rfl, hx, hr⟩; have HR6 := Lib.hid hr; have hxz : Ext W2 w' := Ext.trans (by repeat (first | exact Ext.refl _ | assumption | apply Ext.xt | apply Ext.alloc | apply Ext.drew | apply Ext.drewN)) hx; obtain ⟨yb, rfl⟩ := hxz.get; clear hx hr hxz
        go_wp2_with fail
        go_at_call 23; refine (l54_Of n A c _ (HS.out.mono (hexB.trans (by repeat (first | exact Ext.refl _ | assumption | apply Ext.xt | apply Ext.alloc | apply Ext.drew | apply Ext.drewN)))) hb1).mono ?_; rintro e w' ⟨D7, K7, rfl, hx, hown⟩; have HO7 := Lib.hid (Own.recs hown rfl (fun r hr => (HS.out.el r hr).mono (hexB.trans (Ext.trans (by repeat (first | exact Ext.refl _ | assumption | apply Ext.xt | apply Ext.alloc | apply Ext.drew | apply Ext.drewN)) hx)))); obtain ⟨yh, rfl⟩ := hx.get; clear hx hown
        go_wp2_with fail
        go_at_call 37; refine (HM2.out _ D7 K7 (HO7.out.mono (by repeat (first | exact Ext.refl _ | assumption | apply Ext.xt | apply Ext.alloc | apply Ext.drew | apply Ext.drewN)))).mono ?_; rintro e w' ⟨D8, K8, rfl, hx, hr⟩; have HR8 := Lib.hid hr; obtain ⟨yi, rfl⟩ := hx.get; clear hx hr
        go_wp2_with fail
        go_at_call 38; refine (HX1.out _ (hexB.trans (by repeat (first | exact Ext.refl _ | assumption | apply Ext.xt | apply Ext.alloc | apply Ext.drew | apply Ext.drewN)))).mono ?_; rintro e w' ⟨Ak, kk, rfl, hx, hr⟩; have HG1 := Lib.hid hr; obtain ⟨yj, rfl⟩ := hx.get; clear hx hr
        go_wp2_with fail
        go_at_call 23; refine (l54_Of n A c _ (HS.out.mono (hexB.trans (by repeat (first | exact Ext.refl _ | assumption | apply Ext.xt | apply Ext.alloc | apply Ext.drew | apply Ext.drewN)))) hb1).mono ?_; rintro e w' ⟨Dc, Kc, rfl, hx, hown⟩; have HOc := Lib.hid (Own.recs hown rfl (fun r hr => (HS.out.el r hr).mono (hexB.trans (Ext.trans (by repeat (first | exact Ext.refl _ | assumption | apply Ext.xt | apply Ext.alloc | apply Ext.drew | apply Ext.drewN)) hx)))); obtain ⟨yl, rfl⟩ := hx.get; clear hx hown
        go_wp2_with fail
        go_at_call 39; refine (HX2.out _ Dc Kc (HOc.out.mono (by repeat (first | exact Ext.refl _ | assumption | apply Ext.xt | apply Ext.alloc | apply Ext.drew | apply Ext.drewN)))).mono ?_; rintro e w' ⟨Bk, kb, rfl, hx, hr⟩; have HG2 := Lib.hid hr; obtain ⟨ym, rfl⟩ := hx.get; clear hx hr
        go_wp2_with fail
        refine wp_name (fun W3 hW3 => ?_)
        have k11 : BoxAt W3 (W2.heap.size + yb.n) [.int .i64 m1.kind, .int .i64 m1.term, .int .i64 m1.at_, .int .i64 m1.before, .slice D6 m1.recs.length K6, .int .i64 m1.acked] 57 := by rw [hW3]; exact (by repeat (first | exact BoxAt.new (by first | rfl | (simp [go_sem]; done) | (simp [go_sem]; omega)) _ _ | apply BoxAt.xt | apply BoxAt.drew | apply BoxAt.drewN | apply BoxAt.alloc))
        have k12 : BoxAt W3 (W2.heap.size + yb.n + 1 + yh.n + yi.n) [.int .i64 m1.kind, .int .i64 m1.term, .int .i64 m1.at_, .int .i64 m1.before, .slice D8 m1.recs.length K8, .int .i64 m1.acked] 67 := by rw [hW3]; exact (by repeat (first | exact BoxAt.new (by first | rfl | (simp [go_sem]; done) | (simp [go_sem]; omega)) _ _ | apply BoxAt.xt | apply BoxAt.drew | apply BoxAt.drewN | apply BoxAt.alloc))
        have hexC : Ext w W3 := by rw [hW3]; exact hexB.trans (by repeat (first | exact Ext.refl _ | assumption | apply Ext.xt | apply Ext.alloc | apply Ext.drew | apply Ext.drewN))
        have g6 : RecsAt W3 D6 K6 m1.recs := by rw [hW3]; exact HR6.out.mono (by repeat (first | exact Ext.refl _ | assumption | apply Ext.xt | apply Ext.alloc | apply Ext.drew | apply Ext.drewN))
        have g8 : RecsAt W3 D8 K8 m1.recs := by rw [hW3]; exact HR8.out.mono (by repeat (first | exact Ext.refl _ | assumption | apply Ext.xt | apply Ext.alloc | apply Ext.drew | apply Ext.drewN))
        have f1 : LogAt W3 Ak kk l1 := by rw [hW3]; exact HG1.out.mono (by repeat (first | exact Ext.refl _ | assumption | apply Ext.xt | apply Ext.alloc | apply Ext.drew | apply Ext.drewN))
        have f2 : LogAt W3 Bk kb l1 := by rw [hW3]; exact HG2.out.mono (by repeat (first | exact Ext.refl _ | assumption | apply Ext.xt | apply Ext.alloc | apply Ext.drew | apply Ext.drewN))
        clear hW3 HR6 HR8 HG1 HG2 HO7 HOc a0 a1 a2 a3 a4 a5 c0 c1 c2 c3 c4 c5 d0 d1 d2 d3 d4 d5
        obtain ⟨c0, c1, c2, c3, c4, c5⟩ := k11.six
        obtain ⟨d0, d1, d2, d3, d4, d5⟩ := k12.six
        refine wp_region_stab 22 [] [Stab.is (.agg #[.int .i64 m1.kind, .int .i64 m1.term, .int .i64 m1.at_, .int .i64 m1.before, .slice D6 m1.recs.length K6, .int .i64 m1.acked]), Stab.msg m1, Stab.is (.agg #[.int .i64 m1.kind, .int .i64 m1.term, .int .i64 m1.at_, .int .i64 m1.before, .slice D8 m1.recs.length K8, .int .i64 m1.acked]), Stab.is (.bool true), Stab.is (.bool true), Stab.is (.int .i64 e3), Stab.is (.int .i64 e3), Stab.is (.bool true), Stab.is (.bool true), Stab.is (.bool true), Stab.is (.slice Ak l1.length kk), Stab.is (.slice Bk l1.length kb), Stab.is (.bool true), Stab.is (.bool true), Stab.is (.bool true), Stab.is (.int .i64 e4), Stab.is (.int .i64 e4), Stab.is (.bool true), Stab.is (.bool true), Stab.is (.bool true), Stab.is (.bool true), Stab.is (.bool true)] (fun u => by (simp only [putAll, List.take_succ_cons, List.take_zero, Act.put, Nat.zero_add, Nat.reduceAdd]); (try simp only [List.setIfInBounds_toArray]); (repeat (first | simp only [List.set_cons_succ] | simp only [List.set_cons_zero])); exact rfl) (by kernel_rfl) (by kernel_rfl) (fun _ _ _ _ _ h => h) ?_ ?_
        · refine ⟨?_, ?_, ?_, ?_, ?_, ?_, ?_, ?_, ?_, ?_, ?_, ?_, ?_, ?_, ?_, ?_, ?_, ?_, ?_, ?_, ?_, ?_, trivial⟩
          · (show SlotA _ _ _ _ _ _ _); intro u w1 hx1 hd; obtain ⟨y9, rfl⟩ := hx1.get; clear hx1
            refine slot_run rfl rfl rfl ?_; intro K9 hK
            go_simp; exact hK _ _ rfl (by repeat (first | exact Ext.refl _ | assumption | apply Ext.xt | apply Ext.alloc | apply Ext.drew | apply Ext.drewN)) rfl
          · (show SlotA _ _ _ _ _ _ _); intro u w1 hx1 hd; obtain ⟨y9, rfl⟩ := hx1.get; clear hx1
            have e0 : u 0 = .agg #[.int .i64 m1.kind, .int .i64 m1.term, .int .i64 m1.at_, .int .i64 m1.before, .slice D6 m1.recs.length K6, .int .i64 m1.acked] := hd 0 (by kernel_rfl)
            simp only [e0]
            refine slot_run rfl rfl rfl ?_; intro K9 hK
            go_simp; go_at_call 24; refine (l54_Said m1 D6 K6 _ (g6.mono (by repeat (first | exact Ext.refl _ | assumption | apply Ext.xt | apply Ext.alloc | apply Ext.drew | apply Ext.drewN))) hb4).mono ?_; rintro e w' ⟨D, K, rfl, hx, hown⟩; exact hK _ _ rfl hx ⟨D, K, rfl, Own.recs hown rfl (fun r hr => (g6.el r hr).mono (Ext.trans (by repeat (first | exact Ext.refl _ | assumption | apply Ext.xt | apply Ext.alloc | apply Ext.drew | apply Ext.drewN)) hx))⟩
          · (show SlotA _ _ _ _ _ _ _); intro u w1 hx1 hd; obtain ⟨y9, rfl⟩ := hx1.get; clear hx1
            refine slot_run rfl rfl rfl ?_; intro K9 hK
            go_simp; exact hK _ _ rfl (by repeat (first | exact Ext.refl _ | assumption | apply Ext.xt | apply Ext.alloc | apply Ext.drew | apply Ext.drewN)) rfl
          · (show SlotA _ _ _ _ _ _ _); intro u w1 hx1 hd; obtain ⟨y9, rfl⟩ := hx1.get; clear hx1
            obtain ⟨Da, Ka, e1, ha1⟩ := hd 1 (by kernel_rfl)
            have e2 : u 2 = .agg #[.int .i64 m1.kind, .int .i64 m1.term, .int .i64 m1.at_, .int .i64 m1.before, .slice D8 m1.recs.length K8, .int .i64 m1.acked] := hd 2 (by kernel_rfl)
            simp only [e1, e2]
            refine slot_run rfl rfl rfl ?_; intro K9 hK
            go_simp; go_at_call 26; refine (r54_SameMessage_self m1 Da Ka D8 K8 _ (ha1.mono (by repeat (first | exact Ext.refl _ | assumption | apply Ext.xt | apply Ext.alloc | apply Ext.drew | apply Ext.drewN))) (g8.mono (by repeat (first | exact Ext.refl _ | assumption | apply Ext.xt | apply Ext.alloc | apply Ext.drew | apply Ext.drewN)))).mono ?_; rintro e w' ⟨rfl, hx⟩; exact hK _ _ rfl hx rfl
          · (show SlotA _ _ _ _ _ _ _); intro u w1 hx1 hd; obtain ⟨y9, rfl⟩ := hx1.get; clear hx1
            have e3 : u 3 = .bool true := hd 3 (by kernel_rfl)
            simp only [e3]
            refine slot_run rfl rfl rfl ?_; intro K9 hK
            go_simp; exact hK _ _ rfl (by repeat (first | exact Ext.refl _ | assumption | apply Ext.xt | apply Ext.alloc | apply Ext.drew | apply Ext.drewN)) rfl
          · (show SlotA _ _ _ _ _ _ _); intro u w1 hx1 hd; obtain ⟨y9, rfl⟩ := hx1.get; clear hx1
            have e4 : u 4 = .bool true := hd 4 (by kernel_rfl)
            simp only [e4]
            refine slot_run rfl rfl rfl ?_; intro K9 hK
            go_simp; exact hK _ _ rfl (by repeat (first | exact Ext.refl _ | assumption | apply Ext.xt | apply Ext.alloc | apply Ext.drew | apply Ext.drewN)) rfl
          · (show SlotA _ _ _ _ _ _ _); intro u w1 hx1 hd; obtain ⟨y9, rfl⟩ := hx1.get; clear hx1
            have e4 : u 4 = .bool true := hd 4 (by kernel_rfl)
            simp only [e4]
            refine slot_run rfl rfl rfl ?_; intro K9 hK
            go_simp; exact hK _ _ rfl (by repeat (first | exact Ext.refl _ | assumption | apply Ext.xt | apply Ext.alloc | apply Ext.drew | apply Ext.drewN)) rfl
          · (show SlotA _ _ _ _ _ _ _); intro u w1 hx1 hd; obtain ⟨y9, rfl⟩ := hx1.get; clear hx1
            have e4 : u 4 = .bool true := hd 4 (by kernel_rfl)
            have e5 : u 5 = .int .i64 e3 := hd 5 (by kernel_rfl)
            have e6 : u 6 = .int .i64 e3 := hd 6 (by kernel_rfl)
            simp only [e4, e5, e6]
            refine slot_run rfl rfl rfl ?_; intro K9 hK
            go_simp; exact hK _ _ rfl (by repeat (first | exact Ext.refl _ | assumption | apply Ext.xt | apply Ext.alloc | apply Ext.drew | apply Ext.drewN)) rfl
          · (show SlotA _ _ _ _ _ _ _); intro u w1 hx1 hd; obtain ⟨y9, rfl⟩ := hx1.get; clear hx1
            have e4 : u 4 = .bool true := hd 4 (by kernel_rfl)
            have e7 : u 7 = .bool true := hd 7 (by kernel_rfl)
            simp only [e4, e7]
            refine slot_run rfl rfl rfl ?_; intro K9 hK
            go_simp; exact hK _ _ rfl (by repeat (first | exact Ext.refl _ | assumption | apply Ext.xt | apply Ext.alloc | apply Ext.drew | apply Ext.drewN)) rfl
          · (show SlotA _ _ _ _ _ _ _); intro u w1 hx1 hd; obtain ⟨y9, rfl⟩ := hx1.get; clear hx1
            have e8 : u 8 = .bool true := hd 8 (by kernel_rfl)
            simp only [e8]
            refine slot_run rfl rfl rfl ?_; intro K9 hK
            go_simp; exact hK _ _ rfl (by repeat (first | exact Ext.refl _ | assumption | apply Ext.xt | apply Ext.alloc | apply Ext.drew | apply Ext.drewN)) rfl
          · (show SlotA _ _ _ _ _ _ _); intro u w1 hx1 hd; obtain ⟨y9, rfl⟩ := hx1.get; clear hx1
            have e9 : u 9 = .bool true := hd 9 (by kernel_rfl)
            simp only [e9]
            refine slot_run rfl rfl rfl ?_; intro K9 hK
            go_simp; exact hK _ _ rfl (by repeat (first | exact Ext.refl _ | assumption | apply Ext.xt | apply Ext.alloc | apply Ext.drew | apply Ext.drewN)) rfl
          · (show SlotA _ _ _ _ _ _ _); intro u w1 hx1 hd; obtain ⟨y9, rfl⟩ := hx1.get; clear hx1
            have e9 : u 9 = .bool true := hd 9 (by kernel_rfl)
            simp only [e9]
            refine slot_run rfl rfl rfl ?_; intro K9 hK
            go_simp; exact hK _ _ rfl (by repeat (first | exact Ext.refl _ | assumption | apply Ext.xt | apply Ext.alloc | apply Ext.drew | apply Ext.drewN)) rfl
          · (show SlotA _ _ _ _ _ _ _); intro u w1 hx1 hd; obtain ⟨y9, rfl⟩ := hx1.get; clear hx1
            have e9 : u 9 = .bool true := hd 9 (by kernel_rfl)
            have e10 : u 10 = .slice Ak l1.length kk := hd 10 (by kernel_rfl)
            have e11 : u 11 = .slice Bk l1.length kb := hd 11 (by kernel_rfl)
            simp only [e9, e10, e11]
            refine slot_run rfl rfl rfl ?_; intro K9 hK
            go_simp; go_at_call 40; refine (r33_SameLog1 Ak Bk kk kb l1 _ (f1.mono (by repeat (first | exact Ext.refl _ | assumption | apply Ext.xt | apply Ext.alloc | apply Ext.drew | apply Ext.drewN))) (f2.mono (by repeat (first | exact Ext.refl _ | assumption | apply Ext.xt | apply Ext.alloc | apply Ext.drew | apply Ext.drewN)))).mono ?_; rintro e w' ⟨rfl, hx⟩; exact hK _ _ rfl hx rfl
          · (show SlotA _ _ _ _ _ _ _); intro u w1 hx1 hd; obtain ⟨y9, rfl⟩ := hx1.get; clear hx1
            have e9 : u 9 = .bool true := hd 9 (by kernel_rfl)
            have e12 : u 12 = .bool true := hd 12 (by kernel_rfl)
            simp only [e9, e12]
            refine slot_run rfl rfl rfl ?_; intro K9 hK
            go_simp; exact hK _ _ rfl (by repeat (first | exact Ext.refl _ | assumption | apply Ext.xt | apply Ext.alloc | apply Ext.drew | apply Ext.drewN)) rfl
          · (show SlotA _ _ _ _ _ _ _); intro u w1 hx1 hd; obtain ⟨y9, rfl⟩ := hx1.get; clear hx1
            have e13 : u 13 = .bool true := hd 13 (by kernel_rfl)
            simp only [e13]
            refine slot_run rfl rfl rfl ?_; intro K9 hK
            go_simp; exact hK _ _ rfl (by repeat (first | exact Ext.refl _ | assumption | apply Ext.xt | apply Ext.alloc | apply Ext.drew | apply Ext.drewN)) rfl
          · (show SlotA _ _ _ _ _ _ _); intro u w1 hx1 hd; obtain ⟨y9, rfl⟩ := hx1.get; clear hx1
            have e14 : u 14 = .bool true := hd 14 (by kernel_rfl)
            simp only [e14]
            refine slot_run rfl rfl rfl ?_; intro K9 hK
            go_simp; exact hK _ _ rfl (by repeat (first | exact Ext.refl _ | assumption | apply Ext.xt | apply Ext.alloc | apply Ext.drew | apply Ext.drewN)) rfl
          · (show SlotA _ _ _ _ _ _ _); intro u w1 hx1 hd; obtain ⟨y9, rfl⟩ := hx1.get; clear hx1
            have e14 : u 14 = .bool true := hd 14 (by kernel_rfl)
            simp only [e14]
            refine slot_run rfl rfl rfl ?_; intro K9 hK
            go_simp; exact hK _ _ rfl (by repeat (first | exact Ext.refl _ | assumption | apply Ext.xt | apply Ext.alloc | apply Ext.drew | apply Ext.drewN)) rfl
          · (show SlotA _ _ _ _ _ _ _); intro u w1 hx1 hd; obtain ⟨y9, rfl⟩ := hx1.get; clear hx1
            have e14 : u 14 = .bool true := hd 14 (by kernel_rfl)
            have e15 : u 15 = .int .i64 e4 := hd 15 (by kernel_rfl)
            have e16 : u 16 = .int .i64 e4 := hd 16 (by kernel_rfl)
            simp only [e14, e15, e16]
            refine slot_run rfl rfl rfl ?_; intro K9 hK
            go_simp; exact hK _ _ rfl (by repeat (first | exact Ext.refl _ | assumption | apply Ext.xt | apply Ext.alloc | apply Ext.drew | apply Ext.drewN)) rfl
          · (show SlotA _ _ _ _ _ _ _); intro u w1 hx1 hd; obtain ⟨y9, rfl⟩ := hx1.get; clear hx1
            have e14 : u 14 = .bool true := hd 14 (by kernel_rfl)
            have e17 : u 17 = .bool true := hd 17 (by kernel_rfl)
            simp only [e14, e17]
            refine slot_run rfl rfl rfl ?_; intro K9 hK
            go_simp; exact hK _ _ rfl (by repeat (first | exact Ext.refl _ | assumption | apply Ext.xt | apply Ext.alloc | apply Ext.drew | apply Ext.drewN)) rfl
          · (show SlotA _ _ _ _ _ _ _); intro u w1 hx1 hd; obtain ⟨y9, rfl⟩ := hx1.get; clear hx1
            have e18 : u 18 = .bool true := hd 18 (by kernel_rfl)
            simp only [e18]
            refine slot_run rfl rfl rfl ?_; intro K9 hK
            go_simp; exact hK _ _ rfl (by repeat (first | exact Ext.refl _ | assumption | apply Ext.xt | apply Ext.alloc | apply Ext.drew | apply Ext.drewN)) rfl
          · (show SlotA _ _ _ _ _ _ _); intro u w1 hx1 hd; obtain ⟨y9, rfl⟩ := hx1.get; clear hx1
            have e19 : u 19 = .bool true := hd 19 (by kernel_rfl)
            simp only [e19]
            refine slot_run rfl rfl rfl ?_; intro K9 hK
            go_simp; go_at_call 20; refine (l54_awake _).mono ?_; rintro e w' ⟨rfl, hx⟩; exact hK _ _ rfl hx rfl
          · (show SlotA _ _ _ _ _ _ _); intro u w1 hx1 hd; obtain ⟨y9, rfl⟩ := hx1.get; clear hx1
            have e19 : u 19 = .bool true := hd 19 (by kernel_rfl)
            have e20 : u 20 = .bool true := hd 20 (by kernel_rfl)
            simp only [e19, e20]
            refine slot_run rfl rfl rfl ?_; intro K9 hK
            go_simp; exact hK _ _ rfl (by repeat (first | exact Ext.refl _ | assumption | apply Ext.xt | apply Ext.alloc | apply Ext.drew | apply Ext.drewN)) rfl
        · intro u w2 hx2 hT; obtain ⟨t0, t1, t2, t3, t4, t5, t6, t7, t8, t9, t10, t11, t12, t13, t14, t15, t16, t17, t18, t19, t20, t21, -⟩ := hT; obtain ⟨y9, rfl⟩ := hx2.get; clear hx2
          have e21 : u 21 = .bool true := t21
          simp only [e21]
          clear e21 t0 t1 t2 t3 t4 t5 t6 t7 t8 t9 t10 t11 t12 t13 t14 t15 t16 t17 t18 t19 t20 t21
          simp only [List.drop_succ_cons, List.drop_zero]
          go_wp2
          go_ret
          exact ⟨rfl, hexC.trans (by repeat (first | exact Ext.refl _ | assumption | apply Ext.xt | apply Ext.alloc | apply Ext.drew | apply Ext.drewN))⟩
end
end Go.Proofs.YtlpboikonnpjbaaGreat
