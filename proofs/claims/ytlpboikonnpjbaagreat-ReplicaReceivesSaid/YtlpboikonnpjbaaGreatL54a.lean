/-
  ReplicaRepeats.
-/
import Derived.Test.YtlpboikonnpjbaaGreatGrpn
import Derived.Test.YtlpboikonnpjbaaGreatRq4
import Derived.Test.YtlpboikonnpjbaaGreatGrpj
import Derived.Test.YtlpboikonnpjbaaGreatGrpm
import Derived.Test.YtlpboikonnpjbaaGreatGrpr
namespace Go.Proofs.YtlpboikonnpjbaaGreat
open Go.RowKit

theorem rep_Same_self (a : Nod) (A : Option Addr) (c : Nat) (B : Option Addr) (d : Nat) (w : World) (ha : RecsAt w A c a.log) (hb : RecsAt w B d a.log) : Calls Tryz.prog 43 #[.agg #[.int .i64 a.id, .int .i64 a.term, .bool a.speaks, .slice A a.log.length c, .int .i64 a.acked, .int .i64 a.next], .agg #[.int .i64 a.id, .int .i64 a.term, .bool a.speaks, .slice B a.log.length d, .int .i64 a.acked, .int .i64 a.next]] w fun e w' => e = .returned (.bool true) ∧ Ext w w' := by
  have := rep_Same a a A c B d w ha hb
  rwa [sameN_refl] at this
theorem r54_SameMessage_nil (k t a b q : Int) (w : World) : Calls Tryz.prog 26 #[.agg #[.int .i64 k, .int .i64 t, .int .i64 a, .int .i64 b, .slice none 0 0, .int .i64 q], .agg #[.int .i64 k, .int .i64 t, .int .i64 a, .int .i64 b, .slice none 0 0, .int .i64 q]] w fun e w' => e = .returned (.bool true) ∧ Ext w w' := by
  have := r54_SameMessage ⟨k, t, a, b, [], q⟩ ⟨k, t, a, b, [], q⟩ none 0 none 0 w (RecsAt.nil _) (RecsAt.nil _)
  rwa [sameM_refl] at this
section
variable (n : Nod) (A : Option Addr) (c : Nat) (m : Msg) (B : Option Addr) (d : Nat) (w : World) (hs : RecsAt w A c n.log) (hm : RecsAt w B d m.recs) (hb1 : n.log.length * 552 ≤ 140737488355328) (hb2 : m.recs.length * 552 ≤ 140737488355328)
include hs hm hb1 hb2
set_option maxHeartbeats 6400000 in
set_option maxRecDepth 100000 in
theorem l54_Repeats : Calls Tryz.prog 8 #[.agg #[.int .i64 n.id, .int .i64 n.term, .bool n.speaks, .slice A n.log.length c, .int .i64 n.acked, .int .i64 n.next], .agg #[.int .i64 m.kind, .int .i64 m.term, .int .i64 m.at_, .int .i64 m.before, .slice B m.recs.length d, .int .i64 m.acked]] w fun e w' => e = .returned (.bool true) ∧ Ext w w' := by
  have HS := Lib.hid hs
  have HM := Lib.hid hm
  obtain ⟨v, hv⟩ : ∃ v, recvV n m = v := ⟨_, rfl⟩
  have HC := Lib.hid (fun (W : World) (hx : Ext w W) => rep_Receive n A c m B d W (hs.mono hx) (hm.mono hx))
  rw [hv] at HC
  have HV := Lib.hid hv
  clear hv hs hm
  go_enter Tryz.func8, Tryz.ntmps8
  go_wp2_with (first
    | (go_at_call 17; refine (l54_few _ 1 [(n, A, c)] _ (Sl.alloc' (by simp [go_sem]) (by simp [nodR]) (by simp [nodR])) (by simp) (fun x hx => by rw [List.mem_singleton.1 hx]; exact HS.out.mono (by repeat (first | exact Ext.refl _ | assumption | apply Ext.xt | apply Ext.alloc | apply Ext.drew | apply Ext.drewN))) (fun x hx => by rw [List.mem_singleton.1 hx]; exact hb1)).mono ?_; rintro e w' ⟨⟨bb, rfl, hbb⟩, hx⟩; have HBB := Lib.hid hbb; obtain ⟨ya, rfl⟩ := hx.get; clear hx hbb)
    | (go_at_call 19; refine (l54_records B d m.recs _ (HM.out.mono (by repeat (first | exact Ext.refl _ | assumption | apply Ext.xt | apply Ext.alloc | apply Ext.drew | apply Ext.drewN))) hb2).mono ?_; rintro e w' ⟨D, n', rfl, hx, hown⟩; have HO := Lib.hid hown; obtain ⟨yc, rfl⟩ := hx.get; clear hx hown)
    | (go_at_call 18; refine (r54_FewRecords D n' _ m.recs rfl _ (Own.recs (HO.out.mono (by repeat (first | exact Ext.refl _ | assumption | apply Ext.xt | apply Ext.alloc | apply Ext.drew | apply Ext.drewN))) rfl (fun r hr => (HM.out.el r hr).mono (by repeat (first | exact Ext.refl _ | assumption | apply Ext.xt | apply Ext.alloc | apply Ext.drew | apply Ext.drewN))))).mono ?_; rintro e w' ⟨⟨b2, rfl, -⟩, hx⟩; obtain ⟨yd, rfl⟩ := hx.get; clear hx)
    | (go_at_call 20; refine (l54_awake _).mono ?_; rintro e w' ⟨rfl, hx⟩; obtain ⟨y, rfl⟩ := hx.get; clear hx))
  · go_ret
    exact ⟨rfl, by repeat (first | exact Ext.refl _ | assumption | apply Ext.xt | apply Ext.alloc | apply Ext.drew | apply Ext.drewN)⟩
  · go_at_call 21; refine (HC.out _ (by repeat (first | exact Ext.refl _ | assumption | apply Ext.xt | apply Ext.alloc | apply Ext.drew | apply Ext.drewN))).mono ?_; rintro e w' ⟨D, K, rfl, hx, hl⟩; have HL := Lib.hid hl; obtain ⟨ye, rfl⟩ := hx.get; clear hx hl
    by_cases h4 : v.2.2.2 = 0
    · have hz : (v.2.2.2 != 0) = false := by simpa using h4
      have hz2 : (v.2.2.2 == 0) = true := by simpa using h4
      have HA := Lib.hid (show recvV v.1 m = v by rw [← HV.out]; exact recvV_again (by rw [HV.out]; exact h4))
      clear h4
      go_wp2_with fail
      go_at_call 21; refine (rep_Receive v.1 D K m B d _ ((HL.out.recs rfl (by repeat (first | exact Ext.refl _ | assumption | apply Ext.xt | apply Ext.alloc | apply Ext.drew | apply Ext.drewN))).mono (by repeat (first | exact Ext.refl _ | assumption | apply Ext.xt | apply Ext.alloc | apply Ext.drew | apply Ext.drewN))) (HM.out.mono (by repeat (first | exact Ext.refl _ | assumption | apply Ext.xt | apply Ext.alloc | apply Ext.drew | apply Ext.drewN)))).mono ?_; rw [HA.out]; rintro e w' ⟨D2, K2, rfl, hx, hl⟩; have HL2 := Lib.hid hl; obtain ⟨yf, rfl⟩ := hx.get; clear hx hl
      go_wp2_with fail
      (refine wp_region_grows (by kernel_rfl) (by kernel_rfl) ?_; (repeat (go_big_quiet_step ((first
        | (go_at_call 43; exact Calls.grows (rep_Same_self v.1 D K D2 K2 _ ((HL.out.recs rfl (by repeat (first | exact Ext.refl _ | assumption | apply Ext.xt | apply Ext.alloc | apply Ext.drew | apply Ext.drewN))).mono (by repeat (first | exact Ext.refl _ | assumption | apply Ext.xt | apply Ext.alloc | apply Ext.drew | apply Ext.drewN))) ((HL2.out.recs rfl (by repeat (first | exact Ext.refl _ | assumption | apply Ext.xt | apply Ext.alloc | apply Ext.drew | apply Ext.drewN))).mono (by repeat (first | exact Ext.refl _ | assumption | apply Ext.xt | apply Ext.alloc | apply Ext.drew | apply Ext.drewN)))))
        | (go_at_call 24; exact Calls.grows (l54_Said_nil _ _ _ _ _ _))
        | (go_at_call 26; exact Calls.grows (r54_SameMessage_nil _ _ _ _ _ _))
        | (go_at_call 20; exact Calls.grows (l54_awake _)))))); refine wpQuiet_nil ?_; rintro _ ⟨y, rfl⟩)
      go_wp2
      go_ret
      exact ⟨rfl, by repeat (first | exact Ext.refl _ | assumption | apply Ext.xt | apply Ext.alloc | apply Ext.drew | apply Ext.drewN)⟩
    · have hz : (v.2.2.2 != 0) = true := by simpa using h4
      clear h4
      go_wp2_with (go_at_call 20; refine (l54_awake _).mono ?_; rintro e w' ⟨rfl, hx⟩; obtain ⟨y, rfl⟩ := hx.get; clear hx)
      go_ret
      exact ⟨rfl, by repeat (first | exact Ext.refl _ | assumption | apply Ext.xt | apply Ext.alloc | apply Ext.drew | apply Ext.drewN)⟩
  · go_ret
    exact ⟨rfl, by repeat (first | exact Ext.refl _ | assumption | apply Ext.xt | apply Ext.alloc | apply Ext.drew | apply Ext.drewN)⟩
end
end Go.Proofs.YtlpboikonnpjbaaGreat
