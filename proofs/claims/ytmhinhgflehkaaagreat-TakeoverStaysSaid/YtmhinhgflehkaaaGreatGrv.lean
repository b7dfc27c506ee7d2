import Derived.Test.YtmhinhgflehkaaaGreatGwka
import Derived.Test.YtmhinhgflehkaaaGreatGfew
import Derived.Test.YtmhinhgflehkaaaGreatDdq
set_option maxHeartbeats 3200000
set_option maxRecDepth 100000
namespace Go.Proofs.YtmhinhgflehkaaaGreat
open Go.RowKit

def loadV (v:Value):Sem Value:=Instr.loadAt 162 v
def loadV' (v:Value):Sem Value:=Instr.loadAt 162 v
@[go_sem ↓ high] theorem loadV_at (v:Value):Instr.loadAt 162 v=loadV v:=rfl
@[go_sem] theorem loadV_run (w:World) (b o:Nat):(loadV (.pointer (some ⟨b,o,none⟩))).run Tryz.prog w=match rowQ w b o 48 with | some cs => .ok (.agg cs.toArray) w | none=>(loadV' (.pointer (some ⟨b,o,none⟩))).run Tryz.prog w:=by
 split
 ·rename_i cs h
  obtain ⟨h1,h2⟩:=rowQ_get h
  exact run_loadAt_mid w b o _ cs _ h1 Tryz.underlying162 rfl (by rw [h2];kernel_rfl)
 ·rfl
theorem r55_in (a lo hi:Int) (w:World):Calls Tryz.prog 61 #[.int .i64 a,.int .i64 lo,.int .i64 hi] w fun e w'=>e = .returned (.bool (withinB a lo hi))∧w=w':=by
 by_cases h1:lo≤a
 ·by_cases h2:a≤hi
  ·have HV:=Lib.hid (show true=withinB a lo hi from (decide_eq_true ⟨h1,h2⟩).symm)
   go_enter Tryz.func61,Tryz.ntmps61
   go_wp2
   go_ret
   exact ⟨ret_b HV.out,rfl⟩
  ·have HV:=Lib.hid (show false=withinB a lo hi from (decide_eq_false (by omega)).symm)
   go_enter Tryz.func61,Tryz.ntmps61
   go_wp2
   go_ret
   exact ⟨ret_b HV.out,rfl⟩
 ·have HV:=Lib.hid (show false=withinB a lo hi from (decide_eq_false (by omega)).symm)
  go_enter Tryz.func61,Tryz.ntmps61
  go_wp2
  go_ret
  exact ⟨ret_b HV.out,rfl⟩
theorem r55_event_k (x:Evt) (w:World) (ha:AcnAt w x.act) (h:withinB x.kind 0 5=false):Calls Tryz.prog 77 #[.agg (evtR x).toArray] w fun e w'=>e = .returned (.int .i64 (evtE x))∧Ext w w':=by
 have HV:=Lib.hid (show evtE x=1 by unfold evtE;have:=withinB_no h;rw [if_pos (by omega)])
 have HA:=Lib.hid ha
 have WK:=Lib.hid h
 clear ha h
 rw [HV.out]
 clear HV
 go_enter Tryz.func77,Tryz.ntmps77
 go_wp2_with (first
  | (go_at_call 61;refine (r55_in _ _ _ _).mono ?_;rintro e w' ⟨he,rfl⟩;simp only [WK.out] at he;subst he)
  | (go_at_call 113;refine (r33_Check x.act _ (HA.out.mono (ex))).mono ?_;rintro e w' ⟨rfl,hx⟩;obtain ⟨y,rfl⟩:=hx.get;clear hx))
 go_ret
 exact ⟨rfl,ex⟩
theorem r55_event_As (x:Evt) (w:World) (ha:AcnAt w x.act) (hk:x.kind=0) (h_s:withinB x.station 1 2=false):Calls Tryz.prog 77 #[.agg (evtR x).toArray] w fun e w'=>e = .returned (.int .i64 (evtE x))∧Ext w w':=by
 have HV:=Lib.hid (show evtE x=2 by unfold evtE;have:=withinB_no h_s;rw [if_neg (by omega),if_pos (by omega)])
 have HA:=Lib.hid ha
 have WK:=Lib.hid (show withinB x.kind 0 5=true from decide_eq_true (by omega))
 have hk1:decide (x.kind≤2)=true:=decide_eq_true (by omega)
 have hk2:(x.kind == 0)=true:=by simp;omega
 have hk4:(x.kind != 0)=false:=by simp;omega
 have hk3:(x.kind == 5)=false:=by simp;omega
 have WS:=Lib.hid (show withinB x.station 1 2=false from h_s)
 clear ha hk h_s
 rw [HV.out]
 clear HV
 go_enter Tryz.func77,Tryz.ntmps77
 go_wp2_with (first
  | (go_at_call 61;refine (r55_in _ _ _ _).mono ?_;rintro e w' ⟨he,rfl⟩;simp only [WK.out] at he;subst he)
  | (go_at_call 113;refine (r33_Check x.act _ (HA.out.mono (ex))).mono ?_;rintro e w' ⟨rfl,hx⟩;obtain ⟨y,rfl⟩:=hx.get;clear hx))
 (refine wp_region_grows (by kernel_rfl) (by kernel_rfl) ?_;(repeat (go_big_quiet_step (fail)));refine wpQuiet_nil ?_;rintro _ ⟨y,rfl⟩)
 go_wp2_with (first
  | (go_at_call 61;refine (r55_in _ _ _ _).mono ?_;rintro e w' ⟨he,rfl⟩;simp only [WS.out] at he;subst he)
  | (go_at_call 113;refine (r33_Check x.act _ (HA.out.mono (ex))).mono ?_;rintro e w' ⟨rfl,hx⟩;obtain ⟨y,rfl⟩:=hx.get;clear hx))
 go_ret
 exact ⟨rfl,ex⟩
theorem r55_event_Aa (x:Evt) (w:World) (ha:AcnAt w x.act) (hk:x.kind=0) (h_s:withinB x.station 1 2=true) (h_a:acnE x.act ≠ 0):Calls Tryz.prog 77 #[.agg (evtR x).toArray] w fun e w'=>e = .returned (.int .i64 (evtE x))∧Ext w w':=by
 have HV:=Lib.hid (show evtE x=acnE x.act by unfold evtE;have:=withinB_yes h_s;rw [if_neg (by omega),if_neg (by omega),if_pos ⟨by omega,h_a⟩])
 have HA:=Lib.hid ha
 have WK:=Lib.hid (show withinB x.kind 0 5=true from decide_eq_true (by omega))
 have hk1:decide (x.kind≤2)=true:=decide_eq_true (by omega)
 have hk2:(x.kind == 0)=true:=by simp;omega
 have hk4:(x.kind != 0)=false:=by simp;omega
 have hk3:(x.kind == 5)=false:=by simp;omega
 have WS:=Lib.hid (show withinB x.station 1 2=true from h_s)
 have z_a:(acnE x.act != 0)=true:=by simpa using h_a
 clear ha hk h_s h_a
 rw [HV.out]
 clear HV
 go_enter Tryz.func77,Tryz.ntmps77
 go_wp2_with (first
  | (go_at_call 61;refine (r55_in _ _ _ _).mono ?_;rintro e w' ⟨he,rfl⟩;simp only [WK.out] at he;subst he)
  | (go_at_call 113;refine (r33_Check x.act _ (HA.out.mono (ex))).mono ?_;rintro e w' ⟨rfl,hx⟩;obtain ⟨y,rfl⟩:=hx.get;clear hx))
 (refine wp_region_grows (by kernel_rfl) (by kernel_rfl) ?_;(repeat (go_big_quiet_step (fail)));refine wpQuiet_nil ?_;rintro _ ⟨y,rfl⟩)
 go_wp2_with (first
  | (go_at_call 61;refine (r55_in _ _ _ _).mono ?_;rintro e w' ⟨he,rfl⟩;simp only [WS.out] at he;subst he)
  | (go_at_call 113;refine (r33_Check x.act _ (HA.out.mono (ex))).mono ?_;rintro e w' ⟨rfl,hx⟩;obtain ⟨y,rfl⟩:=hx.get;clear hx))
 go_ret
 exact ⟨rfl,ex⟩
theorem r55_event_Ay (x:Evt) (w:World) (ha:AcnAt w x.act) (hk:x.kind=0) (h_s:withinB x.station 1 2=true) (h_a:acnE x.act=0) (h_y:x.delay ≠ 0):Calls Tryz.prog 77 #[.agg (evtR x).toArray] w fun e w'=>e = .returned (.int .i64 (evtE x))∧Ext w w':=by
 have HV:=Lib.hid (show evtE x=3 by unfold evtE;have:=withinB_yes h_s;rw [if_neg (by omega),if_neg (by omega),if_neg (fun hc=>hc.2 h_a),if_pos (.inr (.inl ⟨by omega,h_y⟩))])
 have HA:=Lib.hid ha
 have WK:=Lib.hid (show withinB x.kind 0 5=true from decide_eq_true (by omega))
 have hk1:decide (x.kind≤2)=true:=decide_eq_true (by omega)
 have hk2:(x.kind == 0)=true:=by simp;omega
 have hk4:(x.kind != 0)=false:=by simp;omega
 have hk3:(x.kind == 5)=false:=by simp;omega
 have WS:=Lib.hid (show withinB x.station 1 2=true from h_s)
 have z_a:(acnE x.act != 0)=false:=by simpa using h_a
 have z_h_y:(x.delay != 0)=true:=by simpa using h_y
 clear ha hk h_s h_a h_y
 rw [HV.out]
 clear HV
 go_enter Tryz.func77,Tryz.ntmps77
 go_wp2_with (first
  | (go_at_call 61;refine (r55_in _ _ _ _).mono ?_;rintro e w' ⟨he,rfl⟩;simp only [WK.out] at he;subst he)
  | (go_at_call 113;refine (r33_Check x.act _ (HA.out.mono (ex))).mono ?_;rintro e w' ⟨rfl,hx⟩;obtain ⟨y,rfl⟩:=hx.get;clear hx))
 (refine wp_region_grows (by kernel_rfl) (by kernel_rfl) ?_;(repeat (go_big_quiet_step (fail)));refine wpQuiet_nil ?_;rintro _ ⟨y,rfl⟩)
 go_wp2_with (first
  | (go_at_call 61;refine (r55_in _ _ _ _).mono ?_;rintro e w' ⟨he,rfl⟩;simp only [WS.out] at he;subst he)
  | (go_at_call 113;refine (r33_Check x.act _ (HA.out.mono (ex))).mono ?_;rintro e w' ⟨rfl,hx⟩;obtain ⟨y,rfl⟩:=hx.get;clear hx))
 go_ret
 exact ⟨rfl,ex⟩
theorem r55_event_Ao (x:Evt) (w:World) (ha:AcnAt w x.act) (hk:x.kind=0) (h_s:withinB x.station 1 2=true) (h_a:acnE x.act=0) (h_y:x.delay=0):Calls Tryz.prog 77 #[.agg (evtR x).toArray] w fun e w'=>e = .returned (.int .i64 (evtE x))∧Ext w w':=by
 have HV:=Lib.hid (show evtE x=0 by unfold evtE;have:=withinB_yes h_s;rw [if_neg (by omega),if_neg (by omega),if_neg (fun hc=>hc.2 h_a),if_neg (by rintro (⟨a,b⟩ | ⟨a,b⟩ | ⟨a,b⟩) <;> omega)])
 have HA:=Lib.hid ha
 have WK:=Lib.hid (show withinB x.kind 0 5=true from decide_eq_true (by omega))
 have hk1:decide (x.kind≤2)=true:=decide_eq_true (by omega)
 have hk2:(x.kind == 0)=true:=by simp;omega
 have hk4:(x.kind != 0)=false:=by simp;omega
 have hk3:(x.kind == 5)=false:=by simp;omega
 have WS:=Lib.hid (show withinB x.station 1 2=true from h_s)
 have z_a:(acnE x.act != 0)=false:=by simpa using h_a
 have z_h_y:(x.delay != 0)=false:=by simpa using h_y
 clear ha hk h_s h_a h_y
 rw [HV.out]
 clear HV
 go_enter Tryz.func77,Tryz.ntmps77
 go_wp2_with (first
  | (go_at_call 61;refine (r55_in _ _ _ _).mono ?_;rintro e w' ⟨he,rfl⟩;simp only [WK.out] at he;subst he)
  | (go_at_call 113;refine (r33_Check x.act _ (HA.out.mono (ex))).mono ?_;rintro e w' ⟨rfl,hx⟩;obtain ⟨y,rfl⟩:=hx.get;clear hx))
 (refine wp_region_grows (by kernel_rfl) (by kernel_rfl) ?_;(repeat (go_big_quiet_step (fail)));refine wpQuiet_nil ?_;rintro _ ⟨y,rfl⟩)
 go_wp2_with (first
  | (go_at_call 61;refine (r55_in _ _ _ _).mono ?_;rintro e w' ⟨he,rfl⟩;simp only [WS.out] at he;subst he)
  | (go_at_call 113;refine (r33_Check x.act _ (HA.out.mono (ex))).mono ?_;rintro e w' ⟨rfl,hx⟩;obtain ⟨y,rfl⟩:=hx.get;clear hx))
 go_ret
 exact ⟨rfl,ex⟩
theorem r55_event_Bs (x:Evt) (w:World) (ha:AcnAt w x.act) (hk:x.kind=1 ∨ x.kind=2) (h_s:withinB x.station 1 2=false):Calls Tryz.prog 77 #[.agg (evtR x).toArray] w fun e w'=>e = .returned (.int .i64 (evtE x))∧Ext w w':=by
 have HV:=Lib.hid (show evtE x=2 by unfold evtE;have:=withinB_no h_s;rw [if_neg (by omega),if_pos (by omega)])
 have HA:=Lib.hid ha
 have WK:=Lib.hid (show withinB x.kind 0 5=true from decide_eq_true (by omega))
 have hk1:decide (x.kind≤2)=true:=decide_eq_true (by omega)
 have hk2:(x.kind == 0)=false:=by simp;omega
 have hk4:(x.kind != 0)=true:=by simp;omega
 have hk3:(x.kind == 5)=false:=by simp;omega
 have WS:=Lib.hid (show withinB x.station 1 2=false from h_s)
 clear ha hk h_s
 rw [HV.out]
 clear HV
 go_enter Tryz.func77,Tryz.ntmps77
 go_wp2_with (first
  | (go_at_call 61;refine (r55_in _ _ _ _).mono ?_;rintro e w' ⟨he,rfl⟩;simp only [WK.out] at he;subst he)
  | (go_at_call 113;refine (r33_Check x.act _ (HA.out.mono (ex))).mono ?_;rintro e w' ⟨rfl,hx⟩;obtain ⟨y,rfl⟩:=hx.get;clear hx))
 (refine wp_region_grows (by kernel_rfl) (by kernel_rfl) ?_;(repeat (go_big_quiet_step (fail)));refine wpQuiet_nil ?_;rintro _ ⟨y,rfl⟩)
 go_wp2_with (first
  | (go_at_call 61;refine (r55_in _ _ _ _).mono ?_;rintro e w' ⟨he,rfl⟩;simp only [WS.out] at he;subst he)
  | (go_at_call 113;refine (r33_Check x.act _ (HA.out.mono (ex))).mono ?_;rintro e w' ⟨rfl,hx⟩;obtain ⟨y,rfl⟩:=hx.get;clear hx))
 go_ret
 exact ⟨rfl,ex⟩
theorem r55_event_By (x:Evt) (w:World) (ha:AcnAt w x.act) (hk:x.kind=1 ∨ x.kind=2) (h_s:withinB x.station 1 2=true) (h_y:x.delay ≠ 0):Calls Tryz.prog 77 #[.agg (evtR x).toArray] w fun e w'=>e = .returned (.int .i64 (evtE x))∧Ext w w':=by
 have HV:=Lib.hid (show evtE x=3 by unfold evtE;have:=withinB_yes h_s;rw [if_neg (by omega),if_neg (by omega),if_neg (fun hc=>by have:=hc.1;omega),if_pos (.inr (.inl ⟨by omega,h_y⟩))])
 have HA:=Lib.hid ha
 have WK:=Lib.hid (show withinB x.kind 0 5=true from decide_eq_true (by omega))
 have hk1:decide (x.kind≤2)=true:=decide_eq_true (by omega)
 have hk2:(x.kind == 0)=false:=by simp;omega
 have hk4:(x.kind != 0)=true:=by simp;omega
 have hk3:(x.kind == 5)=false:=by simp;omega
 have WS:=Lib.hid (show withinB x.station 1 2=true from h_s)
 have z_h_y:(x.delay != 0)=true:=by simpa using h_y
 clear ha hk h_s h_y
 rw [HV.out]
 clear HV
 go_enter Tryz.func77,Tryz.ntmps77
 go_wp2_with (first
  | (go_at_call 61;refine (r55_in _ _ _ _).mono ?_;rintro e w' ⟨he,rfl⟩;simp only [WK.out] at he;subst he)
  | (go_at_call 113;refine (r33_Check x.act _ (HA.out.mono (ex))).mono ?_;rintro e w' ⟨rfl,hx⟩;obtain ⟨y,rfl⟩:=hx.get;clear hx))
 (refine wp_region_grows (by kernel_rfl) (by kernel_rfl) ?_;(repeat (go_big_quiet_step (fail)));refine wpQuiet_nil ?_;rintro _ ⟨y,rfl⟩)
 go_wp2_with (first
  | (go_at_call 61;refine (r55_in _ _ _ _).mono ?_;rintro e w' ⟨he,rfl⟩;simp only [WS.out] at he;subst he)
  | (go_at_call 113;refine (r33_Check x.act _ (HA.out.mono (ex))).mono ?_;rintro e w' ⟨rfl,hx⟩;obtain ⟨y,rfl⟩:=hx.get;clear hx))
 go_ret
 exact ⟨rfl,ex⟩
theorem r55_event_Bm (x:Evt) (w:World) (ha:AcnAt w x.act) (hk:x.kind=1 ∨ x.kind=2) (h_s:withinB x.station 1 2=true) (h_y:x.delay=0) (h_m:sameA x.act acnN=false):Calls Tryz.prog 77 #[.agg (evtR x).toArray] w fun e w'=>e = .returned (.int .i64 (evtE x))∧Ext w w':=by
 have HV:=Lib.hid (show evtE x=3 by unfold evtE;have:=withinB_yes h_s;rw [if_neg (by omega),if_neg (by omega),if_neg (fun hc=>by have:=hc.1;omega),if_pos (.inr (.inr ⟨by omega,h_m⟩))])
 have HA:=Lib.hid ha
 have WK:=Lib.hid (show withinB x.kind 0 5=true from decide_eq_true (by omega))
 have hk1:decide (x.kind≤2)=true:=decide_eq_true (by omega)
 have hk2:(x.kind == 0)=false:=by simp;omega
 have hk4:(x.kind != 0)=true:=by simp;omega
 have hk3:(x.kind == 5)=false:=by simp;omega
 have WS:=Lib.hid (show withinB x.station 1 2=true from h_s)
 have z_h_y:(x.delay != 0)=false:=by simpa using h_y
 have HM:sameA x.act acnN=false:=h_m
 clear ha hk h_s h_y h_m
 rw [HV.out]
 clear HV
 go_enter Tryz.func77,Tryz.ntmps77
 go_wp2_with (first
  | (go_at_call 61;refine (r55_in _ _ _ _).mono ?_;rintro e w' ⟨he,rfl⟩;simp only [WK.out] at he;subst he)
  | (go_at_call 113;refine (r33_Check x.act _ (HA.out.mono (ex))).mono ?_;rintro e w' ⟨rfl,hx⟩;obtain ⟨y,rfl⟩:=hx.get;clear hx)
  | (refine wpList_built rfl 87 _ rfl [] rfl (acnR acnN).toArray (by kernel_rfl) ?_)
  | (go_at_call 83;refine (r33_Same x.act acnN _ (HA.out.mono (ex)) (acnN_at _)).mono ?_;rintro e w' ⟨rfl,hx⟩;obtain ⟨y,rfl⟩:=hx.get;clear hx))
 (refine wp_region_grows (by kernel_rfl) (by kernel_rfl) ?_;(repeat (go_big_quiet_step (fail)));refine wpQuiet_nil ?_;rintro _ ⟨y,rfl⟩)
 go_wp2_with (first
  | (go_at_call 61;refine (r55_in _ _ _ _).mono ?_;rintro e w' ⟨he,rfl⟩;simp only [WS.out] at he;subst he)
  | (go_at_call 113;refine (r33_Check x.act _ (HA.out.mono (ex))).mono ?_;rintro e w' ⟨rfl,hx⟩;obtain ⟨y,rfl⟩:=hx.get;clear hx)
  | (refine wpList_built rfl 87 _ rfl [] rfl (acnR acnN).toArray (by kernel_rfl) ?_)
  | (go_at_call 83;refine (r33_Same x.act acnN _ (HA.out.mono (ex)) (acnN_at _)).mono ?_;rintro e w' ⟨rfl,hx⟩;obtain ⟨y,rfl⟩:=hx.get;clear hx))
 go_ret
 exact ⟨rfl,ex⟩
theorem r55_event_Bo (x:Evt) (w:World) (ha:AcnAt w x.act) (hk:x.kind=1 ∨ x.kind=2) (h_s:withinB x.station 1 2=true) (h_y:x.delay=0) (h_m:sameA x.act acnN=true):Calls Tryz.prog 77 #[.agg (evtR x).toArray] w fun e w'=>e = .returned (.int .i64 (evtE x))∧Ext w w':=by
 have HV:=Lib.hid (show evtE x=0 by unfold evtE;have:=withinB_yes h_s;rw [if_neg (by omega),if_neg (by omega),if_neg (fun hc=>by have:=hc.1;omega),if_neg (by rintro (⟨a,b⟩ | ⟨a,b⟩ | ⟨a,b⟩) <;> first | omega | (rw [h_m] at b;cases b))])
 have HA:=Lib.hid ha
 have WK:=Lib.hid (show withinB x.kind 0 5=true from decide_eq_true (by omega))
 have hk1:decide (x.kind≤2)=true:=decide_eq_true (by omega)
 have hk2:(x.kind == 0)=false:=by simp;omega
 have hk4:(x.kind != 0)=true:=by simp;omega
 have hk3:(x.kind == 5)=false:=by simp;omega
 have WS:=Lib.hid (show withinB x.station 1 2=true from h_s)
 have z_h_y:(x.delay != 0)=false:=by simpa using h_y
 have HM:sameA x.act acnN=true:=h_m
 clear ha hk h_s h_y h_m
 rw [HV.out]
 clear HV
 go_enter Tryz.func77,Tryz.ntmps77
 go_wp2_with (first
  | (go_at_call 61;refine (r55_in _ _ _ _).mono ?_;rintro e w' ⟨he,rfl⟩;simp only [WK.out] at he;subst he)
  | (go_at_call 113;refine (r33_Check x.act _ (HA.out.mono (ex))).mono ?_;rintro e w' ⟨rfl,hx⟩;obtain ⟨y,rfl⟩:=hx.get;clear hx)
  | (refine wpList_built rfl 87 _ rfl [] rfl (acnR acnN).toArray (by kernel_rfl) ?_)
  | (go_at_call 83;refine (r33_Same x.act acnN _ (HA.out.mono (ex)) (acnN_at _)).mono ?_;rintro e w' ⟨rfl,hx⟩;obtain ⟨y,rfl⟩:=hx.get;clear hx))
 (refine wp_region_grows (by kernel_rfl) (by kernel_rfl) ?_;(repeat (go_big_quiet_step (fail)));refine wpQuiet_nil ?_;rintro _ ⟨y,rfl⟩)
 go_wp2_with (first
  | (go_at_call 61;refine (r55_in _ _ _ _).mono ?_;rintro e w' ⟨he,rfl⟩;simp only [WS.out] at he;subst he)
  | (go_at_call 113;refine (r33_Check x.act _ (HA.out.mono (ex))).mono ?_;rintro e w' ⟨rfl,hx⟩;obtain ⟨y,rfl⟩:=hx.get;clear hx)
  | (refine wpList_built rfl 87 _ rfl [] rfl (acnR acnN).toArray (by kernel_rfl) ?_)
  | (go_at_call 83;refine (r33_Same x.act acnN _ (HA.out.mono (ex)) (acnN_at _)).mono ?_;rintro e w' ⟨rfl,hx⟩;obtain ⟨y,rfl⟩:=hx.get;clear hx))
 go_ret
 exact ⟨rfl,ex⟩
theorem r55_event_Cz (x:Evt) (w:World) (ha:AcnAt w x.act) (hk:x.kind=3 ∨ x.kind=4) (h_z:x.station ≠ 0):Calls Tryz.prog 77 #[.agg (evtR x).toArray] w fun e w'=>e = .returned (.int .i64 (evtE x))∧Ext w w':=by
 have HV:=Lib.hid (show evtE x=3 by unfold evtE;rw [if_neg (by omega),if_neg (by omega),if_neg (fun hc=>by have:=hc.1;omega),if_pos (.inl ⟨by omega,h_z⟩)])
 have HA:=Lib.hid ha
 have WK:=Lib.hid (show withinB x.kind 0 5=true from decide_eq_true (by omega))
 have hk1:decide (x.kind≤2)=false:=decide_eq_false (by omega)
 have hk2:(x.kind == 0)=false:=by simp;omega
 have hk4:(x.kind != 0)=true:=by simp;omega
 have hk3:(x.kind == 5)=false:=by simp;omega
 have z_h_z:(x.station != 0)=true:=by simpa using h_z
 clear ha hk h_z
 rw [HV.out]
 clear HV
 go_enter Tryz.func77,Tryz.ntmps77
 go_wp2_with (first
  | (go_at_call 61;refine (r55_in _ _ _ _).mono ?_;rintro e w' ⟨he,rfl⟩;simp only [WK.out] at he;subst he)
  | (go_at_call 113;refine (r33_Check x.act _ (HA.out.mono (ex))).mono ?_;rintro e w' ⟨rfl,hx⟩;obtain ⟨y,rfl⟩:=hx.get;clear hx))
 (refine wp_region_grows (by kernel_rfl) (by kernel_rfl) ?_;(repeat (go_big_quiet_step (fail)));refine wpQuiet_nil ?_;rintro _ ⟨y,rfl⟩)
 go_wp2_with (first
  | (go_at_call 61;refine (r55_in _ _ _ _).mono ?_;rintro e w' ⟨he,rfl⟩;simp only [WK.out] at he;subst he)
  | (go_at_call 113;refine (r33_Check x.act _ (HA.out.mono (ex))).mono ?_;rintro e w' ⟨rfl,hx⟩;obtain ⟨y,rfl⟩:=hx.get;clear hx))
 go_ret
 exact ⟨rfl,ex⟩
theorem r55_event_Cy (x:Evt) (w:World) (ha:AcnAt w x.act) (hk:x.kind=3 ∨ x.kind=4) (h_z:x.station=0) (h_y:x.delay ≠ 0):Calls Tryz.prog 77 #[.agg (evtR x).toArray] w fun e w'=>e = .returned (.int .i64 (evtE x))∧Ext w w':=by
 have HV:=Lib.hid (show evtE x=3 by unfold evtE;rw [if_neg (by omega),if_neg (by omega),if_neg (fun hc=>by have:=hc.1;omega),if_pos (.inr (.inl ⟨by omega,h_y⟩))])
 have HA:=Lib.hid ha
 have WK:=Lib.hid (show withinB x.kind 0 5=true from decide_eq_true (by omega))
 have hk1:decide (x.kind≤2)=false:=decide_eq_false (by omega)
 have hk2:(x.kind == 0)=false:=by simp;omega
 have hk4:(x.kind != 0)=true:=by simp;omega
 have hk3:(x.kind == 5)=false:=by simp;omega
 have z_h_z:(x.station != 0)=false:=by simpa using h_z
 have z_h_y:(x.delay != 0)=true:=by simpa using h_y
 clear ha hk h_z h_y
 rw [HV.out]
 clear HV
 go_enter Tryz.func77,Tryz.ntmps77
 go_wp2_with (first
  | (go_at_call 61;refine (r55_in _ _ _ _).mono ?_;rintro e w' ⟨he,rfl⟩;simp only [WK.out] at he;subst he)
  | (go_at_call 113;refine (r33_Check x.act _ (HA.out.mono (ex))).mono ?_;rintro e w' ⟨rfl,hx⟩;obtain ⟨y,rfl⟩:=hx.get;clear hx))
 (refine wp_region_grows (by kernel_rfl) (by kernel_rfl) ?_;(repeat (go_big_quiet_step (fail)));refine wpQuiet_nil ?_;rintro _ ⟨y,rfl⟩)
 go_wp2_with (first
  | (go_at_call 61;refine (r55_in _ _ _ _).mono ?_;rintro e w' ⟨he,rfl⟩;simp only [WK.out] at he;subst he)
  | (go_at_call 113;refine (r33_Check x.act _ (HA.out.mono (ex))).mono ?_;rintro e w' ⟨rfl,hx⟩;obtain ⟨y,rfl⟩:=hx.get;clear hx))
 go_ret
 exact ⟨rfl,ex⟩
theorem r55_event_Cm (x:Evt) (w:World) (ha:AcnAt w x.act) (hk:x.kind=3 ∨ x.kind=4) (h_z:x.station=0) (h_y:x.delay=0) (h_m:sameA x.act acnN=false):Calls Tryz.prog 77 #[.agg (evtR x).toArray] w fun e w'=>e = .returned (.int .i64 (evtE x))∧Ext w w':=by
 have HV:=Lib.hid (show evtE x=3 by unfold evtE;rw [if_neg (by omega),if_neg (by omega),if_neg (fun hc=>by have:=hc.1;omega),if_pos (.inr (.inr ⟨by omega,h_m⟩))])
 have HA:=Lib.hid ha
 have WK:=Lib.hid (show withinB x.kind 0 5=true from decide_eq_true (by omega))
 have hk1:decide (x.kind≤2)=false:=decide_eq_false (by omega)
 have hk2:(x.kind == 0)=false:=by simp;omega
 have hk4:(x.kind != 0)=true:=by simp;omega
 have hk3:(x.kind == 5)=false:=by simp;omega
 have z_h_z:(x.station != 0)=false:=by simpa using h_z
 have z_h_y:(x.delay != 0)=false:=by simpa using h_y
 have HM:sameA x.act acnN=false:=h_m
 clear ha hk h_z h_y h_m
 rw [HV.out]
 clear HV
 go_enter Tryz.func77,Tryz.ntmps77
 go_wp2_with (first
  | (go_at_call 61;refine (r55_in _ _ _ _).mono ?_;rintro e w' ⟨he,rfl⟩;simp only [WK.out] at he;subst he)
  | (go_at_call 113;refine (r33_Check x.act _ (HA.out.mono (ex))).mono ?_;rintro e w' ⟨rfl,hx⟩;obtain ⟨y,rfl⟩:=hx.get;clear hx)
  | (refine wpList_built rfl 87 _ rfl [] rfl (acnR acnN).toArray (by kernel_rfl) ?_)
  | (go_at_call 83;refine (r33_Same x.act acnN _ (HA.out.mono (ex)) (acnN_at _)).mono ?_;rintro e w' ⟨rfl,hx⟩;obtain ⟨y,rfl⟩:=hx.get;clear hx))
 (refine wp_region_grows (by kernel_rfl) (by kernel_rfl) ?_;(repeat (go_big_quiet_step (fail)));refine wpQuiet_nil ?_;rintro _ ⟨y,rfl⟩)
 go_wp2_with (first
  | (go_at_call 61;refine (r55_in _ _ _ _).mono ?_;rintro e w' ⟨he,rfl⟩;simp only [WK.out] at he;subst he)
  | (go_at_call 113;refine (r33_Check x.act _ (HA.out.mono (ex))).mono ?_;rintro e w' ⟨rfl,hx⟩;obtain ⟨y,rfl⟩:=hx.get;clear hx)
  | (refine wpList_built rfl 87 _ rfl [] rfl (acnR acnN).toArray (by kernel_rfl) ?_)
  | (go_at_call 83;refine (r33_Same x.act acnN _ (HA.out.mono (ex)) (acnN_at _)).mono ?_;rintro e w' ⟨rfl,hx⟩;obtain ⟨y,rfl⟩:=hx.get;clear hx))
 go_ret
 exact ⟨rfl,ex⟩
theorem r55_event_Co (x:Evt) (w:World) (ha:AcnAt w x.act) (hk:x.kind=3 ∨ x.kind=4) (h_z:x.station=0) (h_y:x.delay=0) (h_m:sameA x.act acnN=true):Calls Tryz.prog 77 #[.agg (evtR x).toArray] w fun e w'=>e = .returned (.int .i64 (evtE x))∧Ext w w':=by
 have HV:=Lib.hid (show evtE x=0 by unfold evtE;rw [if_neg (by omega),if_neg (by omega),if_neg (fun hc=>by have:=hc.1;omega),if_neg (by rintro (⟨a,b⟩ | ⟨a,b⟩ | ⟨a,b⟩) <;> first | omega | (rw [h_m] at b;cases b))])
 have HA:=Lib.hid ha
 have WK:=Lib.hid (show withinB x.kind 0 5=true from decide_eq_true (by omega))
 have hk1:decide (x.kind≤2)=false:=decide_eq_false (by omega)
 have hk2:(x.kind == 0)=false:=by simp;omega
 have hk4:(x.kind != 0)=true:=by simp;omega
 have hk3:(x.kind == 5)=false:=by simp;omega
 have z_h_z:(x.station != 0)=false:=by simpa using h_z
 have z_h_y:(x.delay != 0)=false:=by simpa using h_y
 have HM:sameA x.act acnN=true:=h_m
 clear ha hk h_z h_y h_m
 rw [HV.out]
 clear HV
 go_enter Tryz.func77,Tryz.ntmps77
 go_wp2_with (first
  | (go_at_call 61;refine (r55_in _ _ _ _).mono ?_;rintro e w' ⟨he,rfl⟩;simp only [WK.out] at he;subst he)
  | (go_at_call 113;refine (r33_Check x.act _ (HA.out.mono (ex))).mono ?_;rintro e w' ⟨rfl,hx⟩;obtain ⟨y,rfl⟩:=hx.get;clear hx)
  | (refine wpList_built rfl 87 _ rfl [] rfl (acnR acnN).toArray (by kernel_rfl) ?_)
  | (go_at_call 83;refine (r33_Same x.act acnN _ (HA.out.mono (ex)) (acnN_at _)).mono ?_;rintro e w' ⟨rfl,hx⟩;obtain ⟨y,rfl⟩:=hx.get;clear hx))
 (refine wp_region_grows (by kernel_rfl) (by kernel_rfl) ?_;(repeat (go_big_quiet_step (fail)));refine wpQuiet_nil ?_;rintro _ ⟨y,rfl⟩)
 go_wp2_with (first
  | (go_at_call 61;refine (r55_in _ _ _ _).mono ?_;rintro e w' ⟨he,rfl⟩;simp only [WK.out] at he;subst he)
  | (go_at_call 113;refine (r33_Check x.act _ (HA.out.mono (ex))).mono ?_;rintro e w' ⟨rfl,hx⟩;obtain ⟨y,rfl⟩:=hx.get;clear hx)
  | (refine wpList_built rfl 87 _ rfl [] rfl (acnR acnN).toArray (by kernel_rfl) ?_)
  | (go_at_call 83;refine (r33_Same x.act acnN _ (HA.out.mono (ex)) (acnN_at _)).mono ?_;rintro e w' ⟨rfl,hx⟩;obtain ⟨y,rfl⟩:=hx.get;clear hx))
 go_ret
 exact ⟨rfl,ex⟩
theorem r55_event_Ed (x:Evt) (w:World) (ha:AcnAt w x.act) (hk:x.kind=5) (h_d:withinB x.delay 1 8=false):Calls Tryz.prog 77 #[.agg (evtR x).toArray] w fun e w'=>e = .returned (.int .i64 (evtE x))∧Ext w w':=by
 have HV:=Lib.hid (show evtE x=2 by unfold evtE;have:=withinB_no h_d;rw [if_neg (by omega),if_pos (by omega)])
 have HA:=Lib.hid ha
 have WK:=Lib.hid (show withinB x.kind 0 5=true from decide_eq_true (by omega))
 have hk1:decide (x.kind≤2)=false:=decide_eq_false (by omega)
 have hk2:(x.kind == 0)=false:=by simp;omega
 have hk4:(x.kind != 0)=true:=by simp;omega
 have hk3:(x.kind == 5)=true:=by simp;omega
 have WD:=Lib.hid (show withinB x.delay 1 8=false from h_d)
 clear ha hk h_d
 rw [HV.out]
 clear HV
 go_enter Tryz.func77,Tryz.ntmps77
 go_wp2_with (first
  | (go_at_call 61;refine (r55_in _ _ _ _).mono ?_;rintro e w' ⟨he,rfl⟩;simp only [WK.out] at he;subst he)
  | (go_at_call 113;refine (r33_Check x.act _ (HA.out.mono (ex))).mono ?_;rintro e w' ⟨rfl,hx⟩;obtain ⟨y,rfl⟩:=hx.get;clear hx))
 (refine wp_region_grows (by kernel_rfl) (by kernel_rfl) ?_;(repeat (go_big_quiet_step (fail)));refine wpQuiet_nil ?_;rintro _ ⟨y,rfl⟩)
 go_wp2_with (first
  | (go_at_call 61;refine (r55_in _ _ _ _).mono ?_;rintro e w' ⟨he,rfl⟩;simp only [WD.out] at he;subst he)
  | (go_at_call 113;refine (r33_Check x.act _ (HA.out.mono (ex))).mono ?_;rintro e w' ⟨rfl,hx⟩;obtain ⟨y,rfl⟩:=hx.get;clear hx))
 go_ret
 exact ⟨rfl,ex⟩
theorem r55_event_Ez (x:Evt) (w:World) (ha:AcnAt w x.act) (hk:x.kind=5) (h_d:withinB x.delay 1 8=true) (h_z:x.station ≠ 0):Calls Tryz.prog 77 #[.agg (evtR x).toArray] w fun e w'=>e = .returned (.int .i64 (evtE x))∧Ext w w':=by
 have HV:=Lib.hid (show evtE x=3 by unfold evtE;have:=withinB_yes h_d;rw [if_neg (by omega),if_neg (by omega),if_neg (fun hc=>by have:=hc.1;omega),if_pos (.inl ⟨by omega,h_z⟩)])
 have HA:=Lib.hid ha
 have WK:=Lib.hid (show withinB x.kind 0 5=true from decide_eq_true (by omega))
 have hk1:decide (x.kind≤2)=false:=decide_eq_false (by omega)
 have hk2:(x.kind == 0)=false:=by simp;omega
 have hk4:(x.kind != 0)=true:=by simp;omega
 have hk3:(x.kind == 5)=true:=by simp;omega
 have WD:=Lib.hid (show withinB x.delay 1 8=true from h_d)
 have z_h_z:(x.station != 0)=true:=by simpa using h_z
 clear ha hk h_d h_z
 rw [HV.out]
 clear HV
 go_enter Tryz.func77,Tryz.ntmps77
 go_wp2_with (first
  | (go_at_call 61;refine (r55_in _ _ _ _).mono ?_;rintro e w' ⟨he,rfl⟩;simp only [WK.out] at he;subst he)
  | (go_at_call 113;refine (r33_Check x.act _ (HA.out.mono (ex))).mono ?_;rintro e w' ⟨rfl,hx⟩;obtain ⟨y,rfl⟩:=hx.get;clear hx))
 (refine wp_region_grows (by kernel_rfl) (by kernel_rfl) ?_;(repeat (go_big_quiet_step (fail)));refine wpQuiet_nil ?_;rintro _ ⟨y,rfl⟩)
 go_wp2_with (first
  | (go_at_call 61;refine (r55_in _ _ _ _).mono ?_;rintro e w' ⟨he,rfl⟩;simp only [WD.out] at he;subst he)
  | (go_at_call 113;refine (r33_Check x.act _ (HA.out.mono (ex))).mono ?_;rintro e w' ⟨rfl,hx⟩;obtain ⟨y,rfl⟩:=hx.get;clear hx))
 go_ret
 exact ⟨rfl,ex⟩
theorem r55_event_Em (x:Evt) (w:World) (ha:AcnAt w x.act) (hk:x.kind=5) (h_d:withinB x.delay 1 8=true) (h_z:x.station=0) (h_m:sameA x.act acnN=false):Calls Tryz.prog 77 #[.agg (evtR x).toArray] w fun e w'=>e = .returned (.int .i64 (evtE x))∧Ext w w':=by
 have HV:=Lib.hid (show evtE x=3 by unfold evtE;have:=withinB_yes h_d;rw [if_neg (by omega),if_neg (by omega),if_neg (fun hc=>by have:=hc.1;omega),if_pos (.inr (.inr ⟨by omega,h_m⟩))])
 have HA:=Lib.hid ha
 have WK:=Lib.hid (show withinB x.kind 0 5=true from decide_eq_true (by omega))
 have hk1:decide (x.kind≤2)=false:=decide_eq_false (by omega)
 have hk2:(x.kind == 0)=false:=by simp;omega
 have hk4:(x.kind != 0)=true:=by simp;omega
 have hk3:(x.kind == 5)=true:=by simp;omega
 have WD:=Lib.hid (show withinB x.delay 1 8=true from h_d)
 have z_h_z:(x.station != 0)=false:=by simpa using h_z
 have HM:sameA x.act acnN=false:=h_m
 clear ha hk h_d h_z h_m
 rw [HV.out]
 clear HV
 go_enter Tryz.func77,Tryz.ntmps77
 go_wp2_with (first
  | (go_at_call 61;refine (r55_in _ _ _ _).mono ?_;rintro e w' ⟨he,rfl⟩;simp only [WK.out] at he;subst he)
  | (go_at_call 113;refine (r33_Check x.act _ (HA.out.mono (ex))).mono ?_;rintro e w' ⟨rfl,hx⟩;obtain ⟨y,rfl⟩:=hx.get;clear hx)
  | (refine wpList_built rfl 87 _ rfl [] rfl (acnR acnN).toArray (by kernel_rfl) ?_)
  | (go_at_call 83;refine (r33_Same x.act acnN _ (HA.out.mono (ex)) (acnN_at _)).mono ?_;rintro e w' ⟨rfl,hx⟩;obtain ⟨y,rfl⟩:=hx.get;clear hx))
 (refine wp_region_grows (by kernel_rfl) (by kernel_rfl) ?_;(repeat (go_big_quiet_step (fail)));refine wpQuiet_nil ?_;rintro _ ⟨y,rfl⟩)
 go_wp2_with (first
  | (go_at_call 61;refine (r55_in _ _ _ _).mono ?_;rintro e w' ⟨he,rfl⟩;simp only [WD.out] at he;subst he)
  | (go_at_call 113;refine (r33_Check x.act _ (HA.out.mono (ex))).mono ?_;rintro e w' ⟨rfl,hx⟩;obtain ⟨y,rfl⟩:=hx.get;clear hx)
  | (refine wpList_built rfl 87 _ rfl [] rfl (acnR acnN).toArray (by kernel_rfl) ?_)
  | (go_at_call 83;refine (r33_Same x.act acnN _ (HA.out.mono (ex)) (acnN_at _)).mono ?_;rintro e w' ⟨rfl,hx⟩;obtain ⟨y,rfl⟩:=hx.get;clear hx))
 go_ret
 exact ⟨rfl,ex⟩
theorem r55_event_Eo (x:Evt) (w:World) (ha:AcnAt w x.act) (hk:x.kind=5) (h_d:withinB x.delay 1 8=true) (h_z:x.station=0) (h_m:sameA x.act acnN=true):Calls Tryz.prog 77 #[.agg (evtR x).toArray] w fun e w'=>e = .returned (.int .i64 (evtE x))∧Ext w w':=by
 have HV:=Lib.hid (show evtE x=0 by unfold evtE;have:=withinB_yes h_d;rw [if_neg (by omega),if_neg (by omega),if_neg (fun hc=>by have:=hc.1;omega),if_neg (by rintro (⟨a,b⟩ | ⟨a,b⟩ | ⟨a,b⟩) <;> first | omega | (rw [h_m] at b;cases b))])
 have HA:=Lib.hid ha
 have WK:=Lib.hid (show withinB x.kind 0 5=true from decide_eq_true (by omega))
 have hk1:decide (x.kind≤2)=false:=decide_eq_false (by omega)
 have hk2:(x.kind == 0)=false:=by simp;omega
 have hk4:(x.kind != 0)=true:=by simp;omega
 have hk3:(x.kind == 5)=true:=by simp;omega
 have WD:=Lib.hid (show withinB x.delay 1 8=true from h_d)
 have z_h_z:(x.station != 0)=false:=by simpa using h_z
 have HM:sameA x.act acnN=true:=h_m
 clear ha hk h_d h_z h_m
 rw [HV.out]
 clear HV
 go_enter Tryz.func77,Tryz.ntmps77
 go_wp2_with (first
  | (go_at_call 61;refine (r55_in _ _ _ _).mono ?_;rintro e w' ⟨he,rfl⟩;simp only [WK.out] at he;subst he)
  | (go_at_call 113;refine (r33_Check x.act _ (HA.out.mono (ex))).mono ?_;rintro e w' ⟨rfl,hx⟩;obtain ⟨y,rfl⟩:=hx.get;clear hx)
  | (refine wpList_built rfl 87 _ rfl [] rfl (acnR acnN).toArray (by kernel_rfl) ?_)
  | (go_at_call 83;refine (r33_Same x.act acnN _ (HA.out.mono (ex)) (acnN_at _)).mono ?_;rintro e w' ⟨rfl,hx⟩;obtain ⟨y,rfl⟩:=hx.get;clear hx))
 (refine wp_region_grows (by kernel_rfl) (by kernel_rfl) ?_;(repeat (go_big_quiet_step (fail)));refine wpQuiet_nil ?_;rintro _ ⟨y,rfl⟩)
 go_wp2_with (first
  | (go_at_call 61;refine (r55_in _ _ _ _).mono ?_;rintro e w' ⟨he,rfl⟩;simp only [WD.out] at he;subst he)
  | (go_at_call 113;refine (r33_Check x.act _ (HA.out.mono (ex))).mono ?_;rintro e w' ⟨rfl,hx⟩;obtain ⟨y,rfl⟩:=hx.get;clear hx)
  | (refine wpList_built rfl 87 _ rfl [] rfl (acnR acnN).toArray (by kernel_rfl) ?_)
  | (go_at_call 83;refine (r33_Same x.act acnN _ (HA.out.mono (ex)) (acnN_at _)).mono ?_;rintro e w' ⟨rfl,hx⟩;obtain ⟨y,rfl⟩:=hx.get;clear hx))
 go_ret
 exact ⟨rfl,ex⟩
theorem r55_event (x:Evt) (w:World) (ha:AcnAt w x.act):Calls Tryz.prog 77 #[.agg (evtR x).toArray] w fun e w'=>e = .returned (.int .i64 (evtE x))∧Ext w w':=by
 cases h:withinB x.kind 0 5 with
 | false=>exact r55_event_k x w ha h
 | true =>
  have hw:=withinB_yes h
  have hc:x.kind=0 ∨ (x.kind=1 ∨ x.kind=2) ∨ (x.kind=3 ∨ x.kind=4) ∨ x.kind=5:=by omega
  rcases hc with hk | hk | hk | hk
  ·cases h_s:withinB x.station 1 2 with
   | false=>exact r55_event_As x w ha hk h_s
   | true =>
    by_cases h_a:acnE x.act=0
    ·by_cases h_y:x.delay=0
     ·exact r55_event_Ao x w ha hk h_s h_a h_y
     ·exact r55_event_Ay x w ha hk h_s h_a h_y
    ·exact r55_event_Aa x w ha hk h_s h_a
  ·cases h_s:withinB x.station 1 2 with
   | false=>exact r55_event_Bs x w ha hk h_s
   | true =>
    by_cases h_y:x.delay=0
    ·cases h_m:sameA x.act acnN with
     | false=>exact r55_event_Bm x w ha hk h_s h_y h_m
     | true=>exact r55_event_Bo x w ha hk h_s h_y h_m
    ·exact r55_event_By x w ha hk h_s h_y
  ·by_cases h_z:x.station=0
   ·by_cases h_y:x.delay=0
    ·cases h_m:sameA x.act acnN with
     | false=>exact r55_event_Cm x w ha hk h_z h_y h_m
     | true=>exact r55_event_Co x w ha hk h_z h_y h_m
    ·exact r55_event_Cy x w ha hk h_z h_y
   ·exact r55_event_Cz x w ha hk h_z
  ·cases h_d:withinB x.delay 1 8 with
   | false=>exact r55_event_Ed x w ha hk h_d
   | true =>
    by_cases h_z:x.station=0
    ·cases h_m:sameA x.act acnN with
     | false=>exact r55_event_Em x w ha hk h_d h_z h_m
     | true=>exact r55_event_Eo x w ha hk h_d h_z h_m
    ·exact r55_event_Ez x w ha hk h_d h_z
end Go.Proofs.YtmhinhgflehkaaaGreat

namespace Go.Proofs.YtmhinhgflehkaaaGreat
open Go.RowKit

def buildV (ps:Array (Nat × Value)):Sem Value:=Instr.buildSlice 58 1 ps
@[go_sem ↓ high] theorem buildV_at (ps:Array (Nat × Value)):Instr.buildSlice 58 1 ps=buildV ps:=rfl
@[go_sem] theorem buildV_run (w:World) (x:Evt):(buildV #[(0,.agg (evtR x).toArray)]).run Tryz.prog w = .ok (.slice (some ⟨w.heap.size,0,none⟩) 1 1) (w.alloc (.cells (evtR x).toArray 162)) :=
 run_buildOne w _ _ (evtR x).toArray 48 Tryz.underlying58 (by kernel_rfl) (by kernel_rfl) (by rw [List.size_toArray];rfl) (by decide) (by decide)
theorem info_V:infoOk Tryz.prog 162 48 576=true:=by kernel_rfl
def RetV (w0:World) (l:List Evt) (e:Ending) (w':World):Prop:=∃ A k,e = .returned (.slice A l.length k)∧Ext w0 w'∧Own w0 w' 162 48 A l.length k (l.map evtR)
theorem take_snocE {l:List Evt} {k:Nat} {m:Evt} (h:l[k]? = some m):(l.take k).map evtR ++ [evtR m]=(l.take (k+1)).map evtR:=by
 obtain ⟨h1,h2⟩:=List.getElem?_eq_some_iff.1 h
 rw [List.take_succ_eq_append_getElem h1,h2,List.map_append];rfl
theorem l55_told (A:Option Addr) (c:Nat) (l:List Evt) (w:World) (hs:EvtsAt w A c l) (hn:l.length * 576≤140737488355328):Calls Tryz.prog 26 #[.slice A l.length c] w (RetV w l):=by
 have HS:=Lib.hid hs
 clear hs
 go_enter Tryz.func26,Tryz.ntmps26
 go_wp2
 go_loopw [3,8] (fun v i wr=>∃ (k:Nat) (D:Option Addr) (K:Nat),k≤l.length∧i = .int .i64 k∧v = .slice D k K∧Ext w wr∧Hid (Own w wr 162 48 D k K ((l.take k).map evtR))) (fun _ i _=>l.length - (intOf i).toNat)
 case atStart=>exact ⟨0,none,0,by omega,rfl,rfl,Ext.refl _,Lib.hid (Own.nil _)⟩
 case round =>
  obtain ⟨k,D,K,hk,rfl,rfl,hx,HO⟩:=hrel
  obtain ⟨y0,rfl⟩:=hx.get
  clear hx
  by_cases hlt:k < l.length
  ·obtain ⟨m,hm⟩:∃ m,l[k]? = some m:=⟨_,List.getElem?_eq_getElem hlt⟩
   obtain ⟨b,o,rfl,hrec,-⟩:=HS.out.get hm
   have hb0:(0:Int)≤(k:Int):=by omega
   have hb1:(k:Int) < (l.length:Int):=by omega
   have hr1:=hrec.row
   have HT:=Lib.hid (take_snocE hm)
   clear hrec hm
   go_wp2_with (first
    | (refine wpList_store_top rfl 89 (.tmp 5) (.tmp 11) rfl rfl (by simp [go_sem]) (evtR m) rfl rfl (by kernel_rfl) (evtR_one m) ?_)
    | (at_builtin;refine wpList_append_mine (w0:=w) rfl _ _ 58 58 rfl 162 162 48 576 Tryz.underlying58 Tryz.underlying58 info_V (by decide) (ex) D k K ((l.take k).map evtR) rfl (HO.out.mono (ex)) _ 1 1 [evtR m] rfl (Sl.alloc' (by simp [go_sem]) (by simp) (by simp [evtR_len])) rfl (evtR_ones [m]) (by unfold maxLen;omega) (by omega) (k+1) rfl ((l.take (k+1)).map evtR) HT.out ?_;intro D2 K2 w2 hx2 hown hg hA;have HO2:=Lib.hid hown;obtain ⟨y2,rfl⟩:=hx2.get;clear hown hx2 hg hA))
   go_light
   exact ⟨⟨k+1,D2,K2,by omega,by go_num,rfl,ex,HO2⟩,by simp [intOf];omega⟩
  ·have hkl:k=l.length:=by omega
   have HL:=Lib.hid (show l.take k=l by rw [hkl,List.take_length])
   have HK:=Lib.hid hkl
   clear hkl
   go_wp2
   go_ret
   have:=HO.out
   rw [HL.out] at this
   rw [HK.out] at this ⊢
   exact ⟨D,K,rfl,ex,this⟩
theorem RetV.evts {w0 w':World} {l:List Evt} {A:Option Addr} {k:Nat} (h:Own w0 w' 162 48 A l.length k (l.map evtR)) (he:∀ x ∈ l,AcnAt w' x.act):EvtsAt w' A k l:=⟨h.sl,h.le,h.cap,he⟩
def FewV (w0:World) (l:List Evt) (e:Ending) (w':World):Prop:=(∃ b:Bool,e = .returned (.bool b)∧(b=true→l.length≤20 ∨ 256 < l.length))∧Ext w0 w'
theorem r55_FewEvents (A:Option Addr) (c:Nat) (l:List Evt) (w:World) (hs:EvtsAt w A c l):Calls Tryz.prog 59 #[.slice A l.length c] w (FewV w l):=by
 have hl:=hs.len
 have HS:=Lib.hid hs
 clear hs
 by_cases h20:20 < l.length
 ·by_cases h256:256 < l.length
  ·go_enter Tryz.func59,Tryz.ntmps59
   go_wp2
   go_ret
   exact ⟨⟨_,rfl,fun _ => .inr h256⟩,ex⟩
  ·go_enter Tryz.func59,Tryz.ntmps59
   go_wp2
   go_ret
   exact ⟨⟨false,rfl,fun h=>by cases h⟩,ex⟩
 ·have HB:=Lib.hid (show l.length≤20 by omega)
  go_enter Tryz.func59,Tryz.ntmps59
  go_wp2
  go_loopw [3] (fun i wr=>∃ k:Nat,k≤l.length∧i = .int .i64 k∧Ext w wr) (fun i _=>l.length - (intOf i).toNat)
  case atStart=>exact ⟨0,by omega,rfl,Ext.refl _⟩
  case round =>
   obtain ⟨k,hk,rfl,hx⟩:=hrel
   obtain ⟨y0,rfl⟩:=hx.get
   clear hx
   by_cases hlt:k < l.length
   ·obtain ⟨m,hm⟩:∃ m,l[k]? = some m:=⟨_,List.getElem?_eq_getElem hlt⟩
    obtain ⟨b,o,rfl,hrec,-⟩:=HS.out.get hm
    have hb0:(0:Int)≤(k:Int):=by omega
    have hb1:(k:Int) < (l.length:Int):=by omega
    have hr1:=hrec.act
    clear hrec hm
    go_wp2_with (go_at_call 108;refine (r33_Few m.act _).mono ?_;rintro e w' ⟨⟨fb,rfl⟩,hx⟩;obtain ⟨y2,rfl⟩:=hx.get;clear hx;cases fb)
    ·go_ret
     exact ⟨⟨false,rfl,fun h=>by cases h⟩,ex⟩
    ·go_light
     exact ⟨⟨k+1,by omega,by go_num,ex⟩,by simp [intOf];omega⟩
   ·go_wp2
    go_ret
    exact ⟨⟨true,rfl,fun _ => .inl HB.out⟩,ex⟩
theorem r55_Right_go (A:Option Addr) (c:Nat) (l:List Evt) (w:World) (hs:EvtsAt w A c l) (h256:l.length≤256):Calls Tryz.prog 25 #[.slice A l.length c] w fun e w'=>e = .returned (.int .i64 (evtsE l))∧Ext w w':=by
 have HS:=Lib.hid hs
 have HV:=Lib.hid (show evtsE l=scan evtS none l by unfold evtsE;rw [if_neg (by omega)])
 rw [HV.out]
 clear hs HV
 have hd0:decide ((256:Int) < (l.length:Int))=false:=decide_eq_false (by omega)
 go_enter Tryz.func25,Tryz.ntmps25
 go_wp2
 go_loopw [3] (fun i wr=>∃ k:Nat,k≤l.length∧i = .int .i64 k∧Ext w wr∧Hid (scan evtS none l=scan evtS (prv l k) (l.drop k))) (fun i _=>l.length - (intOf i).toNat)
 case atStart=>exact ⟨0,by omega,rfl,Ext.refl _,Lib.hid rfl⟩
 case round =>
  obtain ⟨k,hk,rfl,hx,HE⟩:=hrel
  obtain ⟨y0,rfl⟩:=hx.get
  clear hx
  by_cases hlt:k < l.length
  ·obtain ⟨x,hx⟩:∃ x,l[k]? = some x:=⟨_,List.getElem?_eq_getElem hlt⟩
   have HE2:=Lib.hid (HE.out.trans (scan_at evtS l k x hx))
   obtain ⟨b',o',hA,hat,hac⟩:=HS.out.get hx
   have HAC:=Lib.hid hac
   subst hA
   have hr:=hat.row
   have hti:=hat.tick
   have hb0:(0:Int)≤(k:Int):=by omega
   have hb2:(k:Int) < (l.length:Int):=by omega
   clear HE hat hac
   by_cases ht:withinB x.tick 0 1048576=true
   rotate_left
   ·have WT:=Lib.hid (show withinB x.tick 0 1048576=false by simpa using ht)
    have HW:=Lib.hid (show scan evtS none l=2 by
     have:evtS (prv l k) x=2:=by unfold evtS;rw [if_pos (by have:=withinB_no WT.out;omega)]
     rw [HE2.out,this,if_pos (by decide)])
    clear ht hx
    go_wp2_with (go_at_call 61;refine (r55_in _ _ _ _).mono ?_;rintro e w' ⟨he,rfl⟩;simp only [WT.out] at he;subst he)
    go_ret
    exact ⟨ret_i HW.out.symm,ex⟩
   have hti2:=withinB_yes ht
   have WT:=Lib.hid ht
   clear ht
   have key:∀ v:Int,evtS (prv l k) x=v→(v=0→scan evtS none l=scan evtS (prv l (k+1)) (l.drop (k+1)))∧(v ≠ 0→scan evtS none l=v):=fun v hv=>by
    rw [hv] at HE2
    exact ⟨fun h=>by rw [HE2.out,if_neg (by simpa using h)],fun h=>by rw [HE2.out,if_pos h]⟩
   have HEV:(k=0∧evtS (prv l k) x=evtE x) ∨ ∃ j p,k=j+1∧l[j]? = some p∧evtS (prv l k) x=if x.tick < p.tick then 9 else evtE x:=by
    cases k with
    | zero=>exact .inl ⟨rfl,by unfold evtS;rw [if_neg (by omega)];rfl⟩
    | succ j =>
     obtain ⟨p,hp⟩:∃ p,l[j]? = some p:=⟨_,List.getElem?_eq_getElem (by omega)⟩
     exact .inr ⟨j,p,rfl,hp,by unfold evtS;rw [if_neg (by omega),prv_succ,hp]⟩
   rcases HEV with ⟨hk0,hev⟩ | ⟨j,p,rfl,hp,hev⟩
   ·have hpos:decide ((0:Int) < (k:Int))=false:=decide_eq_false (by omega)
    have hpos2:decide (0 < k)=false:=decide_eq_false (by omega)
    clear hx hk0
    by_cases he:evtE x=0
    ·have hz:(evtE x != 0)=false:=by simpa using he
     have HF:=Lib.hid ((key _ hev).1 he)
     clear he hev key
     go_wp2_with (go_at_call 61;refine (r55_in _ _ _ _).mono ?_;rintro e w' ⟨he,rfl⟩;simp only [WT.out] at he;subst he)
     (refine wp_region_grows (by kernel_rfl) (by kernel_rfl) ?_;(repeat (go_big_quiet_step (fail)));refine wpQuiet_nil ?_;rintro _ ⟨y,rfl⟩)
     go_wp2_with (go_at_call 77;refine (r55_event x _ (HAC.out.mono (ex))).mono ?_;rintro e w' ⟨rfl,hx⟩;obtain ⟨y,rfl⟩:=hx.get;clear hx)
     go_light
     exact ⟨⟨k+1,by omega,by go_num,ex,HF⟩,by simp [intOf];omega⟩
    ·have hz:(evtE x != 0)=true:=by simpa using he
     have HW:=Lib.hid ((key _ hev).2 he)
     clear he hev key
     go_wp2_with (go_at_call 61;refine (r55_in _ _ _ _).mono ?_;rintro e w' ⟨he,rfl⟩;simp only [WT.out] at he;subst he)
     (refine wp_region_grows (by kernel_rfl) (by kernel_rfl) ?_;(repeat (go_big_quiet_step (fail)));refine wpQuiet_nil ?_;rintro _ ⟨y,rfl⟩)
     go_wp2_with (go_at_call 77;refine (r55_event x _ (HAC.out.mono (ex))).mono ?_;rintro e w' ⟨rfl,hx⟩;obtain ⟨y,rfl⟩:=hx.get;clear hx)
     go_ret
     exact ⟨ret_i HW.out.symm,ex⟩
   ·obtain ⟨b2,o2,hA2,hat2,-⟩:=HS.out.get hp
    injection hA2 with hA2
    injection hA2 with hA2 hA3
    subst hA2 hA3
    have htp:=hat2.tick
    have hw1:IntKind.i64.wrap (((j+1:Nat):Int) - 1)=(j:Int):=by rw [IntWalk.i64_in _ (by omega)];omega
    have hj0:(0:Int)≤(j:Int):=by omega
    have hj1:(j:Int) < (l.length:Int):=by omega
    have hpos:decide ((0:Int) < ((j+1:Nat):Int))=true:=decide_eq_true (by omega)
    have hjj:((j+1:Nat):Int) - 1=(j:Int):=by omega
    clear hat2 hp hx
    by_cases hlt2:x.tick < p.tick
    ·rw [if_pos hlt2] at hev
     have HW:=Lib.hid ((key _ hev).2 (by decide))
     have hdd:decide (x.tick < p.tick)=true:=decide_eq_true hlt2
     clear hev key
     go_wp2_with (go_at_call 61;refine (r55_in _ _ _ _).mono ?_;rintro e w' ⟨he,rfl⟩;simp only [WT.out] at he;subst he)
     (refine wp_region_grows (by kernel_rfl) (by kernel_rfl) ?_;(repeat (go_big_quiet_step (fail)));refine wpQuiet_nil ?_;rintro _ ⟨y,rfl⟩)
     go_wp2
     go_ret
     exact ⟨ret_i HW.out.symm,ex⟩
    ·rw [if_neg hlt2] at hev
     have hdd:decide (x.tick < p.tick)=false:=decide_eq_false hlt2
     by_cases he:evtE x=0
     ·have hz:(evtE x != 0)=false:=by simpa using he
      have HF:=Lib.hid ((key _ hev).1 he)
      clear he hev key
      go_wp2_with (go_at_call 61;refine (r55_in _ _ _ _).mono ?_;rintro e w' ⟨he,rfl⟩;simp only [WT.out] at he;subst he)
      (refine wp_region_grows (by kernel_rfl) (by kernel_rfl) ?_;(repeat (go_big_quiet_step (fail)));refine wpQuiet_nil ?_;rintro _ ⟨y,rfl⟩)
      go_wp2_with (go_at_call 77;refine (r55_event x _ (HAC.out.mono (ex))).mono ?_;rintro e w' ⟨rfl,hx⟩;obtain ⟨y,rfl⟩:=hx.get;clear hx)
      go_light
      exact ⟨⟨j+1+1,by omega,by go_num,ex,HF⟩,by simp [intOf];omega⟩
     ·have hz:(evtE x != 0)=true:=by simpa using he
      have HW:=Lib.hid ((key _ hev).2 he)
      clear he hev key
      go_wp2_with (go_at_call 61;refine (r55_in _ _ _ _).mono ?_;rintro e w' ⟨he,rfl⟩;simp only [WT.out] at he;subst he)
      (refine wp_region_grows (by kernel_rfl) (by kernel_rfl) ?_;(repeat (go_big_quiet_step (fail)));refine wpQuiet_nil ?_;rintro _ ⟨y,rfl⟩)
      go_wp2_with (go_at_call 77;refine (r55_event x _ (HAC.out.mono (ex))).mono ?_;rintro e w' ⟨rfl,hx⟩;obtain ⟨y,rfl⟩:=hx.get;clear hx)
      go_ret
      exact ⟨ret_i HW.out.symm,ex⟩
  ·have HV:=Lib.hid (HE.out.trans (scan_end evtS l k _ (by omega)))
   have hd1:decide ((k:Int) < (l.length:Int))=false:=decide_eq_false (by omega)
   go_wp2
   go_ret
   exact ⟨ret_i HV.out.symm,ex⟩
theorem r55_Right (A:Option Addr) (c:Nat) (l:List Evt) (w:World) (hs:EvtsAt w A c l):Calls Tryz.prog 25 #[.slice A l.length c] w fun e w'=>e = .returned (.int .i64 (evtsE l))∧Ext w w':=by
 by_cases h:l.length≤256
 ·exact r55_Right_go A c l w hs h
 ·have hl:=hs.len
  have HV:=Lib.hid (show evtsE l=5 by unfold evtsE;rw [if_pos (by omega)])
  rw [HV.out]
  have hd0:decide ((256:Int) < (l.length:Int))=true:=decide_eq_true (by omega)
  clear hs HV
  go_enter Tryz.func25,Tryz.ntmps25
  go_wp2
  go_ret
  exact ⟨rfl,ex⟩
def RightV (w0:World) (l:List Evt) (e:Ending) (w':World):Prop:=(∃ b:Bool,e = .returned (.bool b)∧(b=true→l.length≤20∧evtsE l=0))∧Ext w0 w'
theorem l55_right (A:Option Addr) (c:Nat) (l:List Evt) (w:World) (hs:EvtsAt w A c l) (hn:l.length * 576≤140737488355328):Calls Tryz.prog 43 #[.slice A l.length c] w (RightV w l):=by
 have HS:=Lib.hid hs
 clear hs
 go_enter Tryz.func43,Tryz.ntmps43
 go_wp2_with fail
 go_at_call 26;refine (l55_told A c l _ (HS.out.mono (ex)) hn).mono ?_;rintro e w' ⟨B,k,rfl,hx,ho⟩;have HO:=Lib.hid (RetV.evts ho (fun x h=>(HS.out.el x h).mono ((show Ext w _ from ex).trans hx)));obtain ⟨y1,rfl⟩:=hx.get;clear hx ho
 go_wp2_with fail
 go_at_call 59;refine (r55_FewEvents B k l _ (HO.out.mono (ex))).mono ?_;rintro e w' ⟨⟨b,rfl,hb⟩,hx⟩;have HB:=Lib.hid hb;obtain ⟨y2,rfl⟩:=hx.get;clear hx hb
 cases b with
 | false =>
  go_wp2
  go_ret
  exact ⟨⟨false,rfl,fun h=>by cases h⟩,ex⟩
 | true =>
  go_wp2_with fail
  go_at_call 26;refine (l55_told A c l _ (HS.out.mono (ex)) hn).mono ?_;rintro e w' ⟨B2,k2,rfl,hx,ho⟩;have HO2:=Lib.hid (RetV.evts ho (fun x h=>(HS.out.el x h).mono ((show Ext w _ from ex).trans hx)));obtain ⟨y3,rfl⟩:=hx.get;clear hx ho
  go_wp2_with fail
  go_at_call 25;refine (r55_Right B2 k2 l _ (HO2.out.mono (ex))).mono ?_;rintro e w' ⟨rfl,hx⟩;obtain ⟨y4,rfl⟩:=hx.get;clear hx
  by_cases hz:evtsE l=0
  ·have hz2:(evtsE l == 0)=true:=by simpa using hz
   have HZ:=Lib.hid hz
   clear hz
   go_wp2
   go_ret
   refine ⟨⟨true,rfl,fun _=>⟨?_,HZ.out⟩⟩,ex⟩
   rcases (by first | exact HB.out rfl | exact HB.out trivial:l.length≤20 ∨ 256 < l.length) with h | h
   ·exact h
   ·have h1:=HZ.out
    unfold evtsE at h1
    rw [if_pos h] at h1
    cases h1
  ·have hz2:(evtsE l == 0)=false:=by simpa using hz
   clear hz
   go_wp2
   go_ret
   exact ⟨⟨false,rfl,fun h=>by cases h⟩,ex⟩
end Go.Proofs.YtmhinhgflehkaaaGreat
