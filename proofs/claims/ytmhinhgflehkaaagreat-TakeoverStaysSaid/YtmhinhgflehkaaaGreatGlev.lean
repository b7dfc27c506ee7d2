/-
 Lists of entries: the program's check and the reference's.
-/
import Derived.Test.YtmhinhgflehkaaaGreatGcue
import Derived.Test.YtmhinhgflehkaaaGreatPure
import Derived.Test.YtmhinhgflehkaaaGreatGacn
import Derived.Test.YtmhinhgflehkaaaGreatStr
namespace Go.Proofs.YtmhinhgflehkaaaGreat
open Go.RowKit

def entryE1 (e : Entry) : Int := if paramE e.p ≠ 0 then paramE e.p else valueE e.v
def entryE (q : Option Entry) (e : Entry) : Int := if entryE1 e ≠ 0 then entryE1 e else match q with | some n => if before n.p e.p then 0 else 9 | none => 0
def entriesE (l : List Entry) : Int := if 4096 < l.length then 5 else scan entryE none l
set_option maxHeartbeats 400000 in
theorem pal_param1 (p : Param) (w : World) : Calls Tryz.prog 244 #[.agg (prm p).toArray, .int .i64 1] w fun e w' => e = .returned (.int .i64 (paramE p)) ∧ Ext w w' := by
 simp only [prm]
 go_enter Tryz.func244, Tryz.ntmps244
 go_wp2
 all_goals
  go_ret
  go_light
  refine ⟨ret_i ?_, ex⟩
  grind [paramE]
set_option maxHeartbeats 400000 in
theorem pal_compare (p q : Param) (w : World) (hp : paramE p = 0) (hq : paramE q = 0) : Calls Tryz.prog 248 #[.agg (prm p).toArray, .agg (prm q).toArray] w fun e w' => e = .returned (.int .i64 (cmpP p q)) ∧ Ext w w' := by
 obtain ⟨h1, h2, h3, h4⟩ := paramE_ok hp
 obtain ⟨h5, h6, h7, h8⟩ := paramE_ok hq
 clear hp hq
 simp only [prm]
 go_enter Tryz.func248, Tryz.ntmps248
 go_wp2
 all_goals
  go_ret
  go_light
  refine ⟨ret_i ?_, ex⟩
  grind [cmpP]
set_option maxHeartbeats 400000 in
theorem pal_Entries1 (x : Entry) (w : World) : Calls Tryz.prog 243 #[.agg (en x).toArray] w fun e w' => e = .returned (.int .i64 (entryE1 x)) ∧ Ext w w' := by
 simp only [en]
 go_enter Tryz.func243, Tryz.ntmps243
 go_wp2_with (first | (go_at_call 244; refine (pal_param1 x.p _).mono ?_; rintro e w' ⟨rfl, hx⟩; obtain ⟨y, rfl⟩ := hx.get; clear hx) | (go_at_call 245; refine (pal_Value x.v _).mono ?_; rintro e w' ⟨rfl, hx⟩; obtain ⟨y, rfl⟩ := hx.get; clear hx))
 all_goals
  go_ret
  go_light
  refine ⟨ret_i ?_, ex⟩
  grind [entryE1]
set_option maxHeartbeats 400000 in
theorem pal_Entries2 (x z : Entry) (w : World) (hp : paramE x.p = 0) (hq : paramE z.p = 0) : Calls Tryz.prog 247 #[.agg (en x).toArray, .agg (en z).toArray] w fun e w' => e = .returned (.int .i64 (cmpP x.p z.p)) ∧ Ext w w' := by
 have HP := Lib.hid hp
 have HQ := Lib.hid hq
 clear hp hq
 simp only [en]
 go_enter Tryz.func247, Tryz.ntmps247
 go_wp2_with (go_at_call 248; refine (pal_compare x.p z.p _ HP.out HQ.out).mono ?_; rintro e w' ⟨rfl, hx⟩; obtain ⟨y, rfl⟩ := hx.get; clear hx)
 go_ret
 exact ⟨rfl, ex⟩

set_option maxHeartbeats 1600000 in
set_option maxRecDepth 100000 in
theorem pal_list (A : Option Addr) (c : Nat) (l : List Entry) (w : World) (hs : Sl w A 4 (l.map en)) (hl : l.length ≤ maxLen) :
  Calls Tryz.prog 246 #[.slice A l.length c, .int .i64 4096, .func (Fn.func 243) #[] #[], .func (Fn.func 247) #[] #[]] w fun e w' => e = .returned (.int .i64 (entriesE l)) ∧ Ext w w' := by
 unfold maxLen at hl
 by_cases h128 : 4096 < l.length
 ·go_enter Tryz.func246, Tryz.ntmps246
  go_wp2
  go_ret
  exact ⟨ret_i (by simp [entriesE, h128]), Ext.refl _⟩
 have h0 : (0 : Int) ≤ l.length := by omega
 have HM : Hid (entriesE l = scan entryE none l) := Lib.hid (by unfold entriesE; rw [if_neg h128])
 go_enter Tryz.func246, Tryz.ntmps246
 go_wp2
 go_loopw [18] (fun i wr => ∃ k : Nat, k ≤ l.length ∧ i = .int .i64 k ∧ Ext w wr ∧ Hid (entriesE l = scan entryE (prv l k) (l.drop k)) ∧ Hid (∀ m', prv l k = some m' → paramE m'.p = 0)) (fun i _ => l.length - (intOf i).toNat)
 case atStart => exact ⟨0, by omega, rfl, Ext.refl _, HM, Lib.hid (by intro m' h; simp [prv] at h)⟩
 case round =>
  obtain ⟨k, hk, rfl, hx, HE, HQ⟩ := hrel
  obtain ⟨y, rfl⟩ := hx.get
  clear hx HM
  by_cases hlt : k < l.length
  ·obtain ⟨m, hm⟩ : ∃ m, l[k]? = some m := ⟨_, List.getElem?_eq_getElem hlt⟩
   have HMM := Lib.hid hm
   obtain ⟨b, o, rfl, hc0, hc1, hc2, hc3⟩ := hs.row4 (i := k) (by rw [List.getElem?_map, hm]; rfl)
   have HS := Lib.hid (HE.out.trans (scan_at entryE l k m hm))
   have hb0 : (0 : Int) ≤ (k : Int) := by omega
   have hb1 : (k : Int) < (l.length : Int) := by omega
   clear HE
   by_cases he : entryE1 m = 0
   ·have HI := Lib.hid (show paramE m.p = 0 by unfold entryE1 at he; by_cases h : paramE m.p = 0; exact h; simp [h] at he)
    have he' : (entryE1 m != 0) = false := by simpa using he
    have HE1 := Lib.hid he
    clear he
    by_cases hk0 : 0 < k
    ·obtain ⟨m', hm'⟩ : ∃ m', l[k - 1]? = some m' := ⟨_, List.getElem?_eq_getElem (by omega)⟩
     obtain ⟨b', o', he, hp0, hp1, hp2, hp3⟩ := hs.row4 (i := k - 1) (by rw [List.getElem?_map, hm']; rfl)
     injection he with he
     injection he with hb ho
     subst hb ho
     have hP : prv l k = some m' := by unfold prv; rw [if_neg (by omega), hm']
     have HP := Lib.hid hP
     have HQ' := Lib.hid (HQ.out m' hP)
     have HB := Lib.hid (cmpP_before m'.p m.p)
     clear hm hm' hs hP HQ
     go_wp2_with (go_at_call 243; refine (pal_Entries1 m _).mono ?_; rintro e w' ⟨rfl, hx⟩; obtain ⟨y, rfl⟩ := hx.get; clear hx)
     (refine wp_region_grows (by kernel_rfl) (by kernel_rfl) ?_; (repeat (go_big_quiet_step ((go_at_call 247; exact Calls.grows (pal_Entries2 m' m _ HQ'.out HI.out))))); refine wpQuiet_nil ?_; rintro _ ⟨y, rfl⟩)
     go_wp2
     ·go_ret
      go_light
      refine ⟨ret_i ?_, ex⟩
      have hS := HS.out
      have hB := HB.out
      have h1 := HE1.out
      rw [HP.out] at hS
      grind [entryE]
     ·go_light
      have hS := HS.out
      have hB := HB.out
      have h1 := HE1.out
      refine ⟨⟨k + 1, by omega, by go_num, ex, Lib.hid ?_, Lib.hid ?_⟩, by simp [intOf]; omega⟩
      ·rw [HP.out] at hS
       grind [entryE]
      ·intro n hn
       rw [prv_succ, HMM.out] at hn
       injection hn with hn
       subst hn
       exact HI.out
    ·have HP : Hid (prv l k = none) := Lib.hid (by unfold prv; rw [if_pos (by omega)])
     obtain rfl : k = 0 := by omega
     simp only [Nat.zero_mul, Nat.add_zero] at hc0 hc1 hc2 hc3
     clear hm hs hk0 HQ
     go_wp2_with (go_at_call 243; refine (pal_Entries1 m _).mono ?_; rintro e w' ⟨rfl, hx⟩; obtain ⟨y, rfl⟩ := hx.get; clear hx)
     (refine wp_region_grows (by kernel_rfl) (by kernel_rfl) ?_; (repeat (go_big_quiet_step (fail))); refine wpQuiet_nil ?_; rintro _ ⟨y, rfl⟩)
     go_wp2
     go_light
     have hS := HS.out
     have h1 := HE1.out
     refine ⟨⟨1, by omega, by rfl, ex, Lib.hid ?_, Lib.hid ?_⟩, by simp [intOf]; omega⟩
     ·rw [HP.out] at hS
      grind [entryE]
     ·intro n hn
      rw [prv_succ, HMM.out] at hn
      injection hn with hn
      subst hn
      exact HI.out
   ·have he' : (entryE1 m != 0) = true := by simpa using he
    have HE1 := Lib.hid he
    clear he hm hs
    go_wp2_with (go_at_call 243; refine (pal_Entries1 m _).mono ?_; rintro e w' ⟨rfl, hx⟩; obtain ⟨y, rfl⟩ := hx.get; clear hx)
    go_ret
    go_light
    refine ⟨ret_i ?_, ex⟩
    have hS := HS.out
    have h1 := HE1.out
    have h2 : entryE (prv l k) m = entryE1 m := by unfold entryE; rw [if_pos h1]
    rw [h2, if_pos h1] at hS
    exact hS.symm
  ·have HS := Lib.hid (HE.out.trans (scan_end entryE l k _ (by omega)))
   go_wp2
   go_ret
   rw [HS.out]
   exact ⟨rfl, ex⟩
theorem pal_Entries (A : Option Addr) (c : Nat) (l : List Entry) (w : World) (hs : Sl w A 4 (l.map en)) (hl : l.length ≤ maxLen) :
  Calls Tryz.prog 223 #[.slice A l.length c] w fun e w' => e = .returned (.int .i64 (entriesE l)) ∧ Ext w w' := by
 go_enter Tryz.func223, Tryz.ntmps223
 go_wp2_with (go_at_call 246; refine (pal_list A c l _ hs hl).mono ?_; rintro e w' ⟨rfl, hx⟩; obtain ⟨y, rfl⟩ := hx.get; clear hx)
 go_ret
 exact ⟨rfl, ex⟩
end Go.Proofs.YtmhinhgflehkaaaGreat

/-
 Actions: how each field is checked, and whether it is zero.
-/
namespace Go.Proofs.YtmhinhgflehkaaaGreat
open Go.RowKit

def inE (n low high : Int) : Int := if n < low ∨ high < n then 2 else 0
def levelsE (k v : Int) : Int := if k = 6 ∨ k = 15 then inE v 1 400 else if k = 11 then inE v 0 1 else inE v 0 65535
def setE (l : List Entry) : Int := if l.length = 0 then 12 else entriesE l
def parE (q : Option Param) (p : Param) : Int := if paramE p ≠ 0 then paramE p else match q with | some n => if before n p then 0 else 9 | none => 0
def parsE (l : List Param) : Int := if 4096 < l.length then 5 else scan parE none l
def chansS : List Int → List Int → Int
 | _, [] => 0
 | pre, c :: r => if inE c 1 999 ≠ 0 then 2 else if c ∈ pre then 7 else chansS (pre ++ [c]) r
def chansE (l : List Int) : Int := if l.length = 0 then 12 else if 256 < l.length then 5 else chansS [] l
def cmpI (a b : Int) : Int := if a < b then -1 else if b < a then 1 else 0
def cmpO (p q : Param) : Int := if cmpI p.ch q.ch ≠ 0 then cmpI p.ch q.ch else cmpI p.attr q.attr
def orI (a b : Int) : Int := if a ≠ 0 then a else b
def idxI (l : List Int) (v : Int) : Int := if v ∈ l then (l.idxOf v : Int) else -1
theorem cmpO_before (p q : Param) : cmpO p q < 0 ↔ before p q = true := by
 unfold cmpO cmpI before
 simp only [decide_eq_true_eq]
 grind

set_option maxHeartbeats 400000 in
set_option maxRecDepth 100000 in
theorem act_in (n low high : Int) (w : World) : Calls Tryz.prog 141 #[.int .i64 n, .int .i64 low, .int .i64 high] w fun e w' => e = .returned (.int .i64 (inE n low high)) ∧ w = w' := by
 go_enter Tryz.func141, Tryz.ntmps141
 go_wp2
 all_goals
  go_ret
  refine ⟨ret_i ?_, rfl⟩
  grind [inE]
set_option maxHeartbeats 400000 in
theorem cmp_Compare (a b : Int) (w : World) : Calls Tryz.prog 250 #[.int .i64 a, .int .i64 b] w fun e w' => e = .returned (.int .i64 (cmpI a b)) ∧ w = w' := by
 have hn : ∀ (x : Int) (w : World), Calls Tryz.prog 269 #[.int .i64 x] w fun e w' => e = .returned (.bool false) ∧ w = w' := fun x w => by
  go_enter Tryz.func269, Tryz.ntmps269
  go_wp2
  go_ret
  exact ⟨rfl, rfl⟩
 have HN := Lib.hid hn
 clear hn
 go_enter Tryz.func250, Tryz.ntmps250
 go_wp2_with (go_at_call 269; refine (HN.out _ _).mono ?_; rintro e w' ⟨rfl, rfl⟩)
 all_goals
  go_ret
  refine ⟨ret_i ?_, rfl⟩
  grind [cmpI]
set_option maxHeartbeats 400000 in
theorem cmp_Or (A : Option Addr) (a b : Int) (w : World) (hs : Sl w A 1 [[.int .i64 a], [.int .i64 b]]) : Calls Tryz.prog 249 #[.slice A 2 2] w fun e w' => e = .returned (.int .i64 (orI a b)) ∧ Ext w w' := by
 obtain ⟨b0, o0, hA0, hc0⟩ := hs.row1 (i := 0) rfl
 obtain ⟨b1, o1, hA1, hc1⟩ := hs.row1 (i := 1) rfl
 subst hA0
 injection hA1 with hA1
 injection hA1 with hb1 ho1
 subst hb1 ho1
 simp only [Nat.add_zero] at hc0
 clear hs
 by_cases ha : a = 0
 ·have hz : (a != 0) = false := by simpa using ha
  have HA := Lib.hid ha
  by_cases hb : b = 0
  ·have hz' : (b != 0) = false := by simpa using hb
   have HB := Lib.hid hb
   clear ha hb
   go_enter Tryz.func249, Tryz.ntmps249
   go_wp2
   refine wp_loop_rounds 3 ?_
   rw [rounds_succ]
   go_wp2
   rw [rounds_succ]
   go_wp2
   rw [rounds_succ]
   go_wp2
   go_ret
   exact ⟨ret_i (by rw [HA.out, HB.out]; rfl), ex⟩
  ·have hz' : (b != 0) = true := by simpa using hb
   clear ha hb
   go_enter Tryz.func249, Tryz.ntmps249
   go_wp2
   refine wp_loop_rounds 3 ?_
   rw [rounds_succ]
   go_wp2
   rw [rounds_succ]
   go_wp2
   go_ret
   exact ⟨ret_i (by rw [HA.out]; rfl), ex⟩
 ·have hz : (a != 0) = true := by simpa using ha
  have HA := Lib.hid ha
  clear ha
  go_enter Tryz.func249, Tryz.ntmps249
  go_wp2
  refine wp_loop_rounds 3 ?_
  rw [rounds_succ]
  go_wp2
  go_ret
  exact ⟨ret_i (by unfold orI; rw [if_pos HA.out]), ex⟩
set_option maxHeartbeats 400000 in
set_option maxRecDepth 100000 in
theorem act_compare (p q : Param) (w : World) : Calls Tryz.prog 224 #[.agg (prm p).toArray, .agg (prm q).toArray] w fun e w' => e = .returned (.int .i64 (cmpO p q)) ∧ Ext w w' := by
 simp only [prm]
 go_enter Tryz.func224, Tryz.ntmps224
 go_wp2
 (refine wp_region_tail 10 (by kernel_rfl) (by kernel_rfl) ?_; simp only [List.take_succ_cons, List.take_zero, List.drop_succ_cons, List.drop_zero]; (repeat (go_big_quiet_step ((go_at_call 250; exact Calls.grows_same (cmp_Compare _ _ _))))); refine wpQuiet_nil ?_; rintro _ ⟨y, rfl⟩)
 go_wp2_with (go_at_call 249; refine (cmp_Or _ _ _ _ (Sl.alloc' (by simp [go_sem]) rfl (by simp))).mono ?_; rintro e w' ⟨rfl, hx⟩; obtain ⟨y, rfl⟩ := hx.get; clear hx)
 go_ret
 exact ⟨rfl, ex⟩

set_option maxHeartbeats 800000 in
theorem Index_I (A : Option Addr) (c : Nat) (l : List Int) (v : Int) (w : World) (hs : Sl w A 1 (l.map intR)) (hl : l.length ≤ maxLen) :
  Calls Tryz.prog 251 #[.slice A l.length c, .int .i64 v] w fun e w' => e = .returned (.int .i64 (idxI l v)) ∧ w = w' := by
 unfold maxLen at hl
 go_enter Tryz.func251, Tryz.ntmps251
 go_wp2
 go_loop [8] (fun i => ∃ k : Nat, k ≤ l.length ∧ i = .int .i64 k ∧ Hid (∀ x ∈ l.take k, x ≠ v)) (fun i => l.length - (intOf i).toNat)
 case atStart => exact ⟨0, by omega, rfl, Lib.hid (by simp)⟩
 case round =>
  obtain ⟨k, hk, rfl, HE⟩ := hrel
  by_cases hlt : k < l.length
  ·obtain ⟨m, hm⟩ : ∃ m, l[k]? = some m := ⟨_, List.getElem?_eq_getElem hlt⟩
   have HM := Lib.hid hm
   obtain ⟨b, o, rfl, hc0⟩ := hs.row1 (i := k) (by rw [List.getElem?_map, hm]; rfl)
   have hb0 : (0 : Int) ≤ (k : Int) := by omega
   have hb1 : (k : Int) < (l.length : Int) := by omega
   clear hm hs
   by_cases he : v = m
   ·have hz : (v == m) = true := by simpa using he
    have HV := Lib.hid (show idxI l v = (k : Int) by
     unfold idxI
     have hx : l[k]? = some v := by rw [he]; exact HM.out
     rw [if_pos (List.mem_of_getElem? hx)]
     have h1 : l.idxOf v = k := by
      have hlk := (List.getElem?_eq_some_iff.1 hx).2
      have h2 : l = l.take k ++ v :: l.drop (k + 1) := by
       conv => lhs; rw [← List.take_append_drop k l]
       rw [List.drop_eq_getElem_cons hlt, hlk]
      rw [h2, List.idxOf_append, if_neg (fun h => HE.out v h rfl)]
      simp; omega
     rw [h1])
    clear he
    go_wp2
    go_ret
    rw [HV.out]
    exact ⟨rfl, rfl⟩
   ·have hz : (v == m) = false := by simpa using he
    have HK := Lib.hid (show ∀ x ∈ l.take (k + 1), x ≠ v by
     intro x hx
     obtain ⟨h1, h2⟩ := List.getElem?_eq_some_iff.1 HM.out
     rw [List.take_succ_eq_append_getElem h1, h2] at hx
     rcases List.mem_append.1 hx with hx | hx
     ·exact HE.out x hx
     ·simp at hx; subst hx; exact fun e => he e.symm)
    clear he
    go_wp2
    go_round
    case rel => exact ⟨k + 1, by omega, by go_num, HK⟩
    case measure => simp [intOf]; omega
  ·have HV := Lib.hid (show idxI l v = -1 by
    unfold idxI
    rw [if_neg (fun h => by
     have := HE.out v (by rw [List.take_of_length_le (by omega)]; exact h)
     exact this rfl)])
   go_wp2
   go_ret
   rw [HV.out]
   exact ⟨rfl, rfl⟩
set_option maxHeartbeats 400000 in
theorem Contains_I (A : Option Addr) (c : Nat) (l : List Int) (v : Int) (w : World) (hs : Sl w A 1 (l.map intR)) (hl : l.length ≤ maxLen) :
  Calls Tryz.prog 225 #[.slice A l.length c, .int .i64 v] w fun e w' => e = .returned (.bool (decide (v ∈ l))) ∧ w = w' := by
 by_cases hv : v ∈ l
 ·have H := Lib.hid (decide_eq_true hv)
  have HI := Lib.hid (show idxI l v = (l.idxOf v : Int) by unfold idxI; rw [if_pos hv])
  clear hv
  have h0 : (0 : Int) ≤ (l.idxOf v : Int) := by omega
  go_enter Tryz.func225, Tryz.ntmps225
  go_wp2_with (go_at_call 251; refine (Index_I A c l v _ hs hl).mono ?_; rintro e w' ⟨he, rfl⟩; rw [HI.out] at he; subst he)
  go_ret
  rw [H.out]
  exact ⟨rfl, rfl⟩
 ·have H := Lib.hid (decide_eq_false hv)
  have HI := Lib.hid (show idxI l v = -1 by unfold idxI; rw [if_neg hv])
  clear hv
  go_enter Tryz.func225, Tryz.ntmps225
  go_wp2_with (go_at_call 251; refine (Index_I A c l v _ hs hl).mono ?_; rintro e w' ⟨he, rfl⟩; rw [HI.out] at he; subst he)
  go_ret
  rw [H.out]
  exact ⟨rfl, rfl⟩

/-! ### The fields -/
set_option maxHeartbeats 400000 in
set_option maxRecDepth 100000 in
theorem act_levels (a : Acn) (w : World) : Calls Tryz.prog 183 #[.agg (acnR a).toArray] w fun e w' => e = .returned (.int .i64 (levelsE a.kind a.level)) ∧ Ext w w' := by
 go_enter Tryz.func183, Tryz.ntmps183
 go_wp2_with (go_at_call 141; refine (act_in _ _ _ _).mono ?_; rintro e w' ⟨rfl, rfl⟩)
 all_goals
  go_ret
  refine ⟨ret_i ?_, ex⟩
  grind [levelsE]
set_option maxHeartbeats 400000 in
set_option maxRecDepth 100000 in
theorem act_set (a : Acn) (w : World) (ha : AcnAt w a) : Calls Tryz.prog 187 #[.agg (acnR a).toArray] w fun e w' => e = .returned (.int .i64 (setE a.entries.l)) ∧ Ext w w' := by
 have HE := Lib.hid ha.entries
 clear ha
 by_cases h0 : a.entries.l.length = 0
 ·have hz : ((a.entries.l.length : Int) == 0) = true := by simp [h0]
  have HV := Lib.hid (show setE a.entries.l = 12 by unfold setE; rw [if_pos h0])
  clear h0
  go_enter Tryz.func187, Tryz.ntmps187
  go_wp2
  go_ret
  exact ⟨ret_i HV.out.symm, ex⟩
 ·have hz : ((a.entries.l.length : Int) == 0) = false := by simp; intro h; exact h0 (by simp [h])
  have HV := Lib.hid (show setE a.entries.l = entriesE a.entries.l by unfold setE; rw [if_neg h0])
  clear h0
  go_enter Tryz.func187, Tryz.ntmps187
  go_wp2_with (go_at_call 223; refine (pal_Entries a.entries.at_ a.entries.cap a.entries.l _ (HE.out.sl.mono (ex)) HE.out.len).mono ?_; rintro e w' ⟨rfl, hx⟩; obtain ⟨y, rfl⟩ := hx.get; clear hx)
  go_ret
  exact ⟨ret_i HV.out.symm, ex⟩
set_option maxHeartbeats 400000 in
set_option maxRecDepth 100000 in
theorem act_zero2 (a : Acn) (w : World) : Calls Tryz.prog 179 #[.agg (acnR a).toArray] w fun e w' => e = .returned (.bool (a.target == 0)) ∧ Ext w w' := by
 go_enter Tryz.func179, Tryz.ntmps179
 go_wp2
 go_ret
 refine ⟨ret_b ?_, ex⟩
 first | rfl | simp | grind
set_option maxHeartbeats 400000 in
set_option maxRecDepth 100000 in
theorem act_zero4 (a : Acn) (w : World) : Calls Tryz.prog 182 #[.agg (acnR a).toArray] w fun e w' => e = .returned (.bool a.cue.toList.isEmpty) ∧ Ext w w' := by
 go_enter Tryz.func182, Tryz.ntmps182
 go_wp2
 go_ret
 refine ⟨ret_b ?_, ex⟩
 first | rfl | simp | grind
set_option maxHeartbeats 400000 in
set_option maxRecDepth 100000 in
theorem act_zero5 (a : Acn) (w : World) : Calls Tryz.prog 184 #[.agg (acnR a).toArray] w fun e w' => e = .returned (.bool (a.level == 0)) ∧ Ext w w' := by
 go_enter Tryz.func184, Tryz.ntmps184
 go_wp2
 go_ret
 refine ⟨ret_b ?_, ex⟩
 first | rfl | simp | grind
set_option maxHeartbeats 400000 in
set_option maxRecDepth 100000 in
theorem act_zero7 (a : Acn) (w : World) : Calls Tryz.prog 186 #[.agg (acnR a).toArray] w fun e w' => e = .returned (.bool (a.time == 0)) ∧ Ext w w' := by
 go_enter Tryz.func186, Tryz.ntmps186
 go_wp2
 go_ret
 refine ⟨ret_b ?_, ex⟩
 first | rfl | simp | grind
set_option maxHeartbeats 400000 in
set_option maxRecDepth 100000 in
theorem act_zero8 (a : Acn) (w : World) : Calls Tryz.prog 188 #[.agg (acnR a).toArray] w fun e w' => e = .returned (.bool ((a.entries.l.length : Int) == 0)) ∧ Ext w w' := by
 go_enter Tryz.func188, Tryz.ntmps188
 go_wp2
 go_ret
 refine ⟨ret_b ?_, ex⟩
 first | rfl | simp | grind
set_option maxHeartbeats 400000 in
set_option maxRecDepth 100000 in
theorem act_zero9 (a : Acn) (w : World) : Calls Tryz.prog 190 #[.agg (acnR a).toArray] w fun e w' => e = .returned (.bool ((a.params.l.length : Int) == 0)) ∧ Ext w w' := by
 go_enter Tryz.func190, Tryz.ntmps190
 go_wp2
 go_ret
 refine ⟨ret_b ?_, ex⟩
 first | rfl | simp | grind
set_option maxHeartbeats 400000 in
set_option maxRecDepth 100000 in
theorem act_zero10 (a : Acn) (w : World) : Calls Tryz.prog 192 #[.agg (acnR a).toArray] w fun e w' => e = .returned (.bool ((a.chans.l.length : Int) == 0)) ∧ Ext w w' := by
 go_enter Tryz.func192, Tryz.ntmps192
 go_wp2
 go_ret
 refine ⟨ret_b ?_, ex⟩
 first | rfl | simp | grind
set_option maxHeartbeats 400000 in
set_option maxRecDepth 100000 in
theorem act_check1 (a : Acn) (w : World) : Calls Tryz.prog 178 #[.agg (acnR a).toArray] w fun e w' => e = .returned (.int .i64 (inE a.target 1 1048576)) ∧ Ext w w' := by
 go_enter Tryz.func178, Tryz.ntmps178
 go_wp2_with (go_at_call 141; refine (act_in _ _ _ _).mono ?_; rintro e w' ⟨rfl, rfl⟩)
 go_ret
 exact ⟨rfl, ex⟩
set_option maxHeartbeats 400000 in
set_option maxRecDepth 100000 in
theorem act_check3 (a : Acn) (w : World) (h : a.cue.size ≤ maxLen) : Calls Tryz.prog 180 #[.agg (acnR a).toArray] w fun e w' => e = .returned (.int .i64 (numE a.cue)) ∧ Ext w w' := by
 go_enter Tryz.func180, Tryz.ntmps180
 go_wp2_with (go_at_call 181; refine (num_Check a.cue _ h).mono ?_; rintro e w' ⟨rfl, hx⟩; obtain ⟨y, rfl⟩ := hx.get; clear hx)
 go_ret
 exact ⟨rfl, ex⟩
set_option maxHeartbeats 400000 in
set_option maxRecDepth 100000 in
theorem act_check6 (a : Acn) (w : World) : Calls Tryz.prog 185 #[.agg (acnR a).toArray] w fun e w' => e = .returned (.int .i64 (inE a.time 0 10000000)) ∧ Ext w w' := by
 go_enter Tryz.func185, Tryz.ntmps185
 go_wp2_with (go_at_call 141; refine (act_in _ _ _ _).mono ?_; rintro e w' ⟨rfl, rfl⟩)
 go_ret
 exact ⟨rfl, ex⟩
end Go.Proofs.YtmhinhgflehkaaaGreat

/-
 Actions: the lists of parameters and of channels, checked.
-/
namespace Go.Proofs.YtmhinhgflehkaaaGreat
open Go.RowKit

theorem Sl.front {w : World} {A : Option Addr} {size : Nat} {rows : List (List Value)} (h : Sl w A size rows) (k : Nat) : Sl w A size (rows.take k) :=
 ⟨fun i row hr => by
  rw [List.getElem?_take] at hr
  split at hr
  ·exact h.at_ i row hr
  ·cases hr⟩
theorem Contains_front (A : Option Addr) (c : Nat) (l : List Int) (k : Nat) (v : Int) (w : World) (hs : Sl w A 1 (l.map intR)) (hk : k ≤ l.length) (hl : l.length ≤ maxLen) :
  Calls Tryz.prog 225 #[.slice A k c, .int .i64 v] w fun e w' => e = .returned (.bool (decide (v ∈ l.take k))) ∧ w = w' := by
 have h := Contains_I A c (l.take k) v w (by rw [List.map_take]; exact hs.front k) (by rw [List.length_take]; omega)
 rwa [List.length_take, Nat.min_eq_left hk] at h
theorem chansS_at (l : List Int) (k : Nat) (c : Int) (h : l[k]? = some c) : chansS (l.take k) (l.drop k) = if inE c 1 999 ≠ 0 then 2 else if c ∈ l.take k then 7 else chansS (l.take (k + 1)) (l.drop (k + 1)) := by
 obtain ⟨h1, h2⟩ := List.getElem?_eq_some_iff.1 h
 rw [List.drop_eq_getElem_cons h1, h2, chansS, List.take_succ_eq_append_getElem h1, h2]
theorem inE_two (n a b : Int) : inE n a b = 0 ∨ inE n a b = 2 := by unfold inE; split <;> simp

set_option maxHeartbeats 800000 in
set_option maxRecDepth 100000 in
theorem act_run (a : Acn) (w : World) (ha : AcnAt w a) : Calls Tryz.prog 191 #[.agg (acnR a).toArray] w fun e w' => e = .returned (.int .i64 (chansE a.chans.l)) ∧ Ext w w' := by
 have hs := ha.chans.sl
 have hl := ha.chans.len
 have hle := ha.chans.le
 have HL := Lib.hid hl
 unfold maxLen at hl
 clear ha
 obtain ⟨x0, x1, x2, x3, x4, x5, x6, x7, ⟨l, A, cap⟩, x9⟩ := a
 simp only [] at hs hl hle HL ⊢
 have hb2 : (l.length : Int) ≤ (cap : Int) := by omega
 by_cases h0 : l.length = 0
 ·have hz : ((l.length : Int) == 0) = true := by simp [h0]
  have HV := Lib.hid (show chansE l = 12 by unfold chansE; rw [if_pos h0])
  clear h0 hs
  go_enter Tryz.func191, Tryz.ntmps191
  go_wp2
  go_ret
  exact ⟨ret_i HV.out.symm, ex⟩
 ·have hz : ((l.length : Int) == 0) = false := by simp; intro h; exact h0 (by simp [h])
  by_cases h1 : 256 < l.length
  ·have HV := Lib.hid (show chansE l = 5 by unfold chansE; rw [if_neg h0, if_pos h1])
   clear h0 hs
   go_enter Tryz.func191, Tryz.ntmps191
   go_wp2
   go_ret
   exact ⟨ret_i HV.out.symm, ex⟩
  ·have HM := Lib.hid (show chansE l = chansS [] l by unfold chansE; rw [if_neg h0, if_neg h1])
   obtain ⟨b, o, rfl, -⟩ := hs.row1 (i := 0) (by rw [List.getElem?_map, List.getElem?_eq_getElem (by omega)]; rfl)
   clear h0
   go_enter Tryz.func191, Tryz.ntmps191
   go_wp2
   go_loopw [19] (fun i wr => ∃ k : Nat, k ≤ l.length ∧ i = .int .i64 k ∧ Ext (w.alloc (.cells (acnR ⟨x0, x1, x2, x3, x4, x5, x6, x7, ⟨l, some ⟨b, o, none⟩, cap⟩, x9⟩).toArray 87)) wr ∧ Hid (chansE l = chansS (l.take k) (l.drop k))) (fun i _ => l.length - (intOf i).toNat)
   case atStart => exact ⟨0, by omega, rfl, ex, by simpa using HM⟩
   case round =>
    obtain ⟨k, hk, rfl, hx, HE⟩ := hrel
    obtain ⟨y, rfl⟩ := hx.get
    clear hx HM
    by_cases hlt : k < l.length
    ·obtain ⟨m, hm⟩ : ∃ m, l[k]? = some m := ⟨_, List.getElem?_eq_getElem hlt⟩
     obtain ⟨b', o', hA, hc0⟩ := hs.row1 (i := k) (by rw [List.getElem?_map, hm]; rfl)
     injection hA with hA
     injection hA with e1 e2
     subst e1 e2
     have HS := Lib.hid (HE.out.trans (chansS_at l k m hm))
     have HSl := Lib.hid hs
     have hb0 : (0 : Int) ≤ (k : Int) := by omega
     have hb1 : (k : Int) < (l.length : Int) := by omega
     have hb3 : (k : Int) ≤ (cap : Int) := by omega
     clear HE hm hs
     rcases inE_two m 1 999 with hi | hi
     ·have hz1 : (inE m 1 999 != 0) = false := by simpa using hi
      have HI := Lib.hid hi
      clear hi
      by_cases hc : m ∈ l.take k
      ·have HC := Lib.hid (decide_eq_true hc)
       have HV := Lib.hid (show chansE l = 7 by rw [HS.out, if_neg (by simpa using HI.out), if_pos hc])
       clear hc
       go_wp2_with (first | (go_at_call 141; refine (act_in _ _ _ _).mono ?_; rintro e w' ⟨rfl, rfl⟩) | (go_at_call 225; refine (Contains_front _ cap l k m _ (HSl.out.mono (ex)) hk HL.out).mono ?_; rintro e w' ⟨rfl, rfl⟩; rw [HC.out]))
       go_ret
       exact ⟨ret_i HV.out.symm, ex⟩
      ·have HC := Lib.hid (decide_eq_false hc)
       have HV := Lib.hid (show chansE l = chansS (l.take (k + 1)) (l.drop (k + 1)) by rw [HS.out, if_neg (by simpa using HI.out), if_neg hc])
       clear hc
       go_wp2_with (first | (go_at_call 141; refine (act_in _ _ _ _).mono ?_; rintro e w' ⟨rfl, rfl⟩) | (go_at_call 225; refine (Contains_front _ cap l k m _ (HSl.out.mono (ex)) hk HL.out).mono ?_; rintro e w' ⟨rfl, rfl⟩; rw [HC.out]))
       go_light
       exact ⟨⟨k + 1, by omega, by go_num, ex, HV⟩, by simp [intOf]; omega⟩
     ·have hz1 : (inE m 1 999 != 0) = true := by rw [hi]; rfl
      have HV := Lib.hid (show inE m 1 999 = chansE l by rw [HS.out, if_pos (by rw [hi]; decide), hi])
      clear hi
      go_wp2_with (go_at_call 141; refine (act_in _ _ _ _).mono ?_; rintro e w' ⟨rfl, rfl⟩)
      go_ret
      exact ⟨ret_i HV.out, ex⟩
    ·have HS := Lib.hid (show chansE l = 0 by rw [HE.out, List.drop_eq_nil_of_le (by omega)]; rfl)
     go_wp2
     go_ret
     exact ⟨ret_i HS.out.symm, ex⟩

theorem paramE_two' (p : Param) : paramE p = 0 ∨ paramE p = 2 := by unfold paramE; split <;> simp
set_option maxHeartbeats 1600000 in
set_option maxRecDepth 100000 in
theorem act_cleared (a : Acn) (w : World) (ha : AcnAt w a) : Calls Tryz.prog 189 #[.agg (acnR a).toArray] w fun e w' => e = .returned (.int .i64 (parsE a.params.l)) ∧ Ext w w' := by
 have hs := ha.params.sl
 have hl := ha.params.len
 unfold maxLen at hl
 clear ha
 obtain ⟨x0, x1, x2, x3, x4, x5, x6, ⟨l, A, cap⟩, x8, x9⟩ := a
 simp only [] at hs hl ⊢
 by_cases h1 : 4096 < l.length
 ·have HV := Lib.hid (show parsE l = 5 by unfold parsE; rw [if_pos h1])
  clear hs
  go_enter Tryz.func189, Tryz.ntmps189
  go_wp2
  go_ret
  exact ⟨ret_i HV.out.symm, ex⟩
 ·have HM := Lib.hid (show parsE l = scan parE none l by unfold parsE; rw [if_neg h1])
  by_cases h0 : l.length = 0
  ·have HS := Lib.hid (show parsE l = 0 by rw [HM.out, List.length_eq_zero_iff.1 h0]; rfl)
   have hz : l = [] := List.length_eq_zero_iff.1 h0
   subst hz
   clear hs h0
   go_enter Tryz.func189, Tryz.ntmps189
   go_wp2
   refine wp_loop_rounds 1 ?_
   rw [rounds_succ]
   go_wp2
   go_ret
   exact ⟨ret_i HS.out.symm, ex⟩
  obtain ⟨b, o, rfl, -⟩ := hs.row2 (i := 0) (by rw [List.getElem?_map, List.getElem?_eq_getElem (by omega)]; rfl)
  clear h0
  go_enter Tryz.func189, Tryz.ntmps189
  go_wp2
  go_loopw [12] (fun i wr => ∃ k : Nat, k ≤ l.length ∧ i = .int .i64 k ∧ Ext (w.alloc (.cells (acnR ⟨x0, x1, x2, x3, x4, x5, x6, ⟨l, some ⟨b, o, none⟩, cap⟩, x8, x9⟩).toArray 87)) wr ∧ Hid (parsE l = scan parE (prv l k) (l.drop k))) (fun i _ => l.length - (intOf i).toNat)
  case atStart => exact ⟨0, by omega, rfl, ex, HM⟩
  case round =>
   obtain ⟨k, hk, rfl, hx, HE⟩ := hrel
   obtain ⟨y, rfl⟩ := hx.get
   clear hx HM
   by_cases hlt : k < l.length
   ·obtain ⟨m, hm⟩ : ∃ m, l[k]? = some m := ⟨_, List.getElem?_eq_getElem hlt⟩
    obtain ⟨b', o', hA, hc0, hc1⟩ := hs.row2 (i := k) (by rw [List.getElem?_map, hm]; rfl)
    injection hA with hA
    injection hA with e1 e2
    subst e1 e2
    have HS := Lib.hid (HE.out.trans (scan_at parE l k m hm))
    have hb0 : (0 : Int) ≤ (k : Int) := by omega
    have hb1 : (k : Int) < (l.length : Int) := by omega
    clear HE
    rcases paramE_two' m with hp | hp
    ·obtain ⟨g1, g2, g3, g4⟩ := paramE_ok hp
     have HP0 := Lib.hid hp
     clear hp
     by_cases hk0 : 0 < k
     ·obtain ⟨m', hm'⟩ : ∃ m', l[k - 1]? = some m' := ⟨_, List.getElem?_eq_getElem (by omega)⟩
      obtain ⟨b', o', hA, hp0, hp1⟩ := hs.row2 (i := k - 1) (by rw [List.getElem?_map, hm']; rfl)
      injection hA with hA
      injection hA with e1 e2
      subst e1 e2
      have HP := Lib.hid (show prv l k = some m' by unfold prv; rw [if_neg (by omega), hm'])
      have HB := Lib.hid (cmpO_before m' m)
      clear hm hm' hs
      go_wp2
      (refine wp_region_grows (by kernel_rfl) (by kernel_rfl) ?_; (repeat (go_big_quiet_step ((go_at_call 224; exact Calls.grows (act_compare m' m _))))); refine wpQuiet_nil ?_; rintro _ ⟨y, rfl⟩)
      go_wp2
      ·go_ret
       go_light
       refine ⟨ret_i ?_, ex⟩
       have hS := HS.out
       have hB := HB.out
       have h1 := HP0.out
       rw [HP.out] at hS
       grind [parE]
      ·go_light
       have hS := HS.out
       have hB := HB.out
       have h1 := HP0.out
       refine ⟨⟨k + 1, by omega, by go_num, ex, Lib.hid ?_⟩, by simp [intOf]; omega⟩
       rw [HP.out] at hS
       grind [parE]
     ·have HP : Hid (prv l k = none) := Lib.hid (by unfold prv; rw [if_pos (by omega)])
      obtain rfl : k = 0 := by omega
      simp only [Nat.zero_mul, Nat.add_zero] at hc0 hc1
      clear hm hs hk0
      go_wp2
      (refine wp_region_grows (by kernel_rfl) (by kernel_rfl) ?_; (repeat (go_big_quiet_step (fail))); refine wpQuiet_nil ?_; rintro _ ⟨y, rfl⟩)
      go_wp2
      go_light
      have hS := HS.out
      have h1 := HP0.out
      refine ⟨⟨1, by omega, by rfl, ex, Lib.hid ?_⟩, by simp [intOf]; omega⟩
      rw [HP.out] at hS
      grind [parE]
    ·have HV := Lib.hid (show parsE l = 2 by
      rw [HS.out]
      have h2 : parE (prv l k) m = 2 := by unfold parE; rw [if_pos (by rw [hp]; decide), hp]
      rw [h2, if_pos (by decide)])
     have HP0 := Lib.hid hp
     clear hp hm hs
     go_wp2
     all_goals first
      | (go_ret; exact ⟨ret_i HV.out.symm, ex⟩)
      | (exfalso; have h := HP0.out; unfold paramE at h; split at h <;> omega)
   ·have HS := Lib.hid (HE.out.trans (scan_end parE l k _ (by omega)))
    go_wp2
    go_ret
    exact ⟨ret_i HS.out.symm, ex⟩
end Go.Proofs.YtmhinhgflehkaaaGreat
