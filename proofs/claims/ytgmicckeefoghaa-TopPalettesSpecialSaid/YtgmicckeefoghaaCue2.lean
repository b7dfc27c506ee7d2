import Derived.Test.YtgmicckeefoghaaCue1
namespace Go.Proofs.Ytgmicckeefoghaa
open Go.RowKit

theorem byte_at (s : ByteArray) (k : Nat) (h : k < s.size) : s.data.toList[k]? = some s[k] := by
  rw [List.getElem?_eq_getElem (by exact h)]; rfl

set_option maxHeartbeats 400000 in
theorem r16_Label (s : ByteArray) (w : World) (hs : s.size ≤ maxLen) : Calls Try.prog 105 #[.string s] w fun e w' => e = .returned (.int .i64 (labelE s)) ∧ w = w' := by
  unfold maxLen at hs
  by_cases h24 : 24 < s.size
  · have h24' : (24 : Int) < (s.size : Int) := by omega
    have E : Hid (labelE s = 13) := Lib.hid (by unfold labelE; rw [if_pos h24])
    go_enter Try.func105, Try.ntmps105
    go_wp2
    go_ret
    rw [E.out]
    exact ⟨rfl, rfl⟩
  have E : Hid (labelE s = if s.data.toList.all labelOkC then 0 else 3) := Lib.hid (by unfold labelE; rw [if_neg h24])
  have h24' : (s.size : Int) ≤ 24 := by omega
  go_enter Try.func105, Try.ntmps105
  go_wp2
  go_loop [3] (fun i => ∃ k : Nat, k ≤ s.size ∧ i = .int .i64 k ∧ Hid ((s.data.toList.take k).all labelOkC = true)) (fun i => s.size - (intOf i).toNat)
  case atStart => exact ⟨0, by omega, rfl, Lib.hid (by simp)⟩
  case round =>
    obtain ⟨k, hk, rfl, HN⟩ := hrel
    by_cases hlt : k < s.size
    · have HB := Lib.hid (byte_at s k hlt)
      have HL : Hid (labelOkC s[k] = !(decide ((s[k].toNat : Int) < 32) || decide (126 < (s[k].toNat : Int)) || ((s[k].toNat : Int) == 34))) := Lib.hid rfl
      go_wp2
      all_goals first
        | (go_ret; go_light; refine ⟨ret_i ?_, rfl⟩; rw [E.out, all_not HB.out (by rw [HL.out]; first | (simp [*]; done) | grind)]; rfl)
        | (go_round
           case rel => exact ⟨k + 1, by omega, by go_num, Lib.hid (all_step HB.out (by rw [HL.out]; first | (simp [*]; done) | grind) HN.out)⟩
           case measure => simp [intOf]; omega)
    · have HA := Lib.hid (all_full (p := labelOkC) (l := s.data.toList) (k := k) (by change s.size ≤ k; omega) HN.out)
      go_wp2
      go_ret
      rw [E.out, HA.out]
      exact ⟨rfl, rfl⟩

set_option maxHeartbeats 400000 in
theorem r16_IsTime (v : Int) (w : World) : Calls Try.prog 79 #[.int .i64 v] w fun e w' => e = .returned (.bool (isTime v)) ∧ w = w' := by
  go_enter Try.func79, Try.ntmps79
  go_wp2
  all_goals go_ret
  all_goals refine ⟨ret_b ?_, rfl⟩
  all_goals grind [isTime]

set_option maxHeartbeats 400000 in
set_option maxRecDepth 100000 in
theorem cue_label (s : ByteArray) (w : World) (hs : s.size ≤ maxLen) : Calls Try.prog 111 #[.string s] w fun e w' => e = .returned (.int .i64 (labelE s)) ∧ Ext w w' := by
  unfold maxLen at hs
  by_cases h24 : 24 < s.size
  · have h24' : (24 : Int) < (s.size : Int) := by omega
    have E : Hid (labelE s = 13) := Lib.hid (by unfold labelE; rw [if_pos h24])
    go_enter Try.func111, Try.ntmps111
    go_wp2
    go_ret
    rw [E.out]
    exact ⟨rfl, Ext.refl _⟩
  have E : Hid (labelE s = if s.data.toList.all labelOkC then 0 else 3) := Lib.hid (by unfold labelE; rw [if_neg h24])
  have h24' : (s.size : Int) ≤ 24 := by omega
  obtain ⟨y, cap, hcv, hby⟩ := run_bytes (P := Try.prog) w 9 209 5 s Try.underlying9 Try.underlying209 Try.underlying5
  have HY := Lib.hid hby
  clear hby
  go_enter Try.func111, Try.ntmps111
  go_wp2
  go_loop [11] (fun i => ∃ k : Nat, k ≤ s.size ∧ i = .int .i64 k ∧ Hid ((s.data.toList.take k).all labelOkC = true)) (fun i => s.size - (intOf i).toNat)
  case atStart => exact ⟨0, by omega, rfl, Lib.hid (by simp)⟩
  case round =>
    obtain ⟨k, hk, rfl, HN⟩ := hrel
    by_cases hlt : k < s.size
    · have HB := Lib.hid (byte_at s k hlt)
      have HL : Hid (labelOkC s[k] = !(decide ((s[k].toNat : Int) < 32) || decide (126 < (s[k].toNat : Int)) || ((s[k].toNat : Int) == 34))) := Lib.hid rfl
      have hy := HY.out k hlt
      go_wp2
      all_goals first
        | (go_ret; go_light; refine ⟨ret_i ?_, by repeat (first | exact Ext.refl _ | assumption | apply Ext.xt | apply Ext.alloc | apply Ext.drew | apply Ext.drewN)⟩; rw [E.out, all_not HB.out (by rw [HL.out]; first | (simp [*]; done) | grind)]; rfl)
        | (go_round
           case rel => exact ⟨k + 1, by omega, by go_num, Lib.hid (all_step HB.out (by rw [HL.out]; first | (simp [*]; done) | grind) HN.out)⟩
           case measure => simp [intOf]; omega)
    · have HA := Lib.hid (all_full (p := labelOkC) (l := s.data.toList) (k := k) (by change s.size ≤ k; omega) HN.out)
      go_wp2
      go_ret
      rw [E.out, HA.out]
      exact ⟨rfl, by repeat (first | exact Ext.refl _ | assumption | apply Ext.xt | apply Ext.alloc | apply Ext.drew | apply Ext.drewN)⟩

set_option maxHeartbeats 800000 in
theorem r16_parts (A : Option Addr) (c : Nat) (l : List Timing) (w : World) (hs : Sl w A 6 (l.map tmg)) (hl : l.length ≤ maxLen) :
    Calls Try.prog 106 #[.slice A l.length c] w fun e w' => e = .returned (.int .i64 (timesE l)) ∧ Ext w w' := by
  unfold maxLen at hl
  by_cases h0 : l.length = 0
  · have hb : ((l.length : Int) == 0) = true := by rw [h0]; rfl
    have E : Hid (timesE l = 12) := Lib.hid (by unfold timesE; rw [if_pos h0])
    go_enter Try.func106, Try.ntmps106
    go_wp2
    go_ret
    rw [E.out]
    exact ⟨rfl, Ext.refl _⟩
  have hb : ((l.length : Int) == 0) = false := by rw [beq_eq_false_iff_ne]; omega
  by_cases h4 : 4 < l.length
  · have E : Hid (timesE l = 5) := Lib.hid (by unfold timesE; rw [if_neg h0, if_pos h4])
    go_enter Try.func106, Try.ntmps106
    go_wp2
    go_ret
    rw [E.out]
    exact ⟨rfl, Ext.refl _⟩
  have E : Hid (timesE l = if l.all timingOk then 0 else 2) := Lib.hid (by unfold timesE; rw [if_neg h0, if_neg h4])
  go_enter Try.func106, Try.ntmps106
  go_wp2
  go_loopw [3] (fun i wr => ∃ k : Nat, k ≤ l.length ∧ i = .int .i64 k ∧ Ext w wr ∧ Hid ((l.take k).all timingOk = true)) (fun i _ => l.length - (intOf i).toNat)
  case atStart => exact ⟨0, by omega, rfl, Ext.refl _, Lib.hid (by simp)⟩
  case round =>
    obtain ⟨k, hk, rfl, hx, HN⟩ := hrel
    obtain ⟨y, rfl⟩ := hx.get
    clear hx
    by_cases hlt : k < l.length
    · obtain ⟨t, ht⟩ : ∃ t, l[k]? = some t := ⟨_, List.getElem?_eq_getElem hlt⟩
      have HT := Lib.hid ht
      obtain ⟨b, o, rfl, hc0, hc1, hc2, hc3, hc4, hc5⟩ := hs.row6 (i := k) (by rw [List.getElem?_map, ht]; rfl)
      have HL : Hid (timingOk t = (isTime t.up && isTime t.down && isTime t.pos && isTime t.col && isTime t.beam && isTime t.del)) := Lib.hid rfl
      clear ht hs
      go_wp2_with (go_at_call 79; refine (r16_IsTime _ _).mono ?_; rintro e w' ⟨rfl, rfl⟩)
      all_goals first
        | (go_ret; go_light; refine ⟨ret_i ?_, by repeat (first | exact Ext.refl _ | assumption | apply Ext.xt | apply Ext.alloc | apply Ext.drew | apply Ext.drewN)⟩; rw [E.out, all_not HT.out (by rw [HL.out]; simp_all)]; rfl)
        | (go_roundw
           case rel => exact ⟨k + 1, by omega, by go_num, by repeat (first | exact Ext.refl _ | assumption | apply Ext.xt | apply Ext.alloc | apply Ext.drew | apply Ext.drewN), Lib.hid (all_step HT.out (by rw [HL.out]; simp_all) HN.out)⟩
           case measure => simp [intOf]; omega)
    · have HA := Lib.hid (all_full (p := timingOk) (l := l) (k := k) (by omega) HN.out)
      go_wp2
      go_ret
      rw [E.out, HA.out]
      exact ⟨rfl, by repeat (first | exact Ext.refl _ | assumption | apply Ext.xt | apply Ext.alloc | apply Ext.drew | apply Ext.drewN)⟩
end Go.Proofs.Ytgmicckeefoghaa

namespace Go.Proofs.Ytgmicckeefoghaa
open Go.RowKit

/-- The error of what comes behind a cue. -/
def nextE (c : Cue) : Int :=
  if c.follow ≠ -1 ∧ (c.follow < 25 ∨ 10000000 < c.follow) then 2 else if ¬ c.link.toList = [] ∧ numE c.link ≠ 0 then numE c.link
  else if c.loops < 0 ∨ 100 < c.loops then 2 else if 0 < c.loops ∧ c.link.toList = [] then 11 else 0
/-- The error of a cue. -/
def cueE (c : Cue) : Int :=
  if numE c.number ≠ 0 then numE c.number else if labelE c.label ≠ 0 then labelE c.label else if movesE c.moves ≠ 0 then movesE c.moves
  else if partsE c ≠ 0 then partsE c else nextE c

/-- The cells of a cue. -/
def cueV (c : Cue) (A : Option Addr) (k : Nat) (B : Option Addr) (m : Nat) : List Value :=
  [.string c.number, .string c.label, .slice A c.moves.length k, .slice B c.parts.length m, .bool c.block, .bool c.mark, .int .i64 c.follow, .string c.link, .int .i64 c.loops]
/-- What lies behind the cells of a cue. -/
structure CueAt (w : World) (c : Cue) (A : Option Addr) (k : Nat) (B : Option Addr) (m : Nat) : Prop where
  mv : Sl w A 5 (c.moves.map mv)
  pt : Sl w B 6 (c.parts.map tmg)
  hk : c.moves.length ≤ k
  hm : c.parts.length ≤ m
  hk' : k ≤ maxLen
  hm' : m ≤ maxLen
  num : c.number.size ≤ maxLen
  lab : c.label.size ≤ maxLen
  lnk : c.link.size ≤ maxLen
theorem CueAt.mono {w w' : World} {c : Cue} {A : Option Addr} {k : Nat} {B : Option Addr} {m : Nat} (h : CueAt w c A k B m) (hx : Ext w w') : CueAt w' c A k B m :=
  ⟨h.mv.mono hx, h.pt.mono hx, h.hk, h.hm, h.hk', h.hm', h.num, h.lab, h.lnk⟩

set_option maxHeartbeats 400000 in
theorem r16_next (c : Cue) (A : Option Addr) (k : Nat) (B : Option Addr) (m : Nat) (w : World) (hc : CueAt w c A k B m) :
    Calls Try.prog 107 #[.agg (cueV c A k B m).toArray] w fun e w' => e = .returned (.int .i64 (nextE c)) ∧ Ext w w' := by
  have hl := hc.lnk
  clear hc
  simp only [cueV]
  go_enter Try.func107, Try.ntmps107
  go_wp2_with (go_at_call 104; refine (r05_Check c.link _ hl).mono ?_; rintro e w' ⟨rfl, hx⟩; obtain ⟨y, rfl⟩ := hx.get; clear hx)
  all_goals
    go_ret
    go_light
    refine ⟨ret_i ?_, by repeat (first | exact Ext.refl _ | assumption | apply Ext.xt | apply Ext.alloc | apply Ext.drew | apply Ext.drewN)⟩
    grind [nextE]
set_option maxHeartbeats 400000 in
theorem cue_next (c : Cue) (A : Option Addr) (k : Nat) (B : Option Addr) (m : Nat) (w : World) (hc : CueAt w c A k B m) :
    Calls Try.prog 114 #[.agg (cueV c A k B m).toArray] w fun e w' => e = .returned (.int .i64 (nextE c)) ∧ Ext w w' := by
  have hl := hc.lnk
  clear hc
  simp only [cueV]
  go_enter Try.func114, Try.ntmps114
  go_wp2_with (go_at_call 109; refine (num_Check c.link _ hl).mono ?_; rintro e w' ⟨rfl, hx⟩; obtain ⟨y, rfl⟩ := hx.get; clear hx)
  all_goals
    go_ret
    go_light
    refine ⟨ret_i ?_, by repeat (first | exact Ext.refl _ | assumption | apply Ext.xt | apply Ext.alloc | apply Ext.drew | apply Ext.drewN)⟩
    grind [nextE]

set_option maxHeartbeats 400000 in
theorem cue_parts1 (m : Move) (b : Nat) (B : Option Addr) (n k : Nat) (w : World) (h : w.cell? ⟨b, 3, none⟩ = some (.slice B n k)) :
    Calls Try.prog 163 #[.agg (mv m).toArray, .pointer (some ⟨b, 0, none⟩)] w fun e w' => e = .returned (.bool (decide ((n : Int) < m.part))) ∧ Ext w w' := by
  simp only [mv]
  go_enter Try.func163, Try.ntmps163
  go_wp2
  go_ret
  exact ⟨rfl, by repeat (first | exact Ext.refl _ | assumption | apply Ext.xt | apply Ext.alloc | apply Ext.drew | apply Ext.drewN)⟩

set_option maxHeartbeats 400000 in
/-- slices.IndexFunc over moves at the closure of cue.parts. -/
theorem IndexFunc_parts (A : Option Addr) (c : Nat) (l : List Move) (b : Nat) (B : Option Addr) (n k : Nat) (w : World) (hs : Sl w A 5 (l.map mv)) (hl : l.length ≤ maxLen) (hb : w.cell? ⟨b, 3, none⟩ = some (.slice B n k)) :
    Calls Try.prog 151 #[.slice A l.length c, .func (Fn.func 163) #[] #[.pointer (some ⟨b, 0, none⟩)]] w
      fun e w' => IntSign (l.any fun m => decide ((n : Int) < m.part)) e ∧ Ext w w' := by
  unfold maxLen at hl
  go_enter Try.func151, Try.ntmps151
  go_wp2
  go_loopw [8] (fun i wr => ∃ j : Nat, j ≤ l.length ∧ i = .int .i64 j ∧ Ext w wr ∧ Hid ((l.take j).all (fun m => !decide ((n : Int) < m.part)) = true)) (fun i _ => l.length - (intOf i).toNat)
  case atStart => exact ⟨0, by omega, rfl, Ext.refl _, Lib.hid (by simp)⟩
  case round =>
    obtain ⟨j, hj, rfl, hx, HN⟩ := hrel
    obtain ⟨y, rfl⟩ := hx.get
    clear hx
    by_cases hlt : j < l.length
    · obtain ⟨m, hm⟩ : ∃ m, l[j]? = some m := ⟨_, List.getElem?_eq_getElem hlt⟩
      have HM := Lib.hid hm
      obtain ⟨b', o, rfl, hc0, hc1, hc2, hc3, hc4⟩ := hs.row5 (i := j) (by rw [List.getElem?_map, hm]; rfl)
      clear hm hs
      go_wp2_with (go_at_call 163; refine (cue_parts1 m b B n k _ (by simp [go_sem, *])).mono ?_; rintro e w' ⟨rfl, hx⟩; obtain ⟨y, rfl⟩ := hx.get; clear hx)
      · go_ret
        go_light
        refine ⟨⟨j, rfl, ?_⟩, by repeat (first | exact Ext.refl _ | assumption | apply Ext.xt | apply Ext.alloc | apply Ext.drew | apply Ext.drewN)⟩
        have hM := HM.out
        obtain ⟨_, hx⟩ := List.getElem?_eq_some_iff.1 hM
        rw [decide_eq_true (by omega)]
        symm
        rw [List.any_eq_true]
        exact ⟨m, by rw [← hx]; exact List.getElem_mem _, by simpa using ‹_›⟩
      · go_roundw
        case rel => exact ⟨j + 1, by omega, by go_num, by repeat (first | exact Ext.refl _ | assumption | apply Ext.xt | apply Ext.alloc | apply Ext.drew | apply Ext.drewN), Lib.hid (all_step HM.out (by simpa using ‹_›) HN.out)⟩
        case measure => simp [intOf]; omega
    · have HA := Lib.hid (all_full (l := l) (k := j) (by omega) HN.out)
      go_wp2
      go_ret
      go_light
      refine ⟨⟨-1, rfl, ?_⟩, by repeat (first | exact Ext.refl _ | assumption | apply Ext.xt | apply Ext.alloc | apply Ext.drew | apply Ext.drewN)⟩
      rw [decide_eq_false (by omega)]
      symm
      rw [List.any_eq_false]
      intro m hm
      have := List.all_eq_true.1 HA.out m hm
      simpa using this

set_option maxHeartbeats 400000 in
theorem ContainsFunc_parts (A : Option Addr) (c : Nat) (l : List Move) (b : Nat) (B : Option Addr) (n k : Nat) (w : World) (hs : Sl w A 5 (l.map mv)) (hl : l.length ≤ maxLen) (hb : w.cell? ⟨b, 3, none⟩ = some (.slice B n k)) :
    Calls Try.prog 162 #[.slice A l.length c, .func (Fn.func 163) #[] #[.pointer (some ⟨b, 0, none⟩)]] w
      fun e w' => e = .returned (.bool (l.any fun m => decide ((n : Int) < m.part))) ∧ Ext w w' := by
  go_enter Try.func162, Try.ntmps162
  go_wp2_with fail
  refine (IndexFunc_parts A c l b B n k _ hs hl hb).mono ?_
  rintro e w' ⟨⟨r, rfl, hr⟩, hx⟩
  obtain ⟨y, rfl⟩ := hx.get
  clear hx
  have HR := Lib.hid hr
  clear hr
  go_wp2
  go_ret
  rw [← HR.out]
  exact ⟨rfl, by repeat (first | exact Ext.refl _ | assumption | apply Ext.xt | apply Ext.alloc | apply Ext.drew | apply Ext.drewN)⟩
end Go.Proofs.Ytgmicckeefoghaa
