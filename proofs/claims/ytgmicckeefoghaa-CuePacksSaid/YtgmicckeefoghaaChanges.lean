/-
  Setting a part changes the times of the parameters in it alone.
-/
import Derived.Test.YtgmicckeefoghaaSet
namespace Go.Proofs.Ytgmicckeefoghaa
open Go.RowKit

theorem timingE_ok {t : Timing} (h : timingE t = 0) : timingOk t = true := by
  unfold timingE at h; split at h
  · assumption
  · simp at h
theorem cueE_parts {c : Cue} (h : cueE c = 0) {l : List Timing} (h1 : l ≠ []) (h4 : l.length ≤ 4) (hl : c.parts.length ≤ l.length) (ht : ∀ t ∈ l, timingE t = 0) : cueE { c with parts := l } = 0 := by
  obtain ⟨e1, e2, e3, e4, e5⟩ := cueE_ok h
  have hn : nextE { c with parts := l } = nextE c := rfl
  have hall : l.all timingOk = true := List.all_eq_true.2 fun t h => timingE_ok (ht t h)
  have hp : partsE { c with parts := l } = 0 := by
    have hany : (c.moves.any fun m => decide ((c.parts.length : Int) < m.part)) = false := by
      unfold partsE at e4
      by_cases hb : (c.moves.any fun m => decide ((c.parts.length : Int) < m.part)) = true
      · rw [hb] at e4
        split at e4
        · rename_i hne; exact absurd e4 hne
        · simp at e4
      · simpa using hb
    have hany2 : (c.moves.any fun m => decide ((l.length : Int) < m.part)) = false := by
      rw [List.any_eq_false] at hany ⊢
      intro m hm
      have := hany m hm
      simp only [decide_eq_true_eq] at this ⊢
      omega
    have hl0 : l.length ≠ 0 := fun h => h1 (List.eq_nil_of_length_eq_zero h)
    unfold partsE timesE
    simp only [hall, hany2, hl0, if_neg (show ¬ 4 < l.length by omega)]
    simp
  unfold cueE
  simp only [e1, e2, e3, hp, hn, e5]
  simp
theorem ofV_ok {c : Cue} {p : Param} (h : cueE c = 0) (hp : paramE p = 0) (r : Bool) : ofV c p r = ((partOf c p).del, taken (partOf c p) p.attr r, 0) := by
  unfold ofV givenE; simp [h, hp]
theorem partV_ok {c : Cue} {p : Param} (h : cueE c = 0) (hp : paramE p = 0) : partV c p = (inV c.moves p, 0) := by
  unfold partV givenE; simp [h, hp]
theorem timeV_ok {t : Timing} {a : Int} (h : timingE t = 0) (ha : attrE a = 0) (r : Bool) : timeV t a r = (taken t a r, 0) := by
  unfold timeV; simp [h, ha]
theorem setV_at {c : Cue} {t : Timing} (h : cueE c = 0) (ht : timingE t = 0) {k : Nat} (hk : k < c.parts.length) : setV c ((k : Int) + 1) t = ({ c with parts := c.parts.set k t }, 0) := by
  unfold setV; simp; grind
theorem set_ok {c : Cue} {t : Timing} (h : cueE c = 0) (ht : timingE t = 0) {k : Nat} (_hk : k < c.parts.length) : cueE { c with parts := c.parts.set k t } = 0 := by
  have hl := parts_len h
  refine cueE_parts h (fun e => ?_) (by simp; omega) (by simp) (fun x hx => ?_)
  · have h5 : c.parts.length = 0 := by simpa using congrArg List.length e
    omega
  · rcases List.mem_or_eq_of_mem_set hx with h2 | h2
    · exact timesE_ok (partsE_ok h) x h2
    · rw [h2]; exact ht
theorem set_of {c : Cue} {t : Timing} {p : Param} (h : cueE c = 0) (ht : timingE t = 0) (hp : paramE p = 0) {k : Nat} (hk : k < c.parts.length) (r : Bool) :
    ofV { c with parts := c.parts.set k t } p r = if inV c.moves p = (k : Int) + 1 then (t.del, taken t p.attr r, 0) else ofV c p r := by
  rw [ofV_ok (set_ok h ht hk) hp, ofV_ok h hp]
  have hr := part_range h p
  have e : partOf { c with parts := c.parts.set k t } p = if inV c.moves p = (k : Int) + 1 then t else partOf c p := by
    unfold partOf
    simp only [List.getElem?_set]
    by_cases h1 : inV c.moves p = (k : Int) + 1
    · rw [if_pos h1, if_pos (by omega), if_pos hk]; rfl
    · rw [if_neg h1, if_neg (by omega)]
  rw [e]
  split <;> rfl

def goodB (c : Cue) : Bool := few c && (cueE c == 0)
theorem goodB_ok {c : Cue} (h : goodB c = true) : cueE c = 0 := by unfold goodB at h; simp at h; exact h.2
theorem goodB_def (c : Cue) : goodB c = (few c && (cueE c == 0)) := rfl

section
variable (c : Cue) (A : Option Addr) (k : Nat) (B : Option Addr) (m : Nat) (w : World) (hc : CueAt w c A k B m)
include hc
theorem tim_Set_to (part : Int) (t : Timing) (d : Cue) (x : Int) (hd : setV c part t = (d, x)) : Calls Try.prog 38 #[.agg (cueV c A k B m).toArray, .int .i64 part, .agg (tmg t).toArray] w (RetCue w (d, x)) := by
  rw [← hd]; exact tim_Set c A k B m part t w hc
set_option maxHeartbeats 400000 in
theorem l21_good : Calls Try.prog 36 #[.agg (cueV c A k B m).toArray] w fun e w' => e = .returned (.bool (goodB c)) ∧ Ext w w' := by
  have HC := Lib.hid hc
  clear hc
  simp only [cueV]
  go_enter Try.func36, Try.ntmps36
  go_wp2_with (first | (go_at_call 27; refine (r16_Few c A k B m _).mono ?_; rintro e w' ⟨rfl, hx⟩; obtain ⟨y, rfl⟩ := hx.get; clear hx) | (go_at_call 53; refine (r16_Check c A k B m _ (HC.out.mono (by repeat (first | exact Ext.refl _ | assumption | apply Ext.xt | apply Ext.alloc | apply Ext.drew | apply Ext.drewN)))).mono ?_; rintro e w' ⟨rfl, hx⟩; obtain ⟨y, rfl⟩ := hx.get; clear hx))
  all_goals
    go_ret
    go_light
    refine ⟨ret_b ?_, by repeat (first | exact Ext.refl _ | assumption | apply Ext.xt | apply Ext.alloc | apply Ext.drew | apply Ext.drewN)⟩
    rw [goodB_def]
    simp [*]
end

set_option maxHeartbeats 3200000 in
set_option maxRecDepth 100000 in
theorem l21_TimingChanges (c : Cue) (A : Option Addr) (k : Nat) (B : Option Addr) (m : Nat) (t : Timing) (p : Param) (w : World) (hc : CueAt w c A k B m) : Calls Try.prog 9 #[.agg (cueV c A k B m).toArray, .agg (tmg t).toArray, .agg (prm p).toArray] w fun e w' => e = .returned (.bool true) ∧ Ext w w' := by
  have HC := Lib.hid hc
  clear hc
  simp only [cueV, tmg, prm]
  by_cases hG : goodB c = true ∧ timingE t = 0 ∧ paramE p = 0
  · obtain ⟨hg, ht, hp⟩ := hG
    have hE : cueE c = 0 := goodB_ok hg
    have HE := Lib.hid hE
    have HT := Lib.hid ht
    have HP := Lib.hid hp
    have hl := parts_len hE
    have hr := part_range hE p
    have HV := Lib.hid (partV_ok hE hp)
    have v1 : (partV c p).1 = inV c.moves p := by rw [HV.out]
    have v2 : (partV c p).2 = 0 := by rw [HV.out]
    have u1 : (timeV t p.attr true).1 = taken t p.attr true := by rw [timeV_ok ht (paramE_attr hp)]
    have u2 : (timeV t p.attr true).2 = 0 := by rw [timeV_ok ht (paramE_attr hp)]
    have o2 : (ofV c p true).2.2 = 0 := by rw [ofV_ok hE hp]
    have ht' : (timingE t != 0) = false := by simpa using ht
    have hp' : (paramE p != 0) = false := by simpa using hp
    obtain ⟨hr1, hr2, hr3, hr4⟩ := hr
    clear hE ht hp hl
    go_enter Try.func9, Try.ntmps9
    go_wp2_with (first
      | (go_at_call 36; refine (l21_good c A k B m _ (HC.out.mono (by repeat (first | exact Ext.refl _ | assumption | apply Ext.xt | apply Ext.alloc | apply Ext.drew | apply Ext.drewN)))).mono ?_; rintro e w' ⟨rfl, hx⟩; obtain ⟨y, rfl⟩ := hx.get; clear hx)
      | (go_at_call 25; refine (r21_Check t _).mono ?_; rintro e w' ⟨rfl, hx⟩; obtain ⟨y, rfl⟩ := hx.get; clear hx)
      | (go_at_call 37; refine (r15_Param p _).mono ?_; rintro e w' ⟨rfl, hx⟩; obtain ⟨y, rfl⟩ := hx.get; clear hx)
      | (go_at_call 28; refine (tim_Part c A k B m p _ (HC.out.mono (by repeat (first | exact Ext.refl _ | assumption | apply Ext.xt | apply Ext.alloc | apply Ext.drew | apply Ext.drewN)))).mono ?_; rintro e w' ⟨rfl, hx⟩; obtain ⟨y, rfl⟩ := hx.get; clear hx))
    go_loopw [57] (fun i wr => ∃ j : Nat, j ≤ c.parts.length ∧ i = .int .i64 j ∧ Ext (((w.alloc (.cells #[.string c.number, .string c.label, .slice A c.moves.length k, .slice B c.parts.length m, .bool c.block, .bool c.mark, .int .i64 c.follow, .string c.link, .int .i64 c.loops] 38)).alloc (.cells #[.int .i64 t.up, .int .i64 t.down, .int .i64 t.pos, .int .i64 t.col, .int .i64 t.beam, .int .i64 t.del] 23)).alloc (.cells #[.int .i64 p.ch, .int .i64 p.attr] 40)) wr) (fun i _ => c.parts.length - (intOf i).toNat)
    case atStart => exact ⟨0, by omega, rfl, by repeat (first | exact Ext.refl _ | assumption | apply Ext.xt | apply Ext.alloc | apply Ext.drew | apply Ext.drewN)⟩
    case round =>
      obtain ⟨j, hj, rfl, hx⟩ := hrel
      obtain ⟨y, rfl⟩ := hx.get
      clear hx
      by_cases hlt : j < c.parts.length
      · obtain ⟨d, hd⟩ : ∃ d, d = { c with parts := c.parts.set j t } := ⟨_, rfl⟩
        have HD := Lib.hid (show setV c ((j : Int) + 1) t = (d, 0) by rw [hd]; exact setV_at HE.out HT.out hlt)
        have hof : ofV d p true = if inV c.moves p = (j : Int) + 1 then (t.del, taken t p.attr true, 0) else ofV c p true := by rw [hd]; exact set_of HE.out HT.out HP.out hlt true
        clear hd
        by_cases hown : inV c.moves p = (j : Int) + 1
        · rw [if_pos hown] at hof
          have d1 : (ofV d p true).1 = t.del := by rw [hof]
          have d2 : (ofV d p true).2.1 = taken t p.attr true := by rw [hof]
          have d3 : (ofV d p true).2.2 = 0 := by rw [hof]
          have hb : (inV c.moves p == (j : Int) + 1) = true := by simpa using hown
          have hb2 : (inV c.moves p != (j : Int) + 1) = false := by simpa using hown
          clear hof hown
          go_wp2_with (first
            | (go_at_call 38; refine (tim_Set_to c A k B m _ (HC.out.mono (by repeat (first | exact Ext.refl _ | assumption | apply Ext.xt | apply Ext.alloc | apply Ext.drew | apply Ext.drewN))) _ t _ _ HD.out).mono ?_; rintro e w' ⟨A1, k1, B1, m1, he, hx, h1⟩; simp only [cueV] at he; subst he; have H1 := Lib.hid h1; obtain ⟨y1, rfl⟩ := hx.get; clear hx h1)
            | (go_at_call 30; refine (tim_Of _ _ _ _ _ p true _ (by first | exact H1.out.mono (by repeat (first | exact Ext.refl _ | assumption | apply Ext.xt | apply Ext.alloc | apply Ext.drew | apply Ext.drewN)) | exact HC.out.mono (by repeat (first | exact Ext.refl _ | assumption | apply Ext.xt | apply Ext.alloc | apply Ext.drew | apply Ext.drewN)))).mono ?_; rintro e w' ⟨rfl, hx⟩; obtain ⟨y, rfl⟩ := hx.get; clear hx)
            | (go_at_call 22; refine (tim_Time t p.attr true _).mono ?_; rintro e w' ⟨rfl, hx⟩; obtain ⟨y, rfl⟩ := hx.get; clear hx))
          go_light
          exact ⟨⟨j + 1, by omega, by go_num, by repeat (first | exact Ext.refl _ | assumption | apply Ext.xt | apply Ext.alloc | apply Ext.drew | apply Ext.drewN)⟩, by simp [intOf]; omega⟩
        · rw [if_neg hown] at hof
          have hb : (inV c.moves p == (j : Int) + 1) = false := by simpa using hown
          have hb2 : (inV c.moves p != (j : Int) + 1) = true := by simpa using hown
          clear hown
          go_wp2_with (first
            | (go_at_call 38; refine (tim_Set_to c A k B m _ (HC.out.mono (by repeat (first | exact Ext.refl _ | assumption | apply Ext.xt | apply Ext.alloc | apply Ext.drew | apply Ext.drewN))) _ t _ _ HD.out).mono ?_; rintro e w' ⟨A1, k1, B1, m1, he, hx, h1⟩; simp only [cueV] at he; subst he; have H1 := Lib.hid h1; obtain ⟨y1, rfl⟩ := hx.get; clear hx h1)
            | (go_at_call 30; refine (tim_Of _ _ _ _ _ p true _ (by first | exact H1.out.mono (by repeat (first | exact Ext.refl _ | assumption | apply Ext.xt | apply Ext.alloc | apply Ext.drew | apply Ext.drewN)) | exact HC.out.mono (by repeat (first | exact Ext.refl _ | assumption | apply Ext.xt | apply Ext.alloc | apply Ext.drew | apply Ext.drewN)))).mono ?_; rintro e w' ⟨rfl, hx⟩; obtain ⟨y, rfl⟩ := hx.get; clear hx)
            | (go_at_call 22; refine (tim_Time t p.attr true _).mono ?_; rintro e w' ⟨rfl, hx⟩; obtain ⟨y, rfl⟩ := hx.get; clear hx))
          go_light
          exact ⟨⟨j + 1, by omega, by go_num, by repeat (first | exact Ext.refl _ | assumption | apply Ext.xt | apply Ext.alloc | apply Ext.drew | apply Ext.drewN)⟩, by simp [intOf]; omega⟩
      · by_cases h44 : c.parts.length = 4
        · have HD := Lib.hid (show setV c ((c.parts.length : Int) + 1) t = (emptyC, 5) by have := HE.out; have := HT.out; unfold setV; simp [*])
          have hb : decide ((c.parts.length : Int) < 4) = false := by simp; omega
          clear h44
          go_wp2_with (first
            | (go_at_call 38; refine (tim_Set_to c A k B m _ (HC.out.mono (by repeat (first | exact Ext.refl _ | assumption | apply Ext.xt | apply Ext.alloc | apply Ext.drew | apply Ext.drewN))) _ t _ _ HD.out).mono ?_; rintro e w' ⟨A1, k1, B1, m1, he, hx, h1⟩; simp only [cueV, emptyC] at he; subst he; obtain ⟨y1, rfl⟩ := hx.get; clear hx h1)
            | (go_at_call 26; refine (l21_awake _).mono ?_; rintro e w' ⟨rfl, hx⟩; obtain ⟨y, rfl⟩ := hx.get; clear hx))
          go_ret
          exact ⟨rfl, by repeat (first | exact Ext.refl _ | assumption | apply Ext.xt | apply Ext.alloc | apply Ext.drew | apply Ext.drewN)⟩
        · obtain ⟨d, hd⟩ : ∃ d, d = { c with parts := c.parts ++ [t] } := ⟨_, rfl⟩
          have HD := Lib.hid (show setV c ((c.parts.length : Int) + 1) t = (d, 0) by have := HE.out; have := HT.out; rw [hd]; unfold setV; simp [*])
          have hdl : (d.parts.length : Int) = (c.parts.length : Int) + 1 := by rw [hd]; simp
          have hb : (c.parts.length : Int) < 4 := by omega
          clear hd h44
          go_wp2_with (first
            | (go_at_call 38; refine (tim_Set_to c A k B m _ (HC.out.mono (by repeat (first | exact Ext.refl _ | assumption | apply Ext.xt | apply Ext.alloc | apply Ext.drew | apply Ext.drewN))) _ t _ _ HD.out).mono ?_; rintro e w' ⟨A1, k1, B1, m1, he, hx, h1⟩; simp only [cueV] at he; subst he; obtain ⟨y1, rfl⟩ := hx.get; clear hx h1)
            | (go_at_call 26; refine (l21_awake _).mono ?_; rintro e w' ⟨rfl, hx⟩; obtain ⟨y, rfl⟩ := hx.get; clear hx))
          go_ret
          exact ⟨rfl, by repeat (first | exact Ext.refl _ | assumption | apply Ext.xt | apply Ext.alloc | apply Ext.drew | apply Ext.drewN)⟩
  · have HG := Lib.hid hG
    clear hG
    go_enter Try.func9, Try.ntmps9
    go_wp2_with (first
      | (go_at_call 36; refine (l21_good c A k B m _ (HC.out.mono (by repeat (first | exact Ext.refl _ | assumption | apply Ext.xt | apply Ext.alloc | apply Ext.drew | apply Ext.drewN)))).mono ?_; rintro e w' ⟨rfl, hx⟩; obtain ⟨y, rfl⟩ := hx.get; clear hx)
      | (go_at_call 25; refine (r21_Check t _).mono ?_; rintro e w' ⟨rfl, hx⟩; obtain ⟨y, rfl⟩ := hx.get; clear hx)
      | (go_at_call 37; refine (r15_Param p _).mono ?_; rintro e w' ⟨rfl, hx⟩; obtain ⟨y, rfl⟩ := hx.get; clear hx)
      | (go_at_call 26; refine (l21_awake _).mono ?_; rintro e w' ⟨rfl, hx⟩; obtain ⟨y, rfl⟩ := hx.get; clear hx))
    all_goals first
      | (go_ret; exact ⟨rfl, by repeat (first | exact Ext.refl _ | assumption | apply Ext.xt | apply Ext.alloc | apply Ext.drew | apply Ext.drewN)⟩)
      | exact absurd ⟨by assumption, by first | assumption | simpa using ‹(timingE t != 0) = false›, by simpa using ‹(paramE p != 0) = false›⟩ HG.out
end Go.Proofs.Ytgmicckeefoghaa
