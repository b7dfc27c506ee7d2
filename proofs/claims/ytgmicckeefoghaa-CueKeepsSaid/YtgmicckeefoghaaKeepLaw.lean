/-
  What was set is found; dropping it leaves the other moves: plain.
-/
import Derived.Test.YtgmicckeefoghaaCSet
import Derived.Test.YtgmicckeefoghaaAssoc
import Derived.Test.YtgmicckeefoghaaRef5
namespace Go.Proofs.Ytgmicckeefoghaa
open Go.RowKit

theorem given_get {es : List Entry} {part : Int} {k : Nat} {x : Move} (h : (givenM es part)[k]? = some x) : ∃ e, es[k]? = some e ∧ x = ⟨e.p, e.v, part⟩ := by
  unfold givenM at h
  rw [List.getElem?_map] at h
  cases he : es[k]? with
  | none => rw [he] at h; cases h
  | some e => rw [he] at h; injection h with h; exact ⟨e, rfl, h.symm⟩
theorem given_at {es : List Entry} {part : Int} {k : Nat} {e : Entry} (h : es[k]? = some e) : (givenM es part)[k]? = some ⟨e.p, e.v, part⟩ := by
  unfold givenM; rw [List.getElem?_map, h]; rfl
theorem given_okM {es : List Entry} (h : entriesE es = 0) {part : Int} (h1 : 1 ≤ part) (h4 : part ≤ 4) : okM (givenM es part) := by
  refine (okM_iff _).1 (scan_zero moveE _ fun k x hx => ?_)
  have hm := given_ok h h1 h4 x (List.mem_of_getElem? hx)
  obtain ⟨e, he, rfl⟩ := given_get hx
  have hl : scan entryE none es = 0 := by
    unfold entriesE at h
    split at h
    · omega
    · exact h
  have hs := scan_ok entryE es hl k e he
  unfold moveE
  rw [if_neg (by omega)]
  unfold entryE at hs
  split at hs
  · contradiction
  · unfold prv at hs ⊢
    by_cases hk : k = 0
    · simp [hk]
    · rw [if_neg hk] at hs ⊢
      cases hp : es[k - 1]? with
      | none =>
        have : (givenM es part)[k - 1]? = none := by unfold givenM; rw [List.getElem?_map, hp]; rfl
        rw [this]
      | some n =>
        rw [hp] at hs
        rw [given_at hp]
        exact hs
theorem cueE_moves {c : Cue} (h : cueE c = 0) {l : List Move} (hl : movesE l = 0) (hp : ∀ m ∈ l, m.part ≤ (c.parts.length : Int)) : cueE { c with moves := l } = 0 := by
  obtain ⟨e1, e2, e3, e4, e5⟩ := cueE_ok h
  have hn : nextE { c with moves := l } = nextE c := rfl
  have h2 : timesE c.parts = 0 := by
    unfold partsE at e4
    split at e4
    · rename_i h0; exact absurd e4 h0
    · rename_i h0; simpa using h0
  have hq : partsE { c with moves := l } = 0 := by
    have h3 : (l.any fun m => decide ((c.parts.length : Int) < m.part)) = false := by
      rw [List.any_eq_false]
      intro m hm
      have := hp m hm
      simp only [decide_eq_true_eq]; omega
    unfold partsE
    simp only [h2, h3]
    simp
  unfold cueE
  simp only [e1, e2, hl, hq, hn, e5]
  simp
section
variable {c : Cue} (h : cueE c = 0) {es : List Entry} (he : entriesE es = 0) {k : Int} (h1 : 1 ≤ k) (h2 : k ≤ (c.parts.length : Int)) (hm : c.moves.length ≤ 60) (hl : es.length ≤ 40)
include h he h1 h2 hm hl
omit h he h1 h2 in
theorem keep_len : (mergeL c.moves (givenM es k)).length ≤ 100 := by
  have := mergeL_len c.moves (givenM es k)
  have h3 : (givenM es k).length = es.length := by simp [givenM]
  omega
omit hm hl in
theorem keep_given : okM (givenM es k) := by
  have := (parts_len h).2
  exact given_okM he h1 (by omega)
omit hm hl in
theorem keep_okM : okM (mergeL c.moves (givenM es k)) := mergeL_ok (movesE_ok (cueE_ok h).2.2.1) (keep_given h he h1 h2).1
theorem keep_set : csetV c es k = ({ c with moves := mergeL c.moves (givenM es k) }, 0) := by
  have hlen := keep_len (k := k) hm hl
  unfold csetV mergedV
  rw [if_neg (by simpa using h), if_neg (by simpa using he), if_neg (by omega), if_neg (show ¬ 128 < (mergeL c.moves (givenM es k)).length by omega)]
  simp
theorem keep_ok : cueE { c with moves := mergeL c.moves (givenM es k) } = 0 := by
  have hlen := keep_len (k := k) hm hl
  have hg := keep_given h he h1 h2
  refine cueE_moves h (movesE_of_ok (keep_okM h he h1 h2) (by omega)) fun m hm' => ?_
  rcases (mem_mergeL hg.2).1 hm' with h3 | ⟨h3, _⟩
  · obtain ⟨e, _, rfl⟩ := List.mem_map.1 h3
    exact h2
  · have h4 := (cueE_ok h).2.2.2.1
    unfold partsE at h4
    split at h4
    · rename_i h0; exact absurd h4 h0
    · split at h4
      · simp at h4
      · rename_i h5
        have h6 : (c.moves.any fun m => decide ((c.parts.length : Int) < m.part)) = false := by simpa using h5
        have := (List.any_eq_false.1 h6) m h3
        simpa using this
theorem keep_found {x : Entry} (hx : x ∈ es) : ∃ j : Nat, (mergeL c.moves (givenM es k))[j]? = some ⟨x.p, x.v, k⟩ ∧ findV { c with moves := mergeL c.moves (givenM es k) } x.p = ((j : Int), true, 0) := by
  have hg := keep_given h he h1 h2
  have hmem : (⟨x.p, x.v, k⟩ : Move) ∈ mergeL c.moves (givenM es k) := (mem_mergeL hg.2).2 (.inl (List.mem_map.2 ⟨x, hx, rfl⟩))
  obtain ⟨j, hj⟩ := List.getElem?_of_mem hmem
  have hp := place_hit ((okM_iff _).2 (keep_okM h he h1 h2)) hj (p := x.p) rfl
  have hpe : paramE x.p = 0 := by
    have := (entries_ok he).2 x hx
    unfold entryE1 at this
    by_cases h3 : paramE x.p = 0
    · exact h3
    · simp [h3] at this
  refine ⟨j, hj, ?_⟩
  unfold findV
  rw [keep_ok h he h1 h2 hm hl, hpe]
  simp [hp.1, hp.2]
omit hm hl in
theorem keep_drop : dropM (mergeL c.moves (givenM es k)) (es.map (·.p)) = dropM c.moves (es.map (·.p)) := by
  have hg := keep_given h he h1 h2
  have hmem : ∀ m ∈ givenM es k, hasP (es.map (·.p)) m.p = true := fun m hm' => by
    obtain ⟨e, h3, rfl⟩ := List.mem_map.1 hm'
    unfold hasP
    rw [List.any_eq_true]
    exact ⟨e.p, List.mem_map.2 ⟨e, h3, rfl⟩, by simp⟩
  refine sorted_ext _ _ ((keep_okM h he h1 h2).2.sublist List.filter_sublist) ((movesE_ok (cueE_ok h).2.2.1).2.sublist List.filter_sublist) fun m => ?_
  unfold dropM
  rw [List.mem_filter, List.mem_filter, mem_mergeL hg.2]
  constructor
  · rintro ⟨h3 | ⟨h3, _⟩, h4⟩
    · simp only [hmem m h3] at h4; cases h4
    · exact ⟨h3, h4⟩
  · rintro ⟨h3, h4⟩
    refine ⟨.inr ⟨h3, fun y hy e => ?_⟩, h4⟩
    have := hmem y hy
    rw [e] at this
    simp only [this] at h4; cases h4
omit h h1 h2 hm in
theorem keep_params : paramsE (es.map (·.p)) = 0 := by
  unfold paramsE
  rw [if_neg (by simp; omega), if_pos]
  rw [List.all_eq_true]
  intro p hp
  obtain ⟨x, hx, rfl⟩ := List.mem_map.1 hp
  have := (entries_ok he).2 x hx
  unfold entryE1 at this
  by_cases h3 : paramE x.p = 0
  · simpa using h3
  · simp [h3] at this
theorem keep_less : dropV { c with moves := mergeL c.moves (givenM es k) } (es.map (·.p)) = ({ c with moves := dropM c.moves (es.map (·.p)) }, 0) := by
  unfold dropV
  rw [keep_ok h he h1 h2 hm hl, keep_params he hl, keep_drop h he h1 h2]
  simp
omit h1 h2 hm in
theorem keep_old : dropV c (es.map (·.p)) = ({ c with moves := dropM c.moves (es.map (·.p)) }, 0) := by
  unfold dropV
  rw [h, keep_params he hl]
  simp
end
end Go.Proofs.Ytgmicckeefoghaa
