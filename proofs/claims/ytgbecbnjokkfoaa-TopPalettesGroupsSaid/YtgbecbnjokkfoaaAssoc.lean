import Derived.Test.YtgbecbnjokkfoaaPut
namespace Go.Proofs.Ytgbecbnjokkfoaa
open Go.RowKit

theorem sorted_ext : ∀ (a b : List Move),(a.Pairwise fun x y => before x.p y.p = true) → (b.Pairwise fun x y => before x.p y.p = true) → (∀ m,m ∈ a ↔ m ∈ b) → a = b
 | [],[],_,_,_ => rfl
 | [],y :: ys,_,_,h => absurd ((h y).2 (by simp)) (by simp)
 | x :: xs,[],_,_,h => absurd ((h x).1 (by simp)) (by simp)
 | x :: xs,y :: ys,ha,hb,h => by
  rw [List.pairwise_cons] at ha hb
  have hxy : x = y:=by
   rcases List.mem_cons.1 ((h x).1 (by simp)) with e | e
   ·exact e
   ·rcases List.mem_cons.1 ((h y).2 (by simp)) with e' | e'
    ·exact e'.symm
    ·have h1:=before_trans (hb.1 x e) (ha.1 y e')
     rw [before_irrefl] at h1;cases h1
  subst hxy
  congr 1
  refine sorted_ext xs ys ha.2 hb.2 fun m => ⟨fun hm => ?_,fun hm => ?_⟩
  ·rcases List.mem_cons.1 ((h m).1 (by simp [hm])) with e | e
   ·subst e;have h1:=ha.1 m hm;rw [before_irrefl] at h1;cases h1
   ·exact e
  ·rcases List.mem_cons.1 ((h m).2 (by simp [hm])) with e | e
   ·subst e;have h1:=hb.1 m hm;rw [before_irrefl] at h1;cases h1
   ·exact e
theorem mem_putL {l : List Move} {m x : Move} : x ∈ putL l m ↔ x = m ∨ (x ∈ l ∧ x.p ≠ m.p):=by
 unfold putL
 have hsplit:=List.takeWhile_append_dropWhile (p:=fun n : Move => before n.p m.p) (l:=l)
 constructor
 ·intro h
  rcases List.mem_append.1 h with h | h
  ·refine .inr ⟨(List.takeWhile_sublist _).subset h,fun e => ?_⟩
   have h1:=tw_mem _ _ x h
   rw [e,before_irrefl] at h1;cases h1
  ·rcases List.mem_cons.1 h with h | h
   ·exact .inl h
   ·obtain ⟨h1,h2⟩:=List.mem_filter.1 h
    exact .inr ⟨(List.dropWhile_sublist _).subset h1,by simpa using h2⟩
 ·rintro (rfl | ⟨h,hp⟩)
  ·simp
  ·rw [← hsplit] at h
   rcases List.mem_append.1 h with h | h
   ·exact List.mem_append.2 (.inl h)
   ·exact List.mem_append.2 (.inr (List.mem_cons.2 (.inr (List.mem_filter.2 ⟨h,by simpa using hp⟩))))
theorem mem_mergeL {x : Move} : ∀ {b a : List Move},(b.Pairwise fun x y => before x.p y.p = true) → (x ∈ mergeL a b ↔ x ∈ b ∨ (x ∈ a ∧ ∀ y ∈ b,y.p ≠ x.p))
 | [],a,_ => by simp [mergeL]
 | y :: ys,a,hb => by
  rw [List.pairwise_cons] at hb
  have ih:=mem_mergeL (x:=x) (b:=ys) (a:=putL a y) hb.2
  have hm : mergeL a (y :: ys) = mergeL (putL a y) ys:=rfl
  rw [hm,ih,mem_putL]
  constructor
  ·rintro (h | ⟨rfl | ⟨h,hp⟩,hz⟩)
   ·exact .inl (by simp [h])
   ·exact .inl (by simp)
   ·refine .inr ⟨h,fun z hz' => ?_⟩
    rcases List.mem_cons.1 hz' with rfl | h2
    ·exact fun e => hp e.symm
    ·exact hz z h2
  ·rintro (h | ⟨h,hz⟩)
   ·rcases List.mem_cons.1 h with rfl | h
    ·refine .inr ⟨.inl rfl,fun z hz e => ?_⟩
     have h1:=hb.1 z hz
     rw [e,before_irrefl] at h1;cases h1
    ·exact .inl h
   ·exact .inr ⟨.inr ⟨h,fun e => hz y (by simp) e.symm⟩,fun z h2 => hz z (by simp [h2])⟩
theorem mergeL_assoc {a b c : List Move} (ha : okM a) (hb : okM b) (hc : okM c) : mergeL (mergeL a b) c = mergeL a (mergeL b c):=by
 have hab:=mergeL_ok ha hb.1
 have hbc:=mergeL_ok hb hc.1
 refine sorted_ext _ _ (mergeL_ok hab hc.1).2 (mergeL_ok ha hbc.1).2 fun x => ?_
 rw [mem_mergeL hc.2,mem_mergeL hb.2,mem_mergeL hbc.2,mem_mergeL hc.2]
 constructor
 ·rintro (h | ⟨h | ⟨h,h1⟩,h2⟩)
  ·exact .inl (.inl h)
  ·exact .inl (.inr ⟨h,h2⟩)
  ·refine .inr ⟨h,fun y hy => ?_⟩
   rcases (mem_mergeL hc.2).1 hy with h3 | ⟨h3,_⟩
   ·exact h2 y h3
   ·exact h1 y h3
 ·rintro ((h | ⟨h,h1⟩) | ⟨h,h1⟩)
  ·exact .inl h
  ·exact .inr ⟨.inl h,h1⟩
  ·have h2 : ∀ z ∈ c,z.p ≠ x.p:=fun z hz => h1 z ((mem_mergeL hc.2).2 (.inl hz))
   refine .inr ⟨.inr ⟨h,fun y hy e => ?_⟩,h2⟩
   exact h1 y ((mem_mergeL hc.2).2 (.inr ⟨hy,fun z hz e' => h2 z hz (e'.trans e)⟩)) e
theorem mergeL_self {a : List Move} (ha : okM a) : mergeL a a = a :=
 sorted_ext _ _ (mergeL_ok ha ha.1).2 ha.2 fun x => by rw [mem_mergeL ha.2];exact ⟨fun h => h.elim id (·.1),.inl⟩
theorem mergeL_nil {a : List Move} (ha : okM a) : mergeL [] a = a:=by
 have h0 : okM ([] : List Move):=⟨by simp,List.Pairwise.nil⟩
 exact sorted_ext _ _ (mergeL_ok h0 ha.1).2 ha.2 fun x => by rw [mem_mergeL ha.2];simp
theorem movesE_of_ok {l : List Move} (h : okM l) (hl : l.length ≤ 128) : movesE l = 0:=by
 unfold movesE;rw [if_neg (by omega)];exact (okM_iff l).2 h
theorem movesE_ok {l : List Move} (h : movesE l = 0) : okM l:=by
 unfold movesE at h
 split at h
 ·omega
 ·exact (okM_iff l).1 h
theorem mergeV_ok {a b : List Move} (ha : movesE a = 0) (hb : movesE b = 0) (hl : a.length + b.length ≤ 128) : mergeV a b = (mergeL a b,0) ∧ movesE (mergeL a b) = 0 ∧ (mergeL a b).length ≤ a.length + b.length:=by
 have h1:=mergeL_len a b
 refine ⟨?_,movesE_of_ok (mergeL_ok (movesE_ok ha) (movesE_ok hb).1) (by omega),h1⟩
 unfold mergeV mergedV
 rw [if_neg (by simpa using ha),if_neg (by simpa using hb),if_neg (by omega)]
end Go.Proofs.Ytgbecbnjokkfoaa
