import Derived.Test.YtgbecbnjokkfoaaEq
namespace Go.Proofs.Ytgbecbnjokkfoaa
open Go.RowKit

theorem eqM_def (m n : Move) : eqM ⟨⟨m.p.ch,m.p.attr⟩,⟨m.v.pal,m.v.lev⟩,m.part⟩ ⟨⟨n.p.ch,n.p.attr⟩,⟨n.v.pal,n.v.lev⟩,n.part⟩ = decide (m = n):=rfl
theorem eqT_def (m n : Timing) : eqT ⟨m.up,m.down,m.pos,m.col,m.beam,m.del⟩ ⟨n.up,n.down,n.pos,n.col,n.beam,n.del⟩ = decide (m = n):=rfl
theorem same_step {α : Type} {l l' : List α} {k : Nat} {m m' : α} (h : l[k]? = some m) (h' : l'[k]? = some m') (he : m = m') (hk : l.take k = l'.take k) : l.take (k + 1) = l'.take (k + 1):=by
 obtain ⟨h1,h2⟩:=List.getElem?_eq_some_iff.1 h
 obtain ⟨h3,h4⟩:=List.getElem?_eq_some_iff.1 h'
 rw [List.take_succ_eq_append_getElem h1,List.take_succ_eq_append_getElem h3,hk,h2,h4,he]
theorem same_not {α : Type} {l l' : List α} {k : Nat} {m m' : α} (h : l[k]? = some m) (h' : l'[k]? = some m') (he : m ≠ m') : l ≠ l':=fun e => by
 rw [e,h'] at h;injection h with h;exact he h.symm

end Go.Proofs.Ytgbecbnjokkfoaa

namespace Go.Proofs.Ytgbecbnjokkfoaa
open Go.RowKit
theorem cue_eq (a b : Cue) : (a.number = b.number ∧ a.label = b.label ∧ a.block = b.block ∧ a.mark = b.mark ∧ a.follow = b.follow ∧ a.link = b.link ∧ a.loops = b.loops ∧ a.moves = b.moves ∧ a.parts = b.parts) ↔ a = b:=by
 cases a;cases b;simp only [Cue.mk.injEq];constructor <;> (intro h;simp only [h,and_self])
instance : DecidableEq Cue:=fun a b => decidable_of_iff _ (cue_eq a b)
theorem bytes_ext {a b : ByteArray} (h : a.toList = b.toList) : a = b :=
 ByteArray.ext (Array.ext' (by rw [← Lib.toList_data,← Lib.toList_data];exact h))

end Go.Proofs.Ytgbecbnjokkfoaa
