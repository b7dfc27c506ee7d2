import Derived.Test.YtgbecbnjokkfoaaRef5
import Derived.Test.YtgbecbnjokkfoaaEnt
namespace Go.Proofs.Ytgbecbnjokkfoaa
open Go.RowKit

def valuesL (l : List Move) : List Entry:=l.map fun m => ⟨m.p,m.v⟩
theorem valuesL_step {l : List Move} {j : Nat} {x : Move} (h : l[j]? = some x) : valuesL (l.take (j + 1)) = valuesL (l.take j) ++ [⟨x.p,x.v⟩]:=by
 obtain ⟨hk,hx⟩:=List.getElem?_eq_some_iff.1 h
 unfold valuesL
 rw [List.take_succ_eq_append_getElem hk,List.map_append,hx];rfl
theorem valuesL_len (l : List Move) : (valuesL l).length = l.length:=by simp [valuesL]
def entriesV (c : Cue) : List Entry × Int:=if cueE c ≠ 0 then ([],cueE c) else (valuesL c.moves,0)
def RetEntries (w : World) (R : List Entry × Int) (e : Ending) (w' : World) : Prop:=∃ A k,e = .returned (.tuple #[.slice A R.1.length k,.int .i64 R.2]) ∧ Ext w w' ∧ Sl w' A 4 (R.1.map en) ∧ R.1.length ≤ k ∧ k ≤ maxLen
theorem info_E : infoOk Try.prog 45 4 32 = true:=by kernel_rfl
theorem en_one (l : List Entry) : ∀ r ∈ l.map en,∀ u ∈ r,u.oneCell' = true:=fun r hr u hu => by
 obtain ⟨m,_,rfl⟩:=List.mem_map.1 hr
 simp [en] at hu
 rcases hu with rfl | rfl | rfl | rfl <;> rfl
theorem en_app (o : List Entry) (x : Entry) : o.map en ++ [en x] = (o ++ [x]).map en:=by simp

end Go.Proofs.Ytgbecbnjokkfoaa
