import Derived.Test.YtgbecbnjokkfoaaDrop
import Derived.Test.YtgbecbnjokkfoaaTim7
namespace Go.Proofs.Ytgbecbnjokkfoaa
open Go.RowKit

theorem place_hit {l : List Move} (h : scan moveE none l = 0) {j : Nat} {m : Move} (hm : l[j]? = some m) {p : Param} (hp : m.p = p) : posP l p = j ∧ foundP l p = true:=by
 subst hp
 have h1 : ¬ j < posP l m.p:=fun hlt => by
  have:=(posP_iff h m.p hm).2 hlt
  rw [before_irrefl] at this;cases this
 have h2 : posP l m.p = j:=by
  rcases Nat.lt_or_ge (posP l m.p) j with h3 | h3
  ·obtain ⟨hil,_⟩:=List.getElem?_eq_some_iff.1 hm
   obtain ⟨x,hx⟩ : ∃ x,l[posP l m.p]? = some x:=⟨_,List.getElem?_eq_getElem (by omega)⟩
   have h4:=movesOk_lt h (j - posP l m.p - 1) (posP l m.p) _ m hx (by rw [show posP l m.p + (j - posP l m.p - 1) + 1 = j by omega];exact hm)
   have h5:=(posP_iff h m.p hx).1 h4
   omega
  ·omega
 refine ⟨h2,?_⟩
 unfold foundP
 rw [h2,hm]
 simp
theorem place_miss {l : List Move} {p : Param} (h : l.all (fun m => !decide (m.p = p)) = true) : foundP l p = false:=by
 unfold foundP
 split
 ·rename_i m hm
  have:=(List.all_eq_true.1 h) m (List.mem_of_getElem? hm)
  simpa using this
 ·rfl
def placeI (l : List Move) (p : Param) : Int:=if foundP l p then (posP l p : Int) else -1

end Go.Proofs.Ytgbecbnjokkfoaa
