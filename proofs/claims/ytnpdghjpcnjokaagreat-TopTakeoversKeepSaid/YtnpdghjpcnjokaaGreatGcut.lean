import Derived.Test.YtnpdghjpcnjokaaGreatBase
namespace Go.Proofs.YtnpdghjpcnjokaaGreat
open Go.RowKit

def zf6 (o : Oper) : Oper:={ o with after:=#[] }
section
variable {P : Program} {ops : Array Oper} {Q : Exit → Act → World → Prop}
theorem zud (tmps : Array Value) : yielded (ops.map zf6) tmps = yielded ops tmps:=by
 funext j
 unfold yielded
 rw [Array.getElem?_map]
 cases ops[j]? <;> rfl
theorem zso (ρ : Operand → Value) (o : Oper) : execOp ρ (zf6 o) = execOp ρ o:=by cases o;rfl
theorem strip_wp (o : Oper) (a : Act) (w : World) (K : Act → World → Prop) : (zf6 o).wp P a w K Q = o.wp P a w K Q:=by
 unfold Oper.wp
 rw [zso]
 rfl
theorem zC7 (o : Oper) (a : Act) (w : World) : (zf6 o).asks P a w = o.asks P a w:=by
 unfold Oper.asks
 rw [zso]
theorem zn9 : ∀ (l : List Oper),wpList P (ops.map zf6) Q (l.map zf6) = wpList P ops Q l
 | [] => rfl
 | o :: l => by
  funext a w
  rw [List.map_cons,wpList,wpList,zud,zn9 l,strip_wp,zC7]
  rfl
theorem zbf {id : Nat} {a : Act} {w : World} {l l' : List Oper} (hl : l.map zf6 = l') (h : wpList P l'.toArray Q l' a w) : (Code.region id l.toArray false).wp P Q a w:=by
 refine wp_region_lit ?_
 rw [← zn9 (ops:=l.toArray) l,List.map_toArray,hl]
 exact h
end
end Go.Proofs.YtnpdghjpcnjokaaGreat

namespace Go.Proofs.YtnpdghjpcnjokaaGreat

section
variable {P : Program} {ops : Array Oper} {Q : Exit → Act → World → Prop}
def CutQ (R : Act → World → Prop) (e : Exit) (a : Act) (w : World) : Prop:=e = .normal ∧ R a w
end
end Go.Proofs.YtnpdghjpcnjokaaGreat
