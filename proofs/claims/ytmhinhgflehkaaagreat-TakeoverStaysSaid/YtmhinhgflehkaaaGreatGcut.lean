/-
 A long region in a fixed order: the edges of its operations play no part; without them the walk is light.
-/
import Derived.Test.YtmhinhgflehkaaaGreatBase
namespace Go.Proofs.YtmhinhgflehkaaaGreat
open Go.RowKit

def stripO (o : Oper) : Oper := { o with after := #[] }
section
variable {P : Program} {ops : Array Oper} {Q : Exit → Act → World → Prop}
theorem strip_yielded (tmps : Array Value) : yielded (ops.map stripO) tmps = yielded ops tmps := by
 funext j
 unfold yielded
 rw [Array.getElem?_map]
 cases ops[j]? <;> rfl
theorem strip_exec (ρ : Operand → Value) (o : Oper) : execOp ρ (stripO o) = execOp ρ o := by cases o; rfl
theorem strip_wp (o : Oper) (a : Act) (w : World) (K : Act → World → Prop) : (stripO o).wp P a w K Q = o.wp P a w K Q := by
 unfold Oper.wp
 rw [strip_exec]
 rfl
theorem strip_asks (o : Oper) (a : Act) (w : World) : (stripO o).asks P a w = o.asks P a w := by
 unfold Oper.asks
 rw [strip_exec]
theorem wpList_strip : ∀ (l : List Oper), wpList P (ops.map stripO) Q (l.map stripO) = wpList P ops Q l
 | [] => rfl
 | o :: l => by
  funext a w
  rw [List.map_cons, wpList, wpList, strip_yielded, wpList_strip l, strip_wp, strip_asks]
  rfl
theorem wp_region_strip {id : Nat} {a : Act} {w : World} {l l' : List Oper} (hl : l.map stripO = l') (h : wpList P l'.toArray Q l' a w) : (Code.region id l.toArray false).wp P Q a w := by
 refine wp_region_lit ?_
 rw [← wpList_strip (ops := l.toArray) l, List.map_toArray, hl]
 exact h
end
end Go.Proofs.YtmhinhgflehkaaaGreat

/-
 A region in a fixed order, walked in pieces: what stands between them says what is read later.
-/
namespace Go.Proofs.YtmhinhgflehkaaaGreat

section
variable {P : Program} {ops : Array Oper} {Q : Exit → Act → World → Prop}
def CutQ (R : Act → World → Prop) (e : Exit) (a : Act) (w : World) : Prop := e = .normal ∧ R a w
end
end Go.Proofs.YtmhinhgflehkaaaGreat
