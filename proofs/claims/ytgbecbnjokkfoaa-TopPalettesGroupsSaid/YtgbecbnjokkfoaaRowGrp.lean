import Derived.Test.YtgbecbnjokkfoaaRow2
import Derived.Test.YtgbecbnjokkfoaaGrp1
namespace Go.Proofs.Ytgbecbnjokkfoaa
set_option maxRecDepth 100000
open Go.ChangeShapes Go.WideShapes Go.ChangeAt Go.RowKit Go.Joins Go.Deep

section
variable {H : Type} {enc : TypeId × Value → H} {w : World} {base : Nat} {spare : Nat → Bool} {held : Bool} {r : Reach} {b0 : Nat} {v : Value} {d : DataW H} {p : List MemPlace}
theorem open_ivs {m : Nat} {c : Value} {y : DataW H × List MemPlace} (h : DataW.trod enc Try.prog w base spare held m 22 [c] = some y) :
  ∃ (A : Option Addr) (k : Nat) (l : List Int),c = .slice A l.length k ∧ l.length ≤ k ∧ k ≤ maxLen ∧ Sl w A 1 (l.map iv):=by
 obtain ⟨A,len,cap,hc,h1,h2,h3⟩:=open_rows (n:=5) (ts:=[3]) Try.underlying22 (by kernel_rfl) (by kernel_rfl) (by decide) h
 injection hc with hc
 subst hc
 obtain ⟨l,rfl,hs⟩:=rows_list (w:=w) (A:=A) (len:=len) (size:=1) iv (fun i hi => by
  obtain ⟨b,o,row,hA,hl,hcell,hg⟩:=h3 i hi
  obtain ⟨c0,m0,y0,e0,g0⟩:=hg 0 _ rfl
  obtain ⟨z0,rfl,_⟩:=open_i64 Try.underlying3 g0
  have hrow:=list_of_get (iv z0) hl rfl (fun j hj => by
   match j,hj with
   | 0,_ => exact e0)
  subst hrow
  exact ⟨_,b,o,hA,rfl,hcell⟩)
 exact ⟨A,cap,l,rfl,h1,h2,hs⟩
theorem open_group (hv : Value.okWide Try.prog w r b0 24 v) (h : DataW.Trod enc Try.prog w base spare held 24 v d p) : ∃ (n : Int) (A : Option Addr) (k : Nat) (l : List Int),v = .agg #[.int .i64 n,.slice A l.length k] ∧ Sl w A 1 (l.map iv) ∧ l.length ≤ k ∧ k ≤ maxLen:=by
 obtain ⟨row,rfl,hl,hg⟩:=open_flat (n:=5) (ts:=[3,22]) Try.underlying24 (by kernel_rfl) hv h
 obtain ⟨c0,m0,y0,e0,g0⟩:=hg 0 _ rfl
 obtain ⟨c1,m1,y1,e1,g1⟩:=hg 1 _ rfl
 obtain ⟨z0,rfl,-⟩:=open_i64 Try.underlying3 g0
 obtain ⟨A,k,l,rfl,h1,h2,hs⟩:=open_ivs g1
 refine ⟨z0,A,k,l,?_,hs,h1,h2⟩
 rw [list_of_get [.int .i64 z0,.slice A l.length k] hl rfl (fun j hj => by
  match j,hj with
  | 0,_ => exact e0
  | 1,_ => exact e1)]
end
end Go.Proofs.Ytgbecbnjokkfoaa
