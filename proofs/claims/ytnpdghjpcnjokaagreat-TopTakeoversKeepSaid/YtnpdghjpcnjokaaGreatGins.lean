import Derived.Lib.AppendZeros
import Derived.Test.YtnpdghjpcnjokaaGreatSet
import Derived.Lib.Overlaps
import Derived.Laws.Externs
namespace Go.Proofs.YtnpdghjpcnjokaaGreat
open Go.RowKit

section
variable {P : Program} {W : World}
end
end Go.Proofs.YtnpdghjpcnjokaaGreat

namespace Go.Proofs.YtnpdghjpcnjokaaGreat
open Go.RowKit
attribute [local go_sem ↓] Go.wp_at_zero Go.wp_at_succ

theorem Sl.dropped {w : World} {b o size : Nat} {rows : List (List Value)} (h : Sl w (some ⟨b,o,none⟩) size rows) (i : Nat) : Sl w (some ⟨b,o + i * size,none⟩) size (rows.drop i) :=
 ⟨fun j row hr => by
  rw [List.getElem?_drop] at hr
  obtain ⟨h1,b',o',h2,h3⟩:=h.at_ (i + j) row hr
  injection h2 with h2
  injection h2 with h2 h4
  subst h2 h4
  refine ⟨h1,b,o + i * size,rfl,fun q v hv => ?_⟩
  have:=h3 q v hv
  rwa [show o + (i + j) * size + q = o + i * size + j * size + q by rw [Nat.add_mul];omega] at this⟩
theorem Sl.block {w : World} {b : Nat} {E : TypeId} {size : Nat} {row : List Value} (hb : w.heap[b]? = some (.cells row.toArray E (0,0))) (h : row.length = size) : Sl w (some ⟨b,0,none⟩) size [row] :=
 ⟨fun i r hr => by
  cases i with
  | zero =>
   simp at hr
   subst hr
   exact ⟨h,b,0,rfl,fun j v hv => by simp [World.cell?,hb,hv]⟩
  | succ i => simp at hr⟩
def insAt (l : List Move) (i : Nat) (x : Move) : List Move:=l.take i ++ x :: l.drop i
def zzC (w0 w : World) (A : Option Addr) (rows : List (List Value)) (n : Nat) (e : Ending) (w' : World) : Prop :=
 ∃ A' k',e = .returned (.slice A' n k') ∧ Ext w0 w' ∧ Own w0 w' 283 5 A' n k' rows ∧ w.grownBy w' (A.map (·.block))

end Go.Proofs.YtnpdghjpcnjokaaGreat

namespace Go.Proofs.YtnpdghjpcnjokaaGreat
open Go.RowKit
attribute [local go_sem ↓] Go.wp_at_zero Go.wp_at_succ

theorem Sl.kept {w w' : World} {A : Option Addr} {size : Nat} {rows : List (List Value)} {row : Option Nat} (h : Sl w A size rows) (hg : w.grownBy w' row) (hne : ∀ a,A = some a → some a.block ≠ row) : Sl w' A size rows :=
 ⟨fun i r hr => by
  obtain ⟨h1,b,o,h2,h3⟩:=h.at_ i r hr
  exact ⟨h1,b,o,h2,fun j v hv => hg.cell (h3 j v hv) (show some b ≠ row from hne _ h2)⟩⟩

end Go.Proofs.YtnpdghjpcnjokaaGreat
