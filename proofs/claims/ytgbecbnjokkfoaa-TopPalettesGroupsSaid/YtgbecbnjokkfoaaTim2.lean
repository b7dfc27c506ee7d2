import Derived.Test.YtgbecbnjokkfoaaTim1
namespace Go.Proofs.Ytgbecbnjokkfoaa
open Go.RowKit

def KeepT (T : Nat) (A B : World) : Prop:=∀ v,A.cell? ⟨T,0,none⟩ = some v → B.cell? ⟨T,0,none⟩ = some v
theorem abides_ext {β : Type} {B : Nat} {J : β → World → Prop} (h : AbidesFrom B J) {s : β} {W W' : World} (hj : J s W) (hx : Ext W W') : J s W' :=
 h s W W' none hj ⟨hx.os,hx.tape,hx.output,hx.size,fun k hk _ => hx.block k hk⟩ (fun r e => by cases e)
def seq6 : List (Fin 6):=[0,2,3,4,1,5]

end Go.Proofs.Ytgbecbnjokkfoaa

namespace Go.Proofs.Ytgbecbnjokkfoaa
open Go.RowKit
attribute [local go_sem] Oper.semAt_some

theorem timing_nth (b : Nat) (t : Timing) (w : World) (h0 : w.cell? ⟨b,0,none⟩ = some (.int .i64 t.up)) (h1 : w.cell? ⟨b,1,none⟩ = some (.int .i64 t.down)) (h2 : w.cell? ⟨b,2,none⟩ = some (.int .i64 t.pos)) (h3 : w.cell? ⟨b,3,none⟩ = some (.int .i64 t.col)) (h4 : w.cell? ⟨b,4,none⟩ = some (.int .i64 t.beam)) (h5 : w.cell? ⟨b,5,none⟩ = some (.int .i64 t.del))
  (k : Nat) (hk : k < 6) : w.cell? ⟨b,k,none⟩ = some (.int .i64 (tnth t k)):=by
 rcases (by omega : k = 0 ∨ k = 1 ∨ k = 2 ∨ k = 3 ∨ k = 4 ∨ k = 5) with rfl | rfl | rfl | rfl | rfl | rfl
 all_goals assumption
theorem ownFrom_ext {β : Type} {B : Nat} (w0 : World) (hB : w0.heap.size ≤ B) (p : β → Prop) : OwnFrom B (fun s W => Ext w0 W ∧ p s) :=
 fun _ _ _ _ hs hg hr => ⟨hs.1.trans_own hg (fun k e => Nat.le_trans hB (hr k e).1),hs.2⟩
theorem seq6_all (t : Timing) (h : ∀ x ∈ seq6,isTime (tnth t x.val) = true) : timingOk t = true:=by
 rw [timingOk_nth]
 intro k hk
 exact h ⟨k,hk⟩ (by
  have hall : ∀ x : Fin 6,x ∈ seq6:=by decide
  exact hall _)

end Go.Proofs.Ytgbecbnjokkfoaa
