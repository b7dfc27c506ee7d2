import Derived.Test.YtgbecbnjokkfoaaTim5
import Derived.Test.YtgbecbnjokkfoaaTail
namespace Go.Proofs.Ytgbecbnjokkfoaa
open Go.RowKit

@[go_sem high] theorem max_2 {P : Program} (ts : Array TypeId) (t : TypeId) (k k' : IntKind) (x y : Int) (w : World) : (Builtin.max_ ts t #[.int k x,.int k' y]).run P w = .ok (.int k (max x y)) w:=by
 rw [run_max_int2];congr 2;grind
@[go_sem high] theorem min_2 {P : Program} (ts : Array TypeId) (t : TypeId) (k k' : IntKind) (x y : Int) (w : World) : (Builtin.min_ ts t #[.int k x,.int k' y]).run P w = .ok (.int k (min x y)) w:=by
 rw [run_min_int2];congr 2;grind
@[go_sem high] theorem max_5 {P : Program} (ts : Array TypeId) (t : TypeId) (k : IntKind) (a b c d e : Int) (w : World) : (Builtin.max_ ts t #[.int k a,.int k b,.int k c,.int k d,.int k e]).run P w = .ok (.int k (max (max (max (max a b) c) d) e)) w:=by
 simp [Builtin.max_,Builtin.max2]
 grind
theorem val_i {k : IntKind} {a b : Int} (h : a = b) : Value.int k a = Value.int k b:=by rw [h]
def most (t : Timing) : Int:=max (max (max (max t.up t.down) t.pos) t.col) t.beam
def total (l : List Timing) : Int:=l.foldl (fun m t => max m (t.del + most t)) 0
def totalV (c : Cue) : Int × Int:=if cueE c ≠ 0 then (0,cueE c) else (total c.parts,0)

theorem total_step {l : List Timing} {k : Nat} {t : Timing} (h : l[k]? = some t) : total (l.take (k + 1)) = max (total (l.take k)) (t.del + most t):=by
 unfold total
 rw [List.take_add_one,h,List.foldl_append]
 rfl
theorem timing_in {t : Timing} (h : timingE t = 0) : (0 ≤ t.up ∧ t.up ≤ 10000000) ∧ (0 ≤ t.down ∧ t.down ≤ 10000000) ∧ (0 ≤ t.pos ∧ t.pos ≤ 10000000) ∧ (0 ≤ t.col ∧ t.col ≤ 10000000) ∧ (0 ≤ t.beam ∧ t.beam ≤ 10000000) ∧ (0 ≤ t.del ∧ t.del ≤ 10000000):=by
 have h1 : timingOk t = true:=by
  unfold timingE at h
  split at h
  ·assumption
  ·omega
 simp only [timingOk,isTime,Bool.and_eq_true,decide_eq_true_eq] at h1
 omega
theorem total_in (l : List Timing) (h : ∀ t ∈ l,timingE t = 0) : 0 ≤ total l ∧ total l ≤ 20000000:=by
 unfold total
 suffices H : ∀ (l : List Timing) (a : Int),(∀ t ∈ l,timingE t = 0) → 0 ≤ a → a ≤ 20000000 → 0 ≤ l.foldl (fun m t => max m (t.del + most t)) a ∧ l.foldl (fun m t => max m (t.del + most t)) a ≤ 20000000 from H l 0 h (by omega) (by omega)
 intro l
 induction l with
 | nil => intro a _ h1 h2;exact ⟨h1,h2⟩
 | cons t l ih =>
  intro a hl h1 h2
  have ht:=timing_in (hl t (by simp))
  unfold most at ih
  simp only [List.foldl_cons,most]
  exact ih _ (fun x hx => hl x (by simp [hx])) (by omega) (by omega)

section
variable (c : Cue) (A : Option Addr) (k : Nat) (B : Option Addr) (m : Nat) (w : World) (hc : CueAt w c A k B m)
include hc
end
end Go.Proofs.Ytgbecbnjokkfoaa

namespace Go.Proofs.Ytgbecbnjokkfoaa
open Go.RowKit

def scl (v p : Int) : Int:=min ((200 * v + p) / (2 * p)) 10000000
def scaleT (t : Timing) (p : Int) : Timing:=⟨scl t.up p,scl t.down p,scl t.pos p,scl t.col p,scl t.beam p,scl t.del p⟩
def scaleV (t : Timing) (p : Int) : Timing × Int:=if timingE t ≠ 0 then (emptyT,timingE t) else if p < 1 ∨ 400 < p then (emptyT,2) else (scaleT t p,0)

end Go.Proofs.Ytgbecbnjokkfoaa
