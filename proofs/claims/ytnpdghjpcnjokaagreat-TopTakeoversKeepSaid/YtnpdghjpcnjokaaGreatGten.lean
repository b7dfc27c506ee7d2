import Derived.Test.YtnpdghjpcnjokaaGreatGtim
import Derived.Test.YtnpdghjpcnjokaaGreatGtail
namespace Go.Proofs.YtnpdghjpcnjokaaGreat
open Go.RowKit

@[go_sem high] theorem max_2 {P : Program} (ts : Array TypeId) (t : TypeId) (k k' : IntKind) (x y : Int) (w : World) : (Builtin.max_ ts t #[.int k x,.int k' y]).run P w = .ok (.int k (max x y)) w:=by
 rw [run_max_int2];congr 2;grind
@[go_sem high] theorem min_2 {P : Program} (ts : Array TypeId) (t : TypeId) (k k' : IntKind) (x y : Int) (w : World) : (Builtin.min_ ts t #[.int k x,.int k' y]).run P w = .ok (.int k (min x y)) w:=by
 rw [run_min_int2];congr 2;grind
@[go_sem high] theorem max_5 {P : Program} (ts : Array TypeId) (t : TypeId) (k : IntKind) (a b c d e : Int) (w : World) : (Builtin.max_ ts t #[.int k a,.int k b,.int k c,.int k d,.int k e]).run P w = .ok (.int k (max (max (max (max a b) c) d) e)) w:=by
 simp [Builtin.max_,Builtin.max2]
 grind
def most (t : Timing) : Int:=max (max (max (max t.up t.down) t.pos) t.col) t.beam
def total (l : List Timing) : Int:=l.foldl (fun m t => max m (t.del + most t)) 0
def zee (c : Cue) : Int × Int:=if cueE c ≠ 0 then (0,cueE c) else (total c.parts,0)

section
variable (c : Cue) (A : Option Addr) (k : Nat) (B : Option Addr) (m : Nat) (w : World) (hc : CueAt w c A k B m)
include hc
end
end Go.Proofs.YtnpdghjpcnjokaaGreat

namespace Go.Proofs.YtnpdghjpcnjokaaGreat
open Go.RowKit

def scl (v p : Int) : Int:=min ((200 * v + p) / (2 * p)) 10000000
def zim (t : Timing) (p : Int) : Timing:=⟨scl t.up p,scl t.down p,scl t.pos p,scl t.col p,scl t.beam p,scl t.del p⟩
def zbx (t : Timing) (p : Int) : Timing × Int:=if zam t ≠ 0 then (zfc,zam t) else if p < 1 ∨ 400 < p then (zfc,2) else (zim t p,0)

end Go.Proofs.YtnpdghjpcnjokaaGreat

namespace Go.Proofs.YtnpdghjpcnjokaaGreat
open Go.RowKit
attribute [local go_sem] Oper.semAt_some

def putT (t : Timing) (k : Nat) (v : Int) : Timing :=
 match k with
 | 0 => { t with up:=v }
 | 1 => { t with down:=v }
 | 2 => { t with pos:=v }
 | 3 => { t with col:=v }
 | 4 => { t with beam:=v }
 | _ => { t with del:=v }
def stT (t : Timing) (p : Int) (pre : List (Fin 6)) : Timing:=pre.foldl (fun s x => putT s x.val (scl (tnth s x.val) p)) t
end Go.Proofs.YtnpdghjpcnjokaaGreat

namespace Go.Proofs.YtnpdghjpcnjokaaGreat
open Go.RowKit

def at9 : Val:=⟨0,9⟩
def slowC : Cue:=⟨⟨#[49]⟩,⟨#[]⟩,[⟨⟨1,0⟩,at9,1⟩,⟨⟨1,1⟩,at9,2⟩],[⟨1000,2000,500,0,0,0⟩,⟨3000,3000,3000,3000,3000,100⟩],false,false,-1,⟨#[]⟩,0⟩
theorem zDr {α : Type} {size : Nat} : ∀ (rows : List (List α)) (_ : ∀ r ∈ rows,r.length = size) (i : Nat) (row : List α),rows[i]? = some row → ∀ j,j < size → rows.flatten[i * size + j]? = row[j]?
 | [],_,_,_,h,_,_ => by simp at h
 | r :: rs,hr,0,row,h,j,hj => by
  have h0 : r = row:=by simpa using h
  subst h0
  rw [List.flatten_cons,Nat.zero_mul,Nat.zero_add,List.getElem?_append_left (by rw [hr r (by simp)];exact hj)]
 | r :: rs,hr,i + 1,row,h,j,hj => by
  have hl:=hr r (by simp)
  rw [List.flatten_cons,List.getElem?_append_right (by rw [hl,Nat.succ_mul];omega),hl,show (i + 1) * size + j - size = i * size + j by rw [Nat.succ_mul];omega]
  exact zDr rs (fun x hx => hr x (by simp [hx])) i row (by simpa using h) j hj
theorem Sl.alloc {w : World} {size : Nat} {rows : List (List Value)} {T : TypeId} (h : ∀ r ∈ rows,r.length = size) : Sl (w.alloc (.cells rows.flatten.toArray T)) (some ⟨w.heap.size,0,none⟩) size rows :=
 ⟨fun i row hr => ⟨h row (List.mem_of_getElem? hr),w.heap.size,0,rfl,fun j v hv => by
  have hj : j < size:=by rw [← h row (List.mem_of_getElem? hr)];exact (List.getElem?_eq_some_iff.1 hv).1
  have:=zDr rows h i row hr j hj
  simp only [Nat.zero_add]
  unfold World.cell?
  rw [World.alloc_heap_new]
  simp [this,hv]⟩⟩
theorem Sl.alloc' {w : World} {n size : Nat} {cells : Array Value} {rows : List (List Value)} {T : TypeId} (hs : w.heap.size = n) (hc : cells = rows.flatten.toArray) (h : ∀ r ∈ rows,r.length = size) : Sl (w.alloc (.cells cells T)) (some ⟨n,0,none⟩) size rows:=by
 subst hs hc;exact Sl.alloc h

end Go.Proofs.YtnpdghjpcnjokaaGreat

namespace Go.Proofs.YtnpdghjpcnjokaaGreat
open Go.RowKit

def few (c : Cue) : Bool:=decide (c.number.size ≤ 40) && decide (c.label.size ≤ 100) && decide (c.link.size ≤ 40) && decide (c.parts.length ≤ 10) && decide (c.moves.length ≤ 300)

end Go.Proofs.YtnpdghjpcnjokaaGreat
