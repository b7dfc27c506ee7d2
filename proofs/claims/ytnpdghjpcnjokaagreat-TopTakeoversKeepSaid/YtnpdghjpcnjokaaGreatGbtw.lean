import Derived.Test.YtnpdghjpcnjokaaGreatGlog
import Derived.Test.YtnpdghjpcnjokaaGreatGins
namespace Go.Proofs.YtnpdghjpcnjokaaGreat
open Go.RowKit

theorem zco : zbz Tryz.prog 99 44 544 = true:=by kernel_rfl
theorem zkz (l : List Acn) : ∀ r ∈ l.map acnR,r.length = 44:=by
 intro r hr
 obtain ⟨a,_,rfl⟩:=List.mem_map.1 hr
 rfl
theorem zbe (l : List Acn) : ∀ r ∈ l.map acnR,∀ u ∈ r,u.oneCell' = true:=by
 intro r hr
 obtain ⟨a,_,rfl⟩:=List.mem_map.1 hr
 exact zbV a
theorem ze6 (a : Acn) : ∀ r ∈ [acnR a],∀ u ∈ r,u.oneCell' = true:=zbe [a]
end Go.Proofs.YtnpdghjpcnjokaaGreat

namespace Go.Proofs.YtnpdghjpcnjokaaGreat
open Go.RowKit
theorem zt0 {a : Acn} (h : acnE a = 0) : 0 ≤ a.at_ ∧ a.at_ ≤ 10000000:=by
 unfold acnE at h
 split at h
 ·omega
 ·split at h
  ·omega
  ·rename_i h2
   unfold inE at h2
   split at h2 <;> omega
noncomputable def zfe (l : List Acn) (t : Int) : Int × Int:=if logE l ≠ 0 then (0,logE l) else ((zat l t : Int),0)
theorem Own.older {w0 w0' w : World} {E : TypeId} {size : Nat} {A : Option Addr} {n k : Nat} {rows : List (List Value)} (h : Own w0 w E size A n k rows) (hx : Ext w0' w0) : Own w0' w E size A n k rows:=by
 refine ⟨h.len,h.row,h.one,h.le,h.cap,?_⟩
 rcases h.at_ with h0 | ⟨g,cur,h1,h2,h3,h4⟩
 ·exact .inl h0
 ·exact .inr ⟨g,cur,h1,Nat.le_trans hx.size h2,h3,h4⟩
def zbM (w0 : World) (v : List Acn × Int) (e : Ending) (w' : World) : Prop:=∃ A k,e = .returned (.tuple #[.slice A v.1.length k,.int .i64 v.2]) ∧ Ext w0 w' ∧ Own w0 w' 99 44 A v.1.length k (v.1.map acnR) ∧ ∀ a ∈ v.1,AcnAt w' a
theorem zbM.err {w0 w' : World} {v : List Acn × Int} {x : Int} (h : v = ([],x)) (hx : Ext w0 w') : zbM w0 v (.returned (.tuple #[.slice none 0 0,.int .i64 x])) w':=by
 subst h
 exact ⟨none,0,rfl,hx,Own.nil _,by simp⟩
noncomputable def zbB (l : List Acn) (i k : Int) : List Acn × Int:=if logE l ≠ 0 then ([],logE l) else if zat l k < zat l i then ([],0) else ((l.take (zat l k)).drop (zat l i),0)
theorem Sl.part {w : World} {b o size : Nat} {rows : List (List Value)} (h : Sl w (some ⟨b,o,none⟩) size rows) (i k : Nat) : Sl w (some ⟨b,o + i * size,none⟩) size ((rows.take k).drop i):=Sl.dropped (h.front k) i
end Go.Proofs.YtnpdghjpcnjokaaGreat

namespace Go.Proofs.YtnpdghjpcnjokaaGreat
open Go.RowKit
attribute [local go_sem ↓] Go.wp_at_zero Go.wp_at_succ

def zdO (l : List Acn) (i : Nat) (x : Acn) : List Acn:=l.take i ++ x :: l.drop i
def zsO (w0 w : World) (A : Option Addr) (rows : List (List Value)) (n : Nat) (e : Ending) (w' : World) : Prop :=
 ∃ A' k',e = .returned (.slice A' n k') ∧ Ext w0 w' ∧ Own w0 w' 99 44 A' n k' rows ∧ w.grownBy w' (A.map (·.block))

end Go.Proofs.YtnpdghjpcnjokaaGreat

namespace Go.Proofs.YtnpdghjpcnjokaaGreat
open Go.RowKit
attribute [local go_sem ↓] Go.wp_at_zero Go.wp_at_succ

end Go.Proofs.YtnpdghjpcnjokaaGreat

namespace Go.Proofs.YtnpdghjpcnjokaaGreat
open Go.RowKit
def isEd (a : Acn) : Bool:=decide (a.kind = 17 ∨ a.kind = 18 ∨ a.kind = 19)
def edAt (l : List Acn) (i : Nat) : Bool:=match l[i]? with | some a => isEd a | none => false
def idxsE (l : List Acn) (k : Nat) : List Int:=((List.range k).filter (edAt l)).map Int.ofNat
noncomputable def zgr (l : List Acn) : List Int × Int:=if logE l ≠ 0 then ([],logE l) else (idxsE l l.length,0)
def zzD (w0 : World) (v : List Int × Int) (e : Ending) (w' : World) : Prop:=∃ A k,e = .returned (.tuple #[.slice A v.1.length k,.int .i64 v.2]) ∧ Ext w0 w' ∧ Own w0 w' 3 1 A v.1.length k (v.1.map intR)
def shA (by_ : Int) (a : Acn) : Acn:={ a with at_:=a.at_ + by_ }
def shOk (by_ : Int) (a : Acn) : Bool:=decide (-a.at_ ≤ by_ ∧ by_ ≤ 10000000 - a.at_)
noncomputable def zc5 (l : List Acn) (by_ : Int) : List Acn × Int:=if logE l ≠ 0 then ([],logE l) else if l.all (shOk by_) = true then (l.map (shA by_),0) else ([],2)
def shK (l : List Acn) (by_ : Int) (k : Nat) : List Acn:=(l.take k).map (shA by_) ++ l.drop k
end Go.Proofs.YtnpdghjpcnjokaaGreat

namespace Go.Proofs.YtnpdghjpcnjokaaGreat
open Go.RowKit

def Asc (l : List Acn) : Prop:=l.Pairwise fun a b => a.at_ ≤ b.at_
def cntL (l : List Acn) (t : Int) : Nat:=(l.filter fun a => decide (a.at_ ≤ t)).length
def btwL (l : List Acn) (i k : Int) : List Acn:=l.filter fun a => decide (i < a.at_ ∧ a.at_ ≤ k)
def insL (l : List Acn) (a : Acn) : List Acn:=l.take (zat l a.at_) ++ a :: l.drop (zat l a.at_)
end Go.Proofs.YtnpdghjpcnjokaaGreat
