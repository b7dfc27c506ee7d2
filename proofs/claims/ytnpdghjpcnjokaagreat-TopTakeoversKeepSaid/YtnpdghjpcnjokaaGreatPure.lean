import Derived.WalkKit
import Derived.Lib.Hide
namespace Go.Proofs.YtnpdghjpcnjokaaGreat
open Go.RowKit

theorem ret_i {k : IntKind} {a b : Int} (h : a = b) : Ending.returned (.int k a) = .returned (.int k b):=by rw [h]
theorem ret_b {a b : Bool} (h : a = b) : Ending.returned (.bool a) = .returned (.bool b):=by rw [h]

structure Param where
 ch : Int
 attr : Int
 deriving DecidableEq
structure Val where
 pal : Int
 lev : Int
 deriving DecidableEq
structure Move where
 p : Param
 v : Val
 part : Int
 deriving DecidableEq
structure Timing where
 up : Int
 down : Int
 pos : Int
 col : Int
 beam : Int
 del : Int
 deriving DecidableEq
structure Cue where
 number : ByteArray
 label : ByteArray
 moves : List Move
 parts : List Timing
 block : Bool
 mark : Bool
 follow : Int
 link : ByteArray
 loops : Int

def prm (p : Param) : List Value:=[.int .i64 p.ch,.int .i64 p.attr]
def vl (v : Val) : List Value:=[.int .i64 v.pal,.int .i64 v.lev]
def mv (m : Move) : List Value:=[.int .i64 m.p.ch,.int .i64 m.p.attr,.int .i64 m.v.pal,.int .i64 m.v.lev,.int .i64 m.part]
def tmg (t : Timing) : List Value:=[.int .i64 t.up,.int .i64 t.down,.int .i64 t.pos,.int .i64 t.col,.int .i64 t.beam,.int .i64 t.del]

def scan {α : Type} (f : Option α → α → Int) : Option α → List α → Int
 | _,[] => 0
 | q,x :: l => if f q x ≠ 0 then f q x else scan f (some x) l
def prv {α : Type} (l : List α) (k : Nat) : Option α:=if k = 0 then none else l[k - 1]?
theorem zbk {α : Type} (l : List α) (k : Nat) : prv l (k + 1) = l[k]?:=by
 unfold prv;rw [if_neg (by omega),Nat.add_sub_cancel]
theorem zcu {α : Type} (f : Option α → α → Int) (l : List α) (k : Nat) (x : α) (h : l[k]? = some x) :
  scan f (prv l k) (l.drop k) = if f (prv l k) x ≠ 0 then f (prv l k) x else scan f (prv l (k + 1)) (l.drop (k + 1)):=by
 obtain ⟨hk,hx⟩:=List.getElem?_eq_some_iff.1 h
 rw [List.drop_eq_getElem_cons hk,hx]
 simp only [scan]
 rw [zbk,h]
theorem zbX {α : Type} (f : Option α → α → Int) (l : List α) (k : Nat) (q : Option α) (h : l.length ≤ k) : scan f q (l.drop k) = 0:=by
 rw [List.drop_eq_nil_of_le h];rfl
theorem ze3 {α : Type} (f : Option α → α → Int) (l : List α) (h : scan f none l = 0) : ∀ k x,l[k]? = some x → f (prv l k) x = 0:=by
 have key : ∀ k,k ≤ l.length → scan f (prv l k) (l.drop k) = 0:=by
  intro k
  induction k with
  | zero => intro _;simpa [prv] using h
  | succ k ih =>
   intro hk
   have h1:=ih (by omega)
   rw [zcu f l k l[k] (List.getElem?_eq_getElem (by omega))] at h1
   split at h1
   ·contradiction
   ·exact h1
 intro k x hx
 have h1:=key k (Nat.le_of_lt (List.getElem?_eq_some_iff.1 hx).1)
 rw [zcu f l k x hx] at h1
 split at h1
 ·exact h1
 ·rename_i h2;simpa using h2
theorem zf2 {α : Type} (f : Option α → α → Int) (l : List α) (h : ∀ k x,l[k]? = some x → f (prv l k) x = 0) : scan f none l = 0:=by
 have key : ∀ n k,k + n = l.length → scan f (prv l k) (l.drop k) = 0:=by
  intro n
  induction n with
  | zero => intro k hk;exact zbX f l k _ (by omega)
  | succ n ih =>
   intro k hk
   have hx : l[k]? = some l[k]:=List.getElem?_eq_getElem (by omega)
   rw [zcu f l k _ hx,if_neg (by rw [h k _ hx];simp)]
   exact ih (k + 1) (by omega)
 have:=key l.length 0 (by omega)
 simpa [prv] using this

def zak (p : Param) : Int:=if p.ch < 1 ∨ 999 < p.ch ∨ p.attr < 0 ∨ 15 ≤ p.attr then 2 else 0
def zev (v : Val) : Int:=if (v.pal = 0 ∧ 0 ≤ v.lev ∧ v.lev ≤ 65535) ∨ (-1 ≤ v.pal ∧ v.pal ≤ 1048576 ∧ v.pal ≠ 0 ∧ v.lev = 0) then 0 else 2
def before (p q : Param) : Bool:=decide (p.ch < q.ch ∨ (p.ch = q.ch ∧ p.attr < q.attr))
def cmpP (p q : Param) : Int:=if p.ch ≠ q.ch then p.ch - q.ch else p.attr - q.attr
theorem zfE (p q : Param) : (cmpP p q < 0) ↔ before p q = true:=by simp only [cmpP,before,decide_eq_true_eq];split <;> omega
theorem zcB {p : Param} (h : zak p = 0) : 1 ≤ p.ch ∧ p.ch ≤ 999 ∧ 0 ≤ p.attr ∧ p.attr < 15:=by
 unfold zak at h;split at h <;> omega
def zcM (m : Move) : Int:=if zak m.p ≠ 0 then zak m.p else if zev m.v ≠ 0 then zev m.v else if m.part < 1 ∨ 4 < m.part then 2 else 0
def moveE (q : Option Move) (m : Move) : Int:=if zcM m ≠ 0 then zcM m else match q with | some n => if before n.p m.p then 0 else 9 | none => 0
def zaV (l : List Move) : Int:=if 128 < l.length then 5 else scan moveE none l
def zcx (v : Int) : Bool:=decide (0 ≤ v ∧ v ≤ 10000000)
def zbd (t : Timing) : Bool:=zcx t.up && zcx t.down && zcx t.pos && zcx t.col && zcx t.beam && zcx t.del
def tnth (t : Timing) : Nat → Int
 | 0 => t.up | 1 => t.down | 2 => t.pos | 3 => t.col | 4 => t.beam | _ => t.del
def zer (l : List Timing) : Int:=if l.length = 0 then 12 else if 4 < l.length then 5 else if l.all zbd then 0 else 2
def zcC (c : Cue) : Int:=if zer c.parts ≠ 0 then zer c.parts else if c.moves.any (fun m => decide ((c.parts.length : Int) < m.part)) then 6 else 0
def zfj (c : UInt8) : Bool:=!(decide ((c.toNat : Int) < 32) || decide (126 < (c.toNat : Int)) || ((c.toNat : Int) == 34))
def zej (s : ByteArray) : Int:=if 24 < s.size then 13 else if s.data.toList.all zfj then 0 else 3

end Go.Proofs.YtnpdghjpcnjokaaGreat

namespace Go.Proofs.YtnpdghjpcnjokaaGreat
open Go.RowKit
structure Entry where
 p : Param
 v : Val
 deriving DecidableEq
def en (e : Entry) : List Value:=[.int .i64 e.p.ch,.int .i64 e.p.attr,.int .i64 e.v.pal,.int .i64 e.v.lev]
end Go.Proofs.YtnpdghjpcnjokaaGreat
