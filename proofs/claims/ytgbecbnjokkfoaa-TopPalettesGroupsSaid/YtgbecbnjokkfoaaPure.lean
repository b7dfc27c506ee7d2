import Derived.WalkKit
import Derived.Lib.Hide
namespace Go.Proofs.Ytgbecbnjokkfoaa
open Go.RowKit

theorem ret_i {k : IntKind} {a b : Int} (h : a = b) : Ending.returned (.int k a) = .returned (.int k b):=by rw [h]
theorem ret_b {a b : Bool} (h : a = b) : Ending.returned (.bool a) = .returned (.bool b):=by rw [h]

structure Param where
 ch : Int
 attr : Int
 deriving DecidableEq
structure Val where
 pal : Int
 lev : Int
 deriving DecidableEq
structure Move where
 p : Param
 v : Val
 part : Int
 deriving DecidableEq
structure Timing where
 up : Int
 down : Int
 pos : Int
 col : Int
 beam : Int
 del : Int
 deriving DecidableEq
structure Cue where
 number : ByteArray
 label : ByteArray
 moves : List Move
 parts : List Timing
 block : Bool
 mark : Bool
 follow : Int
 link : ByteArray
 loops : Int

def prm (p : Param) : List Value:=[.int .i64 p.ch,.int .i64 p.attr]
def vl (v : Val) : List Value:=[.int .i64 v.pal,.int .i64 v.lev]
def mv (m : Move) : List Value:=[.int .i64 m.p.ch,.int .i64 m.p.attr,.int .i64 m.v.pal,.int .i64 m.v.lev,.int .i64 m.part]
def tmg (t : Timing) : List Value:=[.int .i64 t.up,.int .i64 t.down,.int .i64 t.pos,.int .i64 t.col,.int .i64 t.beam,.int .i64 t.del]

def scan {α : Type} (f : Option α → α → Int) : Option α → List α → Int
 | _,[] => 0
 | q,x :: l => if f q x ≠ 0 then f q x else scan f (some x) l
def prv {α : Type} (l : List α) (k : Nat) : Option α:=if k = 0 then none else l[k - 1]?
theorem prv_zero {α : Type} (l : List α) : prv l 0 = none:=rfl
theorem prv_succ {α : Type} (l : List α) (k : Nat) : prv l (k + 1) = l[k]?:=by
 unfold prv;rw [if_neg (by omega),Nat.add_sub_cancel]
theorem scan_at {α : Type} (f : Option α → α → Int) (l : List α) (k : Nat) (x : α) (h : l[k]? = some x) :
  scan f (prv l k) (l.drop k) = if f (prv l k) x ≠ 0 then f (prv l k) x else scan f (prv l (k + 1)) (l.drop (k + 1)):=by
 obtain ⟨hk,hx⟩:=List.getElem?_eq_some_iff.1 h
 rw [List.drop_eq_getElem_cons hk,hx]
 simp only [scan]
 rw [prv_succ,h]
theorem scan_end {α : Type} (f : Option α → α → Int) (l : List α) (k : Nat) (q : Option α) (h : l.length ≤ k) : scan f q (l.drop k) = 0:=by
 rw [List.drop_eq_nil_of_le h];rfl
theorem scan_ok {α : Type} (f : Option α → α → Int) (l : List α) (h : scan f none l = 0) : ∀ k x,l[k]? = some x → f (prv l k) x = 0:=by
 have key : ∀ k,k ≤ l.length → scan f (prv l k) (l.drop k) = 0:=by
  intro k
  induction k with
  | zero => intro _;simpa [prv] using h
  | succ k ih =>
   intro hk
   have h1:=ih (by omega)
   rw [scan_at f l k l[k] (List.getElem?_eq_getElem (by omega))] at h1
   split at h1
   ·contradiction
   ·exact h1
 intro k x hx
 have h1:=key k (Nat.le_of_lt (List.getElem?_eq_some_iff.1 hx).1)
 rw [scan_at f l k x hx] at h1
 split at h1
 ·exact h1
 ·rename_i h2;simpa using h2
theorem scan_zero {α : Type} (f : Option α → α → Int) (l : List α) (h : ∀ k x,l[k]? = some x → f (prv l k) x = 0) : scan f none l = 0:=by
 have key : ∀ n k,k + n = l.length → scan f (prv l k) (l.drop k) = 0:=by
  intro n
  induction n with
  | zero => intro k hk;exact scan_end f l k _ (by omega)
  | succ n ih =>
   intro k hk
   have hx : l[k]? = some l[k]:=List.getElem?_eq_getElem (by omega)
   rw [scan_at f l k _ hx,if_neg (by rw [h k _ hx];simp)]
   exact ih (k + 1) (by omega)
 have:=key l.length 0 (by omega)
 simpa [prv] using this

def paramE (p : Param) : Int:=if p.ch < 1 ∨ 999 < p.ch ∨ p.attr < 0 ∨ 15 ≤ p.attr then 2 else 0
def valueE (v : Val) : Int:=if (v.pal = 0 ∧ 0 ≤ v.lev ∧ v.lev ≤ 65535) ∨ (-1 ≤ v.pal ∧ v.pal ≤ 1048576 ∧ v.pal ≠ 0 ∧ v.lev = 0) then 0 else 2
def before (p q : Param) : Bool:=decide (p.ch < q.ch ∨ (p.ch = q.ch ∧ p.attr < q.attr))
def cmpP (p q : Param) : Int:=if p.ch ≠ q.ch then p.ch - q.ch else p.attr - q.attr
theorem cmpP_before (p q : Param) : (cmpP p q < 0) ↔ before p q = true:=by simp only [cmpP,before,decide_eq_true_eq];split <;> omega
theorem cmpP_zero (p q : Param) : (cmpP p q = 0) ↔ p = q:=by
 cases p;cases q;simp only [cmpP,Param.mk.injEq];split <;> omega
theorem paramE_ok {p : Param} (h : paramE p = 0) : 1 ≤ p.ch ∧ p.ch ≤ 999 ∧ 0 ≤ p.attr ∧ p.attr < 15:=by
 unfold paramE at h;split at h <;> omega
def moveE1 (m : Move) : Int:=if paramE m.p ≠ 0 then paramE m.p else if valueE m.v ≠ 0 then valueE m.v else if m.part < 1 ∨ 4 < m.part then 2 else 0
def moveE (q : Option Move) (m : Move) : Int:=if moveE1 m ≠ 0 then moveE1 m else match q with | some n => if before n.p m.p then 0 else 9 | none => 0
def movesE (l : List Move) : Int:=if 128 < l.length then 5 else scan moveE none l
theorem moveE_param {q : Option Move} {m : Move} (h : moveE q m = 0) : paramE m.p = 0:=by
 unfold moveE moveE1 at h
 by_cases h1 : paramE m.p = 0
 ·exact h1
 ·simp [h1] at h

def isTime (v : Int) : Bool:=decide (0 ≤ v ∧ v ≤ 10000000)
def timingOk (t : Timing) : Bool:=isTime t.up && isTime t.down && isTime t.pos && isTime t.col && isTime t.beam && isTime t.del
def tnth (t : Timing) : Nat → Int
 | 0 => t.up | 1 => t.down | 2 => t.pos | 3 => t.col | 4 => t.beam | _ => t.del
theorem timingOk_nth (t : Timing) : timingOk t = true ↔ ∀ k,k < 6 → isTime (tnth t k) = true:=by
 constructor
 ·intro h k hk
  simp [timingOk] at h
  match k,hk with
  | 0,_ => exact h.1.1.1.1.1
  | 1,_ => exact h.1.1.1.1.2
  | 2,_ => exact h.1.1.1.2
  | 3,_ => exact h.1.1.2
  | 4,_ => exact h.1.2
  | 5,_ => exact h.2
 ·intro h
  have h0:=h 0 (by omega);have h1:=h 1 (by omega);have h2:=h 2 (by omega);have h3:=h 3 (by omega);have h4:=h 4 (by omega);have h5:=h 5 (by omega)
  simp [tnth] at h0 h1 h2 h3 h4 h5
  simp [timingOk, *]
def timesE (l : List Timing) : Int:=if l.length = 0 then 12 else if 4 < l.length then 5 else if l.all timingOk then 0 else 2
def partsE (c : Cue) : Int:=if timesE c.parts ≠ 0 then timesE c.parts else if c.moves.any (fun m => decide ((c.parts.length : Int) < m.part)) then 6 else 0
def labelOkC (c : UInt8) : Bool:=!(decide ((c.toNat : Int) < 32) || decide (126 < (c.toNat : Int)) || ((c.toNat : Int) == 34))
def labelE (s : ByteArray) : Int:=if 24 < s.size then 13 else if s.data.toList.all labelOkC then 0 else 3

theorem all_step {α : Type} {p : α → Bool} {l : List α} {k : Nat} {x : α} (h : l[k]? = some x) (hp : p x = true) (ha : (l.take k).all p = true) : (l.take (k + 1)).all p = true:=by
 obtain ⟨hk,hx⟩:=List.getElem?_eq_some_iff.1 h
 rw [List.take_succ_eq_append_getElem hk,List.all_append,ha,hx]
 simp [hp]
theorem all_not {α : Type} {p : α → Bool} {l : List α} {k : Nat} {x : α} (h : l[k]? = some x) (hp : p x = false) : l.all p = false:=by
 obtain ⟨hk,hx⟩:=List.getElem?_eq_some_iff.1 h
 rw [Bool.eq_false_iff]
 intro h1
 have:=List.all_eq_true.1 h1 x (by rw [← hx];exact List.getElem_mem hk)
 rw [hp] at this;cases this
theorem all_full {α : Type} {p : α → Bool} {l : List α} {k : Nat} (hk : l.length ≤ k) (ha : (l.take k).all p = true) : l.all p = true:=by
 rw [List.take_of_length_le hk] at ha;exact ha
end Go.Proofs.Ytgbecbnjokkfoaa

namespace Go.Proofs.Ytgbecbnjokkfoaa
open Go.RowKit
structure Entry where
 p : Param
 v : Val
 deriving DecidableEq
def en (e : Entry) : List Value:=[.int .i64 e.p.ch,.int .i64 e.p.attr,.int .i64 e.v.pal,.int .i64 e.v.lev]
end Go.Proofs.Ytgbecbnjokkfoaa
