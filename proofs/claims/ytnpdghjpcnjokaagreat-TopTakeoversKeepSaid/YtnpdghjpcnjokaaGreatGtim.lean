import Derived.Test.YtnpdghjpcnjokaaGreatGcue
import Derived.RangeFuncNested
import Derived.RangeFuncBound
import Derived.RangeFuncCalls
import Derived.RangeFuncLeaves
import Derived.Shelf.Abstract
import Derived.Shelf.RegionOpen
import Derived.OwnWalkIn
import Derived.TacticsInMore
import Derived.LoopNIn
import Derived.LoopIn
import Derived.Laws.EntriesVeiled
namespace Go.Proofs.YtnpdghjpcnjokaaGreat
open Go.RowKit
end Go.Proofs.YtnpdghjpcnjokaaGreat

namespace Go.Proofs.YtnpdghjpcnjokaaGreat
open Go.RowKit

section
variable (c : Cue) (A : Option Addr) (k : Nat) (B : Option Addr) (m : Nat) (w : World) (hc : CueAt w c A k B m)
include hc
end
end Go.Proofs.YtnpdghjpcnjokaaGreat

namespace Go.Proofs.YtnpdghjpcnjokaaGreat
open Go.RowKit

def posP (l : List Move) (p : Param) : Nat:=(l.takeWhile fun m => before m.p p).length
def zcV (l : List Move) (p : Param) : Bool:=match l[posP l p]? with | some m => decide (m.p = p) | none => false

def findV (c : Cue) (p : Param) : Int × Bool × Int :=
 if cueE c ≠ 0 then (0,false,cueE c) else if zak p ≠ 0 then (0,false,zak p) else if zcV c.moves p then (posP c.moves p,true,0) else (0,false,0)
end Go.Proofs.YtnpdghjpcnjokaaGreat

namespace Go.Proofs.YtnpdghjpcnjokaaGreat
open Go.RowKit

def kind (a : Int) : Int:=if a = 0 then 0 else if a = 1 ∨ a = 2 then 1 else if 3 ≤ a ∧ a ≤ 10 then 2 else 3
def attrE (a : Int) : Int:=if a < 0 ∨ 15 ≤ a then 2 else 0
def zho (a : Int) : Int × Int:=if attrE a ≠ 0 then (0,attrE a) else (kind a,0)
def taken (t : Timing) (a : Int) (r : Bool) : Int:=if kind a = 0 then (if r then t.up else t.down) else if kind a = 1 then t.pos else if kind a = 2 then t.col else t.beam
def zam (t : Timing) : Int:=if zbd t then 0 else 2
def timeV (t : Timing) (a : Int) (r : Bool) : Int × Int:=if zam t ≠ 0 then (0,zam t) else if attrE a ≠ 0 then (0,attrE a) else (taken t a r,0)

end Go.Proofs.YtnpdghjpcnjokaaGreat

namespace Go.Proofs.YtnpdghjpcnjokaaGreat
open Go.RowKit

def KeepT (T : Nat) (A B : World) : Prop:=∀ v,A.cell? ⟨T,0,none⟩ = some v → B.cell? ⟨T,0,none⟩ = some v
def seq6 : List (Fin 6):=[0,2,3,4,1,5]

end Go.Proofs.YtnpdghjpcnjokaaGreat

namespace Go.Proofs.YtnpdghjpcnjokaaGreat
open Go.RowKit
attribute [local go_sem] Oper.semAt_some

end Go.Proofs.YtnpdghjpcnjokaaGreat

namespace Go.Proofs.YtnpdghjpcnjokaaGreat
open Go.RowKit

def eqP (a b c d : Int) : Bool:=decide ((⟨a,b⟩ : Param) = ⟨c,d⟩)
@[go_sem high] theorem eq_prm (a b c d : Int) (w : World) : (binOp .eql 201 (.agg #[.int .i64 a,.int .i64 b]) (.agg #[.int .i64 c,.int .i64 d])).run Tryz.prog w = .ok (.bool (eqP a b c d)) w:=by
 have hS : Tryz.prog.underlying 201 = some (.struct (Tryz.prog.fieldsOf 201)):=by kernel_rfl
 have hp : Tryz.prog.stoodInHeld 201 = false:=by kernel_rfl
 rw [run_eql_struct,show (10000 : Nat) = 9999 + 1 from rfl,run_equalIn_agg w 9999 201 _ _ hS hp]
 simp only [Program.fieldsOf,Tryz.underlying201]
 go_simp
 unfold eqP
 by_cases h1 : a = c <;> by_cases h2 : b = d <;> simp [h1,h2]
@[go_sem] theorem guard_prm (op : BinOp) (x y : Operand) (xs ys : Array Value) (w : World) : (eqGuard op 201 x y (.agg xs) (.agg ys)).run Tryz.prog w = .ok () w:=run_eqGuard_agg w op _ x y xs ys kr
theorem Calls.grows_same {P : Program} {f : FuncId} {args : Array Value} {w : World} {y : Gr} {v : Value} (h : Calls P f args (xt w y) fun e w' => e = .returned v ∧ xt w y = w') :
  Calls P f args (xt w y) fun e w'' => e = .returned v ∧ ∃ z,w'' = xt w z :=
 h.mono fun _ _ ⟨he,hx⟩ => ⟨he,y,hx.symm⟩
end Go.Proofs.YtnpdghjpcnjokaaGreat

namespace Go.Proofs.YtnpdghjpcnjokaaGreat
open Go.RowKit

def eqT (s t : Timing) : Bool:=decide (s = t)
def eqV (s t : Val) : Bool:=decide (s = t)
def eqM (s t : Move) : Bool:=decide (s = t)
section
variable (w : World)
@[go_sem high] theorem eqIn_tmg (a b c d e f a' b' c' d' e' f' : Int) : (Op.equalIn 10000 286 (.agg #[.int .i64 a,.int .i64 b,.int .i64 c,.int .i64 d,.int .i64 e,.int .i64 f]) (.agg #[.int .i64 a',.int .i64 b',.int .i64 c',.int .i64 d',.int .i64 e',.int .i64 f'])).run Tryz.prog w = .ok (eqT ⟨a,b,c,d,e,f⟩ ⟨a',b',c',d',e',f'⟩) w:=by
 have hS : Tryz.prog.underlying 286 = some (.struct (Tryz.prog.fieldsOf 286)):=by kernel_rfl
 have hp : Tryz.prog.stoodInHeld 286 = false:=by kernel_rfl
 rw [show (10000 : Nat) = 9999 + 1 from rfl,run_equalIn_agg w 9999 286 _ _ hS hp]
 simp only [Program.fieldsOf,Tryz.underlying286]
 go_simp
 unfold eqT
 simp only [Timing.mk.injEq]
 by_cases h1 : a = a'
 ·by_cases h2 : b = b'
  ·by_cases h3 : c = c'
   ·by_cases h4 : d = d'
    ·by_cases h5 : e = e'
     ·by_cases h6 : f = f' <;> simp [h1,h2,h3,h4,h5,h6]
     ·simp [h1,h2,h3,h4,h5]
    ·simp [h1,h2,h3,h4]
   ·simp [h1,h2,h3]
  ·simp [h1,h2]
 ·simp [h1]
theorem ztf (a b a' b' : Int) : (Op.equalIn 9999 201 (.agg #[.int .i64 a,.int .i64 b]) (.agg #[.int .i64 a',.int .i64 b'])).run Tryz.prog w = .ok (decide (a = a') && decide (b = b')) w:=by
 have hS : Tryz.prog.underlying 201 = some (.struct (Tryz.prog.fieldsOf 201)):=by kernel_rfl
 have hp : Tryz.prog.stoodInHeld 201 = false:=by kernel_rfl
 rw [show (9999 : Nat) = 9998 + 1 from rfl,run_equalIn_agg w 9998 201 _ _ hS hp]
 simp only [Program.fieldsOf,Tryz.underlying201]
 go_simp
 by_cases h1 : a = a' <;> by_cases h2 : b = b' <;> simp [h1,h2]
theorem zzQ (a b a' b' : Int) : (Op.equalIn 9999 203 (.agg #[.int .i64 a,.int .i64 b]) (.agg #[.int .i64 a',.int .i64 b'])).run Tryz.prog w = .ok (decide (a = a') && decide (b = b')) w:=by
 have hS : Tryz.prog.underlying 203 = some (.struct (Tryz.prog.fieldsOf 203)):=by kernel_rfl
 have hp : Tryz.prog.stoodInHeld 203 = false:=by kernel_rfl
 rw [show (9999 : Nat) = 9998 + 1 from rfl,run_equalIn_agg w 9998 203 _ _ hS hp]
 simp only [Program.fieldsOf,Tryz.underlying203]
 go_simp
 by_cases h1 : a = a' <;> by_cases h2 : b = b' <;> simp [h1,h2]
@[go_sem high] theorem eqIn_mv (a b c d e a' b' c' d' e' : Int) : (Op.equalIn 10000 283 (.agg #[.int .i64 a,.int .i64 b,.int .i64 c,.int .i64 d,.int .i64 e]) (.agg #[.int .i64 a',.int .i64 b',.int .i64 c',.int .i64 d',.int .i64 e'])).run Tryz.prog w = .ok (eqM ⟨⟨a,b⟩,⟨c,d⟩,e⟩ ⟨⟨a',b'⟩,⟨c',d'⟩,e'⟩) w:=by
 have hS : Tryz.prog.underlying 283 = some (.struct (Tryz.prog.fieldsOf 283)):=by kernel_rfl
 have hp : Tryz.prog.stoodInHeld 283 = false:=by kernel_rfl
 have e1:=fun w => ztf w a b a' b'
 have e2:=fun w => zzQ w c d c' d'
 rw [show (10000 : Nat) = 9999 + 1 from rfl,run_equalIn_agg w 9999 283 _ _ hS hp]
 simp only [Program.fieldsOf,Tryz.underlying283]
 go_simp
 unfold eqM
 simp only [Move.mk.injEq,Param.mk.injEq,Val.mk.injEq]
 by_cases h1 : a = a'
 ·by_cases h2 : b = b'
  ·by_cases h3 : c = c'
   ·by_cases h4 : d = d'
    ·by_cases h5 : e = e' <;> simp [h1,h2,h3,h4,h5]
    ·simp [h1,h2,h3,h4]
   ·simp [h1,h2,h3]
  ·simp [h1,h2]
 ·simp [h1]
@[go_sem] theorem guard_tmg (op : BinOp) (x y : Operand) (xs ys : Array Value) : (eqGuard op 286 x y (.agg xs) (.agg ys)).run Tryz.prog w = .ok () w:=run_eqGuard_agg w op _ x y xs ys kr
@[go_sem] theorem guard_mv (op : BinOp) (x y : Operand) (xs ys : Array Value) : (eqGuard op 283 x y (.agg xs) (.agg ys)).run Tryz.prog w = .ok () w:=run_eqGuard_agg w op _ x y xs ys kr
end
end Go.Proofs.YtnpdghjpcnjokaaGreat

namespace Go.Proofs.YtnpdghjpcnjokaaGreat
open Go.RowKit

def inV (l : List Move) (p : Param) : Int:=match l.find? (fun m => decide (m.p = p)) with | some m => m.part | none => 1
def zn2 (l : List Move) (p : Param) : Int:=match l.findIdx? (fun m => decide (m.p = p)) with | some i => i | none => -1
def zbv (c : Cue) (p : Param) : Int:=if cueE c ≠ 0 then cueE c else zak p
def partV (c : Cue) (p : Param) : Int × Int:=if zbv c p ≠ 0 then (0,zbv c p) else (inV c.moves p,0)
def zfc : Timing:=⟨0,0,0,0,0,0⟩
def partOf (c : Cue) (p : Param) : Timing:=(c.parts[(inV c.moves p).toNat - 1]?).getD zfc
def ofV (c : Cue) (p : Param) (r : Bool) : Int × Int × Int:=if zbv c p ≠ 0 then (0,0,zbv c p) else ((partOf c p).del,taken (partOf c p) p.attr r,0)

end Go.Proofs.YtnpdghjpcnjokaaGreat

namespace Go.Proofs.YtnpdghjpcnjokaaGreat
open Go.RowKit
section
variable (c : Cue) (A : Option Addr) (k : Nat) (B : Option Addr) (m : Nat) (p : Param) (w : World) (hc : CueAt w c A k B m)
include hc
end

end Go.Proofs.YtnpdghjpcnjokaaGreat

namespace Go.Proofs.YtnpdghjpcnjokaaGreat
open Go.RowKit
theorem kept {W w' : World} (h : Ext W w') : (∀ q,(W.cell? q).isSome = true → w'.cell? q = W.cell? q) ∧ Ext W w':=⟨fun q hq => by
 obtain ⟨v,hv⟩:=Option.isSome_iff_exists.1 hq
 rw [hv,h.cell hv],h⟩

section
variable (c : Cue) (A : Option Addr) (k : Nat) (B : Option Addr) (m : Nat) (p : Param) (r : Bool) (w : World) (hc : CueAt w c A k B m)
include hc
end
end Go.Proofs.YtnpdghjpcnjokaaGreat
