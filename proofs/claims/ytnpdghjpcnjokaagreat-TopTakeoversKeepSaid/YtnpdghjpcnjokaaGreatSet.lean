import Derived.Test.YtnpdghjpcnjokaaGreatGown
import Derived.Test.YtnpdghjpcnjokaaGreatGten
import Derived.Test.YtnpdghjpcnjokaaGreatGsame
import Derived.Deep.RegionLaw
import Derived.Deep.DrawnRows
namespace Go.Proofs.YtnpdghjpcnjokaaGreat
open Go.RowKit
attribute [local go_sem ↓] Go.wp_at_zero Go.wp_at_succ

theorem zeY : ∀ (l : List Move),∀ r ∈ l.map mv,∀ u ∈ r,u.oneCell' = true:=fun l r hr u hu => by
 obtain ⟨t,_,rfl⟩:=List.mem_map.1 hr
 simp only [mv,List.mem_cons,List.not_mem_nil,or_false] at hu
 rcases hu with rfl | rfl | rfl | rfl | rfl <;> rfl
theorem zfL : zbz Tryz.prog 283 5 40 = true:=by kernel_rfl

@[go_sem] theorem nil_T (A : Option Addr) (n c n' c' : Nat) (w : World) : (binOp .eql 80 (.slice A n c) (.slice none n' c')).run Tryz.prog w = .ok (.bool A.isNone) w:=Lib.run_eql_slice_nil w _ _ A n c n' c' Tryz.underlying80
@[go_sem] theorem nil_M (A : Option Addr) (n c n' c' : Nat) (w : World) : (binOp .eql 79 (.slice A n c) (.slice none n' c')).run Tryz.prog w = .ok (.bool A.isNone) w:=Lib.run_eql_slice_nil w _ _ A n c n' c' Tryz.underlying79

def RetSl (w : World) (E : TypeId) (size n : Nat) (rows : List (List Value)) (e : Ending) (w' : World) : Prop:=∃ A k,e = .returned (.slice A n k) ∧ Ext w w' ∧ Own w w' E size A n k rows
theorem Sl.none_nil {w : World} {size : Nat} {rows : List (List Value)} (h : Sl w none size rows) : rows = []:=by
 cases rows with
 | nil => rfl
 | cons r rs =>
  obtain ⟨_,b,o,h,_⟩:=h.at_ 0 r rfl
  cases h

theorem Own.base {w w0 w1 : World} {E : TypeId} {size : Nat} {A : Option Addr} {n k : Nat} {rows : List (List Value)} (hx : Ext w w0) (h : Own w0 w1 E size A n k rows) : Own w w1 E size A n k rows:=by
 refine ⟨h.len,h.row,h.one,h.le,h.cap,?_⟩
 rcases h.at_ with h0 | ⟨g,cur,h1,h2,h3⟩
 ·exact .inl h0
 ·exact .inr ⟨g,cur,h1,Nat.le_trans hx.size h2,h3⟩
def zCz (w : World) (c : Cue) (A : Option Addr) (k : Nat) (e : Ending) (w' : World) : Prop:=∃ B m,e = .returned (.agg (cueV c A k B m).toArray) ∧ Ext w w' ∧ Own w w' 286 6 B c.parts.length m (c.parts.map tmg)

def zai : Cue:=⟨⟨#[]⟩,⟨#[]⟩,[],[],false,false,0,⟨#[]⟩,0⟩
theorem zDc (w : World) : CueAt w zai none 0 none 0:=⟨Sl.nil _ _ _,Sl.nil _ _ _,by decide,by decide,by decide,by decide,by decide,by decide,by decide⟩
def setV (c : Cue) (part : Int) (t : Timing) : Cue × Int :=
 if cueE c ≠ 0 then (zai,cueE c) else if zam t ≠ 0 then (zai,zam t)
 else if part = (c.parts.length : Int) + 1 then (if c.parts.length = 4 then (zai,5) else ({ c with parts:=c.parts ++ [t] },0))
 else if part < 1 ∨ (c.parts.length : Int) < part then (zai,6) else ({ c with parts:=c.parts.set (part.toNat - 1) t },0)
def zbh (w : World) (R : Cue × Int) (e : Ending) (w' : World) : Prop:=∃ A k B m,e = .returned (.tuple #[.agg (cueV R.1 A k B m).toArray,.int .i64 R.2]) ∧ Ext w w' ∧ CueAt w' R.1 A k B m
theorem zbh.empty {w w' : World} {R : Cue × Int} {x : Int} {e : Ending} (hR : R = (zai,x)) (he : e = .returned (.tuple #[.agg (cueV zai none 0 none 0).toArray,.int .i64 x])) (hx : Ext w w') : zbh w R e w':=by
 subst hR;exact ⟨none,0,none,0,he,hx,zDc w'⟩

section
variable (c : Cue) (A : Option Addr) (k : Nat) (B : Option Addr) (m : Nat) (part : Int) (t : Timing) (w : World) (hc : CueAt w c A k B m)
include hc
end
end Go.Proofs.YtnpdghjpcnjokaaGreat
