import Derived.Test.YtnpdghjpcnjokaaGreatGown
import Derived.Test.YtnpdghjpcnjokaaGreatGsame
import Derived.Deep.RegionLaw
import Derived.Deep.DrawnRows
import Derived.Lib.AppendZeros
import Derived.Lib.Overlaps
import Derived.Laws.Externs
namespace Go.Proofs.YtnpdghjpcnjokaaGreat
open Go.RowKit Tryz
attribute [local go_sem ↓] Go.wp_at_zero Go.wp_at_succ

@[go_sem] theorem nil_T (A : Option Addr) (n c n' c' : Nat) (w : World) : (binOp .eql 80 (.slice A n c) (.slice none n' c')).run prog w = .ok (.bool A.isNone) w:=Lib.run_eql_slice_nil w _ _ A n c n' c' underlying80
@[go_sem] theorem nil_M (A : Option Addr) (n c n' c' : Nat) (w : World) : (binOp .eql 79 (.slice A n c) (.slice none n' c')).run prog w = .ok (.bool A.isNone) w:=Lib.run_eql_slice_nil w _ _ A n c n' c' underlying79

def RetSl (w:World) (E:TypeId) (size n:Nat) (rows:List (List Value)) (e:Ending) (w':World):Prop:=∃A k,e=.returned (.slice A n k)∧Ext w w'∧Own w w' E size A n k rows
theorem Sl.none_nil {w:World}{size:Nat}{rows:List (List Value)}(h:Sl w none size rows):rows=[]:=by
 cases rows with
 |nil=>rfl
 |cons r rs=>obtain⟨_,b,o,h,_⟩:=h.at_ 0 r rfl;cases h

def zCz (w:World) (c:Cue) (A:Option Addr) (k:Nat) (e:Ending) (w':World):Prop:=∃B m,e=.returned (.agg (cueV c A k B m).toArray)∧Ext w w'∧Own w w' 286 6 B c.parts.length m (c.parts.map tmg)

def zai:Cue:=⟨⟨#[]⟩,⟨#[]⟩,[],[],false,false,0,⟨#[]⟩,0⟩
def setV (c:Cue) (part:Int) (t:Timing):Cue×Int:=
 if cueE c≠0 then(zai,cueE c) else if zam t≠0 then(zai,zam t)
 else if part=(c.parts.length:Int)+1 then(if c.parts.length=4 then(zai,5) else({c with parts:=c.parts++[t]},0))
 else if part<1∨(c.parts.length:Int)<part then(zai,6) else({c with parts:=c.parts.set (part.toNat - 1) t},0)
def zbh (w:World) (R:Cue×Int) (e:Ending) (w':World):Prop:=∃A k B m,e=.returned (.tuple #[.agg (cueV R.1 A k B m).toArray,R.2])∧Ext w w'∧CueAt w' R.1 A k B m
section
variable (c:Cue) (A:Option Addr) (k:Nat) (B:Option Addr) (m:Nat) (part:Int) (t:Timing) (w:World) (hc:CueAt w c A k B m)
include hc
end

section
variable {P:Program} {W:World}
end
attribute [local go_sem ↓] Go.wp_at_zero Go.wp_at_succ

theorem Sl.dropped {w:World}{b o size:Nat}{rows:List (List Value)}(h:Sl w (some ⟨b,o,none⟩) size rows)(i:Nat):Sl w (some ⟨b,o+i * size,none⟩) size (rows.drop i):=
 ⟨fun j row hr=>by rw[List.getElem?_drop] at hr;obtain⟨h1,b',o',h2,h3⟩:=h.at_ (i+j) row hr;injection h2 with h2;injection h2 with h2 h4;subst h2 h4;refine⟨h1,b,o+i * size,rfl,fun q v hv=> ?_⟩;have:=h3 q v hv;rwa [show o+(i+j) * size+q=o+i * size+j * size+q by rw[Nat.add_mul];omega] at this⟩
def insAt (l:List Move) (i:Nat) (x:Move):List Move:=l.take i++x::l.drop i
def zzC (w0 w:World) (A:Option Addr) (rows:List (List Value)) (n:Nat) (e:Ending) (w':World):Prop:=
 ∃A' k',e=.returned (.slice A' n k')∧Ext w0 w'∧Own w0 w' 283 5 A' n k' rows∧w.grownBy w' (A.map (·.block))

attribute [local go_sem ↓] Go.wp_at_zero Go.wp_at_succ

theorem Sl.kept {w w':World}{A:Option Addr}{size:Nat}{rows:List (List Value)}{row:Option Nat}(h:Sl w A size rows)(hg:w.grownBy w' row)(hne:∀a,A=some a→some a.block≠row):Sl w' A size rows:=
 ⟨fun i r hr=>by obtain⟨h1,b,o,h2,h3⟩:=h.at_ i r hr;exact⟨h1,b,o,h2,fun j v hv=>hg.cell (h3 j v hv) (show some b≠row from hne _ h2)⟩⟩
