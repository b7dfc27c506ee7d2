import Derived.Test.YtgbecbnjokkfoaaDel1
namespace Go.Proofs.Ytgbecbnjokkfoaa
set_option maxHeartbeats 400000
set_option maxRecDepth 100000
open Go.RowKit

theorem Sl.upon {w1 w2 : World} {A : Option Addr} {size : Nat} {rows : List (List Value)} (hx : Ext w1 w2) (h : Sl w1 A size rows) : Sl w2 A size rows:=h.mono hx
def paramsE (ps : List Param) : Int:=if 4096 < ps.length then 5 else if ps.all (fun p => decide (paramE p = 0)) then 0 else 2
theorem paramE_two (p : Param) : paramE p = 0 ∨ paramE p = 2:=by unfold paramE;split <;> simp
def dropM (l : List Move) (ps : List Param) : List Move:=l.filter fun m => !(fun m : Move => hasP ps m.p) m
def dropV (c : Cue) (ps : List Param) : Cue × Int:=if cueE c ≠ 0 then (emptyC,cueE c) else if paramsE ps ≠ 0 then (emptyC,paramsE ps) else ({ c with moves:=dropM c.moves ps },0)

theorem draft_keep (bd : Nat) (B : Option Addr) (m : Nat) (l : List Timing) (W : World) (hb : W.cell? ⟨bd,3,none⟩ = some (.slice B l.length m)) (hf : W.frozen? ⟨bd,3,none⟩ = false) (hs : Sl W B 6 (l.map tmg)) (hl : l.length ≤ 1000000) :
  Calls Try.prog 23 #[.pointer (some ⟨bd,0,none⟩)] W fun e w' => ∃ D m' y,e = .returned (.tuple #[]) ∧ w' = (xt W y).setCell ⟨bd,3,none⟩ (.slice D l.length m') ∧ Own W (xt W y) 99 6 D l.length m' (l.map tmg):=by
 have HS:=Lib.hid hs
 clear hs
 have hb2 : (W.cell? ⟨bd,3,none⟩).isSome = true:=by rw [hb];rfl
 go_enter Try.func23,Try.ntmps23
 go_wp2_with (go_at_call 50;refine (Clone_T B m l _ HS.out hl).mono ?_;rintro e w' ⟨D,n',rfl,hx,hown⟩;have HO:=Lib.hid hown;obtain ⟨yc,rfl⟩:=hx.get;clear hx hown)
 go_end0
 refine ⟨D,n',yc,rfl,?_,HO.out⟩
 first | rfl | simp [go_sem, *]

def splitM (l : List Move) (part : Int) : List Move:=l.filter fun m => !(fun m : Move => m.part != part) m
def splitV (c : Cue) (part : Int) : List Move × Int:=if cueE c ≠ 0 then ([],cueE c) else if part < 1 ∨ (c.parts.length : Int) < part then ([],6) else (splitM c.moves part,0)
end Go.Proofs.Ytgbecbnjokkfoaa
