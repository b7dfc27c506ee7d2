import Derived.Test.YtnpdghjpcnjokaaGreatStr
set_option maxHeartbeats 400000
namespace Go.Proofs.YtnpdghjpcnjokaaGreat
open Go.RowKit

theorem zfV (v : Val) (w : World) : Calls Tryz.prog 223 #[.agg (vl v).toArray] w fun e w' => e = .returned (.int .i64 (zev v)) ∧ Ext w w':=by
 obtain ⟨ch,at_⟩:=v
 simp only [vl]
 go_enter Tryz.func223,Tryz.ntmps223
 go_wp2
 all_goals go_ret
 all_goals refine ⟨ret_i ?_,ex⟩
 all_goals grind [zev]
end Go.Proofs.YtnpdghjpcnjokaaGreat

namespace Go.Proofs.YtnpdghjpcnjokaaGreat
open Go.RowKit
end Go.Proofs.YtnpdghjpcnjokaaGreat

namespace Go.Proofs.YtnpdghjpcnjokaaGreat
open Go.RowKit

def nextE (c : Cue) : Int :=
 if c.follow ≠ -1 ∧ (c.follow < 25 ∨ 10000000 < c.follow) then 2 else if ¬ c.link.toList = [] ∧ numE c.link ≠ 0 then numE c.link
 else if c.loops < 0 ∨ 100 < c.loops then 2 else if 0 < c.loops ∧ c.link.toList = [] then 11 else 0
def cueE (c : Cue) : Int :=
 if numE c.number ≠ 0 then numE c.number else if zej c.label ≠ 0 then zej c.label else if zaV c.moves ≠ 0 then zaV c.moves
 else if zcC c ≠ 0 then zcC c else nextE c

def cueV (c : Cue) (A : Option Addr) (k : Nat) (B : Option Addr) (m : Nat) : List Value :=
 [.string c.number,.string c.label,.slice A c.moves.length k,.slice B c.parts.length m,.bool c.block,.bool c.mark,.int .i64 c.follow,.string c.link,.int .i64 c.loops]
structure CueAt (w : World) (c : Cue) (A : Option Addr) (k : Nat) (B : Option Addr) (m : Nat) : Prop where
 mv : Sl w A 5 (c.moves.map mv)
 pt : Sl w B 6 (c.parts.map tmg)
 hk : c.moves.length ≤ k
 hm : c.parts.length ≤ m
 hk' : k ≤ maxLen
 hm' : m ≤ maxLen
 num : c.number.size ≤ maxLen
 lab : c.label.size ≤ maxLen
 lnk : c.link.size ≤ maxLen
theorem CueAt.mono {w w' : World} {c : Cue} {A : Option Addr} {k : Nat} {B : Option Addr} {m : Nat} (h : CueAt w c A k B m) (hx : Ext w w') : CueAt w' c A k B m :=
 ⟨h.mv.mono hx,h.pt.mono hx,h.hk,h.hm,h.hk',h.hm',h.num,h.lab,h.lnk⟩

end Go.Proofs.YtnpdghjpcnjokaaGreat
