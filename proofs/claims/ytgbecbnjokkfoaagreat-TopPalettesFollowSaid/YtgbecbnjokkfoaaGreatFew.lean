import Derived.Test.YtgbecbnjokkfoaaGreatTim10
namespace Go.Proofs.YtgbecbnjokkfoaaGreat
set_option maxHeartbeats 400000
open Go.RowKit

def few (c : Cue) : Bool:=decide (c.number.size ≤ 40) && decide (c.label.size ≤ 100) && decide (c.link.size ≤ 40) && decide (c.parts.length ≤ 10) && decide (c.moves.length ≤ 300)

theorem r16_FewMoves (A : Option Addr) (c : Nat) (l : List Move) (w : World) : Calls Tryz.prog 13 #[.slice A l.length c] w fun e w' => e = .returned (.bool (decide (l.length ≤ 300))) ∧ w = w':=by
 go_enter Tryz.func13,Tryz.ntmps13
 go_wp2
 go_ret
 exact ⟨ret_b (by simp;try omega),rfl⟩
theorem r16_Few (c : Cue) (A : Option Addr) (k : Nat) (B : Option Addr) (m : Nat) (w : World) : Calls Tryz.prog 6 #[.agg (cueV c A k B m).toArray] w fun e w' => e = .returned (.bool (few c)) ∧ Ext w w':=by
 simp only [cueV]
 go_enter Tryz.func6,Tryz.ntmps6
 go_wp2_with (go_at_call 13;refine (r16_FewMoves _ _ _ _).mono ?_;rintro e w' ⟨rfl,rfl⟩)
 all_goals
  go_ret
  go_light
  refine ⟨ret_b ?_,ex⟩
  first | grind [few] | (simp [few];omega)

end Go.Proofs.YtgbecbnjokkfoaaGreat
