import Derived.Test.YtgbecbnjokkfoaaPal7
namespace Go.Proofs.Ytgbecbnjokkfoaa
set_option maxHeartbeats 800000
set_option maxRecDepth 100000
open Go.RowKit

def pal4 (lev : Int) (A : Option Addr) : Pal:=⟨4,[⟨⟨0,3⟩,lev⟩],A,1⟩
theorem pal4_ok {lev : Int} (h1 : 0 ≤ lev) (h2 : lev ≤ 65535) (A : Option Addr) : palsE [pal4 lev A] = 0:=by
 simp [palsE,scan,palE,huesE,hueE,hueE1,levB,paramE0,pal4,h1,h2]

theorem top_with (lev : Int) (w : World) (h1 : 0 ≤ lev) (h2 : lev ≤ 65535) : Calls Try.prog 13 #[.int .i64 lev] w fun e w' => ∃ D q A,e = .returned (.slice D 1 q) ∧ Ext w w' ∧ Pals w' D [pal4 lev A]:=by
 go_enter Try.func13,Try.ntmps13
 go_wp2_with (go_at_call 8;refine (pal_Put_nil (pal4 lev _) _ (Sl.alloc' (by simp [go_sem]) rfl (by simp [pal4,hueR])) (pal4_ok h1 h2 _) (by exact (by decide : 1 ≤ maxLen))).mono ?_;rintro e w' ⟨D,q,rfl,hx,hp⟩;have HP:=Lib.hid hp;obtain ⟨y1,rfl⟩:=hx.get;clear hx hp)
 go_ret
 exact ⟨D,q,_,rfl,ex,HP.out⟩
end Go.Proofs.Ytgbecbnjokkfoaa
