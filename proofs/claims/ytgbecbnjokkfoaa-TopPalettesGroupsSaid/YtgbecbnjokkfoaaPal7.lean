import Derived.Test.YtgbecbnjokkfoaaGpale
import Derived.Test.YtgbecbnjokkfoaaGset
namespace Go.Proofs.Ytgbecbnjokkfoaa
set_option maxHeartbeats 1600000
set_option maxRecDepth 100000
open Go.RowKit

theorem info_Pal : infoOk Try.prog 34 2 32 = true:=by kernel_rfl
theorem palR_one (l : List Pal) : ∀ r ∈ l.map palR,∀ u ∈ r,u.oneCell' = true:=fun r hr u hu => by
 obtain ⟨m,_,rfl⟩:=List.mem_map.1 hr
 simp [palR] at hu
 rcases hu with rfl | rfl <;> rfl
@[go_sem] theorem nil_Pal (A : Option Addr) (n c n' c' : Nat) (w : World) : (binOp .eql 46 (.slice A n c) (.slice none n' c')).run Try.prog w = .ok (.bool A.isNone) w:=Lib.run_eql_slice_nil w _ _ A n c n' c' Try.underlying46

theorem Clone_nilP (w : World) : Calls Try.prog 18 #[.slice none 0 0] w fun e w' => e = .returned (.slice none 0 0) ∧ Ext w w':=by
 go_enter Try.func18,Try.ntmps18
 go_wp2
 go_ret
 exact ⟨rfl,ex⟩
theorem Insert_nilP (V : Option Addr) (c : Nat) (x : Pal) (w : World) (hs : Sl w V 2 [palR x]) : Calls Try.prog 19 #[.slice none 0 0,.int .i64 0,.slice V 1 c] w (RetSl w 34 2 1 [palR x]):=by
 go_enter Try.func19,Try.ntmps19
 go_wp2_with (at_builtin;refine wpList_append_mine (w0:=w) rfl _ _ 46 46 rfl 34 34 2 32 Try.underlying46 Try.underlying46 info_Pal (by decide) (ex) none 0 0 [] rfl (Own.nil _) V 1 c [palR x] rfl (hs.mono (ex)) rfl (palR_one [x]) (by unfold maxLen;omega) (by omega) 1 rfl [palR x] rfl ?_;intro D k' w1 hx1 hown hg hA;have HO:=Lib.hid hown;obtain ⟨y,rfl⟩:=hx1.get;clear hown hx1 hg hA)
 go_ret
 exact ⟨D,k',rfl,ex,HO.out⟩
theorem pals_one {w : World} {A : Option Addr} {x : Pal} (hs : Sl w A 2 [palR x]) (hx : Sl w x.at_ 3 (x.hues.map hueR)) (hl : x.hues.length ≤ maxLen) : Pals w A [x]:=⟨hs,fun p hp => by
 obtain rfl:=List.mem_singleton.1 hp
 exact ⟨hx,hl⟩⟩

theorem pal_Put_nil (x : Pal) (w : World) (hx : Sl w x.at_ 3 (x.hues.map hueR)) (hok : palsE [x] = 0) (hl : x.hues.length ≤ maxLen) :
  Calls Try.prog 8 #[.slice none 0 0,.agg (palR x).toArray] w fun e w' => ∃ D q,e = .returned (.tuple #[.slice D 1 q,.int .i64 0]) ∧ Ext w w' ∧ Pals w' D [x]:=by
 have HX:=Lib.hid hx
 have HL:=Lib.hid hl
 have hone : [x].length ≤ maxLen:=(by decide : 1 ≤ maxLen)
 have h0 : palsE [] = 0:=by decide
 have h1 : palsE [x] = 0:=hok
 have hp0 : posN [] x.number = 0:=rfl
 have hf0 : foundN [] x.number = false:=rfl
 have HN:=Lib.hid (show -2000000 ≤ x.number ∧ x.number ≤ 2000000 by have:=pal_in (palsE_scan hok).2 (i:=0) (a:=x) rfl;omega)
 clear hx hok hl
 simp only [palR]
 go_enter Try.func8,Try.ntmps8
 go_wp2_with (first
  | (go_at_call 16;have hh:=G1;clear hh;refine (pal_Check _ 1 [x] _ (pals_one (Sl.alloc' (by simp [go_sem]) rfl (by simp [palR])) (HX.out.mono (ex)) HL.out) hone).mono ?_;rintro e w' ⟨rfl,hx⟩;obtain ⟨y2,rfl⟩:=hx.get;clear hx)
  | (go_at_call 16;refine (pal_Check none 0 [] _ ⟨Sl.nil _ _ _,by simp⟩ (by decide)).mono ?_;rintro e w' ⟨rfl,hx⟩;have G1:=Lib.hid trivial;obtain ⟨y1,rfl⟩:=hx.get;clear hx)
  | (go_at_call 17;refine (pal_search none 0 [] x.number _ (Sl.nil _ _ _) (by decide) (by decide) HN.out).mono ?_;rintro e w' ⟨rfl,hx⟩;obtain ⟨y,rfl⟩:=hx.get;clear hx)
  | (go_at_call 18;refine (Clone_nilP _).mono ?_;rintro e w' ⟨rfl,hx⟩;obtain ⟨y,rfl⟩:=hx.get;clear hx)
  | (go_at_call 19;refine (Insert_nilP _ 1 x _ (Sl.alloc' (by simp [go_sem]) rfl (by simp [palR]))).mono ?_;rintro e w' ⟨D,q,rfl,hx,hown⟩;have HO:=Lib.hid hown;obtain ⟨y3,rfl⟩:=hx.get;clear hx hown))
 go_ret2
 exact ⟨D,q,rfl,ex,pals_one (HO.out.sl.mono (ex)) (HX.out.mono (ex)) HL.out⟩
end Go.Proofs.Ytgbecbnjokkfoaa
