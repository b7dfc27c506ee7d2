import Derived.Test.YtgbecbnjokkfoaaGrp1
import Derived.Maps.OwnOps
import Derived.Maps.OwnSet
import Derived.Maps.Views
namespace Go.Proofs.Ytgbecbnjokkfoaa
set_option maxHeartbeats 3200000
set_option maxRecDepth 100000
open Go.RowKit
attribute [local go_sem ↓] Go.wp_at_zero Go.wp_at_succ

def RetFan (w : World) (n : Nat) (e : Ending) (w' : World) : Prop:=∃ (D : Option Addr) (k : Nat) (lv : List Int),e = .returned (.tuple #[.slice D n k,.int .i64 0]) ∧ Ext w w' ∧ Own w w' 3 1 D n k (lv.map iv) ∧ lv.length = n ∧ ∀ v ∈ lv,0 ≤ v ∧ v ≤ 65535
theorem grp_lev (v : Int) (w : World) (h1 : 0 ≤ v) (h2 : v ≤ 65535) : Calls Try.prog 30 #[.int .i64 v] w fun e w' => e = .returned (.bool true) ∧ w = w':=by
 go_enter Try.func30,Try.ntmps30
 go_wp2
 go_ret
 exact ⟨rfl,rfl⟩
theorem grp_id (v : Int) (w : World) : Calls Try.prog 15 #[.int .i64 v] w fun e w' => e = .returned (.int .i64 v) ∧ w = w':=by
 go_enter Try.func15,Try.ntmps15
 go_wp2
 go_ret
 exact ⟨rfl,rfl⟩
theorem lev_app {o : List Int} {v : Int} (h : ∀ v ∈ o,0 ≤ v ∧ v ≤ 65535) (hv : 0 ≤ v ∧ v ≤ 65535) : ∀ z ∈ o ++ [v],0 ≤ z ∧ z ≤ 65535:=fun z hz => by
 rcases List.mem_append.1 hz with hz | hz
 ·exact h z hz
 ·rw [List.mem_singleton.1 hz];exact hv
theorem grp_spread (a b : Int) (n : Nat) (W : Int) (w : World) (ha : 0 ≤ a) (ha2 : a ≤ 65535) (hb : 0 ≤ b) (hb2 : b ≤ 65535) (hn1 : 1 ≤ n) (hn : n ≤ 60) (hW : W = (n : Int) - 1) :
  Calls Try.prog 14 #[.int .i64 a,.int .i64 b,.int .i64 n,.int .i64 W,.func (Fn.func 15) #[] #[]] w (RetFan w n):=by
 have hW0 : 0 ≤ W:=by omega
 have hW1 : W ≤ 59:=by omega
 have HW:=Lib.hid hW
 clear hW
 have hn0 : (0 : Int) ≤ (n : Int):=by omega
 have hn2 : (n : Int) ≤ 60:=by omega
 go_enter Try.func14,Try.ntmps14
 go_wp2_with (first | (go_at_call 30;refine (grp_lev a _ ha ha2).mono ?_;rintro e w' ⟨rfl,rfl⟩) | (go_at_call 30;refine (grp_lev b _ hb hb2).mono ?_;rintro e w' ⟨rfl,rfl⟩))
 go_loopw [13,36] (fun s i wr => ∃ (k : Nat) (D : Option Addr) (c : Nat) (o : List Int),k ≤ n ∧ i = .int .i64 k ∧ s = .slice D k c ∧ Ext w wr ∧ Hid (o.length = k) ∧ Hid (∀ v ∈ o,0 ≤ v ∧ v ≤ 65535) ∧ Hid (Own w wr 3 1 D k c (o.map iv))) (fun _ i _ => n - (intOf i).toNat)
 case atStart => exact ⟨0,none,0,[],by omega,rfl,rfl,ex,Lib.hid rfl,Lib.hid (by simp),Lib.hid (Own.nil _)⟩
 case round =>
  obtain ⟨k,D,c,o,hk,rfl,rfl,hx,HL,HV,HO⟩:=hrel
  obtain ⟨y,rfl⟩:=hx.get
  clear hx
  by_cases hlt : k < n
  ·have hb0 : (0 : Int) ≤ (k : Int):=by omega
   have hb1 : (k : Int) < (n : Int):=by omega
   by_cases hw : 0 < W
   ·have hbd:=mul_in (a:=2 * (b - a)) (A:=131070) (k:=(k : Int)) (K:=59) (by omega) (by omega) hb0 (by omega) (by omega)
    have HF:=Lib.hid (fan_go ha ha2 hb hb2 hb0 (show (k : Int) ≤ W by rw [HW.out];omega) (by omega) rfl)
    obtain ⟨p,hp⟩ : ∃ p,2 * (b - a) * (k : Int) = p:=⟨_,rfl⟩
    rw [hp] at hbd HF
    obtain ⟨hp1,hp2⟩:=hbd
    obtain ⟨q,hq⟩ : ∃ q,(p + W).tdiv (2 * W) = q:=⟨_,rfl⟩
    obtain ⟨r,hr⟩ : ∃ r,(p + W).tmod (2 * W) = r:=⟨_,rfl⟩
    rw [hq,hr] at HF
    have hz : (2 * W == 0) = false:=by rw [beq_eq_false_iff_ne];omega
    have hqb : -131072 ≤ q ∧ q ≤ 131072:=by
     by_cases h : r < 0
     ·have:=HF.out.1 h;omega
     ·have:=HF.out.2 h;omega
    obtain ⟨hq1,hq2⟩:=hqb
    by_cases hr0 : r < 0
    ·have HE:=Lib.hid (HF.out.1 hr0)
     go_wp2_with (first
      | (go_at_call 15;refine (grp_id k _).mono ?_;rintro e w' ⟨rfl,rfl⟩)
      | (at_builtin;refine wpList_append_mine (w0:=w) rfl _ _ 22 22 rfl 3 3 1 8 Try.underlying22 Try.underlying22 info_int (by decide) (ex) _ _ _ _ rfl (HO.out.mono (ex)) _ 1 1 [iv (a + q - 1)] rfl (Sl.alloc' (by simp [go_sem]) rfl (by simp [iv])) rfl (iv_one [a + q - 1]) (by unfold maxLen;omega) (by omega) (k + 1) rfl (o.map iv ++ [iv (a + q - 1)]) rfl ?_;intro D1 c1 w1 hx1 hown hg hA;have HO1:=Lib.hid hown;obtain ⟨y1,rfl⟩:=hx1.get;clear hown hx1 hg hA))
     go_light
     exact ⟨⟨k + 1,D1,c1,o ++ [a + q - 1],by omega,by go_num,rfl,ex,Lib.hid (by rw [List.length_append,HL.out];rfl),Lib.hid (lev_app HV.out HE.out),Lib.hid (by rw [← iv_app];exact HO1.out.mono (ex))⟩,by simp [intOf];omega⟩
    ·have HE:=Lib.hid (HF.out.2 hr0)
     go_wp2_with (first
      | (go_at_call 15;refine (grp_id k _).mono ?_;rintro e w' ⟨rfl,rfl⟩)
      | (at_builtin;refine wpList_append_mine (w0:=w) rfl _ _ 22 22 rfl 3 3 1 8 Try.underlying22 Try.underlying22 info_int (by decide) (ex) _ _ _ _ rfl (HO.out.mono (ex)) _ 1 1 [iv (a + q)] rfl (Sl.alloc' (by simp [go_sem]) rfl (by simp [iv])) rfl (iv_one [a + q]) (by unfold maxLen;omega) (by omega) (k + 1) rfl (o.map iv ++ [iv (a + q)]) rfl ?_;intro D1 c1 w1 hx1 hown hg hA;have HO1:=Lib.hid hown;obtain ⟨y1,rfl⟩:=hx1.get;clear hown hx1 hg hA))
     go_light
     exact ⟨⟨k + 1,D1,c1,o ++ [a + q],by omega,by go_num,rfl,ex,Lib.hid (by rw [List.length_append,HL.out];rfl),Lib.hid (lev_app HV.out HE.out),Lib.hid (by rw [← iv_app];exact HO1.out.mono (ex))⟩,by simp [intOf];omega⟩
   ·have HE:=Lib.hid (show 0 ≤ a ∧ a ≤ 65535 from ⟨ha,ha2⟩)
    go_wp2_with (at_builtin;refine wpList_append_mine (w0:=w) rfl _ _ 22 22 rfl 3 3 1 8 Try.underlying22 Try.underlying22 info_int (by decide) (ex) _ _ _ _ rfl (HO.out.mono (ex)) _ 1 1 [iv a] rfl (Sl.alloc' (by simp [go_sem]) rfl (by simp [iv])) rfl (iv_one [a]) (by unfold maxLen;omega) (by omega) (k + 1) rfl (o.map iv ++ [iv a]) rfl ?_;intro D1 c1 w1 hx1 hown hg hA;have HO1:=Lib.hid hown;obtain ⟨y1,rfl⟩:=hx1.get;clear hown hx1 hg hA)
    go_light
    exact ⟨⟨k + 1,D1,c1,o ++ [a],by omega,by go_num,rfl,ex,Lib.hid (by rw [List.length_append,HL.out];rfl),Lib.hid (lev_app HV.out HE.out),Lib.hid (by rw [← iv_app];exact HO1.out.mono (ex))⟩,by simp [intOf];omega⟩
  ·obtain rfl : k = n:=by omega
   go_wp2
   go_ret2
   exact ⟨D,c,o,rfl,ex,HO.out,HL.out,HV.out⟩
theorem grp_Fan (a b : Int) (n : Nat) (w : World) (ha : 0 ≤ a) (ha2 : a ≤ 65535) (hb : 0 ≤ b) (hb2 : b ≤ 65535) (hn1 : 1 ≤ n) (hn : n ≤ 60) :
  Calls Try.prog 6 #[.int .i64 a,.int .i64 b,.int .i64 n] w (RetFan w n):=by
 have hn0 : (1 : Int) ≤ (n : Int):=by omega
 have hn2 : (n : Int) ≤ 60:=by omega
 go_enter Try.func6,Try.ntmps6
 go_wp2_with (go_at_call 14;refine (grp_spread a b n ((n : Int) - 1) _ ha ha2 hb hb2 hn1 hn rfl).mono ?_;rintro e w' ⟨D,k,lv,rfl,hx,ho,hl,hv⟩;have HO:=Lib.hid ho;have HL:=Lib.hid hl;have HV:=Lib.hid hv;obtain ⟨y,rfl⟩:=hx.get;clear hx ho hl hv)
 go_ret2
 exact ⟨D,k,lv,rfl,ex,HO.out,HL.out,HV.out⟩

def MapO (w : World) (b n : Nat) (f : Int → Option Int) : Prop:=∃ D : DataW Unit,Maps.IsMap D ∧ w.ownsMap Try.prog 3 (plainElem Try.prog 3) b n D ∧ ∀ z,Maps.has D (.int .i64 z) = (f z).isSome ∧ ∀ v,f z = some v → D.atKey (.int .i64 z) (.lit (.int .i64 0)) = .lit (.int .i64 v)
theorem zero_i64 (w : World) : (zeroValue 3).run Try.prog w = .ok (.int .i64 0) w:=by kernel_rfl
theorem MapO.new (w : World) : MapO (w.alloc (.map #[] 0)) w.heap.size 0 (fun _ => none):=⟨.map [],Maps.isMap_empty,World.ownsMap_made _ _ _ _,fun _ => ⟨rfl,nofun⟩⟩
theorem MapO.kept {w w' : World} {b n : Nat} {f : Int → Option Int} {row : Option Nat} (h : MapO w b n f) (hg : w.grownBy w' row) (hne : some b ≠ row) : MapO w' b n f:=by
 obtain ⟨D,h1,h2,h3⟩:=h;exact ⟨D,h1,h2.kept hg hne,h3⟩
theorem MapO.mono {w w' : World} {b n : Nat} {f : Int → Option Int} (h : MapO w b n f) (hx : Ext w w') : MapO w' b n f :=
 h.kept (row:=none) ⟨hx.os,hx.tape,hx.output,hx.size,fun k hk _ => hx.block k hk⟩ (by simp)
section
variable {ops : Array Oper} {rest : List Oper} {o : Oper} {a : Act} {Q : Exit → Act → World → Prop} {w0 W : World}
theorem wpList_put_mo (hg : o.guard = none) (m x v : Operand) (hop : o.op = Op.mapUpdate 31 m x v) (b n : Nat) (f : Int → Option Int) (hx : Ext w0 W) (hb : w0.heap.size ≤ b) (hm : a.eval m = .map (some b)) (hown : MapO W b n f) (hn : n < maxLen)
  (z y : Int) (hxe : a.eval x = .int .i64 z) (hve : a.eval v = .int .i64 y) (hz : (Lit.int .i64 z).wf = true) (hy : (Lit.int .i64 y).wf = true)
  (hK : ∀ w',Ext w0 w' → MapO w' b (n + 1) (fun q => if q = z then some y else f q) → W.grownBy w' (some b) → wpList Try.prog ops Q rest (a.put o.dst undef) w') : wpList Try.prog ops Q (o :: rest) a W:=by
 obtain ⟨D,h1,h2,h3⟩:=hown
 refine wpList_mapUpdate_own W hg m x v _ hop _ 3 (Maps.int_keyed Try.underlying3) Try.underlying31 _ b n D hm h2 hn _ _ (.int .i64 z) hxe hve (Maps.keyOf_int_mk Try.underlying3 hz) (.lit (.int .i64 y)) [] (plainElem_int Try.underlying3 hy) ?_
 intro w' hown hgr
 refine hK w' (hx.trans_own hgr (fun q hq => by injection hq with hq;omega)) ⟨_,h1.put _ _,hown,fun q => ?_⟩ hgr
 by_cases hq : q = z
 ·subst hq
  dsimp only
  rw [if_pos rfl]
  exact ⟨Maps.has_put_same h1 (by simp [WideAt.IsKeyLit]) _,fun v hv => by injection hv with hv;subst hv;exact Maps.atKey_put_same h1 (show WideAt.IsKeyLit (.int .i64 q) from (by simp [WideAt.IsKeyLit])) _ _⟩
 ·dsimp only
  rw [if_neg hq]
  have hne : Lit.int .i64 q ≠ Lit.int .i64 z:=fun e => hq (Lit.int.inj e).2
  exact ⟨by rw [Maps.has_put_other hne];exact (h3 q).1,fun v hv => by rw [Maps.atKey_put_other hne];exact (h3 q).2 v hv⟩
theorem wpList_look_yes (hg : o.guard = none) (m x : Operand) (hop : o.op = Op.lookup 31 m x true) (b n : Nat) (f : Int → Option Int) (hm : a.eval m = .map (some b)) (hown : MapO W b n f) (z v : Int) (hxe : a.eval x = .int .i64 z) (hz : (Lit.int .i64 z).wf = true) (hf : f z = some v)
  (hK : wpList Try.prog ops Q rest (a.put o.dst (.tuple #[.int .i64 v,.bool true])) W) : wpList Try.prog ops Q (o :: rest) a W:=by
 obtain ⟨D,h1,h2,h3⟩:=hown
 refine wpList_lookup_own_ok_int W hg m x _ hop 3 3 .i64 (Maps.int_keyed Try.underlying3) Try.underlying31 Try.underlying3 (zero_i64 W) b n D hm h2 _ (.int .i64 z) hxe (Maps.keyOf_int_mk Try.underlying3 hz) ?_
 intro c hat _
 rw [(h3 z).2 v hf] at hat
 obtain rfl : v = c:=(Lit.int.inj (DataW.lit.inj hat)).2
 rw [(h3 z).1,hf]
 exact hK
theorem wpList_look_no (hg : o.guard = none) (m x : Operand) (hop : o.op = Op.lookup 31 m x true) (b n : Nat) (f : Int → Option Int) (hm : a.eval m = .map (some b)) (hown : MapO W b n f) (z : Int) (hxe : a.eval x = .int .i64 z) (hz : (Lit.int .i64 z).wf = true) (hf : f z = none)
  (hK : ∀ c,wpList Try.prog ops Q rest (a.put o.dst (.tuple #[.int .i64 c,.bool false])) W) : wpList Try.prog ops Q (o :: rest) a W:=by
 obtain ⟨D,h1,h2,h3⟩:=hown
 refine wpList_lookup_own_ok_int W hg m x _ hop 3 3 .i64 (Maps.int_keyed Try.underlying3) Try.underlying31 Try.underlying3 (zero_i64 W) b n D hm h2 _ (.int .i64 z) hxe (Maps.keyOf_int_mk Try.underlying3 hz) ?_
 intro c _ _
 rw [(h3 z).1,hf]
 exact hK c
end
end Go.Proofs.Ytgbecbnjokkfoaa
