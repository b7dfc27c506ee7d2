import Derived.Test.YtgbecbnjokkfoaaPal8
import Derived.Test.YtgbecbnjokkfoaaPalLaw
import Derived.Test.YtgbecbnjokkfoaaCSetO
namespace Go.Proofs.Ytgbecbnjokkfoaa
set_option maxHeartbeats 3200000
set_option maxRecDepth 100000
open Go.RowKit

theorem Sl.one6 {w : World} {b : Nat} {v0 v1 v2 v3 v4 v5 : Value} (h0 : w.cell? ⟨b,0,none⟩ = some v0) (h1 : w.cell? ⟨b,1,none⟩ = some v1) (h2 : w.cell? ⟨b,2,none⟩ = some v2) (h3 : w.cell? ⟨b,3,none⟩ = some v3) (h4 : w.cell? ⟨b,4,none⟩ = some v4) (h5 : w.cell? ⟨b,5,none⟩ = some v5) :
    Sl w (some ⟨b,0,none⟩) 6 [[v0,v1,v2,v3,v4,v5]]:=⟨fun i row hr => by
  match i with
  | 0 =>
    simp at hr
    subst hr
    refine ⟨rfl,b,0,rfl,fun j v hv => ?_⟩
    match j with
    | 0 => simp at hv;subst hv;exact h0
    | 1 => simp at hv;subst hv;exact h1
    | 2 => simp at hv;subst hv;exact h2
    | 3 => simp at hv;subst hv;exact h3
    | 4 => simp at hv;subst hv;exact h4
    | 5 => simp at hv;subst hv;exact h5
    | j + 6 => simp at hv
  | i + 1 => simp at hr⟩
theorem Sl.one4 {w : World} {b : Nat} {v0 v1 v2 v3 : Value} (h0 : w.cell? ⟨b,0,none⟩ = some v0) (h1 : w.cell? ⟨b,1,none⟩ = some v1) (h2 : w.cell? ⟨b,2,none⟩ = some v2) (h3 : w.cell? ⟨b,3,none⟩ = some v3) : Sl w (some ⟨b,0,none⟩) 4 [[v0,v1,v2,v3]]:=⟨fun i row hr => by
  match i with
  | 0 =>
    simp at hr
    subst hr
    refine ⟨rfl,b,0,rfl,fun j v hv => ?_⟩
    match j with
    | 0 => simp at hv;subst hv;exact h0
    | 1 => simp at hv;subst hv;exact h1
    | 2 => simp at hv;subst hv;exact h2
    | 3 => simp at hv;subst hv;exact h3
    | j + 4 => simp at hv
  | i + 1 => simp at hr⟩
@[go_sem] theorem make_T1 (w : World) : (Instr.makeSlice 50 (.int .i64 1) (.int .i64 1)).run Try.prog w = .ok (.slice (some ⟨w.heap.size,0,none⟩) 1 1) (w.alloc (.cells #[.int .i64 0,.int .i64 0,.int .i64 0,.int .i64 0,.int .i64 0,.int .i64 0] 99)):=by
  kernel_rfl
def oneC (l : List Move) : Cue:=⟨⟨#[49]⟩,⟨#[]⟩,l,[⟨0,0,0,0,0,0⟩],false,false,-1,⟨#[]⟩,0⟩
theorem one_ok (l : List Move) (h1 : movesE l = 0) (h2 : partsE (oneC l) = 0) : cueE (oneC l) = 0:=by
  have e1 : numE (oneC l).number = 0:=numE_one
  have e2 : labelE (oneC l).label = 0:=by show labelE ⟨#[]⟩ = 0;decide
  have e3 : movesE (oneC l).moves = 0:=h1
  have e5:=nextE_none (oneC l) rfl rfl rfl
  unfold cueE
  simp [e1,e2,e3,h2,e5]
def mRef : Move:=⟨⟨3,3⟩,⟨4,0⟩,1⟩
def eRef : Entry:=⟨⟨3,3⟩,⟨4,0⟩⟩
theorem one_set : csetV (oneC []) [eRef] 1 = (oneC [mRef],0):=by
  unfold csetV;rw [one_ok _ (by decide) (by decide)];decide
theorem one_Set (B C : Option Addr) (n : Nat) (w : World) (hc : CueAt w (oneC []) none 0 B 1) (hs : Sl w C 4 [[.int .i64 3,.int .i64 3,.int .i64 4,.int .i64 0]]) :
    Calls Try.prog 9 #[.agg (cueV (oneC []) none 0 B 1).toArray,.slice C 1 n,.int .i64 1] w fun e w' => ∃ A k B m,e = .returned (.tuple #[.agg (cueV (oneC [mRef]) A k B m).toArray,.int .i64 0]) ∧ Ext w w' ∧ Own w w' 60 5 A 1 k [mv mRef] :=
  (cue_SetO (oneC []) none 0 B 1 C n [eRef] 1 w hc hs (by decide)).mono fun e w' ⟨A,k,B,m,h1,h2,h3⟩ => by
    rw [one_set] at h1 h3
    exact ⟨A,k,B,m,h1,h2,h3.mv⟩
theorem lev4 (v : Int) (h1 : 0 ≤ v) (h2 : v ≤ 65535) (A : Option Addr) : levelV [pal4 v A] ⟨4,0⟩ ⟨3,3⟩ 0 = (v,0):=by
  have hp : paramE ⟨3,3⟩ = 0:=by decide
  have hs : scan hueE none [⟨⟨0,3⟩,v⟩] = 0:=scan_all (p:=⟨3,3⟩) hp h1 h2
  unfold pal4
  rw [levelV_one 4 _ A 1 _ 0 (by decide) (by decide) (huesE_ok hs (by simp)) hp (by decide),hueIn_all (x:=v) (hueAt_none (by simp)) (hueAt_mem hs (i:=0) (a:=⟨⟨0,3⟩,v⟩) rfl)]
  rfl
theorem pal_Level4 (D A : Option Addr) (q : Nat) (v : Int) (h1 : 0 ≤ v) (h2 : v ≤ 65535) (w : World) (hp : Pals w D [pal4 v A]) :
    Calls Try.prog 11 #[.slice D 1 q,.agg #[.int .i64 4,.int .i64 0],.agg #[.int .i64 3,.int .i64 3],.int .i64 0] w fun e w' => e = .returned (.tuple #[.int .i64 v,.int .i64 0]) ∧ Ext w w' :=
  (pal_Level D q [pal4 v A] ⟨4,0⟩ ⟨3,3⟩ 0 w hp (by exact (by decide : 1 ≤ maxLen))).mono fun e w' ⟨h3,h4⟩ => by
    rw [lev4 v h1 h2] at h3
    exact ⟨h3,h4⟩
theorem r15_Of4 (n : Int) (w : World) : Calls Try.prog 7 #[.int .i64 n] w fun e w' => e = .returned (.agg #[.int .i64 n,.int .i64 0]) ∧ Ext w w':=by
  go_enter Try.func7,Try.ntmps7
  go_wp2
  exact bodyPost_ret (v:=.agg #[.int .i64 n,.int .i64 0]) (by simp [results,Try.results7,go_sem]) rfl ⟨rfl,ex⟩

def cueCells (w : World) (n b o : Nat) : Prop:=∃ (k m : Nat) (B : Option Addr),w.cell? ⟨n,0,none⟩ = some (.string ⟨#[49]⟩) ∧ w.cell? ⟨n,1,none⟩ = some (.string ⟨#[]⟩) ∧ w.cell? ⟨n,2,none⟩ = some (.slice (some ⟨b,o,none⟩) 1 k) ∧ w.cell? ⟨n,3,none⟩ = some (.slice B 1 m) ∧ w.cell? ⟨n,4,none⟩ = some (.bool false) ∧ w.cell? ⟨n,5,none⟩ = some (.bool false) ∧ w.cell? ⟨n,6,none⟩ = some (.int .i64 (-1)) ∧ w.cell? ⟨n,7,none⟩ = some (.string ⟨#[]⟩) ∧ w.cell? ⟨n,8,none⟩ = some (.int .i64 0)

theorem top_casePalette (w : World) : Calls Try.prog 5 #[] w fun e w' => e = .returned (.bool true) ∧ Ext w w':=by
  go_enter Try.func5,Try.ntmps5
  go_upto_region 3 with fail
  go_cut [3,4] (fun s3 s4 wx => ∃ (n b o : Nat),s3 = .pointer (some ⟨n,0,none⟩) ∧ s4 = .int .i64 0 ∧ Ext w wx ∧ wx.cell? ⟨w.heap.size,0,none⟩ = some (.int .i64 3) ∧ wx.cell? ⟨w.heap.size,1,none⟩ = some (.int .i64 3) ∧ cueCells wx n b o ∧ Sl wx (some ⟨b,o,none⟩) 5 [mv mRef])
  case first =>
    go_region_held3 (fun w' => (∀ q,((w.alloc (.cells #[.int .i64 3,.int .i64 3] 40)).cell? q).isSome = true → w'.cell? q = (w.alloc (.cells #[.int .i64 3,.int .i64 3] 40)).cell? q) ∧ Ext (w.alloc (.cells #[.int .i64 3,.int .i64 3] 40)) w') ((refine kept ?_;go_split_ands;exact (by repeat (first | exact Ext.refl _ | assumption | apply Ext.xt | apply Ext.alloc | apply Ext.drew | apply Ext.drewN)))) (first
      | (go_at_call 7;refine (r15_Of4 4 _).mono ?_;rintro e w' ⟨rfl,hx⟩;obtain ⟨ya,rfl⟩:=hx.get;clear hx)
      | (go_at_call 9;refine (one_Set _ _ _ _ ⟨Sl.nil _ _ _,Sl.one6 (by simp [go_sem]) (by simp [go_sem]) (by simp [go_sem]) (by simp [go_sem]) (by simp [go_sem]) (by simp [go_sem]),by decide,by decide,by decide,by decide,by decide,by decide,by decide⟩ (Sl.one4 (by simp [go_sem]) (by simp [go_sem]) (by simp [go_sem]) (by simp [go_sem]))).mono ?_;rintro e w' ⟨A,k,B,m,he,hx,hc⟩;simp only [cueV,oneC,List.length_cons,List.length_nil,Nat.zero_add] at he;subst he;obtain ⟨g,rfl,_⟩:=hc.there (i:=0) (by decide);have HO:=Lib.hid hc;obtain ⟨yb,rfl⟩:=hx.get;clear hx hc))
    all_goals
      go_wp2_with fail
      go_meet
      refine ⟨_,g,0,rfl,rfl,ex,by simp [go_sem],by simp [go_sem],⟨k,m,B,by simp [go_sem],by simp [go_sem],by simp [go_sem],by simp [go_sem],by simp [go_sem],by simp [go_sem],by simp [go_sem],by simp [go_sem],by simp [go_sem]⟩,?_⟩
      first
        | (refine (Own.swapped (w:=w) HO.out ?_ ?_).sl
           · simp [go_sem]
           · exact (ex))
        | (refine HO.out.sl.mono ?_
           exact (ex))
  case rest =>
    obtain ⟨n,b,o,rfl,rfl,hx,q0,q1,⟨k,m,B,h0,h1,h2,h3,h4,h5,h6,h7,h8⟩,hm⟩:=hcut
    obtain ⟨b',o',e,hm0,hm1,hm2,hm3,hm4⟩:=hm.row5 (i:=0) rfl
    injection e with e
    injection e with e1 e2
    subst e1 e2
    simp only [Nat.zero_mul,Nat.add_zero,mRef] at hm0 hm1 hm2 hm3 hm4
    clear hm
    go_wp2
    go_region_held3 (fun w' => (∀ q,((wc).cell? q).isSome = true → w'.cell? q = (wc).cell? q) ∧ Ext (wc) w') ((refine kept ?_;go_split_ands;exact (by repeat (first | exact Ext.refl _ | assumption | apply Ext.xt | apply Ext.alloc | apply Ext.drew | apply Ext.drewN)))) (first
      | (go_at_call 13;refine (top_with 100 _ (by decide) (by decide)).mono ?_;rintro e w2 ⟨D,q,A2,rfl,hx,hp⟩;have HP:=Lib.hid hp;obtain ⟨yc,rfl⟩:=hx.get;clear hx hp)
      | (go_at_call 11;refine (pal_Level4 D A2 q 100 (by decide) (by decide) _ HP.out).mono ?_;rintro e w2 ⟨rfl,hx⟩;obtain ⟨yd,rfl⟩:=hx.get;clear hx))
    go_wp2
    go_region_held3 (fun w' => (∀ q,((xt (xt wc yc) yd).cell? q).isSome = true → w'.cell? q = (xt (xt wc yc) yd).cell? q) ∧ Ext (xt (xt wc yc) yd) w') ((refine kept ?_;go_split_ands;exact (by repeat (first | exact Ext.refl _ | assumption | apply Ext.xt | apply Ext.alloc | apply Ext.drew | apply Ext.drewN)))) (first
      | (go_at_call 13;refine (top_with 200 _ (by decide) (by decide)).mono ?_;rintro e w2 ⟨D',q',A3,rfl,hx,hp⟩;have HP':=Lib.hid hp;obtain ⟨ye,rfl⟩:=hx.get;clear hx hp)
      | (go_at_call 11;refine (pal_Level4 D' A3 q' 200 (by decide) (by decide) _ HP'.out).mono ?_;rintro e w2 ⟨rfl,hx⟩;obtain ⟨yf,rfl⟩:=hx.get;clear hx))
    go_wp2
    go_ret
    exact ⟨rfl,ex⟩
end Go.Proofs.Ytgbecbnjokkfoaa
