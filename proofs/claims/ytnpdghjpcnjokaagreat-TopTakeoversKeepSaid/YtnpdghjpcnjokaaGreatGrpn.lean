import Derived.Test.YtnpdghjpcnjokaaGreatGrpc
import Derived.Test.YtnpdghjpcnjokaaGreatGfew
set_option maxHeartbeats 3200000
set_option maxRecDepth 100000
namespace Go.Proofs.YtnpdghjpcnjokaaGreat
open Go.RowKit

attribute [go_sem] ziQ
def buildQ (ps : Array (Nat × Value)) : Sem Value:=Instr.buildSlice 38 1 ps
@[go_sem ↓ high] theorem buildQ_at (ps : Array (Nat × Value)) : Instr.buildSlice 38 1 ps = buildQ ps:=rfl
@[go_sem] theorem buildQ_run (w : World) (cs : Array Value) (h : cs.size = 45) : (buildQ #[(0,.agg cs)]).run Tryz.prog w = .ok (.slice (some ⟨w.heap.size,0,none⟩) 1 1) (w.alloc (.cells cs 187)) :=
 zdn w _ _ cs 45 Tryz.underlying38 kr kr h dk dk
def buildR (ps : Array (Nat × Value)) : Sem Value:=Instr.buildSlice 22 1 ps
@[go_sem ↓ high] theorem buildR_at (ps : Array (Nat × Value)) : Instr.buildSlice 22 1 ps = buildR ps:=rfl
@[go_sem] theorem buildR_run (w : World) (cs : Array Value) (h : cs.size = 45) : (buildR #[(0,.agg cs)]).run Tryz.prog w = .ok (.slice (some ⟨w.heap.size,0,none⟩) 1 1) (w.alloc (.cells cs 180)) :=
 zdn w _ _ cs 45 Tryz.underlying22 kr kr h dk dk
theorem zDC : zbz Tryz.prog 187 45 552 = true:=by kernel_rfl
@[go_sem] theorem nil_Q (A : Option Addr) (n c n' c' : Nat) (w : World) : (binOp .eql 38 (.slice A n c) (.slice none n' c')).run Tryz.prog w = .ok (.bool A.isNone) w:=Lib.run_eql_slice_nil w _ _ A n c n' c' Tryz.underlying38
def RetQ (w0 : World) (n : Nat) (l : List Rec) (e : Ending) (w' : World) : Prop:=∃ A k,e = .returned (.slice A n k) ∧ Ext w0 w' ∧ Own w0 w' 187 45 A n k (l.map recR)
theorem zCj {l : List Rec} {k : Nat} {m : Rec} (h : l[k]? = some m) : (l.take k).map recR ++ [recR m] = (l.take (k + 1)).map recR:=by
 obtain ⟨h1,h2⟩:=List.getElem?_eq_some_iff.1 h
 rw [List.take_succ_eq_append_getElem h1,h2,List.map_append];rfl
theorem zgK (r : Rec) : ∀ x ∈ [recR r],∀ u ∈ x,u.oneCell' = true:=by
 intro x hx
 simp at hx
 subst hx
 exact zcS r
theorem zcs (A : Option Addr) (c : Nat) (l : List Rec) (w : World) (hs : za3 w A c l) (hn : l.length * 552 ≤ 140737488355328) : Calls Tryz.prog 80 #[.slice A l.length c] w (RetQ w l.length l):=by
 have HS:=zh hs
 clear hs
 go_enter Tryz.func80,Tryz.ntmps80
 go_wp2
 go_loopw [3,8] (fun v i wr => ∃ (k : Nat) (D : Option Addr) (K : Nat),k ≤ l.length ∧ i = .int .i64 k ∧ v = .slice D k K ∧ Ext w wr ∧ Hid (Own w wr 187 45 D k K ((l.take k).map recR))) (fun _ i _ => l.length - (intOf i).toNat)
 case atStart => exact ⟨0,none,0,by omega,rfl,rfl,Ext.refl _,zh (Own.nil _)⟩
 case round =>
  obtain ⟨k,D,K,hk,rfl,rfl,hx,HO⟩:=hrel
  obtain ⟨y0,rfl⟩:=hx.get
  clear hx
  by_cases hlt : k < l.length
  ·obtain ⟨m,hm⟩ : ∃ m,l[k]? = some m:=⟨_,List.getElem?_eq_getElem hlt⟩
   obtain ⟨b,o,rfl,hrec,-⟩:=HS.out.get hm
   have hb0 : (0 : Int) ≤ (k : Int):=by omega
   have hb1 : (k : Int) < (l.length : Int):=by omega
   have hr1:=hrec.row
   have HT:=zh (zCj hm)
   clear hrec hm
   go_wp2_with (first
    | (refine za7 rfl 180 (.tmp 5) (.tmp 11) rfl rfl sg (recR m) rfl rfl kr (zcS m) ?_)
    | (at_builtin;refine za6 (w0:=w) rfl _ _ 38 38 rfl 187 187 45 552 Tryz.underlying38 Tryz.underlying38 zDC dk ex D k K ((l.take k).map recR) rfl (HO.out.mono ex) _ 1 1 [recR m] rfl (Sl.alloc' sg (by simp) (by simp [ziQ])) rfl (zgK m) (by unfold maxLen;omega) om (k + 1) rfl ((l.take (k + 1)).map recR) HT.out ?_;intro D2 K2 w2 hx2 hown hg hA;have HO2:=zh hown;obtain ⟨y2,rfl⟩:=hx2.get;clear hown hx2 hg hA))
   go_light
   exact ⟨⟨k + 1,D2,K2,by omega,by go_num,rfl,ex,HO2⟩,by simp [intOf];omega⟩
  ·have hkl : k = l.length:=by omega
   have HL:=zh (show l.take k = l by rw [hkl,List.take_length])
   have HK:=zh hkl
   clear hkl
   go_wp2
   go_ret
   have:=HO.out
   rw [HL.out] at this
   rw [HK.out] at this ⊢
   exact ⟨D,K,rfl,ex,this⟩
def RetOf (w0 : World) (n : Nod) (e : Ending) (w' : World) : Prop:=∃ A c,e = .returned (.agg (Ln n A c)) ∧ Ext w0 w' ∧ Own w0 w' 187 45 A n.log.length c (n.log.map recR)
theorem RetOf.recs {w0 w' : World} {n : Nod} {A : Option Addr} {c : Nat} (h : Own w0 w' 187 45 A n.log.length c (n.log.map recR)) (he : ∀ r ∈ n.log,AcnAt w' r.act) : za3 w' A c n.log:=Own.recs h rfl he
theorem zbA (n : Nod) (A : Option Addr) (c : Nat) (w : World) (hs : za3 w A c n.log) (hn : n.log.length * 552 ≤ 140737488355328) : Calls Tryz.prog 41 #[.agg (Ln n A c)] w (RetOf w n):=by
 have HS:=zh hs
 clear hs
 go_enter Tryz.func41,Tryz.ntmps41
 go_wp2
 go_region_held3 (fun w' => w'.cell? ⟨w.heap.size,0,none⟩ = some (.int .i64 n.id) ∧ w'.cell? ⟨w.heap.size,1,none⟩ = some (.int .i64 n.term) ∧ w'.cell? ⟨w.heap.size,2,none⟩ = some (.bool n.speaks) ∧ w'.cell? ⟨w.heap.size,3,none⟩ = some (.slice A n.log.length c) ∧ w'.cell? ⟨w.heap.size,4,none⟩ = some (.int .i64 n.acked) ∧ w'.cell? ⟨w.heap.size,5,none⟩ = some (.int .i64 n.next)) ((refine ⟨?_,?_,?_,?_,?_,?_⟩ <;> simp [go_sem]))
  ((go_at_call 80;refine (zcs A c n.log _ (HS.out.mono ex) hn).mono ?_;rintro e w' ⟨D,n',rfl,hx,hown⟩;have HO:=zh hown;obtain ⟨yc,rfl⟩:=hx.get;clear hx hown))
 all_goals
  go_wp2_with fail
  refine bodyPost_ret (v:=.agg (Ln n D n')) (by simp [results,Tryz.results41,go_sem]) rfl ?_
  exact ⟨D,n',rfl,ex,Own.older (Own.shift HO.out sg) ex⟩
def RetSaid (w0 : World) (m : Msg) (e : Ending) (w' : World) : Prop:=∃ A c,e = .returned (.agg (Lm m A c)) ∧ Ext w0 w' ∧ Own w0 w' 187 45 A m.recs.length c (m.recs.map recR)
def FewR (w : World) (l : List Rec) (e : Ending) (w' : World) : Prop:=(∃ b : Bool,e = .returned (.bool b) ∧ (b = true → l.length ≤ 511)) ∧ Ext w w'
end Go.Proofs.YtnpdghjpcnjokaaGreat

namespace Go.Proofs.YtnpdghjpcnjokaaGreat
open Go.RowKit

def nodR (x : Nod × Option Addr × Nat) : List Value:=[.int .i64 x.1.id,.int .i64 x.1.term,.bool x.1.speaks,.slice x.2.1 x.1.log.length x.2.2,.int .i64 x.1.acked,.int .i64 x.1.next]
def FewNs (w : World) (xs : List (Nod × Option Addr × Nat)) (e : Ending) (w' : World) : Prop:=(∃ b : Bool,e = .returned (.bool b) ∧ (b = true → ∀ x ∈ xs,x.1.log.length ≤ 511)) ∧ Ext w w'
end Go.Proofs.YtnpdghjpcnjokaaGreat

namespace Go.Proofs.YtnpdghjpcnjokaaGreat
open Go.RowKit

def buildN (ps : Array (Nat × Value)) : Sem Value:=Instr.buildSlice 183 1 ps
@[go_sem ↓ high] theorem buildN_at (ps : Array (Nat × Value)) : Instr.buildSlice 183 1 ps = buildN ps:=rfl
@[go_sem] theorem buildN_run (w : World) (cs : Array Value) (h : cs.size = 6) : (buildN #[(0,.agg cs)]).run Tryz.prog w = .ok (.slice (some ⟨w.heap.size,0,none⟩) 1 1) (w.alloc (.cells cs 24)) :=
 zdn w _ _ cs 6 Tryz.underlying183 kr kr h dk dk
end Go.Proofs.YtnpdghjpcnjokaaGreat
