import Derived.Test.YtmhinhgflehkaaaGreatGins
import Derived.Test.YtmhinhgflehkaaaGreatPure
import Derived.Test.YtmhinhgflehkaaaGreatGwka
import Derived.Test.YtmhinhgflehkaaaGreatSet
import Derived.Test.YtmhinhgflehkaaaGreatDdq
set_option maxHeartbeats 3200000
set_option maxRecDepth 100000
namespace Go.Proofs.YtmhinhgflehkaaaGreat
open Go.RowKit

def zeroOne (P:Program) (E:TypeId):Bool:=match P.info? E with
 | some i=>(match i.zero with | some z=>z.cells.all (·.oneCell') | none=>false)
 | none=>false
section
variable {P:Program} {W:World}
theorem zero_cells_one {z:Array Value} (h:z.all (·.oneCell')=true) (m:Nat):∀ v ∈ (Builtin.zeroCells z m).toList,v.oneCell'=true:=fun v hv=>by
 unfold Builtin.zeroCells at hv
 simp only [Array.toList_map,Array.toList_range,List.mem_map,List.mem_range] at hv
 obtain ⟨j,hj,rfl⟩:=hv
 have hz:0 < z.size:=by
  rcases Nat.eq_zero_or_pos z.size with h0 | h0
  ·rw [h0,Nat.mul_zero] at hj;omega
  ·exact h0
 have hlt:=Nat.mod_lt j hz
 rw [getElem!_pos z _ hlt]
 exact Array.all_eq_true.1 h _ hlt
theorem run_clear_blk (t ty E:TypeId) (i:TypeInfo) (z:Value) (size:Nat) (hu:P.underlying t=some (.slice E)) (hi:P.info? E=some i) (hz:i.zero=some z) (hzs:z.cells.size=size) (hz1:z.cells.all (·.oneCell')=true)
  (g off m c:Nat) (cur:Array Value) (T:TypeId) (hg:W.heap[g]? = some (.cells cur T (0,0))) (hm:0 < m) (hfit:off+m * size≤cur.size) :
  (Builtin.clear_ #[t] ty #[.slice (some ⟨g,off,none⟩) m c]).run P W = .ok (.tuple #[]) (W.setRow g (cur.toList.take off ++ (Builtin.zeroCells z.cells m).toList ++ cur.toList.drop (off+m * size)).toArray):=by
 have hl:(Builtin.zeroCells z.cells m).toList.length=m * size:=by rw [Array.length_toList,size_zeroCells,hzs]
 have hst:=run_storeCells_at P g off T (Builtin.zeroCells z.cells m).toList 0 cur W hg (by rw [hl];simpa using hfit) (zero_cells_one hz1 m)
 simp only [Nat.add_zero,hl] at hst
 cases m with
 | zero=>omega
 | succ m=>simp [Builtin.clear_,run_underlying hu,zeroValue,typeInfo,hi,hz,hst]

theorem wpList_clear_mine {ops:Array Oper} {rest:List Oper} {o:Oper} {a:Act} {Q:Exit→Act→World→Prop} (hgd:o.guard=none) (d:Operand) (t:TypeId) (ho:o.op = .call { callee:=.builtin .clear,args:=#[d],argTypes:=#[t] })
  (E:TypeId) (size bytes:Nat) (hu:P.underlying t=some (.slice E)) (hI:infoOk P E size bytes=true) (hZ:zeroOne P E=true) {w0:World} (hx:Ext w0 W) (g n k i:Nat) (c:Nat) (rows:List (List Value)) (hown:Own w0 W E size (some ⟨g,0,none⟩) n k rows) (hin:i < n)
  (hd:a.eval d = .slice (some ⟨g,i * size,none⟩) (n - i) c)
  (h:∀ w',Ext w0 w'→Own w0 w' E size (some ⟨g,0,none⟩) i k (rows.take i)→W.grownBy w' (some g)→wpList P ops Q rest (a.put o.dst (.tuple #[])) w'):wpList P ops Q (o :: rest) a W:=by
 obtain ⟨I,z,e1,e2,e3,_,e5⟩:=infoOk_get hI
 have hz1:z.cells.all (·.oneCell')=true:=by
  unfold zeroOne at hZ
  rw [e1] at hZ
  simp only [e2] at hZ
  exact hZ
 rcases hown.at_ with h0 | ⟨g',cur,hA,hg0,hb,hcs,htk⟩
 ·have:=hown.le;omega
 injection hA with hA
 injection hA with hA
 subst hA
 have hfit:i * size+(n - i) * size≤cur.size:=by
  rw [hcs,← Nat.add_mul];exact Nat.mul_le_mul_right _ (by have:=hown.le;omega)
 have hr:=run_clear_blk (P:=P) (W:=W) t o.type E I z size hu e1 e2 e5 hz1 g (i * size) (n - i) c cur E hb (by omega) hfit
 refine wpList_plain hgd fun K hK => ?_
 unfold Oper.wp execOp
 simp only [ho,resolve,invoke,builtin,Sem.run_bind,Sem.run_pure,Result.andThen_ok,List.map_toArray,List.map_cons,List.map_nil,hd,hr]
 refine hK _ _ (h _ (below_setRow hx hg0 _) ⟨by rw [List.length_take,hown.len];omega,fun r hr=>hown.row r (List.mem_of_mem_take hr),fun r hr=>hown.one r (List.mem_of_mem_take hr),by have:=hown.le;omega,hown.cap,.inr ⟨g,_,rfl,hg0,setRow_heap W g cur _ E _ hb,?_,?_⟩⟩ ⟨rfl,rfl,rfl,by simp [World.setRow],fun j _ hne=>setRow_other W g j _ (fun e=>hne (by rw [e]))⟩)
 ·rw [List.size_toArray,len_splice3 _ _ _ _ (by rw [Array.length_toList,size_zeroCells,e5]) (by simpa using hfit)];simpa using hcs
 ·have hlen:(cur.toList.take (i * size)).length=i * size:=by rw [List.length_take,Array.length_toList];omega
  show (cur.toList.take (i * size) ++ _ ++ _).take (i * size)=_
  rw [List.append_assoc,List.take_append_of_le_length (by omega),List.take_of_length_le (by omega)]
  have hfl:=flat_get (size:=size) rows hown.row
  have e:cur.toList.take (i * size)=(cur.toList.take (n * size)).take (i * size):=by rw [List.take_take,Nat.min_eq_left (Nat.mul_le_mul_right _ (by omega))]
  rw [e,htk]
  have key:∀ (rs:List (List Value)) (_:∀ r ∈ rs,r.length=size) (i:Nat),rs.flatten.take (i * size)=(rs.take i).flatten:=by
   intro rs
   induction rs with
   | nil=>intro _ i;simp
   | cons r rs ih =>
    intro h i
    cases i with
    | zero=>simp
    | succ i =>
     have hl:=h r (by simp)
     rw [List.flatten_cons,List.take_succ_cons,List.flatten_cons,← ih (fun x hx=>h x (by simp [hx])) i,Nat.succ_mul,List.take_append,hl,List.take_of_length_le (by omega)]
     congr 2
     omega
  exact key rows hown.row i
end

structure Deleting {α:Type} (q:α→Bool) (l cur:List α) (i j:Nat):Prop where
 len:cur.length=l.length
 kept:cur.take i=(l.take j).filter (fun x => !q x)
 left:cur.drop j=l.drop j
 le:i≤j
theorem Deleting.skip {α:Type} {q:α→Bool} {l cur:List α} {i j:Nat} (h:Deleting q l cur i j) {x:α} (hx:l[j]? = some x) (hq:q x=true):Deleting q l cur i (j+1):=by
 obtain ⟨hj,hxe⟩:=List.getElem?_eq_some_iff.1 hx
 refine ⟨h.len,?_,?_,by have:=h.le;omega⟩
 ·rw [h.kept,List.take_succ_eq_append_getElem hj,List.filter_append,hxe]
  simp [hq]
 ·have:=congrArg (List.drop 1) h.left
  simpa [List.drop_drop] using this
theorem Deleting.keep {α:Type} {q:α→Bool} {l cur:List α} {i j:Nat} (h:Deleting q l cur i j) {x:α} (hx:l[j]? = some x) (hq:q x=false) (hi:i < l.length) (hij:i < j+1):Deleting q l (cur.set i x) (i+1) (j+1):=by
 obtain ⟨hj,hxe⟩:=List.getElem?_eq_some_iff.1 hx
 have hic:i < cur.length:=by rw [h.len];exact hi
 refine ⟨by simpa using h.len,?_,?_,by omega⟩
 ·rw [List.take_succ_eq_append_getElem (by simpa using hic),List.take_set_of_le (Nat.le_refl _),h.kept,List.take_succ_eq_append_getElem hj,List.filter_append,hxe]
  simp [hq]
 ·rw [List.drop_set_of_lt (by omega)]
  have:=congrArg (List.drop 1) h.left
  simpa [List.drop_drop] using this
theorem Deleting.get {α:Type} {q:α→Bool} {l cur:List α} {i j:Nat} (h:Deleting q l cur i j) {x:α} (hx:l[j]? = some x):cur[j]? = some x:=by
 have e1:(cur.drop j)[0]? = cur[j]?:=by rw [List.getElem?_drop];rfl
 have e2:(l.drop j)[0]? = l[j]?:=by rw [List.getElem?_drop];rfl
 rw [← e1,h.left,e2,hx]
theorem Deleting.done {α:Type} {q:α→Bool} {l cur:List α} {i j:Nat} (h:Deleting q l cur i j) (hj:l.length≤j):cur.take i=l.filter fun x => !q x:=by
 rw [h.kept,List.take_of_length_le hj]
end Go.Proofs.YtmhinhgflehkaaaGreat

namespace Go.Proofs.YtmhinhgflehkaaaGreat
open Go.RowKit

def idxQ {α:Type} (q:α→Bool) (l:List α):Int:=match l.findIdx? q with | some i=>i | none => -1
theorem idxQ_at {α:Type} {q:α→Bool} {l:List α} {j:Nat} {x:α} (hx:l[j]? = some x) (hq:q x=true) (hn:(l.take j).all (fun y => !q y)=true):idxQ q l=j:=by
 unfold idxQ
 obtain ⟨hj,hxe⟩:=List.getElem?_eq_some_iff.1 hx
 rw [show l.findIdx? q=some j by
  rw [List.findIdx?_eq_some_iff_getElem]
  refine ⟨hj,by rw [hxe];exact hq,fun k hk => ?_⟩
  have:=List.all_eq_true.1 hn l[k] (by rw [List.mem_iff_getElem];exact ⟨k,by rw [List.length_take];omega,by rw [List.getElem_take]⟩)
  simpa using this]
theorem idxQ_none {α:Type} {q:α→Bool} {l:List α} (hn:l.all (fun y => !q y)=true):idxQ q l = -1:=by
 unfold idxQ
 rw [List.findIdx?_eq_none_iff.2 (fun x hx=>by have:=List.all_eq_true.1 hn x hx;simpa using this)]
theorem idxQ_cases {α:Type} (q:α→Bool) (l:List α):(idxQ q l = -1∧l.filter (fun x => !q x)=l) ∨ ∃ i:Nat,idxQ q l=i∧i < l.length∧Deleting q l l i (i+1):=by
 unfold idxQ
 cases h:l.findIdx? q with
 | none =>
  left
  rw [List.findIdx?_eq_none_iff] at h
  exact ⟨rfl,List.filter_eq_self.2 fun x hx=>by rw [h x hx];rfl⟩
 | some i =>
  right
  obtain ⟨hlt,hp,hj⟩:=List.findIdx?_eq_some_iff_getElem.1 h
  refine ⟨i,rfl,hlt,rfl,?_,rfl,by omega⟩
  rw [List.take_succ_eq_append_getElem hlt,List.filter_append]
  have:(l.take i).filter (fun x => !q x)=l.take i:=List.filter_eq_self.2 fun x hx=>by
   obtain ⟨k,hk,rfl⟩:=List.getElem_of_mem hx
   rw [List.length_take] at hk
   rw [List.getElem_take]
   have:=hj k (by omega)
   simpa using this
  rw [this]
  simp [hp]
theorem info_Ev2:infoOk Tryz.prog 89 48 576=true:=by kernel_rfl
@[go_sem] theorem nil_Ev (A:Option Addr) (n c n' c':Nat) (w:World):(binOp .eql 31 (.slice A n c) (.slice none n' c')).run Tryz.prog w = .ok (.bool A.isNone) w:=Lib.run_eql_slice_nil w _ _ A n c n' c' Tryz.underlying31
theorem zero_Evt:zeroOne Tryz.prog 89 = true:=by kernel_rfl
theorem Clone_E (A:Option Addr) (k:Nat) (l:List Evt) (w:World) (hs:Sl w A 48 (l.map evtR)) (hl:l.length * 576≤140737488355328):Calls Tryz.prog 41 #[.slice A l.length k] w (RetSl w 89 48 l.length (l.map evtR)):=by
 cases A with
 | none =>
  have hnil:l=[]:=by simpa using hs.none_nil
  subst hnil
  go_enter Tryz.func41,Tryz.ntmps41
  go_wp2
  go_ret
  exact ⟨_,_,rfl,ex,Own.nil _⟩
 | some a =>
  go_enter Tryz.func41,Tryz.ntmps41
  go_wp2_with (at_builtin;refine wpList_append_mine (w0:=w) rfl _ _ 31 31 rfl 89 89 48 576 Tryz.underlying31 Tryz.underlying31 info_Ev2 (by decide) (ex) _ 0 0 [] rfl (Own.nil _) (some a) l.length _ (l.map evtR) rfl (hs.mono (ex)) (by simp) (evtR_ones l) (by unfold maxLen;omega) (by omega) l.length (by omega) (l.map evtR) rfl ?_;intro A' k' w1 hx1 hown hg hA;have HO:=Lib.hid hown;obtain ⟨y,rfl⟩:=hx1.get;clear hown hx1 hg hA)
  go_ret
  exact ⟨_,_,rfl,ex,HO.out⟩
theorem l55_Terms1 (x:Evt) (bp:Nat) (t:Int) (w:World) (hb:w.cell? ⟨bp,0,none⟩=some (.int .i64 t)) :
  Calls Tryz.prog 46 #[.agg (evtR x).toArray,.pointer (some ⟨bp,0,none⟩)] w fun e w'=>e = .returned (.bool (x.tick != t))∧Ext w w':=by
 go_enter Tryz.func46,Tryz.ntmps46
 go_wp2
 go_ret
 exact ⟨rfl,ex⟩
def stB (t:Int) (x:Evt):Bool:=(x.kind != 0) && ((x.kind != 5) || decide (t < x.delay))
theorem l55_Stays1 (x:Evt) (bp:Nat) (t:Int) (w:World) (hb:w.cell? ⟨bp,0,none⟩=some (.int .i64 t)) :
  Calls Tryz.prog 42 #[.agg (evtR x).toArray,.pointer (some ⟨bp,0,none⟩)] w fun e w'=>e = .returned (.bool (stB t x))∧Ext w w':=by
 by_cases h0:x.kind=0
 ·have HV:=Lib.hid (show false=stB t x by unfold stB;rw [h0];rfl)
  have k0:(x.kind != 0)=false:=by simpa using h0
  clear h0
  go_enter Tryz.func42,Tryz.ntmps42
  go_wp2
  go_ret
  exact ⟨ret_b HV.out,ex⟩
 ·have k0:(x.kind != 0)=true:=by simpa using h0
  by_cases h5:x.kind=5
  ·have k5:(x.kind != 5)=false:=by simpa using h5
   have HV:=Lib.hid (show decide (t < x.delay)=stB t x by unfold stB;rw [k0,k5];rfl)
   clear h0 h5
   go_enter Tryz.func42,Tryz.ntmps42
   go_wp2
   go_ret
   exact ⟨ret_b HV.out,ex⟩
  ·have k5:(x.kind != 5)=true:=by simpa using h5
   have HV:=Lib.hid (show true=stB t x by unfold stB;rw [k0,k5];rfl)
   clear h0 h5
   go_enter Tryz.func42,Tryz.ntmps42
   go_wp2
   go_ret
   exact ⟨ret_b HV.out,ex⟩
def RetSlE (w0:World) (o:List Evt) (e:Ending) (w':World):Prop:=∃ A k,e = .returned (.slice A o.length k)∧Ext w0 w'∧Own w0 w' 89 48 A o.length k (o.map evtR)
theorem IndexFunc_Terms (A:Option Addr) (k:Nat) (l:List Evt) (bp:Nat) (t:Int) (w:World) (hs:Sl w A 48 (l.map evtR)) (hl:l.length * 576≤140737488355328) (hcb:w.cell? ⟨bp,0,none⟩=some (.int .i64 t)) :
  Calls Tryz.prog 97 #[.slice A l.length k,.func (Fn.func 46) #[] #[.pointer (some ⟨bp,0,none⟩)]] w fun e w'=>e = .returned (.int .i64 (idxQ (fun m:Evt=>m.tick != t) l))∧Ext w w':=by
 have HS:=Lib.hid hs
 clear hs
 go_enter Tryz.func97,Tryz.ntmps97
 go_wp2
 go_loopw [8] (fun i wr=>∃ j:Nat,j≤l.length∧i = .int .i64 j∧Ext w wr∧Hid ((l.take j).all (fun m => !((fun m:Evt=>m.tick != t) m))=true)) (fun i _=>l.length - (intOf i).toNat)
 case atStart=>exact ⟨0,by omega,rfl,Ext.refl _,Lib.hid (by simp)⟩
 case round =>
  obtain ⟨j,hj,rfl,hx,HN⟩:=hrel
  obtain ⟨y,rfl⟩:=hx.get
  clear hx
  by_cases hlt:j < l.length
  ·obtain ⟨m,hm⟩:∃ m,l[j]? = some m:=⟨_,List.getElem?_eq_getElem hlt⟩
   have HM:=Lib.hid hm
   obtain ⟨b',o',rfl,hr⟩:=HS.out.range (i:=j) (row:=evtR m) (by rw [List.getElem?_map,hm];rfl)
   have hr1:=rowQ_of hr (evtR_len m)
   have hb0:(0:Int)≤(j:Int):=by omega
   have hb1:(j:Int) < (l.length:Int):=by omega
   clear hm hr
   cases hq:(fun m:Evt=>m.tick != t) m
   ·have HQ:=Lib.hid hq
    go_wp2_with (go_at_call 46;refine (l55_Terms1 m bp t _ (by simp [go_sem, *])).mono ?_;rintro e w' ⟨he,hx⟩;rw [show (m.tick != t)=false from HQ.out] at he;subst he;obtain ⟨y2,rfl⟩:=hx.get;clear hx)
    go_light
    exact ⟨⟨j+1,by omega,by go_num,ex,Lib.hid (all_step HM.out (by rw [HQ.out];rfl) HN.out)⟩,by simp [intOf];omega⟩
   ·have HQ:=Lib.hid hq
    go_wp2_with (go_at_call 46;refine (l55_Terms1 m bp t _ (by simp [go_sem, *])).mono ?_;rintro e w' ⟨he,hx⟩;rw [show (m.tick != t)=true from HQ.out] at he;subst he;obtain ⟨y2,rfl⟩:=hx.get;clear hx)
    go_ret
    rw [idxQ_at HM.out HQ.out HN.out]
    exact ⟨rfl,ex⟩
  ·have HA:=Lib.hid (all_full (l:=l) (k:=j) (by omega) HN.out)
   go_wp2
   go_ret
   rw [idxQ_none HA.out]
   exact ⟨rfl,ex⟩
theorem DeleteFunc_Terms (w0:World) (A:Option Addr) (k:Nat) (l:List Evt) (bp:Nat) (t:Int) (W:World) (hx0:Ext w0 W) (ho:Own w0 W 89 48 A l.length k (l.map evtR)) (hl:l.length * 576≤140737488355328) (hcb:w0.cell? ⟨bp,0,none⟩=some (.int .i64 t)) :
  Calls Tryz.prog 40 #[.slice A l.length k,.func (Fn.func 46) #[] #[.pointer (some ⟨bp,0,none⟩)]] W
   (RetSlE w0 (l.filter fun m => !((fun m:Evt=>m.tick != t) m))):=by
 obtain ⟨y0,rfl⟩:=hx0.get
 clear hx0
 have HO:=Lib.hid ho
 have hle:=ho.le
 have hcap:=ho.cap
 unfold maxLen at hcap
 rcases idxQ_cases (fun m:Evt=>m.tick != t) l with ⟨hi,hf⟩ | ⟨i0,hi,hlt0,hD⟩
 ·have HF:=Lib.hid hf
  have HI:=Lib.hid hi
  clear ho hf hi
  go_enter Tryz.func40,Tryz.ntmps40
  go_wp2_with (go_at_call 97;refine (IndexFunc_Terms A k l bp t _ (HO.out.sl) hl (by simp [go_sem, *])).mono ?_;rintro e w' ⟨he,hx⟩;rw [HI.out] at he;subst he;obtain ⟨y,rfl⟩:=hx.get;clear hx)
  go_ret
  rw [HF.out]
  exact ⟨A,k,rfl,ex,HO.out.mono (ex)⟩
 ·obtain ⟨g,rfl,_,_⟩:=ho.there hlt0
  have HD:=Lib.hid hD
  have HI:=Lib.hid hi
  have hb0:((i0:Int) == -1)=false:=by rw [beq_eq_false_iff_ne];omega
  clear ho hD hi
  go_enter Tryz.func40,Tryz.ntmps40
  go_wp2_with (go_at_call 97;refine (IndexFunc_Terms _ k l bp t _ (HO.out.sl) hl (by simp [go_sem, *])).mono ?_;rintro e w' ⟨he,hx⟩;rw [HI.out] at he;subst he;obtain ⟨y,rfl⟩:=hx.get;clear hx)
  go_loopw [5,6] (fun s t2 wr=>∃ (i j:Nat) (cur:List Evt),i < j∧j≤l.length∧s = .int .i64 i∧t2 = .int .i64 j∧Hid (Deleting (fun m:Evt=>m.tick != t) l cur i j)∧Ext w0 wr∧Hid (Own w0 wr 89 48 (some ⟨g,0,none⟩) l.length k (cur.map evtR))) (fun _ t2 _=>l.length - (intOf t2).toNat)
  case atStart=>exact ⟨i0,i0+1,l,by omega,by omega,rfl,by go_num,HD,ex,Lib.hid (HO.out.mono (ex))⟩
  case round =>
   clear HO HI HD
   obtain ⟨i,j,cur,hij,hj,rfl,rfl,HD,hx,HO⟩:=hrel
   obtain ⟨y,rfl⟩:=hx.get
   clear hx
   by_cases hlt:j < l.length
   ·obtain ⟨x,hx⟩:∃ x,l[j]? = some x:=⟨_,List.getElem?_eq_getElem hlt⟩
    have HX:=Lib.hid hx
    obtain ⟨b',of,hA,hr⟩:=HO.out.sl.range (i:=j) (row:=evtR x) (by rw [List.getElem?_map,HD.out.get hx];rfl)
    injection hA with hA
    injection hA with hA hA2
    subst hA hA2
    rw [Nat.zero_add] at hr
    have hr1:=rowQ_of hr (evtR_len x)
    have hj0:(0:Int)≤(j:Int):=by omega
    have hj1:(j:Int) < (l.length:Int):=by omega
    have hi0:(0:Int)≤(i:Int):=by omega
    have hi1:(i:Int) < (l.length:Int):=by omega
    have hin:i < l.length:=by omega
    clear hx hr
    cases hq:(fun m:Evt=>m.tick != t) x
    ·have HQ:=Lib.hid hq
     go_wp2_with (first
      | (refine wpList_store_top rfl 89 (.tmp 7) (.tmp 25) rfl rfl (by simp [go_sem]) (evtR x) rfl rfl (by kernel_rfl) (evtR_one x) ?_)
      | (go_at_call 46;refine (l55_Terms1 x bp t _ (by simp [go_sem, *])).mono ?_;rintro e w' ⟨he,hx⟩;rw [show (x.tick != t)=false from HQ.out] at he;subst he;obtain ⟨y2,rfl⟩:=hx.get;clear hx)
      | (refine wpList_store_mine (w0:=w0) rfl 89 _ _ rfl 89 48 (ex) g l.length k i (cur.map evtR) (HO.out.mono (ex)) hin (evtR x) (by rfl) (by rfl) rfl (evtR_ones [x] _ (by simp)) (by kernel_rfl) ?_;intro w1 hx1 hown hg;have HO1:=Lib.hid hown;obtain ⟨y1,rfl⟩:=hx1.get;clear hown hx1 hg))
     go_light
     exact ⟨⟨i+1,j+1,cur.set i x,by omega,by omega,by go_num,by go_num,Lib.hid (HD.out.keep HX.out HQ.out hin (by omega)),ex,Lib.hid (by rw [List.map_set];exact HO1.out.mono (ex))⟩,by simp [intOf];omega⟩
    ·have HQ:=Lib.hid hq
     go_wp2_with (first
      | (refine wpList_store_top rfl 89 (.tmp 7) (.tmp 25) rfl rfl (by simp [go_sem]) (evtR x) rfl rfl (by kernel_rfl) (evtR_one x) ?_)
      | (go_at_call 46;refine (l55_Terms1 x bp t _ (by simp [go_sem, *])).mono ?_;rintro e w' ⟨he,hx⟩;rw [show (x.tick != t)=true from HQ.out] at he;subst he;obtain ⟨y2,rfl⟩:=hx.get;clear hx))
     go_light
     exact ⟨⟨i,j+1,cur,by omega,by omega,rfl,by go_num,Lib.hid (HD.out.skip HX.out HQ.out),ex,Lib.hid (HO.out.mono (ex))⟩,by simp [intOf];omega⟩
   ·have HE:=Lib.hid (HD.out.done (by omega))
    have hin:i < l.length:=by omega
    have hi0:(0:Int)≤(i:Int):=by omega
    have hi1:(i:Int)≤(l.length:Int):=by omega
    have hi2:(i:Int)≤(k:Int):=by omega
    have q1 : ¬ k=i:=by omega
    have q2 : ¬ l.length=i:=by omega
    have HN:=Lib.hid (show (cur.take i).length=i by rw [List.length_take,HD.out.len];omega)
    go_wp2_with (refine wpList_clear_mine (w0:=w0) rfl (.tmp 38) 31 rfl 89 48 576 Tryz.underlying31 info_Ev2 (by kernel_rfl) (ex) g l.length k i (k - i) (cur.map evtR) HO.out hin (by show Value.slice (partA (some ⟨g,0,none⟩) i k 48) (l.length - i) (k - i)=_;unfold partA;rw [if_neg q1];simp [Addr.add];exact fun h=>h.symm) ?_;intro w1 hx1 hown hg;have HO1:=Lib.hid hown;obtain ⟨y1,rfl⟩:=hx1.get;clear hown hx1 hg)
    go_ret
    rw [← HE.out]
    refine ⟨some ⟨g,0,none⟩,k,by rw [HN.out];rfl,ex,?_⟩
    rw [HN.out,List.map_take]
    exact HO1.out.mono (ex)
theorem IndexFunc_Stays (A:Option Addr) (k:Nat) (l:List Evt) (bp:Nat) (t:Int) (w:World) (hs:Sl w A 48 (l.map evtR)) (hl:l.length * 576≤140737488355328) (hcb:w.cell? ⟨bp,0,none⟩=some (.int .i64 t)) :
  Calls Tryz.prog 97 #[.slice A l.length k,.func (Fn.func 42) #[] #[.pointer (some ⟨bp,0,none⟩)]] w fun e w'=>e = .returned (.int .i64 (idxQ (fun m:Evt=>stB t m) l))∧Ext w w':=by
 have HS:=Lib.hid hs
 clear hs
 go_enter Tryz.func97,Tryz.ntmps97
 go_wp2
 go_loopw [8] (fun i wr=>∃ j:Nat,j≤l.length∧i = .int .i64 j∧Ext w wr∧Hid ((l.take j).all (fun m => !((fun m:Evt=>stB t m) m))=true)) (fun i _=>l.length - (intOf i).toNat)
 case atStart=>exact ⟨0,by omega,rfl,Ext.refl _,Lib.hid (by simp)⟩
 case round =>
  obtain ⟨j,hj,rfl,hx,HN⟩:=hrel
  obtain ⟨y,rfl⟩:=hx.get
  clear hx
  by_cases hlt:j < l.length
  ·obtain ⟨m,hm⟩:∃ m,l[j]? = some m:=⟨_,List.getElem?_eq_getElem hlt⟩
   have HM:=Lib.hid hm
   obtain ⟨b',o',rfl,hr⟩:=HS.out.range (i:=j) (row:=evtR m) (by rw [List.getElem?_map,hm];rfl)
   have hr1:=rowQ_of hr (evtR_len m)
   have hb0:(0:Int)≤(j:Int):=by omega
   have hb1:(j:Int) < (l.length:Int):=by omega
   clear hm hr
   cases hq:(fun m:Evt=>stB t m) m
   ·have HQ:=Lib.hid hq
    go_wp2_with (go_at_call 42;refine (l55_Stays1 m bp t _ (by simp [go_sem, *])).mono ?_;rintro e w' ⟨he,hx⟩;rw [show stB t m=false from HQ.out] at he;subst he;obtain ⟨y2,rfl⟩:=hx.get;clear hx)
    go_light
    exact ⟨⟨j+1,by omega,by go_num,ex,Lib.hid (all_step HM.out (by rw [HQ.out];rfl) HN.out)⟩,by simp [intOf];omega⟩
   ·have HQ:=Lib.hid hq
    go_wp2_with (go_at_call 42;refine (l55_Stays1 m bp t _ (by simp [go_sem, *])).mono ?_;rintro e w' ⟨he,hx⟩;rw [show stB t m=true from HQ.out] at he;subst he;obtain ⟨y2,rfl⟩:=hx.get;clear hx)
    go_ret
    rw [idxQ_at HM.out HQ.out HN.out]
    exact ⟨rfl,ex⟩
  ·have HA:=Lib.hid (all_full (l:=l) (k:=j) (by omega) HN.out)
   go_wp2
   go_ret
   rw [idxQ_none HA.out]
   exact ⟨rfl,ex⟩
theorem DeleteFunc_Stays (w0:World) (A:Option Addr) (k:Nat) (l:List Evt) (bp:Nat) (t:Int) (W:World) (hx0:Ext w0 W) (ho:Own w0 W 89 48 A l.length k (l.map evtR)) (hl:l.length * 576≤140737488355328) (hcb:w0.cell? ⟨bp,0,none⟩=some (.int .i64 t)) :
  Calls Tryz.prog 40 #[.slice A l.length k,.func (Fn.func 42) #[] #[.pointer (some ⟨bp,0,none⟩)]] W
   (RetSlE w0 (l.filter fun m => !((fun m:Evt=>stB t m) m))):=by
 obtain ⟨y0,rfl⟩:=hx0.get
 clear hx0
 have HO:=Lib.hid ho
 have hle:=ho.le
 have hcap:=ho.cap
 unfold maxLen at hcap
 rcases idxQ_cases (fun m:Evt=>stB t m) l with ⟨hi,hf⟩ | ⟨i0,hi,hlt0,hD⟩
 ·have HF:=Lib.hid hf
  have HI:=Lib.hid hi
  clear ho hf hi
  go_enter Tryz.func40,Tryz.ntmps40
  go_wp2_with (go_at_call 97;refine (IndexFunc_Stays A k l bp t _ (HO.out.sl) hl (by simp [go_sem, *])).mono ?_;rintro e w' ⟨he,hx⟩;rw [HI.out] at he;subst he;obtain ⟨y,rfl⟩:=hx.get;clear hx)
  go_ret
  rw [HF.out]
  exact ⟨A,k,rfl,ex,HO.out.mono (ex)⟩
 ·obtain ⟨g,rfl,_,_⟩:=ho.there hlt0
  have HD:=Lib.hid hD
  have HI:=Lib.hid hi
  have hb0:((i0:Int) == -1)=false:=by rw [beq_eq_false_iff_ne];omega
  clear ho hD hi
  go_enter Tryz.func40,Tryz.ntmps40
  go_wp2_with (go_at_call 97;refine (IndexFunc_Stays _ k l bp t _ (HO.out.sl) hl (by simp [go_sem, *])).mono ?_;rintro e w' ⟨he,hx⟩;rw [HI.out] at he;subst he;obtain ⟨y,rfl⟩:=hx.get;clear hx)
  go_loopw [5,6] (fun s t2 wr=>∃ (i j:Nat) (cur:List Evt),i < j∧j≤l.length∧s = .int .i64 i∧t2 = .int .i64 j∧Hid (Deleting (fun m:Evt=>stB t m) l cur i j)∧Ext w0 wr∧Hid (Own w0 wr 89 48 (some ⟨g,0,none⟩) l.length k (cur.map evtR))) (fun _ t2 _=>l.length - (intOf t2).toNat)
  case atStart=>exact ⟨i0,i0+1,l,by omega,by omega,rfl,by go_num,HD,ex,Lib.hid (HO.out.mono (ex))⟩
  case round =>
   clear HO HI HD
   obtain ⟨i,j,cur,hij,hj,rfl,rfl,HD,hx,HO⟩:=hrel
   obtain ⟨y,rfl⟩:=hx.get
   clear hx
   by_cases hlt:j < l.length
   ·obtain ⟨x,hx⟩:∃ x,l[j]? = some x:=⟨_,List.getElem?_eq_getElem hlt⟩
    have HX:=Lib.hid hx
    obtain ⟨b',of,hA,hr⟩:=HO.out.sl.range (i:=j) (row:=evtR x) (by rw [List.getElem?_map,HD.out.get hx];rfl)
    injection hA with hA
    injection hA with hA hA2
    subst hA hA2
    rw [Nat.zero_add] at hr
    have hr1:=rowQ_of hr (evtR_len x)
    have hj0:(0:Int)≤(j:Int):=by omega
    have hj1:(j:Int) < (l.length:Int):=by omega
    have hi0:(0:Int)≤(i:Int):=by omega
    have hi1:(i:Int) < (l.length:Int):=by omega
    have hin:i < l.length:=by omega
    clear hx hr
    cases hq:(fun m:Evt=>stB t m) x
    ·have HQ:=Lib.hid hq
     go_wp2_with (first
      | (refine wpList_store_top rfl 89 (.tmp 7) (.tmp 25) rfl rfl (by simp [go_sem]) (evtR x) rfl rfl (by kernel_rfl) (evtR_one x) ?_)
      | (go_at_call 42;refine (l55_Stays1 x bp t _ (by simp [go_sem, *])).mono ?_;rintro e w' ⟨he,hx⟩;rw [show stB t x=false from HQ.out] at he;subst he;obtain ⟨y2,rfl⟩:=hx.get;clear hx)
      | (refine wpList_store_mine (w0:=w0) rfl 89 _ _ rfl 89 48 (ex) g l.length k i (cur.map evtR) (HO.out.mono (ex)) hin (evtR x) (by rfl) (by rfl) rfl (evtR_ones [x] _ (by simp)) (by kernel_rfl) ?_;intro w1 hx1 hown hg;have HO1:=Lib.hid hown;obtain ⟨y1,rfl⟩:=hx1.get;clear hown hx1 hg))
     go_light
     exact ⟨⟨i+1,j+1,cur.set i x,by omega,by omega,by go_num,by go_num,Lib.hid (HD.out.keep HX.out HQ.out hin (by omega)),ex,Lib.hid (by rw [List.map_set];exact HO1.out.mono (ex))⟩,by simp [intOf];omega⟩
    ·have HQ:=Lib.hid hq
     go_wp2_with (first
      | (refine wpList_store_top rfl 89 (.tmp 7) (.tmp 25) rfl rfl (by simp [go_sem]) (evtR x) rfl rfl (by kernel_rfl) (evtR_one x) ?_)
      | (go_at_call 42;refine (l55_Stays1 x bp t _ (by simp [go_sem, *])).mono ?_;rintro e w' ⟨he,hx⟩;rw [show stB t x=true from HQ.out] at he;subst he;obtain ⟨y2,rfl⟩:=hx.get;clear hx))
     go_light
     exact ⟨⟨i,j+1,cur,by omega,by omega,rfl,by go_num,Lib.hid (HD.out.skip HX.out HQ.out),ex,Lib.hid (HO.out.mono (ex))⟩,by simp [intOf];omega⟩
   ·have HE:=Lib.hid (HD.out.done (by omega))
    have hin:i < l.length:=by omega
    have hi0:(0:Int)≤(i:Int):=by omega
    have hi1:(i:Int)≤(l.length:Int):=by omega
    have hi2:(i:Int)≤(k:Int):=by omega
    have q1 : ¬ k=i:=by omega
    have q2 : ¬ l.length=i:=by omega
    have HN:=Lib.hid (show (cur.take i).length=i by rw [List.length_take,HD.out.len];omega)
    go_wp2_with (refine wpList_clear_mine (w0:=w0) rfl (.tmp 38) 31 rfl 89 48 576 Tryz.underlying31 info_Ev2 (by kernel_rfl) (ex) g l.length k i (k - i) (cur.map evtR) HO.out hin (by show Value.slice (partA (some ⟨g,0,none⟩) i k 48) (l.length - i) (k - i)=_;unfold partA;rw [if_neg q1];simp [Addr.add];exact fun h=>h.symm) ?_;intro w1 hx1 hown hg;have HO1:=Lib.hid hown;obtain ⟨y1,rfl⟩:=hx1.get;clear hown hx1 hg)
    go_ret
    rw [← HE.out]
    refine ⟨some ⟨g,0,none⟩,k,by rw [HN.out];rfl,ex,?_⟩
    rw [HN.out,List.map_take]
    exact HO1.out.mono (ex)
end Go.Proofs.YtmhinhgflehkaaaGreat
