import Derived.Test.YtgbecbnjokkfoaaRow
import Derived.Test.YtgbecbnjokkfoaaGcue
import Derived.Test.YtgbecbnjokkfoaaPure
set_option maxRecDepth 100000
namespace Go.Proofs.Ytgbecbnjokkfoaa
open Go.ChangeShapes Go.WideShapes Go.ChangeAt Go.RowKit Go.Joins Go.Deep

section
variable {H : Type} {enc : TypeId × Value → H} {P : Program} {w : World} {base : Nat} {spare : Nat → Bool} {held : Bool}

def isLeaves (P : Program) : Nat → TypeId → List TypeId → Bool
 | 0,_,_ => false
 | n + 1,t,ts => match P.underlying t with
  | some (.struct fs) => ts.length == P.cellsOf t && fs.toList.all (fun f => decide (f.offset + P.cellsOf f.type ≤ ts.length) && isLeaves P n f.type ((ts.drop f.offset).take (P.cellsOf f.type))) && (List.range ts.length).all fun j => fs.toList.any fun f => decide (f.offset ≤ j) && decide (j < f.offset + P.cellsOf f.type)
  | _ => ts == [t] && P.cellsOf t == 1

theorem open_leaves : ∀ (n : Nat) (t : TypeId) (ts : List TypeId) (fuel : Nat) (cs : List Value) (x : DataW H × List MemPlace),isLeaves P n t ts = true → cs.length = P.cellsOf t → DataW.trod enc P w base spare held fuel t cs = some x →
  cs.length = ts.length ∧ ∀ (j : Nat) (T : TypeId),ts[j]? = some T → ∃ (c : Value) (m : Nat) (y : DataW H × List MemPlace),cs[j]? = some c ∧ DataW.trod enc P w base spare held m T [c] = some y
 | 0,_,_,_,_,_,h,_,_ => by simp [isLeaves] at h
 | n + 1,t,ts,fuel,cs,x,h,hl,hx => by
  unfold isLeaves at h
  split at h
  ·rename_i fs hs
   simp only [Bool.and_eq_true,beq_iff_eq] at h
   obtain ⟨⟨h1,h2⟩,h3⟩:=h
   obtain ⟨xs,m,_,_,_,hxl,hg⟩:=DataW.trod_struct hs hx
   refine ⟨by omega,fun j T hj => ?_⟩
   have hjl : j < ts.length:=(List.getElem?_eq_some_iff.1 hj).1
   have h4:=List.all_eq_true.1 h3 j (List.mem_range.2 hjl)
   obtain ⟨f,hf,h5⟩:=List.any_eq_true.1 h4
   simp only [Bool.and_eq_true,decide_eq_true_eq] at h5
   have h6:=List.all_eq_true.1 h2 f hf
   simp only [Bool.and_eq_true,decide_eq_true_eq] at h6
   obtain ⟨i,hi⟩:=List.getElem?_of_mem hf
   have hi' : fs[i]? = some f:=by simpa using hi
   have hlt : i < fs.size:=(Array.getElem?_eq_some_iff.1 hi').1
   have h7:=hg i f hi'
   rw [List.getElem?_eq_getElem (by omega)] at h7
   have hlen : ((cs.drop f.offset).take (P.cellsOf f.type)).length = P.cellsOf f.type:=by
    rw [List.length_take,List.length_drop];omega
   obtain ⟨_,h10⟩:=open_leaves n _ _ m _ _ h6.2 hlen h7
   obtain ⟨c,m',y,hc,hy⟩:=h10 (j - f.offset) T (by
    rw [List.getElem?_take,if_pos (by omega),List.getElem?_drop,show f.offset + (j - f.offset) = j by omega];exact hj)
   refine ⟨c,m',y,?_,hy⟩
   rw [List.getElem?_take,if_pos (by omega),List.getElem?_drop,show f.offset + (j - f.offset) = j by omega] at hc
   exact hc
  ·simp only [Bool.and_eq_true,beq_iff_eq] at h
   obtain ⟨rfl,h2⟩:=h
   refine ⟨by simp;omega,fun j T hj => ?_⟩
   match cs,(by omega : cs.length = 1) with
   | [c],_ =>
    match j with
    | 0 => simp at hj;subst hj;exact ⟨c,fuel,x,rfl,hx⟩
    | j + 1 => simp at hj

theorem addr_add {a : Addr} {n : Nat} (h : a.spot = none) : a.add n = ⟨a.block,a.off + n,none⟩:=by
 obtain ⟨b,o,s⟩:=a
 simp only at h
 subst h
 unfold Addr.add
 split
 ·subst_vars;rfl
 ·rfl

theorem open_rows {t e : TypeId} {fuel n : Nat} {cs : List Value} {x : DataW H × List MemPlace} {ts : List TypeId} (ht : P.underlying t = some (.slice e)) (hl : isLeaves P n e ts = true) (hc : P.cellsOf e = ts.length) (hpos : 0 < ts.length)
  (h : DataW.trod enc P w base spare held fuel t cs = some x) :
  ∃ (A : Option Addr) (len cap : Nat),cs = [.slice A len cap] ∧ len ≤ cap ∧ cap ≤ maxLen ∧ ∀ i,i < len → ∃ (b o : Nat) (row : List Value),A = some ⟨b,o,none⟩ ∧ row.length = ts.length ∧
   (∀ (j : Nat) (v : Value),row[j]? = some v → w.cell? ⟨b,o + i * ts.length + j,none⟩ = some v) ∧ ∀ (j : Nat) (T : TypeId),ts[j]? = some T → ∃ (c : Value) (m : Nat) (y : DataW H × List MemPlace),row[j]? = some c ∧ DataW.trod enc P w base spare held m T [c] = some y:=by
 rcases open_slice ht h with ⟨rfl,_⟩ | ⟨a,len,cap,m,n',D,Pl,rfl,_,h1,h2,hm,_,hi⟩
 ·exact ⟨none,0,0,rfl,Nat.le_refl _,by unfold maxLen;omega,fun i h => by omega⟩
 ·refine ⟨some a,len,cap,rfl,h1,h2,fun i hil => ?_⟩
  have him : ∀ k,k < len → k < m:=fun k hk => by rw [hm];split <;> omega
  have hsp : a.spot = none:=by
   obtain ⟨cs0,hc0,_⟩:=hi 0 (him 0 (by omega))
   obtain ⟨_,hcl,hat⟩:=World.cells?_some hc0
   have h3:=hat 0 (by omega)
   rw [List.getElem?_eq_getElem (by omega)] at h3
   have h4:=World.cell?_spot h3
   simpa [Addr.add] using h4
  obtain ⟨cs',hcs,htr⟩:=hi i (him i hil)
  obtain ⟨_,hcl,hat⟩:=World.cells?_some hcs
  obtain ⟨h5,h6⟩:=open_leaves n e ts n' cs' _ hl hcl htr
  refine ⟨a.block,a.off,cs',?_,by omega,fun j v hj => ?_,h6⟩
  ·obtain ⟨b,o,s⟩:=a
   simp only at hsp
   rw [hsp]
  ·have hjl : j < cs'.length:=(List.getElem?_eq_some_iff.1 hj).1
   have h7:=hat j (by omega)
   rw [hj,addr_add hsp,addr_add rfl,hc] at h7
   exact h7

theorem rows_list {α : Type} (f : α → List Value) {A : Option Addr} {len size : Nat} (h : ∀ i,i < len → ∃ (m : α) (b o : Nat),A = some ⟨b,o,none⟩ ∧ (f m).length = size ∧ ∀ j v,(f m)[j]? = some v → w.cell? ⟨b,o + i * size + j,none⟩ = some v) :
  ∃ l : List α,l.length = len ∧ Sl w A size (l.map f):=by
 have h1 : ∀ i : Fin len,∃ (m : α),∃ (b o : Nat),A = some ⟨b,o,none⟩ ∧ (f m).length = size ∧ ∀ j v,(f m)[j]? = some v → w.cell? ⟨b,o + i * size + j,none⟩ = some v:=fun i => h i i.isLt
 obtain ⟨g,hg⟩:=Classical.axiomOfChoice h1
 refine ⟨List.ofFn g,by simp,⟨fun i row hr => ?_⟩⟩
 simp only [List.getElem?_map,List.getElem?_ofFn] at hr
 split at hr
 ·rename_i hi
  simp at hr
  subst hr
  obtain ⟨b,o,h2,h3,h4⟩:=hg ⟨i,hi⟩
  exact ⟨h3,b,o,h2,h4⟩
 ·simp at hr

theorem open_i64 {t : TypeId} {m : Nat} {c : Value} {y : DataW H × List MemPlace} (ht : P.underlying t = some (.int .i64)) (h : DataW.trod enc P w base spare held m t [c] = some y) : ∃ z : Int,c = .int .i64 z ∧ (Lit.int .i64 z).wf = true:=by
 obtain ⟨z,hz,_,hw⟩:=DataW.trod_int ht h
 injection hz with hz
 exact ⟨z,hz,hw⟩
theorem open_str1 {t : TypeId} {m : Nat} {c : Value} {y : DataW H × List MemPlace} (ht : P.underlying t = some .string) (h : DataW.trod enc P w base spare held m t [c] = some y) : ∃ s : ByteArray,c = .string s ∧ s.size ≤ maxLen:=by
 obtain ⟨z,hz,_,hw⟩:=DataW.trod_string ht h
 injection hz with hz
 exact ⟨z,hz,hw⟩
theorem open_bool1 {t : TypeId} {m : Nat} {c : Value} {y : DataW H × List MemPlace} (ht : P.underlying t = some .bool) (h : DataW.trod enc P w base spare held m t [c] = some y) : ∃ b : Bool,c = .bool b:=by
 obtain ⟨z,hz,_⟩:=DataW.trod_bool ht h
 injection hz with hz
 exact ⟨z,hz⟩
theorem list_of_get {l : List Value} {n : Nat} (k : List Value) (h : l.length = n) (hk : k.length = n) (hh : ∀ j,j < n → l[j]? = k[j]?) : l = k:=by
 apply List.ext_getElem?
 intro j
 rcases Nat.lt_or_ge j n with hj | hj
 ·exact hh j hj
 ·rw [List.getElem?_eq_none (by omega),List.getElem?_eq_none (by omega)]
end

section
variable {H : Type} {enc : TypeId × Value → H} {w : World} {base : Nat} {spare : Nat → Bool} {held : Bool} {r : Reach} {b0 : Nat} {v : Value} {d : DataW H} {p : List MemPlace}

theorem open_flat {t : TypeId} {fs : Array Field} {n : Nat} {ts : List TypeId} (hs : Try.prog.underlying t = some (.struct fs)) (hl : isLeaves Try.prog n t ts = true)
  (hv : Value.okWide Try.prog w r b0 t v) (h : DataW.Trod enc Try.prog w base spare held t v d p) :
  ∃ cs : List Value,v = .agg cs.toArray ∧ cs.length = ts.length ∧ ∀ (j : Nat) (T : TypeId),ts[j]? = some T → ∃ (c : Value) (m : Nat) (y : DataW H × List MemPlace),cs[j]? = some c ∧ DataW.trod enc Try.prog w base spare held m T [c] = some y:=by
 obtain ⟨cs,rfl,hsz⟩:=okWide_struct hs hv
 obtain ⟨fuel,hf⟩:=h
 obtain ⟨h1,h2⟩:=open_leaves n t ts fuel _ _ hl (by simpa [Value.cells] using hsz) hf
 exact ⟨cs.toList,by simp,by simpa [Value.cells] using h1,by simpa [Value.cells] using h2⟩

theorem open_param (hv : Value.okWide Try.prog w r b0 40 v) (h : DataW.Trod enc Try.prog w base spare held 40 v d p) : ∃ q : Param,v = .agg (prm q).toArray:=by
 obtain ⟨cs,rfl,hl,hg⟩:=open_flat (n:=5) (ts:=[3,3]) Try.underlying40 (by kernel_rfl) hv h
 obtain ⟨c0,m0,y0,e0,h0⟩:=hg 0 _ rfl
 obtain ⟨c1,m1,y1,e1,h1⟩:=hg 1 _ rfl
 obtain ⟨z0,rfl,_⟩:=open_i64 Try.underlying3 h0
 obtain ⟨z1,rfl,_⟩:=open_i64 Try.underlying3 h1
 refine ⟨⟨z0,z1⟩,?_⟩
 rw [list_of_get (prm ⟨z0,z1⟩) hl rfl (fun j hj => by
  match j,hj with
  | 0,_ => exact e0
  | 1,_ => exact e1)]

theorem open_moves {m : Nat} {c : Value} {y : DataW H × List MemPlace} (h : DataW.trod enc Try.prog w base spare held m 49 [c] = some y) :
  ∃ (A : Option Addr) (k : Nat) (l : List Move),c = .slice A l.length k ∧ l.length ≤ k ∧ k ≤ maxLen ∧ Sl w A 5 (l.map mv):=by
 obtain ⟨A,len,cap,hc,h1,h2,h3⟩:=open_rows (n:=5) (ts:=[3,3,3,3,3]) Try.underlying49 (by kernel_rfl) (by kernel_rfl) (by decide) h
 injection hc with hc
 subst hc
 obtain ⟨l,rfl,hs⟩:=rows_list (w:=w) (A:=A) (len:=len) (size:=5) mv (fun i hi => by
  obtain ⟨b,o,row,hA,hl,hcell,hg⟩:=h3 i hi
  obtain ⟨c0,m0,y0,e0,g0⟩:=hg 0 _ rfl
  obtain ⟨c1,m1,y1,e1,g1⟩:=hg 1 _ rfl
  obtain ⟨c2,m2,y2,e2,g2⟩:=hg 2 _ rfl
  obtain ⟨c3,m3,y3,e3,g3⟩:=hg 3 _ rfl
  obtain ⟨c4,m4,y4,e4,g4⟩:=hg 4 _ rfl
  obtain ⟨z0,rfl,_⟩:=open_i64 Try.underlying3 g0
  obtain ⟨z1,rfl,_⟩:=open_i64 Try.underlying3 g1
  obtain ⟨z2,rfl,_⟩:=open_i64 Try.underlying3 g2
  obtain ⟨z3,rfl,_⟩:=open_i64 Try.underlying3 g3
  obtain ⟨z4,rfl,_⟩:=open_i64 Try.underlying3 g4
  have hrow:=list_of_get (mv ⟨⟨z0,z1⟩,⟨z2,z3⟩,z4⟩) hl rfl (fun j hj => by
   match j,hj with
   | 0,_ => exact e0
   | 1,_ => exact e1
   | 2,_ => exact e2
   | 3,_ => exact e3
   | 4,_ => exact e4)
  subst hrow
  exact ⟨_,b,o,hA,rfl,hcell⟩)
 exact ⟨A,cap,l,rfl,h1,h2,hs⟩

theorem open_timings {m : Nat} {c : Value} {y : DataW H × List MemPlace} (h : DataW.trod enc Try.prog w base spare held m 50 [c] = some y) :
  ∃ (A : Option Addr) (k : Nat) (l : List Timing),c = .slice A l.length k ∧ l.length ≤ k ∧ k ≤ maxLen ∧ Sl w A 6 (l.map tmg):=by
 obtain ⟨A,len,cap,hc,h1,h2,h3⟩:=open_rows (n:=5) (ts:=[3,3,3,3,3,3]) Try.underlying50 (by kernel_rfl) (by kernel_rfl) (by decide) h
 injection hc with hc
 subst hc
 obtain ⟨l,rfl,hs⟩:=rows_list (w:=w) (A:=A) (len:=len) (size:=6) tmg (fun i hi => by
  obtain ⟨b,o,row,hA,hl,hcell,hg⟩:=h3 i hi
  obtain ⟨c0,m0,y0,e0,g0⟩:=hg 0 _ rfl
  obtain ⟨c1,m1,y1,e1,g1⟩:=hg 1 _ rfl
  obtain ⟨c2,m2,y2,e2,g2⟩:=hg 2 _ rfl
  obtain ⟨c3,m3,y3,e3,g3⟩:=hg 3 _ rfl
  obtain ⟨c4,m4,y4,e4,g4⟩:=hg 4 _ rfl
  obtain ⟨c5,m5,y5,e5,g5⟩:=hg 5 _ rfl
  obtain ⟨z0,rfl,_⟩:=open_i64 Try.underlying3 g0
  obtain ⟨z1,rfl,_⟩:=open_i64 Try.underlying3 g1
  obtain ⟨z2,rfl,_⟩:=open_i64 Try.underlying3 g2
  obtain ⟨z3,rfl,_⟩:=open_i64 Try.underlying3 g3
  obtain ⟨z4,rfl,_⟩:=open_i64 Try.underlying3 g4
  obtain ⟨z5,rfl,_⟩:=open_i64 Try.underlying3 g5
  have hrow:=list_of_get (tmg ⟨z0,z1,z2,z3,z4,z5⟩) hl rfl (fun j hj => by
   match j,hj with
   | 0,_ => exact e0
   | 1,_ => exact e1
   | 2,_ => exact e2
   | 3,_ => exact e3
   | 4,_ => exact e4
   | 5,_ => exact e5)
  subst hrow
  exact ⟨_,b,o,hA,rfl,hcell⟩)
 exact ⟨A,cap,l,rfl,h1,h2,hs⟩

theorem open_cue (hv : Value.okWide Try.prog w r b0 52 v) (h : DataW.Trod enc Try.prog w base spare held 52 v d p) :
  ∃ (c : Cue) (A : Option Addr) (k : Nat) (B : Option Addr) (m : Nat),v = .agg (cueV c A k B m).toArray ∧ CueAt w c A k B m:=by
 obtain ⟨cs,rfl,hl,hg⟩:=open_flat (n:=5) (ts:=[9,9,49,50,4,4,3,9,3]) Try.underlying52 (by kernel_rfl) hv h
 obtain ⟨c0,m0,y0,e0,g0⟩:=hg 0 _ rfl
 obtain ⟨c1,m1,y1,e1,g1⟩:=hg 1 _ rfl
 obtain ⟨c2,m2,y2,e2,g2⟩:=hg 2 _ rfl
 obtain ⟨c3,m3,y3,e3,g3⟩:=hg 3 _ rfl
 obtain ⟨c4,m4,y4,e4,g4⟩:=hg 4 _ rfl
 obtain ⟨c5,m5,y5,e5,g5⟩:=hg 5 _ rfl
 obtain ⟨c6,m6,y6,e6,g6⟩:=hg 6 _ rfl
 obtain ⟨c7,m7,y7,e7,g7⟩:=hg 7 _ rfl
 obtain ⟨c8,m8,y8,e8,g8⟩:=hg 8 _ rfl
 obtain ⟨z0,rfl,s0⟩:=open_str1 Try.underlying9 g0
 obtain ⟨z1,rfl,s1⟩:=open_str1 Try.underlying9 g1
 obtain ⟨A,k,l,rfl,hk,hk',hs⟩:=open_moves g2
 obtain ⟨B,m,q,rfl,hm,hm',hq⟩:=open_timings g3
 obtain ⟨z4,rfl⟩:=open_bool1 Try.underlying4 g4
 obtain ⟨z5,rfl⟩:=open_bool1 Try.underlying4 g5
 obtain ⟨z6,rfl,_⟩:=open_i64 Try.underlying3 g6
 obtain ⟨z7,rfl,s7⟩:=open_str1 Try.underlying9 g7
 obtain ⟨z8,rfl,_⟩:=open_i64 Try.underlying3 g8
 refine ⟨⟨z0,z1,l,q,z4,z5,z6,z7,z8⟩,A,k,B,m,?_,hs,hq,hk,hm,hk',hm',s0,s1,s7⟩
 rw [list_of_get (cueV ⟨z0,z1,l,q,z4,z5,z6,z7,z8⟩ A k B m) hl rfl (fun j hj => by
  match j,hj with
  | 0,_ => exact e0
  | 1,_ => exact e1
  | 2,_ => exact e2
  | 3,_ => exact e3
  | 4,_ => exact e4
  | 5,_ => exact e5
  | 6,_ => exact e6
  | 7,_ => exact e7
  | 8,_ => exact e8)]
end
end Go.Proofs.Ytgbecbnjokkfoaa

namespace Go.Proofs.Ytgbecbnjokkfoaa
open Go.ChangeShapes Go.WideShapes Go.ChangeAt Go.RowKit Go.Joins Go.Deep

theorem u16_in {n : Int} (h : (Lit.int .u16 n).wf = true) : 0 ≤ n ∧ n ≤ 65535:=by
 simp only [Lit.wf,Bool.and_eq_true,decide_eq_true_eq] at h
 have h1 : IntKind.u16.min = 0:=rfl
 have h2 : IntKind.u16.max = 65535:=rfl
 omega
theorem u8_in {n : Int} (h : (Lit.int .u8 n).wf = true) : 0 ≤ n ∧ n ≤ 255:=by
 simp only [Lit.wf,Bool.and_eq_true,decide_eq_true_eq] at h
 have h1 : IntKind.u8.min = 0:=rfl
 have h2 : IntKind.u8.max = 255:=rfl
 omega

section
variable {H : Type} {enc : TypeId × Value → H} {w : World} {base : Nat} {spare : Nat → Bool} {held : Bool} {r : Reach} {b0 : Nat} {v : Value} {d : DataW H} {p : List MemPlace}

theorem open_entries {m : Nat} {c : Value} {y : DataW H × List MemPlace} (h : DataW.trod enc Try.prog w base spare held m 35 [c] = some y) :
  ∃ (A : Option Addr) (k : Nat) (l : List Entry),c = .slice A l.length k ∧ l.length ≤ k ∧ k ≤ maxLen ∧ Sl w A 4 (l.map en):=by
 obtain ⟨A,len,cap,hc,h1,h2,h3⟩:=open_rows (n:=5) (ts:=[3,3,3,3]) Try.underlying35 (by kernel_rfl) (by kernel_rfl) (by decide) h
 injection hc with hc
 subst hc
 obtain ⟨l,rfl,hs⟩:=rows_list (w:=w) (A:=A) (len:=len) (size:=4) en (fun i hi => by
  obtain ⟨b,o,row,hA,hl,hcell,hg⟩:=h3 i hi
  obtain ⟨c0,m0,y0,e0,g0⟩:=hg 0 _ rfl
  obtain ⟨c1,m1,y1,e1,g1⟩:=hg 1 _ rfl
  obtain ⟨c2,m2,y2,e2,g2⟩:=hg 2 _ rfl
  obtain ⟨c3,m3,y3,e3,g3⟩:=hg 3 _ rfl
  obtain ⟨z0,rfl,_⟩:=open_i64 Try.underlying3 g0
  obtain ⟨z1,rfl,_⟩:=open_i64 Try.underlying3 g1
  obtain ⟨z2,rfl,_⟩:=open_i64 Try.underlying3 g2
  obtain ⟨z3,rfl,_⟩:=open_i64 Try.underlying3 g3
  have hrow:=list_of_get (en ⟨⟨z0,z1⟩,⟨z2,z3⟩⟩) hl rfl (fun j hj => by
   match j,hj with
   | 0,_ => exact e0
   | 1,_ => exact e1
   | 2,_ => exact e2
   | 3,_ => exact e3)
  subst hrow
  exact ⟨_,b,o,hA,rfl,hcell⟩)
 exact ⟨A,cap,l,rfl,h1,h2,hs⟩
theorem open_params {m : Nat} {c : Value} {y : DataW H × List MemPlace} (h : DataW.trod enc Try.prog w base spare held m 102 [c] = some y) :
  ∃ (A : Option Addr) (k : Nat) (l : List Param),c = .slice A l.length k ∧ l.length ≤ k ∧ k ≤ maxLen ∧ Sl w A 2 (l.map prm):=by
 obtain ⟨A,len,cap,hc,h1,h2,h3⟩:=open_rows (n:=5) (ts:=[3,3]) Try.underlying102 (by kernel_rfl) (by kernel_rfl) (by decide) h
 injection hc with hc
 subst hc
 obtain ⟨l,rfl,hs⟩:=rows_list (w:=w) (A:=A) (len:=len) (size:=2) prm (fun i hi => by
  obtain ⟨b,o,row,hA,hl,hcell,hg⟩:=h3 i hi
  obtain ⟨c0,m0,y0,e0,g0⟩:=hg 0 _ rfl
  obtain ⟨c1,m1,y1,e1,g1⟩:=hg 1 _ rfl
  obtain ⟨z0,rfl,_⟩:=open_i64 Try.underlying3 g0
  obtain ⟨z1,rfl,_⟩:=open_i64 Try.underlying3 g1
  have hrow:=list_of_get (prm ⟨z0,z1⟩) hl rfl (fun j hj => by
   match j,hj with
   | 0,_ => exact e0
   | 1,_ => exact e1)
  subst hrow
  exact ⟨_,b,o,hA,rfl,hcell⟩)
 exact ⟨A,cap,l,rfl,h1,h2,hs⟩

theorem open_moves_arg (hv : Value.okWide Try.prog w r b0 49 v) (h : DataW.Trod enc Try.prog w base spare held 49 v d p) :
  ∃ (A : Option Addr) (k : Nat) (l : List Move),v = .slice A l.length k ∧ l.length ≤ k ∧ k ≤ maxLen ∧ Sl w A 5 (l.map mv):=by
 obtain ⟨a,len,cap,rfl⟩:=okWide_slice Try.underlying49 hv
 obtain ⟨fuel,hf⟩:=h
 exact open_moves hf
theorem open_entries_arg (hv : Value.okWide Try.prog w r b0 35 v) (h : DataW.Trod enc Try.prog w base spare held 35 v d p) :
  ∃ (A : Option Addr) (k : Nat) (l : List Entry),v = .slice A l.length k ∧ l.length ≤ k ∧ k ≤ maxLen ∧ Sl w A 4 (l.map en):=by
 obtain ⟨a,len,cap,rfl⟩:=okWide_slice Try.underlying35 hv
 obtain ⟨fuel,hf⟩:=h
 exact open_entries hf
theorem open_params_arg (hv : Value.okWide Try.prog w r b0 102 v) (h : DataW.Trod enc Try.prog w base spare held 102 v d p) :
  ∃ (A : Option Addr) (k : Nat) (l : List Param),v = .slice A l.length k ∧ l.length ≤ k ∧ k ≤ maxLen ∧ Sl w A 2 (l.map prm):=by
 obtain ⟨a,len,cap,rfl⟩:=okWide_slice Try.underlying102 hv
 obtain ⟨fuel,hf⟩:=h
 exact open_params hf
end
end Go.Proofs.Ytgbecbnjokkfoaa
