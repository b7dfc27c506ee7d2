import Derived.Test.YtgbecbnjokkfoaaGreatRow2
import Derived.Test.YtgbecbnjokkfoaaGreatGpal
namespace Go.Proofs.YtgbecbnjokkfoaaGreat
set_option maxRecDepth 100000
open Go.ChangeShapes Go.WideShapes Go.ChangeAt Go.RowKit Go.Joins Go.Deep

section
variable {H : Type} {enc : TypeId × Value → H} {w : World} {base : Nat} {spare : Nat → Bool} {held : Bool} {r : Reach} {b0 : Nat} {v : Value} {d : DataW H} {p : List MemPlace}
theorem open_hues {m : Nat} {c : Value} {y : DataW H × List MemPlace} (h : DataW.trod enc Tryz.prog w base spare held m 23 [c] = some y) :
  ∃ (A : Option Addr) (k : Nat) (l : List Hue),c = .slice A l.length k ∧ l.length ≤ k ∧ k ≤ maxLen ∧ Sl w A 3 (l.map hueR):=by
 obtain ⟨A,len,cap,hc,h1,h2,h3⟩:=open_rows (n:=5) (ts:=[3,3,3]) Tryz.underlying23 (by kernel_rfl) (by kernel_rfl) (by decide) h
 injection hc with hc
 subst hc
 obtain ⟨l,rfl,hs⟩:=rows_list (w:=w) (A:=A) (len:=len) (size:=3) hueR (fun i hi => by
  obtain ⟨b,o,row,hA,hl,hcell,hg⟩:=h3 i hi
  obtain ⟨c0,m0,y0,e0,g0⟩:=hg 0 _ rfl
  obtain ⟨c1,m1,y1,e1,g1⟩:=hg 1 _ rfl
  obtain ⟨c2,m2,y2,e2,g2⟩:=hg 2 _ rfl
  obtain ⟨z0,rfl,_⟩:=open_i64 Tryz.underlying3 g0
  obtain ⟨z1,rfl,_⟩:=open_i64 Tryz.underlying3 g1
  obtain ⟨z2,rfl,_⟩:=open_i64 Tryz.underlying3 g2
  have hrow:=list_of_get (hueR ⟨⟨z0,z1⟩,z2⟩) hl rfl (fun j hj => by
   match j,hj with
   | 0,_ => exact e0
   | 1,_ => exact e1
   | 2,_ => exact e2)
  subst hrow
  exact ⟨_,b,o,hA,rfl,hcell⟩)
 exact ⟨A,cap,l,rfl,h1,h2,hs⟩
theorem pal_of {row : List Value} (hl : row.length = 2) (hg : ∀ (j : Nat) (T : TypeId),[3,23][j]? = some T → ∃ (c : Value) (m : Nat) (y : DataW H × List MemPlace),row[j]? = some c ∧ DataW.trod enc Tryz.prog w base spare held m T [c] = some y) :
  ∃ x : Pal,row = palR x ∧ Sl w x.at_ 3 (x.hues.map hueR) ∧ x.hues.length ≤ maxLen:=by
 obtain ⟨c0,m0,y0,e0,g0⟩:=hg 0 _ rfl
 obtain ⟨c1,m1,y1,e1,g1⟩:=hg 1 _ rfl
 obtain ⟨z0,rfl,-⟩:=open_i64 Tryz.underlying3 g0
 obtain ⟨A,k,l,rfl,h1,h2,hs⟩:=open_hues g1
 refine ⟨⟨z0,l,A,k⟩,list_of_get _ hl rfl (fun j hj => ?_),hs,Nat.le_trans h1 h2⟩
 match j,hj with
 | 0,_ => exact e0
 | 1,_ => exact e1
theorem open_palette (hv : Value.okWide Tryz.prog w r b0 25 v) (h : DataW.Trod enc Tryz.prog w base spare held 25 v d p) : ∃ x : Pal,v = .agg (palR x).toArray ∧ Sl w x.at_ 3 (x.hues.map hueR) ∧ x.hues.length ≤ maxLen:=by
 obtain ⟨cs,rfl,hl,hg⟩:=open_flat (n:=5) (ts:=[3,23]) Tryz.underlying25 (by kernel_rfl) hv h
 obtain ⟨a,rfl,h1,h2⟩:=pal_of hl hg
 exact ⟨a,rfl,h1,h2⟩
theorem rows_listQ {α : Type} (P : α → Prop) (f : α → List Value) {A : Option Addr} {len size : Nat} (h : ∀ i,i < len → ∃ (m : α) (b o : Nat),P m ∧ A = some ⟨b,o,none⟩ ∧ (f m).length = size ∧ ∀ j v,(f m)[j]? = some v → w.cell? ⟨b,o + i * size + j,none⟩ = some v) :
  ∃ l : List α,l.length = len ∧ Sl w A size (l.map f) ∧ ∀ a ∈ l,P a:=by
 have h1 : ∀ i : Fin len,∃ (m : α),P m ∧ ∃ (b o : Nat),A = some ⟨b,o,none⟩ ∧ (f m).length = size ∧ ∀ j v,(f m)[j]? = some v → w.cell? ⟨b,o + i * size + j,none⟩ = some v:=fun i => by
  obtain ⟨m,b,o,hp,hh⟩:=h i i.isLt
  exact ⟨m,hp,b,o,hh⟩
 obtain ⟨g,hg⟩:=Classical.axiomOfChoice h1
 refine ⟨List.ofFn g,by simp,⟨fun i row hr => ?_⟩,fun a ha => ?_⟩
 ·simp only [List.getElem?_map,List.getElem?_ofFn] at hr
  split at hr
  ·rename_i hi
   simp at hr
   subst hr
   obtain ⟨-,b,o,h2,h3,h4⟩:=hg ⟨i,hi⟩
   exact ⟨h3,b,o,h2,h4⟩
  ·simp at hr
 ·obtain ⟨i,rfl⟩:=List.mem_ofFn.1 ha
  exact (hg i).1
theorem open_palettes_arg (hv : Value.okWide Tryz.prog w r b0 22 v) (h : DataW.Trod enc Tryz.prog w base spare held 22 v d p) :
  ∃ (A : Option Addr) (k : Nat) (l : List Pal),v = .slice A l.length k ∧ Pals w A l ∧ l.length ≤ maxLen:=by
 obtain ⟨a,len,cap,rfl⟩:=okWide_slice Tryz.underlying22 hv
 obtain ⟨fuel,hf⟩:=h
 obtain ⟨A,len',cap',hc,h1,h2,h3⟩:=open_rows (n:=5) (ts:=[3,23]) Tryz.underlying22 (by kernel_rfl) (by kernel_rfl) (by decide) hf
 have hv2 : Value.slice a len cap = .slice A len' cap':=by simpa [Value.cells] using hc
 injection hv2 with e1 e2 e3
 subst e1 e2 e3
 obtain ⟨l,rfl,hs,ha⟩:=rows_listQ (w:=w) (A:=a) (len:=len) (size:=2) (fun x : Pal => Sl w x.at_ 3 (x.hues.map hueR) ∧ x.hues.length ≤ maxLen) palR (fun i hi => by
  obtain ⟨b,o,row,hA,hl,hcell,hg⟩:=h3 i hi
  obtain ⟨m,rfl,hm⟩:=pal_of hl hg
  exact ⟨m,b,o,hm,hA,rfl,hcell⟩)
 exact ⟨a,cap,l,rfl,⟨hs,ha⟩,Nat.le_trans h1 h2⟩
end
end Go.Proofs.YtgbecbnjokkfoaaGreat
