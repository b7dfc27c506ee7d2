import Derived.Test.YtgbecbnjokkfoaaRows
import Derived.Test.YtgbecbnjokkfoaaBase
import Derived.Test.YtgbecbnjokkfoaaPure
import Derived.WalkKit
import Derived.ProofKit
import Derived.OpenShut
import Derived.Carry
import Derived.ChangeSame
import Derived.Lib.SmallJoins
import Derived.Deep.Fields
import Derived.Deep.Slices
namespace Go.Proofs.Ytgbecbnjokkfoaa
set_option maxRecDepth 100000
open Go.ChangeShapes Go.WideShapes Go.ChangeAt Go.RowKit Go.Joins Go.Deep

theorem own : ownKnob Try.prog.godebug = none:=by kernel_rfl
theorem laid : laidOutB Try.prog = true:=by kernel_rfl

section
variable {H : Type} {enc : TypeId × Value → H} {P : Program}
theorem trodAll_ext (hl : laidOutB P = true) {W W' : World} (hb : Ext W W') (sp : Nat → Bool) : ∀ (ts : List TypeId) (_ : ∀ t ∈ ts,P.readableRec t = true ∧ t < P.types.size) (vs : List Value) (ds : List (DataW H)) (ps : List MemPlace),
  DataW.TrodAll enc P W 0 (fun _ => true) true ts vs ds ps → (∀ x ∈ ps,x.block < W.heap.size) → (∀ x ∈ ps,sp x.block = true) → DataW.TrodAll enc P W' 0 sp true ts vs ds ps
 | [],_,vs,ds,ps,h,_,_ => by obtain ⟨rfl,rfl,rfl⟩:=trodAll_nil h;exact trodAll_mk0
 | t :: ts,hr,vs,ds,ps,h,hlt,hsp => by
  obtain ⟨v,vs',d,ds',p,q,rfl,rfl,rfl,h0,h1⟩:=trodAll_cons h
  exact trodAll_cons_mk (WideElems.Trod_stays hl (hr t (by simp)).1 (hr t (by simp)).2 h0 (fun x hx => hb.same (hlt x (by simp [hx]))) (fun x hx => hsp x (by simp [hx])))
   (trodAll_ext hl hb sp ts (fun x hx => hr x (by simp [hx])) vs' ds' q h1 (fun x hx => hlt x (by simp [hx])) (fun x hx => hsp x (by simp [hx])))

theorem post_ext {f : Func} {s : ChangeSpec} {apart fresh handsOn again : Bool} {W W' : World} {args : Array Value} {v : Value} {ds gs : List (DataW H)} {before : List MemPlace}
  (hl : laidOutB P = true) (hr0 : (f.params.toList.all fun t => P.readableRec t && decide (t < P.types.size)) = true)
  (hW : DataW.Whole enc P f.params.toList s.vars apart W args.toList ds gs before) (hv : s.vars = [])
  (hs : ∀ (l : List (DataW H)),l.length = ds.length → (s.fn H l).args = l ∧ (s.fn H l).vars = [])
  (hres : ∀ (b : Nat) (sp : Nat → Bool) (hd : Bool),DataW.TrodAll enc P W' b sp hd f.resultTypes.toList (v.resultList f.resultTypes.size) (s.fn H (ds ++ gs)).results [])
  (hx : Ext W W')
  (hok : ∀ (j : Nat) (t : TypeId) (r : Value),f.resultTypes[j]? = some t → (v.resultList f.resultTypes.size)[j]? = some r → Value.okWide P W' .any 0 t r) :
  s.post enc P f apart fresh handsOn again W args v W':=by
 have hr : ∀ t ∈ f.params.toList,P.readableRec t = true ∧ t < P.types.size:=fun t ht => by
  have:=List.all_eq_true.1 hr0 t ht
  simpa using this
 have hW0:=hW
 have hlt : ∀ p ∈ before,p.block < W.heap.size:=fun p hp => hW.lt p hp
 obtain ⟨p,q,hA,hV,rfl,hz,hn⟩:=hW
 rw [hv] at hV
 obtain ⟨rfl,rfl⟩:=trodVars_none hV
 rw [List.append_nil] at *
 have hA' : ∀ sp : Nat → Bool,(∀ x ∈ p,sp x.block = true) → DataW.TrodAll enc P W' 0 sp true f.params.toList args.toList (s.fn H ds).args p:=fun sp hsp => by
  rw [(hs ds rfl).1];exact trodAll_ext hl hx sp _ hr _ _ _ hA hlt hsp
 have hV' : ∀ sp : Nat → Bool,DataW.TrodVars enc P W' sp s.vars (s.fn H ds).vars []:=fun sp => by rw [hv,(hs ds rfl).2];rfl
 have hold : ∀ x ∈ p,(fun b => decide (b < W.heap.size)) x.block = true:=fun x hp => by simpa using hlt x hp
 refine ⟨ds,[],p,[],p,[],hW0,by rw [List.append_nil];exact hres _ _ _,by rw [List.append_nil];exact hA' _ hold,by rw [List.append_nil];exact hV' _,World.keptBut_mono (fun x hp => ⟨hp,?_⟩) (hx.frame (· ∈ p)),fun _ => ?_⟩
 ·exact Or.inr (by simpa using hp)
 ·refine ⟨hok,_,_,([] ++ p) ++ [],⟨[] ++ p,[],trodAll_append (hA' _ (fun _ _ => rfl)) (hres _ _ _),hV' _,rfl,?_,?_⟩,?_⟩
  ·intro b off hp
   have hin : MemPlace.cell b off ∈ p:=by simpa using hp
   rw [hx.frozen (hlt _ hin)]
   exact hz b off hin
  ·intro ha
   simpa using hn ha
  ·intro x hp _
   simpa using hp

variable {w : World} {base : Nat} {spare : Nat → Bool} {held : Bool}
theorem trod_fields {t : TypeId} {fs : Array Field} {fuel : Nat} {cs : List Value} {x : DataW H × List MemPlace} (hs : P.underlying t = some (.struct fs)) (hone : oneCellFields P fs = true) (hC : P.cellsOf t = fs.size)
  (h : DataW.trod enc P w base spare held fuel t cs = some x) :
  cs.length = fs.size ∧ ∃ n,∀ (j : Nat) (f : Field),fs[j]? = some f → ∃ c y,cs[j]? = some c ∧ DataW.trod enc P w base spare held n f.type [c] = some y:=by
 obtain ⟨xs,n,_,_,hcl,hxl,hg⟩:=DataW.trod_struct hs h
 rw [hC] at hcl
 refine ⟨hcl,n,fun j f hj => ?_⟩
 have hlt : j < fs.size:=(Array.getElem?_eq_some_iff.1 hj).1
 obtain ⟨o,k⟩:=hone_of hone j f hj
 have h1:=hg j f hj
 rw [o,k,List.drop_eq_getElem_cons (by omega),List.take_succ_cons,List.take_zero,List.getElem?_eq_getElem (by omega)] at h1
 exact ⟨_,_,List.getElem?_eq_getElem (by omega),h1⟩

def intFields (P : Program) (fs : Array Field) : Bool:=(List.range fs.size).all fun i => match fs[i]? with
 | some f => (match P.underlying f.type with | some (.int .i64) => true | _ => false)
 | none => false
theorem open_numbers {t : TypeId} {fs : Array Field} {fuel : Nat} {cs : List Value} {x : DataW H × List MemPlace} (hs : P.underlying t = some (.struct fs)) (hone : oneCellFields P fs = true) (hC : P.cellsOf t = fs.size) (hi : intFields P fs = true)
  (h : DataW.trod enc P w base spare held fuel t cs = some x) : ∃ l : List Int,cs = l.map (Value.int .i64) ∧ l.length = fs.size:=by
 obtain ⟨hl,n,hf⟩:=trod_fields hs hone hC h
 have hall : ∀ j,j < fs.size → ∃ z : Int,cs[j]? = some (.int .i64 z):=fun j hj => by
  obtain ⟨c,y,hc,hy⟩:=hf j fs[j] (Array.getElem?_eq_getElem hj)
  have h1:=List.all_eq_true.1 hi j (List.mem_range.2 hj)
  rw [Array.getElem?_eq_getElem hj] at h1
  simp only [] at h1
  have h2 : P.underlying fs[j].type = some (.int .i64):=by
   split at h1
   ·assumption
   ·cases h1
  obtain ⟨z,hz,_⟩:=DataW.trod_int h2 hy
  injection hz with hz
  exact ⟨z,by rw [hc,hz]⟩
 refine ⟨cs.map intOf,?_,by simpa using hl⟩
 apply List.ext_getElem?
 intro j
 rcases Nat.lt_or_ge j fs.size with hj | hj
 ·obtain ⟨z,hz⟩:=hall j hj
  simp [hz,intOf]
 ·rw [List.getElem?_eq_none (by omega),List.getElem?_eq_none (by simp;omega)]
end
theorem open_timing {H : Type} {enc : TypeId × Value → H} {w : World} {base : Nat} {spare : Nat → Bool} {held : Bool} {r : Reach} {b0 : Nat} {v : Value} {d : DataW H} {p : List MemPlace}
  (hv : Value.okWide Try.prog w r b0 99 v) (h : DataW.Trod enc Try.prog w base spare held 99 v d p) : ∃ t : Timing,v = .agg (tmg t).toArray:=by
 obtain ⟨cs,rfl,hsz⟩:=okWide_struct Try.underlying99 hv
 obtain ⟨fuel,hf⟩:=h
 obtain ⟨l,hl,hn⟩:=open_numbers Try.underlying99 (by kernel_rfl) (by kernel_rfl) (by kernel_rfl) hf
 match l,hn with
 | [a,b,c,d,e,f],_ => exact ⟨⟨a,b,c,d,e,f⟩,by
   congr 1
   have : cs.toList = [.int .i64 a,.int .i64 b,.int .i64 c,.int .i64 d,.int .i64 e,.int .i64 f]:=by simpa [Value.cells] using hl
   rw [← Array.toArray_toList (xs:=cs),this];rfl⟩
end Go.Proofs.Ytgbecbnjokkfoaa
