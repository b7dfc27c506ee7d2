import Derived.Test.YtgbecbnjokkfoaaTim4
namespace Go.Proofs.Ytgbecbnjokkfoaa
open Go.RowKit

theorem place_in (l : List Move) (p : Param) : (placeV l p = -1 ∧ inV l p = 1) ∨ ∃ (i : Nat) (m : Move),placeV l p = (i : Int) ∧ l[i]? = some m ∧ inV l p = m.part:=by
 unfold placeV inV
 cases h : l.findIdx? (fun m => decide (m.p = p)) with
 | none =>
  left
  rw [List.findIdx?_eq_none_iff] at h
  rw [List.find?_eq_none.2 (fun m hm => by simpa using h m hm)]
  exact ⟨rfl,rfl⟩
 | some i =>
  right
  obtain ⟨hlt,hp,hj⟩:=List.findIdx?_eq_some_iff_getElem.1 h
  refine ⟨i,l[i],rfl,List.getElem?_eq_getElem hlt,?_⟩
  rw [show l.find? (fun m => decide (m.p = p)) = some l[i] from List.find?_eq_some_iff_getElem.2 ⟨hp,i,hlt,rfl,fun j hj' => by simpa using hj j hj'⟩]

section
variable (c : Cue) (A : Option Addr) (k : Nat) (B : Option Addr) (m : Nat) (p : Param) (w : World) (hc : CueAt w c A k B m)
include hc
end

end Go.Proofs.Ytgbecbnjokkfoaa

namespace Go.Proofs.Ytgbecbnjokkfoaa
open Go.RowKit

theorem ret_iii {a b x y u v : Int} (h : (a,x,u) = (b,y,v)) : Ending.returned (.tuple #[.int .i64 a,.int .i64 x,.int .i64 u]) = .returned (.tuple #[.int .i64 b,.int .i64 y,.int .i64 v]):=by
 injection h with h1 h2;injection h2 with h2 h3;rw [h1,h2,h3]
theorem timesE_ok {l : List Timing} (h : timesE l = 0) (t : Timing) (ht : t ∈ l) : timingE t = 0:=by
 unfold timesE at h
 unfold timingE
 grind
theorem partsE_ok {c : Cue} (h : cueE c = 0) : timesE c.parts = 0:=by
 have:=(cueE_ok h).2.2.2.1
 unfold partsE at this
 grind
theorem part_at {c : Cue} (h : cueE c = 0) (p : Param) : ∃ (j : Nat) (t : Timing),inV c.moves p = (j : Int) + 1 ∧ c.parts[j]? = some t ∧ partOf c p = t ∧ timingE t = 0:=by
 obtain ⟨h1,h2,_,_⟩:=part_range h p
 obtain ⟨j,hj⟩ : ∃ j : Nat,inV c.moves p = (j : Int) + 1:=⟨(inV c.moves p - 1).toNat,by omega⟩
 have hlt : j < c.parts.length:=by omega
 refine ⟨j,c.parts[j],hj,List.getElem?_eq_getElem hlt,?_,timesE_ok (partsE_ok h) _ (List.getElem_mem hlt)⟩
 unfold partOf
 rw [hj,show ((j : Int) + 1).toNat - 1 = j by omega,List.getElem?_eq_getElem hlt]
 rfl
theorem givenE_ok {c : Cue} {p : Param} (h : givenE c p = 0) : cueE c = 0 ∧ paramE p = 0:=by unfold givenE at h;grind
theorem paramE_attr {p : Param} (h : paramE p = 0) : attrE p.attr = 0:=by unfold paramE at h;unfold attrE;grind

theorem kept {W w' : World} (h : Ext W w') : (∀ q,(W.cell? q).isSome = true → w'.cell? q = W.cell? q) ∧ Ext W w':=⟨fun q hq => by
 obtain ⟨v,hv⟩:=Option.isSome_iff_exists.1 hq
 rw [hv,h.cell hv],h⟩

section
variable (c : Cue) (A : Option Addr) (k : Nat) (B : Option Addr) (m : Nat) (p : Param) (r : Bool) (w : World) (hc : CueAt w c A k B m)
include hc
end
end Go.Proofs.Ytgbecbnjokkfoaa
