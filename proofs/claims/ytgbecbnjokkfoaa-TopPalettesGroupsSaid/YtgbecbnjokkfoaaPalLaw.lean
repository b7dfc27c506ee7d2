import Derived.Test.YtgbecbnjokkfoaaGpale
namespace Go.Proofs.Ytgbecbnjokkfoaa
open Go.RowKit

theorem hueAt_mem {l : List Hue} (h : scan hueE none l = 0) {i : Nat} {a : Hue} (ha : l[i]? = some a) : hueAt l a.p = some a.lev:=by
 have hp : posH l a.p = i:=by
  rcases Nat.lt_trichotomy (posH l a.p) i with h1 | h1 | h1
  ·have hil:=(List.getElem?_eq_some_iff.1 ha).1
   have hx : l[posH l a.p]? = some l[posH l a.p]:=List.getElem?_eq_getElem (by omega)
   have h2:=(posH_iff h a.p hx).1 (hue_lt h h1 hx ha)
   omega
  ·exact h1
  ·have h2:=(posH_iff h a.p ha).2 h1
   rw [before_irrefl] at h2
   cases h2
 unfold hueAt foundH
 rw [hp,ha]
 simp
theorem hueAt_none {l : List Hue} {q : Param} (h : ∀ x ∈ l,x.p ≠ q) : hueAt l q = none:=by
 unfold hueAt foundH
 cases hx : l[posH l q]? with
 | none => simp
 | some x => simp [h x (List.mem_of_getElem? hx)]
theorem palsE_one (n : Int) (hs : List Hue) (A : Option Addr) (k : Nat) (h1 : 1 ≤ n) (h2 : n ≤ 1048576) : palsE [⟨n,hs,A,k⟩] = huesE hs:=by
 have h3 : palE none ⟨n,hs,A,k⟩ = huesE hs:=by
  unfold palE
  rw [if_neg (by simp only [];omega),if_neg (by simp)]
 simp only [palsE,scan,h3,List.length_cons,List.length_nil]
 by_cases h : huesE hs = 0 <;> simp [h]
theorem hueV_one (n : Int) (hs : List Hue) (A : Option Addr) (k : Nat) (p : Param) : hueV [⟨n,hs,A,k⟩] n p = hueIn hs p:=by
 simp [hueV,foundN,posN]
theorem levelV_one (n : Int) (hs : List Hue) (A : Option Addr) (k : Nat) (p : Param) (home : Int) (h1 : 1 ≤ n) (h2 : n ≤ 1048576) (hh : huesE hs = 0) (hp : paramE p = 0) (hl : levB home = true) :
  levelV [⟨n,hs,A,k⟩] ⟨n,0⟩ p home = (if (hueIn hs p).2 then (hueIn hs p).1 else home,0):=by
 unfold levelV
 rw [palsE_one n hs A k h1 h2,if_neg (by simpa using hh),if_neg (by simp [valueE];omega),if_neg (by simpa using hp),if_neg (by simp [hl]),if_neg (by simp only [];omega)]
 simp only [hueV_one]
 split <;> rfl

def allH (p : Param) (v : Int) : Hue:=⟨⟨0,p.attr⟩,v⟩
def ownH (p : Param) (v : Int) : Hue:=⟨p,65535 - v⟩
def otherP (p : Param) : Param:=⟨p.ch % 999 + 1,p.attr⟩
section
variable {p : Param} {v : Int}
theorem otherP_ok (hp : paramE p = 0) : paramE (otherP p) = 0:=by
 have:=paramE_ok hp
 unfold paramE otherP
 simp only []
 rw [if_neg (by omega)]
theorem otherP_ne (hp : paramE p = 0) : p ≠ otherP p:=by
 have:=paramE_ok hp
 intro h
 have h1 : p.ch = p.ch % 999 + 1:=congrArg Param.ch h
 omega
theorem zeroP_ne (hp : paramE p = 0) : p ≠ ⟨0,p.attr⟩:=by
 have:=paramE_ok hp
 intro h
 have h1 : p.ch = 0:=congrArg Param.ch h
 omega
theorem huesE_ok {l : List Hue} (h : scan hueE none l = 0) (hl : l.length ≤ 256) : huesE l = 0:=by
 unfold huesE
 rw [if_neg (by omega),h]
theorem hueE1_zero {h : Hue} (hp : paramE0 h.p = 0) (h1 : 0 ≤ h.lev) (h2 : h.lev ≤ 65535) : hueE1 h = 0:=by
 unfold hueE1
 rw [if_pos (by simp [levB];omega),hp]
theorem paramE0_zero (hp : paramE p = 0) : paramE0 ⟨0,p.attr⟩ = 0:=by
 have h:=paramE_ok hp
 unfold paramE0
 rw [if_neg (by simp only [];omega)]
theorem scan_one {h : Hue} (e : hueE1 h = 0) : scan hueE none [h] = 0:=by
 have e1 : hueE none h = 0:=by unfold hueE;rw [if_neg (by simpa using e)]
 simp [scan,e1]
theorem scan_both (hp : paramE p = 0) (h1 : 0 ≤ v) (h2 : v ≤ 65535) : scan hueE none [allH p v,ownH p v] = 0:=by
 have h:=paramE_ok hp
 have a1 : hueE1 (allH p v) = 0:=hueE1_zero (paramE0_zero hp) h1 h2
 have a2 : hueE1 (ownH p v) = 0:=hueE1_zero (paramE_zero hp) (by show 0 ≤ 65535 - v;omega) (by show 65535 - v ≤ 65535;omega)
 have e1 : hueE none (allH p v) = 0:=by unfold hueE;rw [if_neg (by simpa using a1)]
 have e2 : hueE (some (allH p v)) (ownH p v) = 0:=by
  unfold hueE
  rw [if_neg (by simpa using a2)]
  simp only []
  rw [if_pos (by simp [before,allH,ownH];omega)]
 simp [scan,e1,e2]
theorem scan_all (hp : paramE p = 0) (h1 : 0 ≤ v) (h2 : v ≤ 65535) : scan hueE none [allH p v] = 0:=scan_one (hueE1_zero (paramE0_zero hp) h1 h2)
theorem scan_own (hp : paramE p = 0) (h1 : 0 ≤ v) (h2 : v ≤ 65535) : scan hueE none [ownH p v] = 0:=scan_one (hueE1_zero (paramE_zero hp) (by show 0 ≤ 65535 - v;omega) (by show 65535 - v ≤ 65535;omega))
theorem hueIn_hit {l : List Hue} {q : Param} {x : Int} (h : hueAt l q = some x) : hueIn l q = (x,true):=by unfold hueIn;rw [h]
theorem hueIn_all {l : List Hue} {q : Param} {x : Int} (h : hueAt l q = none) (h2 : hueAt l ⟨0,q.attr⟩ = some x) : hueIn l q = (x,true):=by unfold hueIn;rw [h];simp only [];rw [h2]
theorem hueIn_no {l : List Hue} {q : Param} (h : hueAt l q = none) (h2 : hueAt l ⟨0,q.attr⟩ = none) : hueIn l q = (0,false):=by unfold hueIn;rw [h];simp only [];rw [h2]
theorem lev_both_own (hp : paramE p = 0) (h1 : 0 ≤ v) (h2 : v ≤ 65535) {home : Int} (hh : levB home = true) (A : Option Addr) (k : Nat) : levelV [⟨9,[allH p v,ownH p v],A,k⟩] ⟨9,0⟩ p home = (65535 - v,0):=by
 have hs:=scan_both hp h1 h2
 rw [levelV_one 9 _ A k p home (by decide) (by decide) (huesE_ok hs (by simp)) hp hh,hueIn_hit (q:=p) (x:=65535 - v) (hueAt_mem hs (i:=1) (a:=ownH p v) rfl)]
 rfl
theorem lev_both_other (hp : paramE p = 0) (h1 : 0 ≤ v) (h2 : v ≤ 65535) {home : Int} (hh : levB home = true) (A : Option Addr) (k : Nat) : levelV [⟨9,[allH p v,ownH p v],A,k⟩] ⟨9,0⟩ (otherP p) home = (v,0):=by
 have hs:=scan_both hp h1 h2
 have hn:=otherP_ne hp
 have hz:=zeroP_ne (otherP_ok hp)
 rw [levelV_one 9 _ A k _ home (by decide) (by decide) (huesE_ok hs (by simp)) (otherP_ok hp) hh,hueIn_all (q:=otherP p) (x:=v) (hueAt_none (by
  intro x hx
  simp at hx
  rcases hx with rfl | rfl
  ·exact fun e => hz e.symm
  ·exact hn)) (hueAt_mem hs (i:=0) (a:=allH p v) rfl)]
 rfl
theorem lev_all (hp : paramE p = 0) (h1 : 0 ≤ v) (h2 : v ≤ 65535) {home : Int} (hh : levB home = true) (A : Option Addr) (k : Nat) (q : Param) (hq : paramE q = 0) (ha : q.attr = p.attr) : levelV [⟨9,[allH p v],A,k⟩] ⟨9,0⟩ q home = (v,0):=by
 have hs:=scan_all hp h1 h2
 have hz:=zeroP_ne hq
 rw [levelV_one 9 _ A k _ home (by decide) (by decide) (huesE_ok hs (by simp)) hq hh,hueIn_all (x:=v) (hueAt_none (by
  intro x hx
  simp at hx
  subst hx
  intro e
  rw [ha] at hz
  exact hz e.symm)) (by rw [ha];exact hueAt_mem hs (i:=0) (a:=allH p v) rfl)]
 rfl
theorem lev_own_own (hp : paramE p = 0) (h1 : 0 ≤ v) (h2 : v ≤ 65535) {home : Int} (hh : levB home = true) (A : Option Addr) (k : Nat) : levelV [⟨9,[ownH p v],A,k⟩] ⟨9,0⟩ p home = (65535 - v,0):=by
 have hs:=scan_own hp h1 h2
 rw [levelV_one 9 _ A k p home (by decide) (by decide) (huesE_ok hs (by simp)) hp hh,hueIn_hit (q:=p) (x:=65535 - v) (hueAt_mem hs (i:=0) (a:=ownH p v) rfl)]
 rfl
theorem lev_own_other (hp : paramE p = 0) (h1 : 0 ≤ v) (h2 : v ≤ 65535) {home : Int} (hh : levB home = true) (A : Option Addr) (k : Nat) : levelV [⟨9,[ownH p v],A,k⟩] ⟨9,0⟩ (otherP p) home = (home,0):=by
 have hs:=scan_own hp h1 h2
 have hn:=otherP_ne hp
 have hz:=zeroP_ne hp
 rw [levelV_one 9 _ A k _ home (by decide) (by decide) (huesE_ok hs (by simp)) (otherP_ok hp) hh,hueIn_no (hueAt_none (by
  intro x hx
  simp at hx
  subst hx
  exact hn)) (hueAt_none (by
  intro x hx
  simp at hx
  subst hx
  exact hz))]
 rfl
theorem lev_no (hp : paramE p = 0) {home : Int} (hh : levB home = true) (A : Option Addr) (k : Nat) : levelV [⟨9,[],A,k⟩] ⟨9,0⟩ p home = (home,0):=by
 rw [levelV_one 9 _ A k _ home (by decide) (by decide) (by decide) hp hh,hueIn_no (hueAt_none (by simp)) (hueAt_none (by simp))]
 rfl
end
end Go.Proofs.Ytgbecbnjokkfoaa
