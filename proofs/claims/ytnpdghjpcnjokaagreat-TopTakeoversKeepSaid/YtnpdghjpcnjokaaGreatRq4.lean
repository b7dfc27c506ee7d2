import Derived.Test.YtnpdghjpcnjokaaGreatGrpn
import Derived.Test.YtnpdghjpcnjokaaGreatGrag
namespace Go.Proofs.YtnpdghjpcnjokaaGreat
set_option maxHeartbeats 3200000
set_option maxRecDepth 100000
open Go.RowKit

theorem zmu {l m : List Rec} (h : l.length ≠ m.length) : zaR l m = false:=by
 cases hc : zaR l m with
 | false => rfl
 | true => exact absurd ((zby l m).1 hc).1 h
theorem zqf {l m : List Rec} {k : Nat} {x y : Rec} (hx : l[k]? = some x) (hy : m[k]? = some y) (h : sameR x y = false) : zaR l m = false:=by
 cases hc : zaR l m with
 | false => rfl
 | true =>
  have:=((zby l m).1 hc).2 k x y hx hy
  rw [h] at this
  cases this
def zhC (l m : List Rec) (k : Nat) : Prop:=∀ (i : Nat) (x y : Rec),i < k → l[i]? = some x → m[i]? = some y → sameR x y = true
theorem zhC.more {l m : List Rec} {k : Nat} {x y : Rec} (h : zhC l m k) (hx : l[k]? = some x) (hy : m[k]? = some y) (he : sameR x y = true) : zhC l m (k + 1):=fun i a b hi ha hb => by
 by_cases h0 : i < k
 ·exact h i a b h0 ha hb
 ·obtain rfl : i = k:=by omega
  rw [hx] at ha;rw [hy] at hb
  injection ha with ha;injection hb with hb
  subst ha hb
  exact he
theorem zhC.all {l m : List Rec} (h : zhC l m l.length) (hl : l.length = m.length) : zaR l m = true :=
 (zby l m).2 ⟨hl,fun i x y hx hy => h i x y (List.getElem?_eq_some_iff.1 hx).1 hx hy⟩
theorem zsl {x y : Rec} (h : x.term ≠ y.term) : sameR x y = false:=by
 unfold sameR;rw [decide_eq_false h];rfl
theorem zqe {x y : Rec} (h : x.term = y.term) : sameR x y = sameA x.act y.act:=by
 unfold sameR;rw [decide_eq_true h];rfl
theorem zjV (a b : Acn) (v : Bool) (hv : sameA a b = v) (w : World) (ha : AcnAt w a) (hb : AcnAt w b) : Calls Tryz.prog 88 #[.agg (acnR a).toArray,.agg (acnR b).toArray] w fun r w' => r = .returned (.bool v) ∧ Ext w w':=by
 subst hv
 exact zcz a b w ha hb
theorem zdl (A : Option Addr) (c n : Nat) (l : List Rec) (hn : l.length = n) (B : Option Addr) (d k : Nat) (m : List Rec) (hk : m.length = k) (w : World) (h1 : za3 w A c l) (h2 : za3 w B d m) :
  Calls Tryz.prog 74 #[.slice A n c,.slice B k d] w fun e w' => e = .returned (.bool (zaR l m)) ∧ Ext w w':=by
 subst hn hk
 have hl:=h1.len
 have hl2:=h2.len
 have H1:=zh h1
 have H2:=zh h2
 clear h1 h2
 by_cases hlen : l.length = m.length
 ·have hz : ((l.length : Int) != (m.length : Int)) = false:=by rw [hlen];simp
  have HL:=zh hlen
  clear hlen
  go_enter Tryz.func74,Tryz.ntmps74
  go_wp2
  go_loopw [5] (fun i wr => ∃ k : Nat,k ≤ l.length ∧ i = .int .i64 k ∧ Ext w wr ∧ Hid (zhC l m k)) (fun i _ => l.length - (intOf i).toNat)
  case atStart => exact ⟨0,by omega,rfl,Ext.refl _,zh (fun i _ _ hi => by omega)⟩
  case round =>
   obtain ⟨k,hk,rfl,hx,HE⟩:=hrel
   obtain ⟨y0,rfl⟩:=hx.get
   clear hx
   by_cases hlt : k < l.length
   ·have hlt2 : k < m.length:=by have:=HL.out;omega
    obtain ⟨x,hx⟩ : ∃ x,l[k]? = some x:=⟨_,List.getElem?_eq_getElem hlt⟩
    obtain ⟨z,hz2⟩ : ∃ z,m[k]? = some z:=⟨_,List.getElem?_eq_getElem hlt2⟩
    obtain ⟨b1,o1,rfl,hr1,ha1⟩:=H1.out.get hx
    obtain ⟨b2,o2,rfl,hr2,ha2⟩:=H2.out.get hz2
    have hq1:=hr1.act
    have hq2:=hr2.act
    have ht1:=hr1.term
    have ht2:=hr2.term
    have HA1:=zh ha1
    have HA2:=zh ha2
    have hb0 : (0 : Int) ≤ (k : Int):=by omega
    have hb1 : (k : Int) < (l.length : Int):=by omega
    have hb2 : (k : Int) < (m.length : Int):=by omega
    clear hr1 hr2 ha1 ha2
    by_cases he : x.term = z.term
    ·have hzt : (x.term != z.term) = false:=by simpa using he
     cases hs : sameA x.act z.act with
     | true =>
      have HM:=zh (HE.out.more hx hz2 ((zqe he).trans hs))
      have HS:=zh hs
      clear hx hz2 he hs hlt2
      go_wp2
      (refine zcL kr kr ?_;(repeat (go_big_quiet_step ((go_at_call 88;exact Calls.grows (zjV x.act z.act true HS.out _ (HA1.out.mono ex) (HA2.out.mono ex))))));refine wpQuiet_nil ?_;rintro _ ⟨y,rfl⟩)
      go_wp2
      go_light
      exact ⟨⟨k + 1,by omega,by go_num,ex,HM⟩,by simp [intOf];omega⟩
     | false =>
      have HV:=zh (zqf hx hz2 ((zqe he).trans hs))
      have HS:=zh hs
      clear hx hz2 he hs hlt2
      go_wp2
      (refine zcL kr kr ?_;(repeat (go_big_quiet_step ((go_at_call 88;exact Calls.grows (zjV x.act z.act false HS.out _ (HA1.out.mono ex) (HA2.out.mono ex))))));refine wpQuiet_nil ?_;rintro _ ⟨y,rfl⟩)
      go_wp2
      go_ret
      exact ⟨ret_b HV.out.symm,ex⟩
    ·have hzt : (x.term != z.term) = true:=by simpa using he
     have HV:=zh (zqf hx hz2 (zsl he))
     clear hx hz2 he hlt2
     go_wp2
     (refine zcL kr kr ?_;(repeat (go_big_quiet_step (fail)));refine wpQuiet_nil ?_;rintro _ ⟨y,rfl⟩)
     go_wp2
     go_ret
     exact ⟨ret_b HV.out.symm,ex⟩
   ·have HV:=zh (show zaR l m = true from zhC.all (by have : k = l.length:=om;rw [← this];exact HE.out) HL.out)
    go_wp2
    go_ret
    exact ⟨ret_b HV.out.symm,ex⟩
 ·have hz : ((l.length : Int) != (m.length : Int)) = true:=by simp only [bne_iff_ne,ne_eq,Int.natCast_inj];exact hlen
  have HV:=zh (zmu hlen)
  clear hlen
  go_enter Tryz.func74,Tryz.ntmps74
  go_wp2
  go_ret
  exact ⟨ret_b HV.out.symm,ex⟩
theorem zl6 (x y : Rec) (v : Bool) (hv : sameR x y = v) (w : World) (hx : AcnAt w x.act) (hy : AcnAt w y.act) : Calls Tryz.prog 101 #[.agg (recR x).toArray,.agg (recR y).toArray] w fun e w' => e = .returned (.bool v) ∧ Ext w w':=by
 subst hv
 have HX:=zh hx
 have HY:=zh hy
 clear hx hy
 by_cases he : x.term = y.term
 ·have HV:=zh (zqe he)
  have hz : (x.term == y.term) = true:=by simpa using he
  clear he
  go_enter Tryz.func101,Tryz.ntmps101
  go_wp2_with (go_at_call 86;refine (zcN x.act y.act _ (HX.out.mono ex) (HY.out.mono ex)).mono ?_;rintro e w' ⟨rfl,hx⟩;obtain ⟨y,rfl⟩:=hx.get;clear hx)
  go_ret
  exact ⟨ret_b HV.out.symm,ex⟩
 ·have HV:=zh (zsl he)
  have hz : (x.term == y.term) = false:=by simpa using he
  clear he
  go_enter Tryz.func101,Tryz.ntmps101
  go_wp2
  go_ret
  exact ⟨ret_b HV.out.symm,ex⟩
end Go.Proofs.YtnpdghjpcnjokaaGreat
