import Derived.Test.YtgbecbnjokkfoaaGcue
import Derived.Test.YtgbecbnjokkfoaaPure
namespace Go.Proofs.Ytgbecbnjokkfoaa
set_option maxHeartbeats 1600000
set_option maxRecDepth 100000
open Go.RowKit

def entryE1 (e : Entry) : Int:=if paramE e.p ≠ 0 then paramE e.p else valueE e.v
def entryE (q : Option Entry) (e : Entry) : Int:=if entryE1 e ≠ 0 then entryE1 e else match q with | some n => if before n.p e.p then 0 else 9 | none => 0
def entriesE (l : List Entry) : Int:=if 4096 < l.length then 5 else scan entryE none l
theorem entryE_param {q : Option Entry} {m : Entry} (h : entryE q m = 0) : paramE m.p = 0:=by
 unfold entryE entryE1 at h
 by_cases h1 : paramE m.p = 0
 ·exact h1
 ·simp [h1] at h

theorem pal_param1 (p : Param) (w : World) : Calls Try.prog 27 #[.agg (prm p).toArray,.int .i64 1] w fun e w' => e = .returned (.int .i64 (paramE p)) ∧ Ext w w':=by
 simp only [prm]
 go_enter Try.func27,Try.ntmps27
 go_wp2
 all_goals
  go_ret
  go_light
  refine ⟨ret_i ?_,ex⟩
  grind [paramE]
theorem pal_compare (p q : Param) (w : World) (hp : paramE p = 0) (hq : paramE q = 0) : Calls Try.prog 47 #[.agg (prm p).toArray,.agg (prm q).toArray] w fun e w' => e = .returned (.int .i64 (cmpP p q)) ∧ Ext w w':=by
 obtain ⟨h1,h2,h3,h4⟩:=paramE_ok hp
 obtain ⟨h5,h6,h7,h8⟩:=paramE_ok hq
 clear hp hq
 simp only [prm]
 go_enter Try.func47,Try.ntmps47
 go_wp2
 all_goals
  go_ret
  go_light
  refine ⟨ret_i ?_,ex⟩
  grind [cmpP]
theorem pal_Entries1 (x : Entry) (w : World) : Calls Try.prog 44 #[.agg (en x).toArray] w fun e w' => e = .returned (.int .i64 (entryE1 x)) ∧ Ext w w':=by
 simp only [en]
 go_enter Try.func44,Try.ntmps44
 go_wp2_with (first | (go_at_call 27;refine (pal_param1 x.p _).mono ?_;rintro e w' ⟨rfl,hx⟩;obtain ⟨y,rfl⟩:=hx.get;clear hx) | (go_at_call 26;refine (pal_Value x.v _).mono ?_;rintro e w' ⟨rfl,hx⟩;obtain ⟨y,rfl⟩:=hx.get;clear hx))
 all_goals
  go_ret
  go_light
  refine ⟨ret_i ?_,ex⟩
  grind [entryE1]
theorem pal_Entries2 (x z : Entry) (w : World) (hp : paramE x.p = 0) (hq : paramE z.p = 0) : Calls Try.prog 46 #[.agg (en x).toArray,.agg (en z).toArray] w fun e w' => e = .returned (.int .i64 (cmpP x.p z.p)) ∧ Ext w w':=by
 have HP:=Lib.hid hp
 have HQ:=Lib.hid hq
 clear hp hq
 simp only [en]
 go_enter Try.func46,Try.ntmps46
 go_wp2_with (go_at_call 47;refine (pal_compare x.p z.p _ HP.out HQ.out).mono ?_;rintro e w' ⟨rfl,hx⟩;obtain ⟨y,rfl⟩:=hx.get;clear hx)
 go_ret
 exact ⟨rfl,ex⟩

theorem pal_list (A : Option Addr) (c : Nat) (l : List Entry) (w : World) (hs : Sl w A 4 (l.map en)) (hl : l.length ≤ maxLen) :
  Calls Try.prog 45 #[.slice A l.length c,.int .i64 4096,.func (Fn.func 44) #[] #[],.func (Fn.func 46) #[] #[]] w fun e w' => e = .returned (.int .i64 (entriesE l)) ∧ Ext w w':=by
 unfold maxLen at hl
 by_cases h128 : 4096 < l.length
 ·go_enter Try.func45,Try.ntmps45
  go_wp2
  go_ret
  exact ⟨ret_i (by simp [entriesE,h128]),Ext.refl _⟩
 have h0 : (0 : Int) ≤ l.length:=by omega
 have HM : Hid (entriesE l = scan entryE none l):=Lib.hid (by unfold entriesE;rw [if_neg h128])
 go_enter Try.func45,Try.ntmps45
 go_wp2
 go_loopw [18] (fun i wr => ∃ k : Nat,k ≤ l.length ∧ i = .int .i64 k ∧ Ext w wr ∧ Hid (entriesE l = scan entryE (prv l k) (l.drop k)) ∧ Hid (∀ m',prv l k = some m' → paramE m'.p = 0)) (fun i _ => l.length - (intOf i).toNat)
 case atStart => exact ⟨0,by omega,rfl,Ext.refl _,HM,Lib.hid (by intro m' h;simp [prv] at h)⟩
 case round =>
  obtain ⟨k,hk,rfl,hx,HE,HQ⟩:=hrel
  obtain ⟨y,rfl⟩:=hx.get
  clear hx HM
  by_cases hlt : k < l.length
  ·obtain ⟨m,hm⟩ : ∃ m,l[k]? = some m:=⟨_,List.getElem?_eq_getElem hlt⟩
   have HMM:=Lib.hid hm
   obtain ⟨b,o,rfl,hc0,hc1,hc2,hc3⟩:=hs.row4 (i:=k) (by rw [List.getElem?_map,hm];rfl)
   have HS:=Lib.hid (HE.out.trans (scan_at entryE l k m hm))
   have hb0 : (0 : Int) ≤ (k : Int):=by omega
   have hb1 : (k : Int) < (l.length : Int):=by omega
   clear HE
   by_cases he : entryE1 m = 0
   ·have HI:=Lib.hid (show paramE m.p = 0 by unfold entryE1 at he;by_cases h : paramE m.p = 0;exact h;simp [h] at he)
    have he' : (entryE1 m != 0) = false:=by simpa using he
    have HE1:=Lib.hid he
    clear he
    by_cases hk0 : 0 < k
    ·obtain ⟨m',hm'⟩ : ∃ m',l[k - 1]? = some m':=⟨_,List.getElem?_eq_getElem (by omega)⟩
     obtain ⟨b',o',he,hp0,hp1,hp2,hp3⟩:=hs.row4 (i:=k - 1) (by rw [List.getElem?_map,hm'];rfl)
     injection he with he
     injection he with hb ho
     subst hb ho
     have hP : prv l k = some m':=by unfold prv;rw [if_neg (by omega),hm']
     have HP:=Lib.hid hP
     have HQ':=Lib.hid (HQ.out m' hP)
     have HB:=Lib.hid (cmpP_before m'.p m.p)
     clear hm hm' hs hP HQ
     go_wp2_with (go_at_call 44;refine (pal_Entries1 m _).mono ?_;rintro e w' ⟨rfl,hx⟩;obtain ⟨y,rfl⟩:=hx.get;clear hx)
     (refine wp_region_grows (by kernel_rfl) (by kernel_rfl) ?_;(repeat (go_big_quiet_step ((go_at_call 46;exact Calls.grows (pal_Entries2 m' m _ HQ'.out HI.out)))));refine wpQuiet_nil ?_;rintro _ ⟨y,rfl⟩)
     go_wp2
     ·go_ret
      go_light
      refine ⟨ret_i ?_,ex⟩
      have hS:=HS.out
      have hB:=HB.out
      have h1:=HE1.out
      rw [HP.out] at hS
      grind [entryE]
     ·go_light
      have hS:=HS.out
      have hB:=HB.out
      have h1:=HE1.out
      refine ⟨⟨k + 1,by omega,by go_num,ex,Lib.hid ?_,Lib.hid ?_⟩,by simp [intOf];omega⟩
      ·rw [HP.out] at hS
       grind [entryE]
      ·intro n hn
       rw [prv_succ,HMM.out] at hn
       injection hn with hn
       subst hn
       exact HI.out
    ·have HP : Hid (prv l k = none):=Lib.hid (by unfold prv;rw [if_pos (by omega)])
     obtain rfl : k = 0:=by omega
     simp only [Nat.zero_mul,Nat.add_zero] at hc0 hc1 hc2 hc3
     clear hm hs hk0 HQ
     go_wp2_with (go_at_call 44;refine (pal_Entries1 m _).mono ?_;rintro e w' ⟨rfl,hx⟩;obtain ⟨y,rfl⟩:=hx.get;clear hx)
     (refine wp_region_grows (by kernel_rfl) (by kernel_rfl) ?_;(repeat (go_big_quiet_step (fail)));refine wpQuiet_nil ?_;rintro _ ⟨y,rfl⟩)
     go_wp2
     go_light
     have hS:=HS.out
     have h1:=HE1.out
     refine ⟨⟨1,by omega,by rfl,ex,Lib.hid ?_,Lib.hid ?_⟩,by simp [intOf];omega⟩
     ·rw [HP.out] at hS
      grind [entryE]
     ·intro n hn
      rw [prv_succ,HMM.out] at hn
      injection hn with hn
      subst hn
      exact HI.out
   ·have he' : (entryE1 m != 0) = true:=by simpa using he
    have HE1:=Lib.hid he
    clear he hm hs
    go_wp2_with (go_at_call 44;refine (pal_Entries1 m _).mono ?_;rintro e w' ⟨rfl,hx⟩;obtain ⟨y,rfl⟩:=hx.get;clear hx)
    go_ret
    go_light
    refine ⟨ret_i ?_,ex⟩
    have hS:=HS.out
    have h1:=HE1.out
    have h2 : entryE (prv l k) m = entryE1 m:=by unfold entryE;rw [if_pos h1]
    rw [h2,if_pos h1] at hS
    exact hS.symm
  ·have HS:=Lib.hid (HE.out.trans (scan_end entryE l k _ (by omega)))
   go_wp2
   go_ret
   rw [HS.out]
   exact ⟨rfl,ex⟩
theorem pal_Entries (A : Option Addr) (c : Nat) (l : List Entry) (w : World) (hs : Sl w A 4 (l.map en)) (hl : l.length ≤ maxLen) :
  Calls Try.prog 21 #[.slice A l.length c] w fun e w' => e = .returned (.int .i64 (entriesE l)) ∧ Ext w w':=by
 go_enter Try.func21,Try.ntmps21
 go_wp2_with (go_at_call 45;refine (pal_list A c l _ hs hl).mono ?_;rintro e w' ⟨rfl,hx⟩;obtain ⟨y,rfl⟩:=hx.get;clear hx)
 go_ret
 exact ⟨rfl,ex⟩
end Go.Proofs.Ytgbecbnjokkfoaa
