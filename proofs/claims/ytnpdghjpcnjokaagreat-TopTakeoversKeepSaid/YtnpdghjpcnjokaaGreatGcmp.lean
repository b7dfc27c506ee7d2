import Derived.Test.YtnpdghjpcnjokaaGreatGsam
set_option maxHeartbeats 3200000
set_option maxRecDepth 100000
namespace Go.Proofs.YtnpdghjpcnjokaaGreat
open Go.RowKit

def zwK (n : Int) (l : List Int) (m : Int) (k : List Int) : Bool:=decide (n = m ∧ l = k)
def sameX (a b : Eff) : Bool:=decide (a.number = b.number ∧ a.attr = b.attr ∧ a.wave.l = b.wave.l ∧ a.period = b.period ∧ a.spread = b.spread ∧ a.size = b.size)
def sameS (a b : Sub) : Bool:=decide (a.number = b.number ∧ a.prio = b.prio ∧ a.inh = b.inh ∧ a.gains.l = b.gains.l)
def zqd (n : Int) (l : List Hue) (m : Int) (k : List Hue) : Bool:=decide (n = m ∧ l = k)

theorem r14_Same (n : Int) (l : Lst Int) (m : Int) (k : Lst Int) (w : World) (hl : LstAt w 1 intR l) (hk : LstAt w 1 intR k) :
  Calls Tryz.prog 181 #[.agg #[.int .i64 n,.slice l.at_ l.l.length l.cap],.agg #[.int .i64 m,.slice k.at_ k.l.length k.cap]] w fun e w' => e = .returned (.bool (zwK n l.l m k.l)) ∧ Ext w w':=by
 have HL:=zh hl
 have HK:=zh hk
 clear hl hk
 go_enter Tryz.func181,Tryz.ntmps181
 go_wp2_with (go_at_call 211;refine (zvU l.at_ l.cap l.l k.at_ k.cap k.l _ (HL.out.sl.mono ex) HL.out.len (HK.out.sl.mono ex) HK.out.len).mono ?_;rintro e w' ⟨rfl,hx⟩;obtain ⟨y,rfl⟩:=hx.get;clear hx)
 all_goals
  go_ret
  refine ⟨ret_b ?_,ex⟩
  unfold zwK
  grind
theorem zgj (a b : Eff) (w : World) (ha : LstAt w 2 ptR a.wave) (hb : LstAt w 2 ptR b.wave) :
  Calls Tryz.prog 183 #[.agg (effR a).toArray,.agg (effR b).toArray] w fun e w' => e = .returned (.bool (sameX a b)) ∧ Ext w w':=by
 have HA:=zh ha
 have HB:=zh hb
 clear ha hb
 simp only [effR]
 go_enter Tryz.func183,Tryz.ntmps183
 go_wp2_with (go_at_call 212;refine (r27_Same a.wave.at_ a.wave.cap a.wave.l b.wave.at_ b.wave.cap b.wave.l _ (HA.out.sl.mono ex) HA.out.len (HB.out.sl.mono ex) HB.out.len).mono ?_;rintro e w' ⟨rfl,hx⟩;obtain ⟨y,rfl⟩:=hx.get;clear hx)
 all_goals
  go_ret
  refine ⟨ret_b ?_,ex⟩
  unfold sameX
  grind

theorem ztM (a b : Sub) (w : World) (ha : LstAt w 3 gainR a.gains) (hb : LstAt w 3 gainR b.gains) :
  Calls Tryz.prog 182 #[.agg (subR a).toArray,.agg (subR b).toArray] w fun e w' => e = .returned (.bool (sameS a b)) ∧ Ext w w':=by
 have hl:=ha.len
 have hl':=hb.len
 have hs:=ha.sl
 have hs':=hb.sl
 obtain ⟨n,p,i,⟨l,A,c⟩⟩:=a
 obtain ⟨n',p',i',⟨l',A',c'⟩⟩:=b
 clear ha hb
 simp only [subR] at hl hl' hs hs' ⊢
 unfold maxLen at hl hl'
 by_cases hh : n = n' ∧ p = p' ∧ i = i' ∧ l.length = l'.length
 ·obtain ⟨rfl,rfl,rfl,hn⟩:=hh
  have hb : ((l.length : Int) != (l'.length : Int)) = false:=by simp [hn]
  have HN:=zh hn
  have hle : l.length ≤ l'.length:=by omega
  clear hn
  go_enter Tryz.func182,Tryz.ntmps182
  go_wp2
  go_loopw [5] (fun q wr => ∃ k : Nat,k ≤ l.length ∧ q = .int .i64 k ∧ Ext ((w.alloc (.cells #[.int .i64 n,.int .i64 p,.bool i,.slice A l.length c] 90)).alloc (.cells #[.int .i64 n,.int .i64 p,.bool i,.slice A' l'.length c'] 90)) wr ∧ Hid (l.take k = l'.take k)) (fun q _ => l.length - (intOf q).toNat)
  case atStart => exact ⟨0,by omega,rfl,Ext.refl _,zh (by simp)⟩
  case round =>
   obtain ⟨k,hk,rfl,hx,HE⟩:=hrel
   obtain ⟨y,rfl⟩:=hx.get
   clear hx
   by_cases hlt : k < l.length
   ·obtain ⟨m,hm⟩ : ∃ m,l[k]? = some m:=⟨_,List.getElem?_eq_getElem hlt⟩
    obtain ⟨m',hm'⟩ : ∃ m',l'[k]? = some m':=⟨_,List.getElem?_eq_getElem om⟩
    have HM:=zh hm
    have HM':=zh hm'
    obtain ⟨b,o,rfl,hc0,hc1,hc2⟩:=hs.row3 (i:=k) (by rw [List.getElem?_map,hm];rfl)
    obtain ⟨b',o',rfl,hd0,hd1,hd2⟩:=hs'.row3 (i:=k) (by rw [List.getElem?_map,hm'];rfl)
    have hb0 : (0 : Int) ≤ (k : Int):=by omega
    have hb1 : (k : Int) < (l.length : Int):=by omega
    have hb2 : (k : Int) < (l'.length : Int):=by omega
    clear hm hm' hs hs'
    go_wp2
    (refine zcL kr kr ?_;(repeat (go_big_quiet_step (fail)));refine wpQuiet_nil ?_;rintro _ ⟨y,rfl⟩)
    by_cases he : m = m'
    ·have hz : eqG ⟨⟨m.p.ch,m.p.attr⟩,m.lev⟩ ⟨⟨m'.p.ch,m'.p.attr⟩,m'.lev⟩ = true:=by rw [ztd];simpa using he
     rw [hz]
     have HK:=zh (zbK HM.out HM'.out he HE.out)
     clear he
     go_wp2
     go_light
     exact ⟨⟨k + 1,by omega,by go_num,ex,HK⟩,by simp [intOf];omega⟩
    ·have hz : eqG ⟨⟨m.p.ch,m.p.attr⟩,m.lev⟩ ⟨⟨m'.p.ch,m'.p.attr⟩,m'.lev⟩ = false:=by rw [ztd];simpa using he
     rw [hz]
     have HK:=zh (zcq HM.out HM'.out he)
     clear he
     go_wp2
     go_ret
     refine ⟨ret_b ?_,ex⟩
     exact (decide_eq_false fun h => HK.out h.2.2.2).symm
   ·have HK : Hid (l = l'):=zh (by
     have:=HE.out
     rwa [List.take_of_length_le om,List.take_of_length_le (by have:=HN.out;omega)] at this)
    go_wp2
    go_ret
    refine ⟨ret_b ?_,ex⟩
    exact (decide_eq_true ⟨rfl,rfl,rfl,HK.out⟩).symm
 ·have HH:=zh hh
  have hV : sameS ⟨n,p,i,⟨l,A,c⟩⟩ ⟨n',p',i',⟨l',A',c'⟩⟩ = false:=decide_eq_false fun h => hh ⟨h.1,h.2.1,h.2.2.1,congrArg List.length h.2.2.2⟩
  have HV:=zh hV
  clear hh hV hs hs'
  by_cases h1 : n = n'
  ·by_cases h2 : p = p'
   ·by_cases h3 : i = i'
    ·have hb : ((l.length : Int) != (l'.length : Int)) = true:=by
      simp only [bne_iff_ne,ne_eq];intro h;exact HH.out ⟨h1,h2,h3,by omega⟩
     subst h1 h2 h3
     go_enter Tryz.func182,Tryz.ntmps182
     go_wp2
     go_ret
     exact ⟨ret_b HV.out.symm,ex⟩
    ·subst h1 h2
     cases i <;> cases i'
     ·exact absurd rfl h3
     ·clear h3
      go_enter Tryz.func182,Tryz.ntmps182
      go_wp2
      go_ret
      exact ⟨ret_b HV.out.symm,ex⟩
     ·clear h3
      go_enter Tryz.func182,Tryz.ntmps182
      go_wp2
      go_ret
      exact ⟨ret_b HV.out.symm,ex⟩
     ·exact absurd rfl h3
   ·have hz : (p != p') = true:=by simpa using h2
    subst h1
    clear h2
    go_enter Tryz.func182,Tryz.ntmps182
    go_wp2
    go_ret
    exact ⟨ret_b HV.out.symm,ex⟩
  ·have hz : (n != n') = true:=by simpa using h1
   clear h1
   go_enter Tryz.func182,Tryz.ntmps182
   go_wp2
   go_ret
   exact ⟨ret_b HV.out.symm,ex⟩
end Go.Proofs.YtnpdghjpcnjokaaGreat

namespace Go.Proofs.YtnpdghjpcnjokaaGreat
open Go.RowKit

structure zuS (w : World) (b : Nat) (n : Int) (l : Lst Hue) : Prop where
 c0 : w.cell? ⟨b,0,none⟩ = some (.int .i64 n)
 c1 : w.cell? ⟨b,1,none⟩ = some (.slice l.at_ l.l.length l.cap)
 hl : LstAt w 3 hueR l
theorem zuS.mono {w w' : World} {b : Nat} {n : Int} {l : Lst Hue} (h : zuS w b n l) (hx : Ext w w') : zuS w' b n l:=⟨hx.cell h.c0,hx.cell h.c1,h.hl.mono hx⟩

theorem zEl (b b' : Nat) (n n' : Int) (x x' : Lst Hue) (w : World) (ha : zuS w b n x) (hb : zuS w b' n' x') :
  Calls Tryz.prog 180 #[.slice (some ⟨b,0,none⟩) 1 1,.slice (some ⟨b',0,none⟩) 1 1] w fun e w' => e = .returned (.bool (zqd n x.l n' x'.l)) ∧ Ext w w':=by
 obtain ⟨c0,c1,hla⟩:=ha
 obtain ⟨d0,d1,hlb⟩:=hb
 have hl:=hla.len
 have hl':=hlb.len
 have hs:=hla.sl
 have hs':=hlb.sl
 obtain ⟨l,A,c⟩:=x
 obtain ⟨l',A',c'⟩:=x'
 clear hla hlb
 simp only [] at hl hl' hs hs' c1 d1 ⊢
 unfold maxLen at hl hl'
 by_cases hh : n = n' ∧ l.length = l'.length
 ·obtain ⟨rfl,hn⟩:=hh
  have hb : ((l.length : Int) != (l'.length : Int)) = false:=by simp [hn]
  have HN:=zh hn
  have hle : l.length ≤ l'.length:=by omega
  clear hn
  go_enter Tryz.func180,Tryz.ntmps180
  go_wp2
  go_loopw [5,6] (fun q _ wr => ∃ k : Nat,k ≤ 1 ∧ q = .int .i64 k ∧ Ext w wr ∧ Hid (k = 1 → l = l')) (fun q _ _ => 1 - (intOf q).toNat)
  case atStart => exact ⟨0,by omega,rfl,Ext.refl _,zh om⟩
  case round =>
   obtain ⟨k,hk,rfl,hx,HE⟩:=hrel
   obtain ⟨y,rfl⟩:=hx.get
   clear hx
   match k,hk with
   | 0,_ =>
    clear HE
    go_wp2
    (refine zcL kr kr ?_;(repeat (go_big_quiet_step (fail)));refine wpQuiet_nil ?_;rintro _ ⟨y,rfl⟩)
    go_wp2
    go_loopw [6] (fun q wr => ∃ j : Nat,j ≤ l.length ∧ q = .int .i64 j ∧ Ext w wr ∧ Hid (l.take j = l'.take j)) (fun q _ => l.length - (intOf q).toNat)
    case atStart => exact ⟨0,by omega,rfl,ex,zh (by simp)⟩
    case round =>
     obtain ⟨j,hj,rfl,hx,HE⟩:=hrel
     obtain ⟨y2,rfl⟩:=hx.get
     clear hx
     by_cases hlt : j < l.length
     ·obtain ⟨m,hm⟩ : ∃ m,l[j]? = some m:=⟨_,List.getElem?_eq_getElem hlt⟩
      obtain ⟨m',hm'⟩ : ∃ m',l'[j]? = some m':=⟨_,List.getElem?_eq_getElem om⟩
      have HM:=zh hm
      have HM':=zh hm'
      obtain ⟨g,o,rfl,hc0,hc1,hc2⟩:=hs.row3 (i:=j) (by rw [List.getElem?_map,hm];rfl)
      obtain ⟨g',o',rfl,hd0,hd1,hd2⟩:=hs'.row3 (i:=j) (by rw [List.getElem?_map,hm'];rfl)
      have hb0 : (0 : Int) ≤ (j : Int):=by omega
      have hb1 : (j : Int) < (l.length : Int):=by omega
      have hb2 : (j : Int) < (l'.length : Int):=by omega
      clear hm hm' hs hs'
      go_wp2
      (refine zcL kr kr ?_;(repeat (go_big_quiet_step (fail)));refine wpQuiet_nil ?_;rintro _ ⟨y,rfl⟩)
      by_cases he : m = m'
      ·have hz : eqH ⟨⟨m.p.ch,m.p.attr⟩,m.lev⟩ ⟨⟨m'.p.ch,m'.p.attr⟩,m'.lev⟩ = true:=by rw [zte];simpa using he
       rw [hz]
       have HK:=zh (zbK HM.out HM'.out he HE.out)
       clear he
       go_wp2
       go_light
       exact ⟨⟨j + 1,by omega,by go_num,ex,HK⟩,by simp [intOf];omega⟩
      ·have hz : eqH ⟨⟨m.p.ch,m.p.attr⟩,m.lev⟩ ⟨⟨m'.p.ch,m'.p.attr⟩,m'.lev⟩ = false:=by rw [zte];simpa using he
       rw [hz]
       have HV:=zh (show zqd n l n l' = false from decide_eq_false fun h => zcq HM.out HM'.out he h.2)
       clear he
       go_wp2
       go_ret
       exact ⟨ret_b HV.out.symm,ex⟩
     ·have HK : Hid (l = l'):=zh (by
       have:=HE.out
       rwa [List.take_of_length_le om,List.take_of_length_le (by have:=HN.out;omega)] at this)
      go_wp2
      go_light
      exact ⟨⟨1,by omega,by rfl,ex,zh fun _ => HK.out⟩,by simp [intOf]⟩
   | 1,_ =>
    have HV:=zh (show zqd n l n l' = true from decide_eq_true ⟨rfl,HE.out rfl⟩)
    go_wp2
    go_ret
    exact ⟨ret_b HV.out.symm,ex⟩
   | k + 2,hk => exact absurd hk om
 ·have HV:=zh (show zqd n l n' l' = false from decide_eq_false fun h => hh ⟨h.1,congrArg List.length h.2⟩)
  have HH:=zh hh
  clear hh hs hs'
  by_cases h1 : n = n'
  ·have hb : ((l.length : Int) != (l'.length : Int)) = true:=by
    simp only [bne_iff_ne,ne_eq];intro h;exact HH.out ⟨h1,by omega⟩
   subst h1
   go_enter Tryz.func180,Tryz.ntmps180
   go_wp2
   refine wp_loop_rounds 1 ?_
   rw [rounds_succ]
   go_wp2
   (refine zcL kr kr ?_;(repeat (go_big_quiet_step (fail)));refine wpQuiet_nil ?_;rintro _ ⟨y,rfl⟩)
   go_wp2
   go_ret
   exact ⟨ret_b HV.out.symm,ex⟩
  ·have hz : (n != n') = true:=by simpa using h1
   clear h1
   go_enter Tryz.func180,Tryz.ntmps180
   go_wp2
   refine wp_loop_rounds 1 ?_
   rw [rounds_succ]
   go_wp2
   (refine zcL kr kr ?_;(repeat (go_big_quiet_step (fail)));refine wpQuiet_nil ?_;rintro _ ⟨y,rfl⟩)
   go_wp2
   go_ret
   exact ⟨ret_b HV.out.symm,ex⟩

def numK (k : Int) : Bool:=decide (k = 0 ∨ k = 1 ∨ k = 2 ∨ k = 4 ∨ k = 6 ∨ k = 8 ∨ k = 10 ∨ k = 12)
end Go.Proofs.YtnpdghjpcnjokaaGreat

namespace Go.Proofs.YtnpdghjpcnjokaaGreat
open Go.RowKit

def idleE (e : Edit) : Bool:=decide ((e.kind = 0 ∨ e.cue = zai) ∧ (e.kind = 3 ∨ (e.pn = 0 ∧ (e.hues.l.length : Int) ≤ 0)) ∧ (e.kind = 5 ∨ (e.gn = 0 ∧ (e.chans.l.length : Int) ≤ 0)) ∧ (e.kind = 7 ∨ sameS e.sub ⟨0,0,false,⟨[],none,0⟩⟩ = true) ∧ (e.kind = 9 ∨ sameX e.eff ⟨0,0,⟨[],none,0⟩,0,0,0⟩ = true) ∧ (e.kind = 11 ∨ e.fix = noFix))
def t1E (e : Edit) : Bool:=decide ((numK e.kind = false ∧ e.number ≠ 0) ∨ (e.kind ≠ 12 ∧ e.ch ≠ 0) ∨ (e.kind ≠ 2 ∧ e.prio ≠ 0))
def t2E (e : Edit) : Bool:=decide ((e.kind ≠ 1 ∧ e.kind ≠ 13 ∧ e.key.toList.isEmpty = false) ∨ idleE e = false)
def r32E (e : Edit) : Int:=if e.kind < 0 ∨ 13 < e.kind then 1 else if t1E e = true then 3 else if t2E e = true then 3 else 0
end Go.Proofs.YtnpdghjpcnjokaaGreat
