import Derived.Test.YtmhinhgflehkaaaGreatPure
import Derived.Test.YtmhinhgflehkaaaGreatGown
import Derived.Test.YtmhinhgflehkaaaGreatStr
import Derived.Test.YtmhinhgflehkaaaGreatGcue
import Derived.Test.YtmhinhgflehkaaaGreatGlev
import Derived.Test.YtmhinhgflehkaaaGreatGten
import Derived.Test.YtmhinhgflehkaaaGreatGcmp
import Derived.Test.YtmhinhgflehkaaaGreatGarf
import Derived.Test.YtmhinhgflehkaaaGreatGwl
import Derived.Test.YtmhinhgflehkaaaGreatGcut
import Derived.Test.YtmhinhgflehkaaaGreatGidl
import Derived.Test.YtmhinhgflehkaaaGreatGfew
import Derived.Test.YtmhinhgflehkaaaGreatGrqa
namespace Go.Proofs.YtmhinhgflehkaaaGreat
open Go.RowKit
theorem all_step {α:Type} {p:α→Bool} {l:List α} {k:Nat} {x:α} (h:l[k]? = some x) (hp:p x=true) (ha:(l.take k).all p=true):(l.take (k+1)).all p=true:=by
 obtain ⟨hk,hx⟩:=List.getElem?_eq_some_iff.1 h
 rw [List.take_succ_eq_append_getElem hk,List.all_append,ha,hx]
 simp [hp]
theorem all_full {α:Type} {p:α→Bool} {l:List α} {k:Nat} (hk:l.length≤k) (ha:(l.take k).all p=true):l.all p=true:=by
 rw [List.take_of_length_le hk] at ha;exact ha
end Go.Proofs.YtmhinhgflehkaaaGreat
namespace Go.Proofs.YtmhinhgflehkaaaGreat
open Go.RowKit
end Go.Proofs.YtmhinhgflehkaaaGreat
namespace Go.Proofs.YtmhinhgflehkaaaGreat
open Go.RowKit
section
variable {P:Program} {w0 W:World} {E:TypeId} {size:Nat} {A:Option Addr} {n k:Nat} {rows news:List (List Value)}
end
section
variable {P:Program} {ops:Array Oper} {rest:List Oper} {o:Oper} {a:Act} {Q:Exit→Act→World→Prop} {w0 W:World}
end
end Go.Proofs.YtmhinhgflehkaaaGreat
namespace Go.Proofs.YtmhinhgflehkaaaGreat
open Go.RowKit
section
variable {w0 w:World} {E:TypeId} {size:Nat} {A:Option Addr} {n k:Nat} {rows:List (List Value)}
end
section
variable {P:Program} {ops:Array Oper} {rest:List Oper} {o:Oper} {a:Act} {Q:Exit→Act→World→Prop} {w0 W:World}
theorem wpList_store_mine (hgd:o.guard=none) (ty:TypeId) (x y:Operand) (ho:o.op = .store ty x y) (E:TypeId) (size:Nat) (hx:Ext w0 W) (g n k i:Nat) (rows:List (List Value)) (hown:Own w0 W E size (some ⟨g,0,none⟩) n k rows) (hi:i < n)
  (row:List Value) (hxe:a.eval x = .pointer (some ⟨g,i * size,none⟩)) (hye:a.eval y = .agg row.toArray) (hr:row.length=size) (h1:∀ u ∈ row,u.oneCell'=true) (hs:(P.info? ty).map (·.size)=some size)
  (h:∀ w',Ext w0 w'→Own w0 w' E size (some ⟨g,0,none⟩) n k (rows.set i row)→W.grownBy w' (some g)→wpList P ops Q rest (a.put o.dst undef) w'):wpList P ops Q (o :: rest) a W:=by
 obtain ⟨g',h2,h3,h4⟩:=hown.there hi
 have hg:g'=g:=by injection h2 with h2;injection h2 with h2;exact h2.symm
 subst hg
 refine wpList_store_mid hgd ty x y ho g' (i * size) row.toArray hxe hye (by simpa [hr] using h4) (by simpa [hr] using hs) (all_oneCell_toArray h1) ?_
 have:=setCells_same g' row (i * size) W
 exact h _ (hx.setCells h3 _ _) (hown.set hi rfl hr h1) ⟨this.1,this.2.1,this.2.2.1,by simp [this.2.2.2],fun j _ hne=>setCells_other g' row (i * size) W j (fun e=>hne (by rw [e]))⟩
end
end Go.Proofs.YtmhinhgflehkaaaGreat

namespace Go.Proofs.YtmhinhgflehkaaaGreat
open Go.RowKit
theorem dotAt_ge (s:ByteArray) : -1≤dotAt s:=Lib.indexByte_ge _ _
theorem dotAt_is (s:ByteArray) (k:Nat) (hk:k < s.size) (h:s[k]=46) (hn:∀ j (hj:j < s.size),j < k→s[j] ≠ 46):dotAt s=k:=by
 have hl:s.data.toList.length=s.size:=rfl
 have hg:∀ j (hj:j < s.size),s.data.toList[j]? = some s[j]:=fun j hj=>by rw [List.getElem?_eq_getElem (by omega)];rfl
 rcases (by omega:dotAt s < 0 ∨ 0≤dotAt s) with h1 | h1
 ·have h2:dotAt s = -1:=by have:=dotAt_ge s;omega
  exact absurd (by rw [hg k hk,h]) (Lib.indexByte_none h2 k)
 ·obtain ⟨o,ho⟩:=Int.eq_ofNat_of_zero_le h1
  have h2:=Lib.indexByte_some (show Lib.indexByte s.data.toList 46=(o:Int) from ho)
  have hos:=dotAt_lt s o ho
  rcases Nat.lt_trichotomy o k with h3 | h3 | h3
  ·exact absurd (Option.some.inj ((hg o hos).symm.trans h2.1)) (hn o hos h3)
  ·rw [ho,h3]
  ·exact absurd (by rw [hg k hk,h]) (h2.2 k h3)
theorem dotAt_none (s:ByteArray) (hn:∀ j (hj:j < s.size),s[j] ≠ 46):dotAt s = -1:=by
 rcases (by omega:dotAt s < 0 ∨ 0≤dotAt s) with h1 | h1
 ·have:=dotAt_ge s;omega
 ·obtain ⟨o,ho⟩:=Int.eq_ofNat_of_zero_le h1
  have hos:=dotAt_lt s o ho
  have h2:=(Lib.indexByte_some (show Lib.indexByte s.data.toList 46=(o:Int) from ho)).1
  rw [List.getElem?_eq_getElem (by exact hos)] at h2
  exact absurd (Option.some.inj h2) (hn o hos)


set_option maxHeartbeats 400000 in
theorem r05_Split (s:ByteArray) (w:World) (hs:s.size≤maxLen) :
  Calls Tryz.prog 229 #[.string s] w fun e w'=>e = .returned (.tuple #[.string (whole s),.string (rest s),.bool (point s)])∧Ext w w':=by
 unfold maxLen at hs
 go_enter Tryz.func229,Tryz.ntmps229
 go_wp2
 go_loopw [5] (fun i wr=>∃ k:Nat,k≤s.size∧i = .int .i64 k∧Ext w wr∧Hid (∀ j (hj:j < s.size),j < k→s[j] ≠ 46)) (fun i _=>s.size - (intOf i).toNat)
 case atStart=>exact ⟨0,by omega,rfl,Ext.refl _,Lib.hid (by intro j _ hj;omega)⟩
 case round =>
  obtain ⟨k,hk,rfl,hx,HN⟩:=hrel
  obtain ⟨y,rfl⟩:=hx.get
  clear hx
  by_cases hlt:k < s.size
  ·by_cases hd:s[k]=46
   ·have E:Hid (whole s=s.extract 0 k∧rest s=s.extract (k+1) s.size∧point s=true):=by
     have hdot:=dotAt_is s k hlt hd HN.out
     exact Lib.hid (parts_at hdot)
    have hb:((s[k].toNat:Int) == 46)=true:=by rw [hd];rfl
    clear hd HN
    have hb1:(0:Int)≤(k:Int):=by omega
    have hb2:(k:Int)≤(s.size:Int):=by omega
    have hb3:(k:Int)+1≤(s.size:Int):=by omega
    have hb4:(0:Int)≤(k:Int)+1:=by omega
    go_wp2
    have hw:IntKind.i64.wrap ((k:Int)+1)=(k:Int)+1:=IntWalk.i64_in _ (by omega)
    have ht:((k:Int)+1).toNat=k+1:=by omega
    (refine wp_region_grows (by kernel_rfl) (by kernel_rfl) ?_;(repeat (go_big_quiet_step (fail)));refine wpQuiet_nil ?_;rintro _ ⟨y,rfl⟩)
    clear hw ht
    go_wp2
    go_ret3
    obtain ⟨e1,e2,e3⟩:=E.out
    rw [e1,e2,e3]
    exact ⟨rfl,ex⟩
   ·have hb:((s[k].toNat:Int) == 46)=false:=by
     rw [beq_eq_false_iff_ne];intro h;exact hd (UInt8.toNat_inj.1 (by change s[k].toNat=46;omega))
    have HN':Hid (∀ j (hj:j < s.size),j < k+1→s[j] ≠ 46):=Lib.hid fun j hj hjk=>by
     by_cases hjk':j=k
     ·subst hjk';exact hd
     ·exact HN.out j hj (by omega)
    clear hd HN
    go_wp2
    go_roundw
    case rel=>exact ⟨k+1,by omega,by go_num,ex,HN'⟩
    case measure=>simp [intOf];omega
  ·have E:Hid (whole s=s∧rest s=ByteArray.empty∧point s=false):=by
    have hdot:=dotAt_none s fun j hj=>HN.out j hj (by omega)
    exact Lib.hid (parts_none (by omega))
   go_wp2
   go_ret3
   obtain ⟨e1,e2,e3⟩:=E.out
   rw [e1,e2,e3]
   exact ⟨rfl,ex⟩

set_option maxHeartbeats 400000 in
theorem r05_digits (s:ByteArray) (w:World) (hs:s.size≤maxLen) :
  Calls Tryz.prog 230 #[.string s] w fun e w'=>e = .returned (.bool (digs s))∧w=w':=by
 unfold maxLen at hs
 go_enter Tryz.func230,Tryz.ntmps230
 go_wp2
 go_loop [3] (fun i=>∃ k:Nat,k≤s.size∧i = .int .i64 k∧Hid (∀ j (hj:j < s.size),j < k→isDig s[j]=true)) (fun i=>s.size - (intOf i).toNat)
 case atStart=>exact ⟨0,by omega,rfl,Lib.hid (by intro j _ hj;omega)⟩
 case round =>
  obtain ⟨k,hk,rfl,HN⟩:=hrel
  by_cases hlt:k < s.size
  ·by_cases hd:isDig s[k]=true
   ·have HN':Hid (∀ j (hj:j < s.size),j < k+1→isDig s[j]=true):=Lib.hid fun j hj hjk=>by
     by_cases hjk':j=k
     ·subst hjk';exact hd
     ·exact HN.out j hj (by omega)
    simp [isDig] at hd
    obtain ⟨hd1,hd2⟩:=hd
    clear HN
    go_wp2
    go_round
    case rel=>exact ⟨k+1,by omega,by go_num,HN'⟩
    case measure=>simp [intOf];omega
   ·have E:Hid (digs s=false):=Lib.hid (by
     unfold digs
     rw [Bool.and_eq_false_iff]
     right
     rw [Bool.eq_false_iff]
     intro h
     exact hd (List.all_eq_true.1 h _ (by rw [List.mem_iff_getElem];exact ⟨k,hlt,rfl⟩)))
    have hd':(s[k].toNat:Int) < 48 ∨ 57 < (s[k].toNat:Int):=by simp [isDig] at hd;omega
    clear hd HN
    rcases hd' with hd' | hd'
    ·go_wp2
     go_ret
     rw [E.out]
     exact ⟨rfl,rfl⟩
    ·have hd2:48≤(s[k].toNat:Int):=by omega
     go_wp2
     go_ret
     rw [E.out]
     exact ⟨rfl,rfl⟩
  ·have E:Hid (digs s=decide (0 < s.size)):=Lib.hid (by
    unfold digs
    have h1:s.data.toList.all isDig=true:=List.all_eq_true.2 fun c hc=>by
     obtain ⟨j,hj,rfl⟩:=List.mem_iff_getElem.1 hc
     exact HN.out j hj (by have:j < s.size:=hj;omega)
    rw [h1,Bool.and_true,Lib.toList_data]
    have h2:s.data.toList.length=s.size:=rfl
    cases hl:s.data.toList with
    | nil=>rw [hl] at h2;simp at h2;simp [← h2]
    | cons c l=>rw [hl] at h2;simp at h2;simp [← h2])
   go_wp2
   go_ret
   rw [E.out]
   exact ⟨rfl,rfl⟩

end Go.Proofs.YtmhinhgflehkaaaGreat
namespace Go.Proofs.YtmhinhgflehkaaaGreat
open Go.RowKit
section
variable (b:Nat) (W R:ByteArray) (p:Bool) (w:World) (h0:w.cell? ⟨b,0,none⟩=some (.string W)) (h1:w.cell? ⟨b,1,none⟩=some (.string R)) (h2:w.cell? ⟨b,2,none⟩=some (.bool p))
include h0 in
include h1 h2 in
include h0 in
end
theorem last_at (s:ByteArray) (h:0 < s.size):((s[s.size - 1].toNat:Int) == 48)=lastZero s:=by
 have hl:s.data.toList.length=s.size:=rfl
 have h0:s.data.toList.getLast? = some s[s.size - 1]:=by
  rw [List.getLast?_eq_getElem?,hl,List.getElem?_eq_getElem (by omega)];rfl
 unfold lastZero
 rw [h0]
 by_cases h2:s[s.size - 1]=48
 ·rw [h2];rfl
 ·rw [decide_eq_false (by intro h3;exact h2 (Option.some.inj h3)),beq_eq_false_iff_ne]
  intro h3
  exact h2 (UInt8.toNat_inj.1 (by change s[s.size - 1].toNat=48;omega))

set_option maxHeartbeats 1000000 in
theorem r05_Check (s:ByteArray) (w:World) (hs:s.size≤maxLen) :
  Calls Tryz.prog 201 #[.string s] w fun e w'=>e = .returned (.int .i64 (numE s))∧Ext w w':=by
 have hW:(whole s).size≤maxLen:=Nat.le_trans (whole_le s) hs
 have hR:(rest s).size≤maxLen:=Nat.le_trans (rest_le s) hs
 have DW:Hid (∀ w,Calls Tryz.prog 230 #[.string (whole s)] w fun e w'=>e = .returned (.bool (digs (whole s)))∧w=w'):=Lib.hid fun w=>r05_digits _ w hW
 have DR:Hid (∀ w,Calls Tryz.prog 230 #[.string (rest s)] w fun e w'=>e = .returned (.bool (digs (rest s)))∧w=w'):=Lib.hid fun w=>r05_digits _ w hR
 have HE:Hid (numE s=if digs (whole s)=false then 3 else if point s=true∧(digs (rest s)=false ∨ lastZero (rest s)=true) then 3
   else if (whole s).size ≠ 1∧firstZero (whole s)=true then 3 else if s.toList=[48] ∨ 4 < (whole s).size ∨ 3 < (rest s).size then 2 else 0):=Lib.hid rfl
 have E1:Hid (digs (whole s)=true→∃ h:0 < (whole s).size,(((whole s)[0].toNat:Int) == 48)=firstZero (whole s)):=Lib.hid fun h=>⟨digs_size _ h,first_at _ (digs_size _ h)⟩
 have E2:Hid (digs (rest s)=true→∃ h:0 < (rest s).size,(((rest s)[(rest s).size - 1].toNat:Int) == 48)=lastZero (rest s)):=Lib.hid fun h=>⟨digs_size _ h,last_at _ (digs_size _ h)⟩
 unfold maxLen at hW hR
 have S:Hid (∀ w,Calls Tryz.prog 229 #[.string s] w fun e w'=>e = .returned (.tuple #[.string (whole s),.string (rest s),.bool (point s)])∧Ext w w'):=Lib.hid fun w=>r05_Split s w hs
 generalize digs (whole s)=d1 at *
 generalize digs (rest s)=d2 at *
 generalize point s=p at *
 cases d1 with
 | false =>
  go_enter Tryz.func201,Tryz.ntmps201
  go_wp2_with (first | (go_at_call 229;refine (S.out _).mono ?_;rintro e w' ⟨rfl,hx⟩;obtain ⟨y,rfl⟩:=hx.get;clear hx) | (go_at_call_of 230 (Value.string (whole s));refine (DW.out _).mono ?_;rintro e w' ⟨rfl,rfl⟩) | (go_at_call_of 230 (Value.string (rest s));refine (DR.out _).mono ?_;rintro e w' ⟨rfl,rfl⟩))
  all_goals
   go_ret
   go_light
   refine ⟨ret_i ?_,ex⟩
   rw [HE.out]
   grind
 | true =>
  obtain ⟨h1,e1⟩:=E1.out rfl
  clear E1
  generalize firstZero (whole s)=f at *
  cases p with
  | false =>
   clear E2
   cases f with
   | false =>
    go_enter Tryz.func201,Tryz.ntmps201
    go_wp2_with (first | (go_at_call 229;refine (S.out _).mono ?_;rintro e w' ⟨rfl,hx⟩;obtain ⟨y,rfl⟩:=hx.get;clear hx) | (go_at_call_of 230 (Value.string (whole s));refine (DW.out _).mono ?_;rintro e w' ⟨rfl,rfl⟩) | (go_at_call_of 230 (Value.string (rest s));refine (DR.out _).mono ?_;rintro e w' ⟨rfl,rfl⟩))
    all_goals
     go_ret
     go_light
     refine ⟨ret_i ?_,ex⟩
     rw [HE.out]
     grind
   | true =>
    go_enter Tryz.func201,Tryz.ntmps201
    go_wp2_with (first | (go_at_call 229;refine (S.out _).mono ?_;rintro e w' ⟨rfl,hx⟩;obtain ⟨y,rfl⟩:=hx.get;clear hx) | (go_at_call_of 230 (Value.string (whole s));refine (DW.out _).mono ?_;rintro e w' ⟨rfl,rfl⟩) | (go_at_call_of 230 (Value.string (rest s));refine (DR.out _).mono ?_;rintro e w' ⟨rfl,rfl⟩))
    all_goals
     go_ret
     go_light
     refine ⟨ret_i ?_,ex⟩
     rw [HE.out]
     grind
  | true =>
   cases d2 with
   | false =>
    go_enter Tryz.func201,Tryz.ntmps201
    go_wp2_with (first | (go_at_call 229;refine (S.out _).mono ?_;rintro e w' ⟨rfl,hx⟩;obtain ⟨y,rfl⟩:=hx.get;clear hx) | (go_at_call_of 230 (Value.string (whole s));refine (DW.out _).mono ?_;rintro e w' ⟨rfl,rfl⟩) | (go_at_call_of 230 (Value.string (rest s));refine (DR.out _).mono ?_;rintro e w' ⟨rfl,rfl⟩))
    all_goals
     go_ret
     go_light
     refine ⟨ret_i ?_,ex⟩
     rw [HE.out]
     grind
   | true =>
    obtain ⟨h2,e2⟩:=E2.out rfl
    clear E2
    generalize lastZero (rest s)=l at *
    cases f with
    | false =>
     cases l with
     | false =>
      go_enter Tryz.func201,Tryz.ntmps201
      go_wp2_with (first | (go_at_call 229;refine (S.out _).mono ?_;rintro e w' ⟨rfl,hx⟩;obtain ⟨y,rfl⟩:=hx.get;clear hx) | (go_at_call_of 230 (Value.string (whole s));refine (DW.out _).mono ?_;rintro e w' ⟨rfl,rfl⟩) | (go_at_call_of 230 (Value.string (rest s));refine (DR.out _).mono ?_;rintro e w' ⟨rfl,rfl⟩))
      all_goals
       go_ret
       go_light
       refine ⟨ret_i ?_,ex⟩
       rw [HE.out]
       grind
     | true =>
      go_enter Tryz.func201,Tryz.ntmps201
      go_wp2_with (first | (go_at_call 229;refine (S.out _).mono ?_;rintro e w' ⟨rfl,hx⟩;obtain ⟨y,rfl⟩:=hx.get;clear hx) | (go_at_call_of 230 (Value.string (whole s));refine (DW.out _).mono ?_;rintro e w' ⟨rfl,rfl⟩) | (go_at_call_of 230 (Value.string (rest s));refine (DR.out _).mono ?_;rintro e w' ⟨rfl,rfl⟩))
      all_goals
       go_ret
       go_light
       refine ⟨ret_i ?_,ex⟩
       rw [HE.out]
       grind
    | true =>
     cases l with
     | false =>
      go_enter Tryz.func201,Tryz.ntmps201
      go_wp2_with (first | (go_at_call 229;refine (S.out _).mono ?_;rintro e w' ⟨rfl,hx⟩;obtain ⟨y,rfl⟩:=hx.get;clear hx) | (go_at_call_of 230 (Value.string (whole s));refine (DW.out _).mono ?_;rintro e w' ⟨rfl,rfl⟩) | (go_at_call_of 230 (Value.string (rest s));refine (DR.out _).mono ?_;rintro e w' ⟨rfl,rfl⟩))
      all_goals
       go_ret
       go_light
       refine ⟨ret_i ?_,ex⟩
       rw [HE.out]
       grind
     | true =>
      go_enter Tryz.func201,Tryz.ntmps201
      go_wp2_with (first | (go_at_call 229;refine (S.out _).mono ?_;rintro e w' ⟨rfl,hx⟩;obtain ⟨y,rfl⟩:=hx.get;clear hx) | (go_at_call_of 230 (Value.string (whole s));refine (DW.out _).mono ?_;rintro e w' ⟨rfl,rfl⟩) | (go_at_call_of 230 (Value.string (rest s));refine (DR.out _).mono ?_;rintro e w' ⟨rfl,rfl⟩))
      all_goals
       go_ret
       go_light
       refine ⟨ret_i ?_,ex⟩
       rw [HE.out]
       grind
end Go.Proofs.YtmhinhgflehkaaaGreat
namespace Go.Proofs.YtmhinhgflehkaaaGreat
open Go.RowKit
set_option maxHeartbeats 400000 in
theorem r15_Param (p:Param) (w:World):Calls Tryz.prog 231 #[.agg (prm p).toArray] w fun e w'=>e = .returned (.int .i64 (paramE p))∧Ext w w':=by
 obtain ⟨ch,at_⟩:=p
 simp only [prm]
 go_enter Tryz.func231,Tryz.ntmps231
 go_wp2
 all_goals go_ret
 all_goals refine ⟨ret_i ?_,ex⟩
 all_goals (simp only [paramE];split <;> omega)
set_option maxHeartbeats 400000 in
theorem r15_Value (v:Val) (w:World):Calls Tryz.prog 232 #[.agg (vl v).toArray] w fun e w'=>e = .returned (.int .i64 (valueE v))∧Ext w w':=by
 obtain ⟨ch,at_⟩:=v
 simp only [vl]
 go_enter Tryz.func232,Tryz.ntmps232
 go_wp2
 all_goals go_ret
 all_goals refine ⟨ret_i ?_,ex⟩
 all_goals grind [valueE]
set_option maxHeartbeats 400000 in
theorem r15_Before (p q:Param) (w:World):Calls Tryz.prog 233 #[.agg (prm p).toArray,.agg (prm q).toArray] w fun e w'=>e = .returned (.bool (before p q))∧Ext w w':=by
 obtain ⟨ch,at_⟩:=p
 obtain ⟨ch',at'⟩:=q
 simp only [prm]
 go_enter Tryz.func233,Tryz.ntmps233
 go_wp2
 all_goals go_ret
 all_goals refine ⟨ret_b ?_,ex⟩
 all_goals grind [before]
end Go.Proofs.YtmhinhgflehkaaaGreat
namespace Go.Proofs.YtmhinhgflehkaaaGreat
open Go.RowKit
set_option maxHeartbeats 800000 in
set_option maxRecDepth 100000 in
theorem r15_Entries (A:Option Addr) (c:Nat) (l:List Entry) (w:World) (hs:Sl w A 4 (l.map en)) (hl:l.length≤maxLen) :
  Calls Tryz.prog 205 #[.slice A l.length c] w fun e w'=>e = .returned (.int .i64 (entriesE l))∧Ext w w':=by
 unfold maxLen at hl
 by_cases h128:4096 < l.length
 ·go_enter Tryz.func205,Tryz.ntmps205
  go_wp2
  go_ret
  exact ⟨ret_i (by simp [entriesE,h128]),Ext.refl _⟩
 have h0:(0:Int)≤l.length:=by omega
 have HM:Hid (entriesE l=scan entryE none l):=Lib.hid (by unfold entriesE;rw [if_neg h128])
 go_enter Tryz.func205,Tryz.ntmps205
 go_wp2
 go_loopw [3] (fun i wr=>∃ k:Nat,k≤l.length∧i = .int .i64 k∧Ext w wr∧Hid (entriesE l=scan entryE (prv l k) (l.drop k))) (fun i _=>l.length - (intOf i).toNat)
 case atStart=>exact ⟨0,by omega,rfl,Ext.refl _,HM⟩
 case round =>
  obtain ⟨k,hk,rfl,hx,HE⟩:=hrel
  obtain ⟨y,rfl⟩:=hx.get
  clear hx HM
  by_cases hlt:k < l.length
  ·obtain ⟨m,hm⟩:∃ m,l[k]? = some m:=⟨_,List.getElem?_eq_getElem hlt⟩
   obtain ⟨b,o,rfl,hc0,hc1,hc2,hc3⟩:=hs.row4 (i:=k) (by rw [List.getElem?_map,hm];rfl)
   have HS:=Lib.hid (HE.out.trans (scan_at entryE l k m hm))
   clear HE
   by_cases hk0:0 < k
   ·obtain ⟨m',hm'⟩:∃ m',l[k - 1]? = some m':=⟨_,List.getElem?_eq_getElem (by omega)⟩
    obtain ⟨b',o',he,hp0,hp1,hp2,hp3⟩:=hs.row4 (i:=k - 1) (by rw [List.getElem?_map,hm'];rfl)
    injection he with he
    injection he with hb ho
    subst hb ho
    have HP:Hid (prv l k=some m'):=Lib.hid (by unfold prv;rw [if_neg (by omega),hm'])
    clear hm hm' hs hp2 hp3
    go_wp2_with (first | (go_at_call 231;refine (r15_Param m.p _).mono ?_;rintro e w' ⟨rfl,hx⟩;obtain ⟨y,rfl⟩:=hx.get;clear hx) | (go_at_call 232;refine (r15_Value m.v _).mono ?_;rintro e w' ⟨rfl,hx⟩;obtain ⟨y,rfl⟩:=hx.get;clear hx))
    all_goals try (go_ret;go_light;refine ⟨ret_i ?_,ex⟩;have hS:=HS.out;have hP:=HP.out;rw [hP] at hS;grind [entryE,entryE1])
    (refine wp_region_grows (by kernel_rfl) (by kernel_rfl) ?_;(repeat (go_big_quiet_step ((go_at_call 233;exact Calls.grows (r15_Before m'.p m.p _)))));refine wpQuiet_nil ?_;rintro _ ⟨y,rfl⟩)
    go_wp2
    ·go_ret
     go_light
     have hS:=HS.out
     have hP:=HP.out
     refine ⟨ret_i ?_,ex⟩
     rw [hP] at hS
     grind [entryE,entryE1]
    ·go_light
     have hS:=HS.out
     have hP:=HP.out
     refine ⟨⟨k+1,by omega,by go_num,ex,Lib.hid ?_⟩,by simp [intOf];omega⟩
     rw [hP] at hS
     grind [entryE,entryE1]
   ·have HP:Hid (prv l k=none):=Lib.hid (by unfold prv;rw [if_pos (by omega)])
    obtain rfl:k=0:=by omega
    simp only [Nat.zero_mul,Nat.add_zero] at hc0 hc1 hc2 hc3
    clear hm hs hk0
    go_wp2_with (first | (go_at_call 231;refine (r15_Param m.p _).mono ?_;rintro e w' ⟨rfl,hx⟩;obtain ⟨y,rfl⟩:=hx.get;clear hx) | (go_at_call 232;refine (r15_Value m.v _).mono ?_;rintro e w' ⟨rfl,hx⟩;obtain ⟨y,rfl⟩:=hx.get;clear hx))
    all_goals try (go_ret;go_light;refine ⟨ret_i ?_,ex⟩;have hS:=HS.out;have hP:=HP.out;rw [hP] at hS;grind [entryE,entryE1])
    (refine wp_region_grows (by kernel_rfl) (by kernel_rfl) ?_;(repeat (go_big_quiet_step (fail)));refine wpQuiet_nil ?_;rintro _ ⟨y,rfl⟩)
    go_wp2
    go_light
    have hS:=HS.out
    have hP:=HP.out
    refine ⟨⟨1,by omega,by rfl,ex,Lib.hid ?_⟩,by simp [intOf];omega⟩
    rw [hP] at hS
    grind [entryE,entryE1]
  ·have HS:=Lib.hid (HE.out.trans (scan_end entryE l k _ (by omega)))
   go_wp2
   go_ret
   rw [HS.out]
   exact ⟨rfl,ex⟩

end Go.Proofs.YtmhinhgflehkaaaGreat
namespace Go.Proofs.YtmhinhgflehkaaaGreat
open Go.RowKit
set_option maxHeartbeats 400000 in
theorem r16_FewMoves (A:Option Addr) (c:Nat) (l:List Move) (w:World):Calls Tryz.prog 216 #[.slice A l.length c] w fun e w'=>e = .returned (.bool (decide (l.length≤300)))∧w=w':=by
 go_enter Tryz.func216,Tryz.ntmps216
 go_wp2
 go_ret
 exact ⟨ret_b (by simp;try omega),rfl⟩
set_option maxHeartbeats 400000 in
theorem r16_Few (c:Cue) (A:Option Addr) (k:Nat) (B:Option Addr) (m:Nat) (w:World):Calls Tryz.prog 172 #[.agg (cueV c A k B m).toArray] w fun e w'=>e = .returned (.bool (few c))∧Ext w w':=by
 simp only [cueV]
 go_enter Tryz.func172,Tryz.ntmps172
 go_wp2_with (go_at_call 216;refine (r16_FewMoves _ _ _ _).mono ?_;rintro e w' ⟨rfl,rfl⟩)
 all_goals
  go_ret
  go_light
  refine ⟨ret_b ?_,ex⟩
  first | grind [few] | (simp [few];omega)

end Go.Proofs.YtmhinhgflehkaaaGreat
namespace Go.Proofs.YtmhinhgflehkaaaGreat
open Go.RowKit
set_option maxHeartbeats 400000 in
set_option maxRecDepth 100000 in
theorem r32_numbered (k:Int) (w:World):Calls Tryz.prog 234 #[.int .i64 k] w fun e w'=>e = .returned (.bool (numK k))∧w=w':=by
 go_enter Tryz.func234,Tryz.ntmps234
 go_wp2
 all_goals
  go_ret
  refine ⟨ret_b ?_,rfl⟩
  unfold numK
  grind
end Go.Proofs.YtmhinhgflehkaaaGreat
namespace Go.Proofs.YtmhinhgflehkaaaGreat
open Go.RowKit
theorem eqF_fix (e:Edit):eqF ⟨e.fix.ch,e.fix.part,e.fix.profile,e.fix.univ,e.fix.addr,e.fix.phase,e.fix.cable⟩ ⟨0,0,⟨#[]⟩,0,0,0,⟨#[]⟩⟩=decide (e.fix=noFix):=rfl
set_option maxHeartbeats 3200000 in
set_option maxRecDepth 100000 in
theorem r32_idle (e:Edit) (w:World) (he:EditAt w e):Calls Tryz.prog 235 #[.agg (editR e).toArray] w fun r w'=>r = .returned (.bool (idleE e))∧Ext w w':=by
 have HE:=Lib.hid he
 clear he
 go_enter Tryz.func235,Tryz.ntmps235
 go_wp2_with (first
  | (go_at_call 149;refine (r16_Same e.cue e.cA e.ck e.cB e.cm emptyC none 0 none 0 _ (HE.out.cue.mono (ex)) ⟨Sl.nil _ _ _,Sl.nil _ _ _,by decide,by decide,by decide,by decide,by decide,by decide,by decide⟩).mono ?_;rintro e w' ⟨rfl,hx⟩;obtain ⟨y,rfl⟩:=hx.get;clear hx)
  | (go_at_call 152;refine (r26_Same e.sub ⟨0,0,false,⟨[],none,0⟩⟩ _ (HE.out.gains.mono (ex)) LstAt.nil).mono ?_;rintro e w' ⟨rfl,hx⟩;obtain ⟨y,rfl⟩:=hx.get;clear hx)
  | (go_at_call 153;refine (r28_SameEffect e.eff ⟨0,0,⟨[],none,0⟩,0,0,0⟩ _ (HE.out.wave.mono (ex)) LstAt.nil).mono ?_;rintro e w' ⟨rfl,hx⟩;obtain ⟨y,rfl⟩:=hx.get;clear hx))
 all_goals
  go_ret
  refine ⟨ret_b ?_,ex⟩
  try rw [eqF_fix]
  unfold idleE
  grind

theorem t2E_idle {e:Edit} (h:e.kind=1 ∨ e.kind=13 ∨ e.key.toList.isEmpty=true):t2E e = !idleE e:=by
 unfold t2E
 cases idleE e
 ·simp
 ·simp;grind
set_option maxHeartbeats 3200000 in
set_option maxRecDepth 100000 in
theorem r32_Check0 (e:Edit) (w:World) (he:EditAt w e):Calls Tryz.prog 208 #[.agg (editR e).toArray] w fun r w'=>r = .returned (.int .i64 (r32E e))∧Ext w w':=by
 have HE:=Lib.hid he
 have HR:=Lib.hid (rangeAt_new w rfl (editR e) 85)
 clear he
 by_cases hk:e.kind < 0 ∨ 13 < e.kind
 ·have HV:=Lib.hid (show r32E e=1 by unfold r32E;rw [if_pos hk])
  rcases (by omega:e.kind < 0 ∨ (0≤e.kind∧13 < e.kind)) with h | ⟨h,h'⟩
  all_goals
   clear hk
   go_enter Tryz.func208,Tryz.ntmps208
   go_wp2
   go_ret
   exact ⟨ret_i HV.out.symm,ex⟩
 ·have HK:=Lib.hid hk
  have h0:0≤e.kind:=by omega
  have h13:e.kind≤13:=by omega
  clear hk
  go_enter Tryz.func208,Tryz.ntmps208
  go_upto_region 3 with fail
  go_cut [39] (fun s wx=>s = .bool (t1E e)∧w.alloc (.cells (editR e).toArray 85)=wx)
  case first =>
   go_wp2_with (go_at_call 234;refine (r32_numbered _ _).mono ?_;rintro e w' ⟨rfl,rfl⟩)
   all_goals
    go_meet
    refine ⟨?_,rfl⟩
    go_light
    as_aux_lemma =>
     congr 1
     unfold t1E
     grind
  case rest =>
   obtain ⟨rfl,rfl⟩:=hcut
   cases ht:t1E e
   ·have HT:=Lib.hid ht
    clear ht
    go_upto_region 5 with fail
    go_cut [57] (fun s wx=>s = .bool (t2E e)∧Ext w wx)
    case first =>
     have hcases:(e.kind ≠ 1∧e.kind ≠ 13∧e.key.toList.isEmpty=false) ∨ e.kind=1 ∨ (e.kind ≠ 1∧e.kind=13) ∨ (e.kind ≠ 1∧e.kind ≠ 13∧e.key.toList.isEmpty=true):=by
      cases e.key.toList.isEmpty <;> simp <;> omega
     rcases hcases with ⟨k1,k2,k3⟩ | k1 | ⟨k1,k2⟩ | ⟨k1,k2,k3⟩
     ·have q1:(e.kind != 1)=true:=by simpa using k1
      have q2:(e.kind != 13)=true:=by simpa using k2
      have HV:=Lib.hid (show t2E e=true from decide_eq_true (.inl ⟨k1,k2,k3⟩))
      clear k1 k2
      go_wp2
      go_meet
      exact ⟨by rw [HV.out],ex⟩
     ·have q1:(e.kind != 1)=false:=by simpa using k1
      have HV:=Lib.hid (t2E_idle (.inl k1))
      clear k1
      go_wp2_with (first
       | (refine wpList_load_row rfl 85 _ rfl w.heap.size 0 rfl (editR e) _ (rangeAt_mono HR.out (ex)) Tryz.underlying85 rfl (by kernel_rfl) ?_)
       | (go_at_call 235;refine (r32_idle e _ (HE.out.mono (ex))).mono ?_;rintro e w' ⟨rfl,hx⟩;obtain ⟨y,rfl⟩:=hx.get;clear hx))
      go_meet
      exact ⟨by rw [HV.out],ex⟩
     ·have q1:(e.kind != 1)=true:=by simpa using k1
      have q2:(e.kind != 13)=false:=by simpa using k2
      have HV:=Lib.hid (t2E_idle (.inr (.inl k2)))
      clear k1 k2
      go_wp2_with (first
       | (refine wpList_load_row rfl 85 _ rfl w.heap.size 0 rfl (editR e) _ (rangeAt_mono HR.out (ex)) Tryz.underlying85 rfl (by kernel_rfl) ?_)
       | (go_at_call 235;refine (r32_idle e _ (HE.out.mono (ex))).mono ?_;rintro e w' ⟨rfl,hx⟩;obtain ⟨y,rfl⟩:=hx.get;clear hx))
      go_meet
      exact ⟨by rw [HV.out],ex⟩
     ·have q1:(e.kind != 1)=true:=by simpa using k1
      have q2:(e.kind != 13)=true:=by simpa using k2
      have HV:=Lib.hid (t2E_idle (.inr (.inr k3)))
      clear k1 k2
      go_wp2_with (first
       | (refine wpList_load_row rfl 85 _ rfl w.heap.size 0 rfl (editR e) _ (rangeAt_mono HR.out (ex)) Tryz.underlying85 rfl (by kernel_rfl) ?_)
       | (go_at_call 235;refine (r32_idle e _ (HE.out.mono (ex))).mono ?_;rintro e w' ⟨rfl,hx⟩;obtain ⟨y,rfl⟩:=hx.get;clear hx))
      go_meet
      exact ⟨by rw [HV.out],ex⟩
    case rest =>
     obtain ⟨rfl,hx⟩:=hcut
     have HX:=Lib.hid hx
     clear hx
     cases ht2:t2E e
     ·have HV:=Lib.hid (show r32E e=0 by unfold r32E;rw [if_neg HK.out,HT.out,ht2];rfl)
      clear ht2
      go_wp2
      go_ret
      exact ⟨ret_i HV.out.symm,HX.out⟩
     ·have HV:=Lib.hid (show r32E e=3 by unfold r32E;rw [if_neg HK.out,HT.out,ht2];rfl)
      clear ht2
      go_wp2
      go_ret
      exact ⟨ret_i HV.out.symm,HX.out⟩
   ·have HV:=Lib.hid (show r32E e=3 by unfold r32E;rw [if_neg HK.out,ht];rfl)
    clear ht
    go_wp2
    go_ret
    exact ⟨ret_i HV.out.symm,ex⟩
theorem sameS_zero (s:Sub):sameS s ⟨0,0,false,⟨[],none,0⟩⟩=zeroS s:=by
 unfold sameS zeroS
 rw [decide_eq_decide]
 simp
theorem sameX_zero (s:Eff):sameX s ⟨0,0,⟨[],none,0⟩,0,0,0⟩=zeroX s:=by
 unfold sameX zeroX
 rw [decide_eq_decide]
 simp
theorem r32E_edit (e:Edit):r32E e=editE e:=by
 unfold r32E editE
 split
 ·rfl
 ·rename_i hk
  have h1:∀ (a b:Bool),(if a=true then (3:Int) else if b=true then 3 else 0)=if (a || b)=true then 3 else 0:=by decide
  rw [h1]
  congr 2
  have hp:∀ n:Nat,decide ((n:Int)≤0)=decide ((n:Int)=0):=fun n=>by rw [decide_eq_decide];omega
  rw [Bool.eq_iff_iff]
  simp only [show List.range 10=[0,1,2,3,4,5,6,7,8,9] from rfl,List.any_cons,List.any_nil,Bool.or_false,editBad,useK,useZ,List.getD_cons_zero,List.getD_cons_succ,t1E,t2E,idleE,sameS_zero,sameX_zero,numK,zeroP,zeroG,List.mem_cons,List.not_mem_nil,or_false]
  have e1:((e.hues.l.length:Int)≤0)=((e.hues.l.length:Int)=0):=propext ⟨fun h=>by omega,fun h=>by omega⟩
  have e2:((e.chans.l.length:Int)≤0)=((e.chans.l.length:Int)=0):=propext ⟨fun h=>by omega,fun h=>by omega⟩
  simp only [Bool.or_eq_true,Bool.and_eq_true,decide_eq_true_eq,decide_eq_false_iff_not,Bool.not_eq_true',beq_eq_false_iff_ne,ne_eq,e1,e2,Classical.not_and_iff_not_or_not,not_or,Bool.not_eq_true,or_assoc,and_assoc]
theorem r32_Check (e:Edit) (w:World) (he:EditAt w e):Calls Tryz.prog 208 #[.agg (editR e).toArray] w fun r w'=>r = .returned (.int .i64 (editE e))∧Ext w w':=by
 rw [← r32E_edit]
 exact r32_Check0 e w he
end Go.Proofs.YtmhinhgflehkaaaGreat
namespace Go.Proofs.YtmhinhgflehkaaaGreat
open Go.RowKit
set_option maxHeartbeats 400000 in
set_option maxRecDepth 100000 in
theorem r33_target (k:Int) (w:World):Calls Tryz.prog 200 #[.int .i64 k] w fun e w'=>e = .returned (.bool (tgB k))∧w=w':=by
 go_enter Tryz.func200,Tryz.ntmps200
 go_wp2
 all_goals
  go_ret
  refine ⟨ret_b ?_,rfl⟩
  unfold tgB
  grind
set_option maxHeartbeats 400000 in
set_option maxRecDepth 100000 in
theorem r33_level (k:Int) (w:World):Calls Tryz.prog 202 #[.int .i64 k] w fun e w'=>e = .returned (.bool (lvB k))∧w=w':=by
 go_enter Tryz.func202,Tryz.ntmps202
 go_wp2
 all_goals
  go_ret
  refine ⟨ret_b ?_,rfl⟩
  unfold lvB
  grind
set_option maxHeartbeats 400000 in
set_option maxRecDepth 100000 in
theorem r33_time (k:Int) (w:World):Calls Tryz.prog 204 #[.int .i64 k] w fun e w'=>e = .returned (.bool (tmB k))∧w=w':=by
 go_enter Tryz.func204,Tryz.ntmps204
 go_wp2
 all_goals
  go_ret
  refine ⟨ret_b ?_,rfl⟩
  unfold tmB
  grind
set_option maxHeartbeats 400000 in
set_option maxRecDepth 100000 in
theorem r33_levels (k v:Int) (w:World):Calls Tryz.prog 203 #[.int .i64 k,.int .i64 v] w fun e w'=>e = .returned (.int .i64 (levelsE k v))∧w=w':=by
 go_enter Tryz.func203,Tryz.ntmps203
 go_wp2
 all_goals
  go_ret
  refine ⟨ret_i ?_,rfl⟩
  grind [levelsE,inE]

set_option maxHeartbeats 1600000 in
set_option maxRecDepth 100000 in
theorem r33_Params (A:Option Addr) (cap:Nat) (l:List Param) (w:World) (hs:Sl w A 2 (l.map prm)) (hl:l.length≤maxLen):Calls Tryz.prog 206 #[.slice A l.length cap] w fun e w'=>e = .returned (.int .i64 (parsE l))∧Ext w w':=by
 unfold maxLen at hl
 by_cases h1:4096 < l.length
 ·have HV:=Lib.hid (show parsE l=5 by unfold parsE;rw [if_pos h1])
  clear hs
  go_enter Tryz.func206,Tryz.ntmps206
  go_wp2
  go_ret
  exact ⟨ret_i HV.out.symm,Ext.refl _⟩
 ·have HM:=Lib.hid (show parsE l=scan parE none l by unfold parsE;rw [if_neg h1])
  go_enter Tryz.func206,Tryz.ntmps206
  go_wp2
  go_loopw [3] (fun i wr=>∃ k:Nat,k≤l.length∧i = .int .i64 k∧Ext w wr∧Hid (parsE l=scan parE (prv l k) (l.drop k))) (fun i _=>l.length - (intOf i).toNat)
  case atStart=>exact ⟨0,by omega,rfl,Ext.refl _,HM⟩
  case round =>
   obtain ⟨k,hk,rfl,hx,HE⟩:=hrel
   obtain ⟨y,rfl⟩:=hx.get
   clear hx HM
   by_cases hlt:k < l.length
   ·obtain ⟨m,hm⟩:∃ m,l[k]? = some m:=⟨_,List.getElem?_eq_getElem hlt⟩
    obtain ⟨b,o,rfl,hc0,hc1⟩:=hs.row2 (i:=k) (by rw [List.getElem?_map,hm];rfl)
    have HS:=Lib.hid (HE.out.trans (scan_at parE l k m hm))
    have hb0:(0:Int)≤(k:Int):=by omega
    have hb1:(k:Int) < (l.length:Int):=by omega
    clear HE
    by_cases hp:paramE m=0
    ·have hz:(paramE m != 0)=false:=by simpa using hp
     have HP0:=Lib.hid hp
     clear hp
     by_cases hk0:0 < k
     ·obtain ⟨m',hm'⟩:∃ m',l[k - 1]? = some m':=⟨_,List.getElem?_eq_getElem (by omega)⟩
      obtain ⟨b',o',hA,hp0,hp1⟩:=hs.row2 (i:=k - 1) (by rw [List.getElem?_map,hm'];rfl)
      injection hA with hA
      injection hA with e1 e2
      subst e1 e2
      have HP:=Lib.hid (show prv l k=some m' by unfold prv;rw [if_neg (by omega),hm'])
      clear hm hm' hs
      go_wp2_with (go_at_call 231;refine (r15_Param m _).mono ?_;rintro e w' ⟨rfl,hx⟩;obtain ⟨y,rfl⟩:=hx.get;clear hx)
      (refine wp_region_grows (by kernel_rfl) (by kernel_rfl) ?_;(repeat (go_big_quiet_step ((go_at_call 233;exact Calls.grows (r15_Before m' m _)))));refine wpQuiet_nil ?_;rintro _ ⟨y,rfl⟩)
      cases hB:before m' m
      ·have HB:=Lib.hid hB
       clear hB
       go_wp2
       go_ret
       go_light
       refine ⟨ret_i ?_,ex⟩
       have hS:=HS.out
       have hB:=HB.out
       have h1:=HP0.out
       rw [HP.out] at hS
       grind [parE]
      ·have HB:=Lib.hid hB
       clear hB
       go_wp2
       go_light
       have hS:=HS.out
       have hB:=HB.out
       have h1:=HP0.out
       refine ⟨⟨k+1,by omega,by go_num,ex,Lib.hid ?_⟩,by simp [intOf];omega⟩
       rw [HP.out] at hS
       grind [parE]
     ·have HP:Hid (prv l k=none):=Lib.hid (by unfold prv;rw [if_pos (by omega)])
      obtain rfl:k=0:=by omega
      simp only [Nat.zero_mul,Nat.add_zero] at hc0 hc1
      clear hm hs hk0
      go_wp2_with (go_at_call 231;refine (r15_Param m _).mono ?_;rintro e w' ⟨rfl,hx⟩;obtain ⟨y,rfl⟩:=hx.get;clear hx)
      (refine wp_region_grows (by kernel_rfl) (by kernel_rfl) ?_;(repeat (go_big_quiet_step (fail)));refine wpQuiet_nil ?_;rintro _ ⟨y,rfl⟩)
      go_wp2
      go_light
      have hS:=HS.out
      have h1:=HP0.out
      refine ⟨⟨1,by omega,by rfl,ex,Lib.hid ?_⟩,by simp [intOf];omega⟩
      rw [HP.out] at hS
      grind [parE]
    ·have hz:(paramE m != 0)=true:=by simpa using hp
     have HV:=Lib.hid (show paramE m=parsE l by
      rw [HS.out]
      have h2:parE (prv l k) m=paramE m:=by unfold parE;rw [if_pos hp]
      rw [h2,if_pos hp])
     clear hp hm hs
     go_wp2_with (go_at_call 231;refine (r15_Param m _).mono ?_;rintro e w' ⟨rfl,hx⟩;obtain ⟨y,rfl⟩:=hx.get;clear hx)
     go_ret
     exact ⟨ret_i HV.out,ex⟩
   ·have HS:=Lib.hid (HE.out.trans (scan_end parE l k _ (by omega)))
    go_wp2
    go_ret
    exact ⟨ret_i HS.out.symm,ex⟩

set_option maxHeartbeats 1600000 in
set_option maxRecDepth 100000 in
theorem r33_Channels (A:Option Addr) (cap:Nat) (l:List Int) (w:World) (hs:Sl w A 1 (l.map intR)) (hl:l.length≤maxLen):Calls Tryz.prog 207 #[.slice A l.length cap] w fun e w'=>e = .returned (.int .i64 (chansE l))∧Ext w w':=by
 unfold maxLen at hl
 by_cases h0:l.length=0
 ·have hz:((l.length:Int) == 0)=true:=by simp [h0]
  have HV:=Lib.hid (show chansE l=12 by unfold chansE;rw [if_pos h0])
  clear h0 hs
  go_enter Tryz.func207,Tryz.ntmps207
  go_wp2
  go_ret
  exact ⟨ret_i HV.out.symm,Ext.refl _⟩
 ·have hz:((l.length:Int) == 0)=false:=by simp;intro h;exact h0 (by simp [h])
  by_cases h1:256 < l.length
  ·have HV:=Lib.hid (show chansE l=5 by unfold chansE;rw [if_neg h0,if_pos h1])
   clear h0 hs
   go_enter Tryz.func207,Tryz.ntmps207
   go_wp2
   go_ret
   exact ⟨ret_i HV.out.symm,Ext.refl _⟩
  ·have HM:=Lib.hid (show chansE l=chansS [] l by unfold chansE;rw [if_neg h0,if_neg h1])
   obtain ⟨b,o,rfl,-⟩:=hs.row1 (i:=0) (by rw [List.getElem?_map,List.getElem?_eq_getElem (by omega)];rfl)
   clear h0
   go_enter Tryz.func207,Tryz.ntmps207
   go_wp2
   go_loopw [3,4] (fun i _ wr=>∃ k:Nat,k≤l.length∧i = .int .i64 k∧Ext w wr∧Hid (chansE l=chansS (l.take k) (l.drop k))) (fun i _ _=>l.length - (intOf i).toNat)
   case atStart=>exact ⟨0,by omega,rfl,Ext.refl _,by simpa using HM⟩
   case round =>
    obtain ⟨k,hk,rfl,hx,HE⟩:=hrel
    obtain ⟨y,rfl⟩:=hx.get
    clear hx HM
    by_cases hlt:k < l.length
    ·obtain ⟨m,hm⟩:∃ m,l[k]? = some m:=⟨_,List.getElem?_eq_getElem hlt⟩
     obtain ⟨b',o',hA,hc0⟩:=hs.row1 (i:=k) (by rw [List.getElem?_map,hm];rfl)
     injection hA with hA
     injection hA with e1 e2
     subst e1 e2
     have HS:=Lib.hid (HE.out.trans (chansS_at l k m hm))
     have HSl:=Lib.hid hs
     have HM:=Lib.hid hm
     have hb0:(0:Int)≤(k:Int):=by omega
     have hb1:(k:Int) < (l.length:Int):=by omega
     clear HE hm hs
     rcases inE_two m 1 999 with hi | hi
     ·have hi1:1≤m:=by unfold inE at hi;split at hi <;> omega
      have hi2:m≤999:=by unfold inE at hi;split at hi <;> omega
      have HI:=Lib.hid hi
      clear hi
      go_wp2
      go_loopw [4] (fun i wr=>∃ j:Nat,j≤k∧i = .int .i64 j∧Ext w wr∧Hid (∀ x ∈ l.take j,x ≠ m)) (fun i _=>k - (intOf i).toNat)
      case atStart=>exact ⟨0,by omega,rfl,ex,Lib.hid (by simp)⟩
      case round =>
       obtain ⟨j,hj,rfl,hx,HN⟩:=hrel
       obtain ⟨y2,rfl⟩:=hx.get
       clear hx
       by_cases hjk:j < k
       ·obtain ⟨x,hx⟩:∃ x,l[j]? = some x:=⟨_,List.getElem?_eq_getElem (by omega)⟩
        obtain ⟨b',o',hA,hd0⟩:=HSl.out.row1 (i:=j) (by rw [List.getElem?_map,hx];rfl)
        injection hA with hA
        injection hA with e1 e2
        subst e1 e2
        have HX:=Lib.hid hx
        have hb2:(0:Int)≤(j:Int):=by omega
        have hb3:(j:Int) < (l.length:Int):=by omega
        clear hx
        by_cases he:x=m
        ·have hz2:(x == m)=true:=by simpa using he
         have HV:=Lib.hid (show chansE l=7 by
          rw [HS.out,if_neg (by simpa using HI.out),if_pos]
          rw [← he]
          exact List.mem_of_getElem? (i:=j) (by rw [List.getElem?_take,if_pos hjk];exact HX.out))
         clear he
         go_wp2
         (refine wp_region_grows (by kernel_rfl) (by kernel_rfl) ?_;(repeat (go_big_quiet_step (fail)));refine wpQuiet_nil ?_;rintro _ ⟨y,rfl⟩)
         go_wp2
         go_ret
         exact ⟨ret_i HV.out.symm,ex⟩
        ·have hz2:(x == m)=false:=by simpa using he
         have HK:=Lib.hid (show ∀ x ∈ l.take (j+1),x ≠ m by
          intro z hzz
          obtain ⟨g1,g2⟩:=List.getElem?_eq_some_iff.1 HX.out
          rw [List.take_succ_eq_append_getElem g1,g2] at hzz
          rcases List.mem_append.1 hzz with hzz | hzz
          ·exact HN.out z hzz
          ·simp at hzz;subst hzz;exact he)
         clear he
         go_wp2
         (refine wp_region_grows (by kernel_rfl) (by kernel_rfl) ?_;(repeat (go_big_quiet_step (fail)));refine wpQuiet_nil ?_;rintro _ ⟨y,rfl⟩)
         go_wp2
         go_light
         exact ⟨⟨j+1,by omega,by go_num,ex,HK⟩,by simp [intOf];omega⟩
       ·have HV:=Lib.hid (show chansE l=chansS (l.take (k+1)) (l.drop (k+1)) by
         obtain rfl:j=k:=by omega
         rw [HS.out,if_neg (by simpa using HI.out),if_neg (fun h=>HN.out m h rfl)])
        go_wp2
        go_light
        exact ⟨⟨k+1,by omega,by go_num,ex,HV⟩,by simp [intOf];omega⟩
     ·have HV:=Lib.hid (show chansE l=2 by rw [HS.out,if_pos (by rw [hi];decide)])
      rcases (by unfold inE at hi;split at hi <;> omega:m < 1 ∨ (1≤m∧999 < m)) with hi1 | ⟨hi1,hi2⟩
      ·clear hi
       go_wp2
       go_ret
       exact ⟨ret_i HV.out.symm,ex⟩
      ·clear hi
       go_wp2
       go_ret
       exact ⟨ret_i HV.out.symm,ex⟩
    ·have HS:=Lib.hid (show chansE l=0 by rw [HE.out,List.drop_eq_nil_of_le (by omega)];rfl)
     go_wp2
     go_ret
     exact ⟨ret_i HS.out.symm,ex⟩
end Go.Proofs.YtmhinhgflehkaaaGreat
namespace Go.Proofs.YtmhinhgflehkaaaGreat
open Go.RowKit
theorem inE_ne (n a b:Int):(inE n a b != 0)=decide (n < a ∨ b < n):=by unfold inE;split <;> simp [*]
set_option maxHeartbeats 3200000 in
set_option maxRecDepth 100000 in
theorem r33_numbers (a:Acn) (w:World) (ha:a.cue.size≤maxLen):Calls Tryz.prog 146 #[.agg (acnR a).toArray] w fun e w'=>e = .returned (.int .i64 (numsR a))∧Ext w w':=by
 have HA:=Lib.hid ha
 clear ha
 go_enter Tryz.func146,Tryz.ntmps146
 go_upto_region 1 with fail
 go_cut [17] (fun s wx=>s = .bool (n1B a)∧w.alloc (.cells (acnR a).toArray 87)=wx)
 case first =>
  go_wp2_with (go_at_call 200;refine (r33_target _ _).mono ?_;rintro e w' ⟨rfl,rfl⟩)
  all_goals
   go_meet
   refine ⟨?_,rfl⟩
   go_light
   as_aux_lemma =>
    congr 1
    unfold n1B
    rw [inE_ne]
    grind
 case rest =>
  obtain ⟨rfl,rfl⟩:=hcut
  cases ht:n1B a
  ·have HT:=Lib.hid ht
   clear ht
   by_cases hk:a.kind=1∧numE a.cue ≠ 0
   ·obtain ⟨k1,k2⟩:=hk
    have q1:(a.kind == 1)=true:=by simpa using k1
    have q2:(numE a.cue != 0)=true:=by simpa using k2
    have HV:=Lib.hid (show numsR a=numE a.cue by unfold numsR;rw [HT.out,if_neg (by decide),if_pos ⟨k1,k2⟩])
    clear k1 k2
    go_wp2_with (go_at_call 201;refine (r05_Check a.cue _ HA.out).mono ?_;rintro e w' ⟨rfl,hx⟩;obtain ⟨y,rfl⟩:=hx.get;clear hx)
    go_ret
    exact ⟨ret_i HV.out.symm,ex⟩
   ·have HK:=Lib.hid hk
    by_cases hl:lvB a.kind=true∧levelsE a.kind a.level ≠ 0
    ·obtain ⟨k1,k2⟩:=hl
     have q2:(levelsE a.kind a.level != 0)=true:=by simpa using k2
     have q1:(a.kind == 1)=false:=by unfold lvB at k1;simp at k1 ⊢;omega
     have HV:=Lib.hid (show numsR a=levelsE a.kind a.level by unfold numsR;rw [HT.out,if_neg (by decide),if_neg HK.out,if_pos ⟨k1,k2⟩])
     clear k2 hk
     go_wp2_with (first | (go_at_call 202;refine (r33_level _ _).mono ?_;rintro e w' ⟨rfl,rfl⟩) | (go_at_call 203;refine (r33_levels _ _ _).mono ?_;rintro e w' ⟨rfl,rfl⟩))
     go_ret
     exact ⟨ret_i HV.out.symm,ex⟩
    ·have HL:=Lib.hid hl
     have hV:numsR a=if n3B a=true then 2 else 0:=by unfold numsR;rw [HT.out,if_neg (by decide),if_neg HK.out,if_neg HL.out]
     have HV:=Lib.hid hV
     clear hV
     by_cases k1:a.kind=1
     ·have q1:(a.kind == 1)=true:=by simpa using k1
      have q2:(numE a.cue != 0)=false:=by
       have:=HK.out;simp only [k1,true_and,ne_eq,Decidable.not_not] at this;simpa using this
      have q3:lvB a.kind=false:=by rw [k1];rfl
      clear k1 hk hl
      go_wp2_with (first | (go_at_call 201;refine (r05_Check a.cue _ HA.out).mono ?_;rintro e w' ⟨rfl,hx⟩;obtain ⟨y,rfl⟩:=hx.get;clear hx) | (go_at_call 202;refine (r33_level _ _).mono ?_;rintro e w' ⟨rfl,rfl⟩) | (go_at_call 203;refine (r33_levels _ _ _).mono ?_;rintro e w' ⟨rfl,rfl⟩) | (go_at_call 204;refine (r33_time _ _).mono ?_;rintro e w' ⟨rfl,rfl⟩))
      all_goals
       go_ret
       refine ⟨ret_i ?_,ex⟩
       rw [HV.out]
       go_light
       as_aux_lemma =>
        unfold n3B
        rw [inE_ne]
        grind
     ·have q1:(a.kind == 1)=false:=by simpa using k1
      clear k1 hk
      cases hlv:lvB a.kind
      ·clear hl
       go_wp2_with (first | (go_at_call 201;refine (r05_Check a.cue _ HA.out).mono ?_;rintro e w' ⟨rfl,hx⟩;obtain ⟨y,rfl⟩:=hx.get;clear hx) | (go_at_call 202;refine (r33_level _ _).mono ?_;rintro e w' ⟨rfl,rfl⟩) | (go_at_call 203;refine (r33_levels _ _ _).mono ?_;rintro e w' ⟨rfl,rfl⟩) | (go_at_call 204;refine (r33_time _ _).mono ?_;rintro e w' ⟨rfl,rfl⟩))
       all_goals
        go_ret
        refine ⟨ret_i ?_,ex⟩
        rw [HV.out]
        go_light
        as_aux_lemma =>
         unfold n3B
         rw [inE_ne]
         grind
      ·have q2:(levelsE a.kind a.level != 0)=false:=by
        have:=HL.out;simp only [hlv,true_and,ne_eq,Decidable.not_not] at this;simpa using this
       clear hl
       go_wp2_with (first | (go_at_call 201;refine (r05_Check a.cue _ HA.out).mono ?_;rintro e w' ⟨rfl,hx⟩;obtain ⟨y,rfl⟩:=hx.get;clear hx) | (go_at_call 202;refine (r33_level _ _).mono ?_;rintro e w' ⟨rfl,rfl⟩) | (go_at_call 203;refine (r33_levels _ _ _).mono ?_;rintro e w' ⟨rfl,rfl⟩) | (go_at_call 204;refine (r33_time _ _).mono ?_;rintro e w' ⟨rfl,rfl⟩))
       all_goals
        go_ret
        refine ⟨ret_i ?_,ex⟩
        rw [HV.out]
        go_light
        as_aux_lemma =>
         unfold n3B
         rw [inE_ne]
         grind
  ·have HV:=Lib.hid (show numsR a=2 by unfold numsR;rw [ht,if_pos rfl])
   clear ht
   go_wp2
   go_ret
   exact ⟨ret_i HV.out.symm,ex⟩

set_option maxHeartbeats 3200000 in
set_option maxRecDepth 100000 in
theorem r33_lists (a:Acn) (w:World) (ha:AcnAt w a):Calls Tryz.prog 147 #[.agg (acnR a).toArray] w fun e w'=>e = .returned (.int .i64 (listsR a))∧Ext w w':=by
 have HA:=Lib.hid ha
 have HR:=Lib.hid (rangeAt_new w rfl (acnR a) 87)
 clear ha
 go_enter Tryz.func147,Tryz.ntmps147
 go_wp2_with (first
  | (refine wpList_load_row rfl 85 _ rfl w.heap.size 9 rfl (editR a.edit) _ (rangeAt_end HR.out rfl) Tryz.underlying85 rfl (by kernel_rfl) ?_)
  | (go_at_call 205;refine (r15_Entries a.entries.at_ a.entries.cap a.entries.l _ (HA.out.entries.sl.mono (ex)) HA.out.entries.len).mono ?_;rintro e w' ⟨rfl,hx⟩;obtain ⟨y,rfl⟩:=hx.get;clear hx)
  | (go_at_call 206;refine (r33_Params a.params.at_ a.params.cap a.params.l _ (HA.out.params.sl.mono (ex)) HA.out.params.len).mono ?_;rintro e w' ⟨rfl,hx⟩;obtain ⟨y,rfl⟩:=hx.get;clear hx)
  | (go_at_call 207;refine (r33_Channels a.chans.at_ a.chans.cap a.chans.l _ (HA.out.chans.sl.mono (ex)) HA.out.chans.len).mono ?_;rintro e w' ⟨rfl,hx⟩;obtain ⟨y,rfl⟩:=hx.get;clear hx)
  | (go_at_call 208;refine (r32_Check a.edit _ (HA.out.edit.mono (ex))).mono ?_;rintro e w' ⟨rfl,hx⟩;obtain ⟨y,rfl⟩:=hx.get;clear hx))
 all_goals
  go_ret
  refine ⟨ret_i ?_,ex⟩
  go_light
  unfold listsR setE
  grind
end Go.Proofs.YtmhinhgflehkaaaGreat
namespace Go.Proofs.YtmhinhgflehkaaaGreat
open Go.RowKit
section
variable {P:Program} {ops:Array Oper} {rest:List Oper} {o:Oper} {a:Act} {Q:Exit→Act→World→Prop} {W w0:World}
theorem wpList_built_want (hw:Region.wanted o (yielded ops a.tmps)=true) {w:World} (t:TypeId) (ps:List (Nat × Operand)) (ho:o.op = .build t ps.toArray) (vals:List (Nat × Value)) (hv:ps.map (fun p=>(p.1,a.eval p.2))=vals) (cells:Array Value) (hc:P.built t vals=some cells)
  (h:wpList P ops Q rest (a.put o.dst (.agg cells)) w):wpList P ops Q (o :: rest) a w:=by
 have hv':((ps.toArray).map fun (i,x)=>(i,a.eval x)).toList=vals:=by rw [← hv];simp
 exact BigFrame.wpList_want hw fun _ hK=>wp_build t ps.toArray ho (by rw [hv',hc];rfl) (by rw [hv',hc];exact hK _ _ h)
end
end Go.Proofs.YtmhinhgflehkaaaGreat
namespace Go.Proofs.YtmhinhgflehkaaaGreat
section
variable {P:Program} {ops:Array Oper} {Q:Exit→Act→World→Prop}
theorem wp_of_cut {R:Act→World→Prop} {o:Oper} {a:Act} {w:World} {K K':Act→World→Prop} (h:∀ a w,K a w→K' a w) (hh:o.wp P a w K (CutQ R)):o.wp P a w K' Q:=by
 unfold Oper.wp at *
 generalize (execOp a.eval o).run P w=r at *
 have hl : ¬ LetsOut (CutQ R):=by rintro ⟨_,_,h,_⟩;cases h
 cases r with
 | ok n w' =>
  cases n <;> simp only [Oper.upon] at hh ⊢
  case value=>exact h _ _ hh
  case skip=>exact h _ _ hh
  case defer=>exact h _ _ hh
  case enter =>
   refine hh.mono fun e w'' he => ?_
   cases e with
   | returned v=>exact h _ _ he
   | panicked c=>exact absurd he.1 (by simp)
   | outgrown=>exact absurd he hl
  case row=>exact hh.mono fun v w'' he=>h _ _ he
 | halt x w' =>
  cases x <;> simp only [Oper.upon] at hh ⊢
  exact absurd hh.1 (by simp)
theorem wpList_cut {R:Act→World→Prop} {l2:List Oper} (h2:∀ a w,R a w→wpList P ops Q l2 a w):∀ (l1:List Oper) (a:Act) (w:World),wpList P ops (CutQ R) l1 a w→wpList P ops Q (l1 ++ l2) a w
 | [],a,w,h=>h2 a w h.2
 | o :: l,a,w,h=>by
  rw [wpList] at h
  rw [List.cons_append,wpList]
  split
  ·rename_i hw
   rw [if_pos hw] at h
   rcases h with h | ⟨_,_,_,h,_⟩
   ·exact .inl (wp_of_cut (fun a w=>wpList_cut h2 l a w) h)
   ·cases h
  ·rename_i hw
   rw [if_neg hw] at h
   exact wpList_cut h2 l _ _ h
theorem wpList_cutAt {l:List Oper} {a:Act} {w:World} (n:Nat) (R:Act→World→Prop) (h1:wpList P ops (CutQ R) (l.take n) a w) (h2:∀ a w,R a w→wpList P ops Q (l.drop n) a w):wpList P ops Q l a w:=by
 have:=wpList_cut h2 (l.take n) a w h1
 rwa [List.take_append_drop] at this
end
end Go.Proofs.YtmhinhgflehkaaaGreat
namespace Go.Proofs.YtmhinhgflehkaaaGreat
open Go.RowKit
theorem i1B_eq (a:Acn):i1B a=(c33 a || (!tmB a.kind && decide (a.time ≠ 0))):=by
 unfold i1B c33 c22 c12
 rw [Bool.eq_iff_iff]
 simp only [decide_eq_true_eq,Bool.or_eq_true,Bool.and_eq_true,Bool.not_eq_true']
 grind
theorem i2B_eq (a:Acn):i2B a=(c64 a || (decide (a.kind ≠ 14) && !a.chans.l.isEmpty)):=by
 unfold i2B c64 c53
 rw [Bool.eq_iff_iff]
 simp only [decide_eq_true_eq,Bool.or_eq_true,Bool.and_eq_true,Bool.not_eq_true',List.isEmpty_eq_false_iff]
 grind
theorem open84 (s:Act) (h:s.tmps.size=84):∃ f:Nat→Value,(∀ i,i < 84→s.tmps[i]? = some (f i))∧s = { tmps:=#[f 0,f 1,f 2,f 3,f 4,f 5,f 6,f 7,f 8,f 9,f 10,f 11,f 12,f 13,f 14,f 15,f 16,f 17,f 18,f 19,f 20,f 21,f 22,f 23,f 24,f 25,f 26,f 27,f 28,f 29,f 30,f 31,f 32,f 33,f 34,f 35,f 36,f 37,f 38,f 39,f 40,f 41,f 42,f 43,f 44,f 45,f 46,f 47,f 48,f 49,f 50,f 51,f 52,f 53,f 54,f 55,f 56,f 57,f 58,f 59,f 60,f 61,f 62,f 63,f 64,f 65,f 66,f 67,f 68,f 69,f 70,f 71,f 72,f 73,f 74,f 75,f 76,f 77,f 78,f 79,f 80,f 81,f 82,f 83],defers:=s.defers }:=by
 refine ⟨fun i=>s.tmps.getD i undef,fun i hi => ?_,?_⟩
 ·rw [Array.getElem?_eq_getElem (by omega)]
  simp [Array.getD,h,hi]
 ·obtain ⟨t,d⟩:=s
  congr 1
  refine Array.ext h fun i h1 h2 => ?_
  have hi:i < 84:=by simpa using h2
  have hg:∀ j (hj:j < 84),t.getD j undef=t[j]'(by rw [show t.size=84 from h];exact hj):=fun j hj=>by
   simp [Array.getD,show t.size=84 from h,hj]
  have H:∀ j:Fin 84,t[(j:Nat)]'(by rw [show t.size=84 from h];exact j.isLt)=(#[t.getD 0 undef,t.getD 1 undef,t.getD 2 undef,t.getD 3 undef,t.getD 4 undef,t.getD 5 undef,t.getD 6 undef,t.getD 7 undef,t.getD 8 undef,t.getD 9 undef,t.getD 10 undef,t.getD 11 undef,t.getD 12 undef,t.getD 13 undef,t.getD 14 undef,t.getD 15 undef,t.getD 16 undef,t.getD 17 undef,t.getD 18 undef,t.getD 19 undef,t.getD 20 undef,t.getD 21 undef,t.getD 22 undef,t.getD 23 undef,t.getD 24 undef,t.getD 25 undef,t.getD 26 undef,t.getD 27 undef,t.getD 28 undef,t.getD 29 undef,t.getD 30 undef,t.getD 31 undef,t.getD 32 undef,t.getD 33 undef,t.getD 34 undef,t.getD 35 undef,t.getD 36 undef,t.getD 37 undef,t.getD 38 undef,t.getD 39 undef,t.getD 40 undef,t.getD 41 undef,t.getD 42 undef,t.getD 43 undef,t.getD 44 undef,t.getD 45 undef,t.getD 46 undef,t.getD 47 undef,t.getD 48 undef,t.getD 49 undef,t.getD 50 undef,t.getD 51 undef,t.getD 52 undef,t.getD 53 undef,t.getD 54 undef,t.getD 55 undef,t.getD 56 undef,t.getD 57 undef,t.getD 58 undef,t.getD 59 undef,t.getD 60 undef,t.getD 61 undef,t.getD 62 undef,t.getD 63 undef,t.getD 64 undef,t.getD 65 undef,t.getD 66 undef,t.getD 67 undef,t.getD 68 undef,t.getD 69 undef,t.getD 70 undef,t.getD 71 undef,t.getD 72 undef,t.getD 73 undef,t.getD 74 undef,t.getD 75 undef,t.getD 76 undef,t.getD 77 undef,t.getD 78 undef,t.getD 79 undef,t.getD 80 undef,t.getD 81 undef,t.getD 82 undef,t.getD 83 undef]:Array Value)[(j:Nat)]'(by simp):=by
   intro j
   rw [← hg j j.isLt]
   match j with
   | ⟨0,_⟩=>rfl
   | ⟨1,_⟩=>rfl
   | ⟨2,_⟩=>rfl
   | ⟨3,_⟩=>rfl
   | ⟨4,_⟩=>rfl
   | ⟨5,_⟩=>rfl
   | ⟨6,_⟩=>rfl
   | ⟨7,_⟩=>rfl
   | ⟨8,_⟩=>rfl
   | ⟨9,_⟩=>rfl
   | ⟨10,_⟩=>rfl
   | ⟨11,_⟩=>rfl
   | ⟨12,_⟩=>rfl
   | ⟨13,_⟩=>rfl
   | ⟨14,_⟩=>rfl
   | ⟨15,_⟩=>rfl
   | ⟨16,_⟩=>rfl
   | ⟨17,_⟩=>rfl
   | ⟨18,_⟩=>rfl
   | ⟨19,_⟩=>rfl
   | ⟨20,_⟩=>rfl
   | ⟨21,_⟩=>rfl
   | ⟨22,_⟩=>rfl
   | ⟨23,_⟩=>rfl
   | ⟨24,_⟩=>rfl
   | ⟨25,_⟩=>rfl
   | ⟨26,_⟩=>rfl
   | ⟨27,_⟩=>rfl
   | ⟨28,_⟩=>rfl
   | ⟨29,_⟩=>rfl
   | ⟨30,_⟩=>rfl
   | ⟨31,_⟩=>rfl
   | ⟨32,_⟩=>rfl
   | ⟨33,_⟩=>rfl
   | ⟨34,_⟩=>rfl
   | ⟨35,_⟩=>rfl
   | ⟨36,_⟩=>rfl
   | ⟨37,_⟩=>rfl
   | ⟨38,_⟩=>rfl
   | ⟨39,_⟩=>rfl
   | ⟨40,_⟩=>rfl
   | ⟨41,_⟩=>rfl
   | ⟨42,_⟩=>rfl
   | ⟨43,_⟩=>rfl
   | ⟨44,_⟩=>rfl
   | ⟨45,_⟩=>rfl
   | ⟨46,_⟩=>rfl
   | ⟨47,_⟩=>rfl
   | ⟨48,_⟩=>rfl
   | ⟨49,_⟩=>rfl
   | ⟨50,_⟩=>rfl
   | ⟨51,_⟩=>rfl
   | ⟨52,_⟩=>rfl
   | ⟨53,_⟩=>rfl
   | ⟨54,_⟩=>rfl
   | ⟨55,_⟩=>rfl
   | ⟨56,_⟩=>rfl
   | ⟨57,_⟩=>rfl
   | ⟨58,_⟩=>rfl
   | ⟨59,_⟩=>rfl
   | ⟨60,_⟩=>rfl
   | ⟨61,_⟩=>rfl
   | ⟨62,_⟩=>rfl
   | ⟨63,_⟩=>rfl
   | ⟨64,_⟩=>rfl
   | ⟨65,_⟩=>rfl
   | ⟨66,_⟩=>rfl
   | ⟨67,_⟩=>rfl
   | ⟨68,_⟩=>rfl
   | ⟨69,_⟩=>rfl
   | ⟨70,_⟩=>rfl
   | ⟨71,_⟩=>rfl
   | ⟨72,_⟩=>rfl
   | ⟨73,_⟩=>rfl
   | ⟨74,_⟩=>rfl
   | ⟨75,_⟩=>rfl
   | ⟨76,_⟩=>rfl
   | ⟨77,_⟩=>rfl
   | ⟨78,_⟩=>rfl
   | ⟨79,_⟩=>rfl
   | ⟨80,_⟩=>rfl
   | ⟨81,_⟩=>rfl
   | ⟨82,_⟩=>rfl
   | ⟨83,_⟩=>rfl
   | ⟨j+84,hj⟩=>exact absurd hj (by omega)
  exact H ⟨i,hi⟩
theorem dec2 (k c:Int):((k == c)=true∧(k != c)=false∧k=c) ∨ ((k == c)=false∧(k != c)=true ∧ ¬ k=c):=by
 by_cases h:k=c <;> simp [h]
theorem nil_or {α:Type} (l:List α):(l=[]∧l.isEmpty=true ∧ ¬ 0 < l.length) ∨ (¬ l=[]∧l.isEmpty=false∧0 < l.length):=by cases l <;> simp
set_option maxHeartbeats 12800000 in
set_option maxRecDepth 100000 in
theorem r33_idle (a:Acn) (w:World) (ha:AcnAt w a):Calls Tryz.prog 148 #[.agg (acnR a).toArray] w fun e w'=>e = .returned (.bool (idleR a))∧Ext w w':=by
 have HA:=Lib.hid ha
 have HR:=Lib.hid (rangeAt_new w rfl (acnR a) 87)
 clear ha
 go_enter Tryz.func148,Tryz.ntmps148
 go_upto_region 1 with fail
 go_cut [43] (fun s wx=>s = .bool (i1B a)∧w.alloc (.cells (acnR a).toArray 87)=wx)
 case first =>
  refine wp_region_strip (l':=?l2) ?hl2 ?_
  case hl2 =>
   simp only [List.map_cons,List.map_nil,stripO]
   rfl
  obtain ⟨R,hR⟩:∃ R:Act→World→Prop,R=(fun s wx=>w.alloc (.cells (acnR a).toArray 87)=wx∧s.defers=[]∧s.tmps.size=84∧s.tmps[0]? = some (.agg (acnR a).toArray)∧s.tmps[1]? = some (.pointer (some ⟨w.heap.size,0,none⟩))∧s.tmps[2]? = some (.bool false)∧s.tmps[12]? = some (.bool (c12 a))):=⟨_,rfl⟩
  have HQ12:=Lib.hid hR
  clear hR
  refine wpList_cutAt 10 R ?_ ?_
  ·simp only [List.take_succ_cons,List.take_zero]
   go_wp2_with (first | (go_at_call 200;refine (r33_target _ _).mono ?_;rintro e w' ⟨rfl,rfl⟩) | (go_at_call 202;refine (r33_level _ _).mono ?_;rintro e w' ⟨rfl,rfl⟩) | (go_at_call 204;refine (r33_time _ _).mono ?_;rintro e w' ⟨rfl,rfl⟩))
   all_goals
    refine ⟨rfl,?_⟩
    rw [HQ12.out]
    refine ⟨rfl,rfl,rfl,rfl,rfl,rfl,?_⟩
    simp only [List.getElem?_toArray,List.getElem?_cons_succ,List.getElem?_cons_zero];go_light;unfold c12;grind
  ·simp only [List.drop_succ_cons,List.drop_zero]
   rw [HQ12.out]
   rintro s _ ⟨rfl,hd,hz,q0,q1,q2,q12⟩
   obtain ⟨f,hf,hs⟩:=open84 s hz
   have e0:=Option.some.inj ((hf 0 (by omega)).symm.trans q0)
   have e1:=Option.some.inj ((hf 1 (by omega)).symm.trans q1)
   have e2:=Option.some.inj ((hf 2 (by omega)).symm.trans q2)
   have e12:=Option.some.inj ((hf 12 (by omega)).symm.trans q12)
   rw [hd,e0,e1,e2,e12] at hs
   clear hf hz hd q0 q1 q2 q12 e0 e1 e2 e12
   subst hs
   obtain ⟨R,hR⟩:∃ R:Act→World→Prop,R=(fun s wx=>w.alloc (.cells (acnR a).toArray 87)=wx∧s.defers=[]∧s.tmps.size=84∧s.tmps[0]? = some (.agg (acnR a).toArray)∧s.tmps[1]? = some (.pointer (some ⟨w.heap.size,0,none⟩))∧s.tmps[2]? = some (.bool false)∧s.tmps[22]? = some (.bool (c22 a))):=⟨_,rfl⟩
   have HQ22:=Lib.hid hR
   clear hR
   refine wpList_cutAt 10 R ?_ ?_
   ·simp only [List.take_succ_cons,List.take_zero]
    cases hb:c12 a
    all_goals
     go_wp2_with (first | (go_at_call 200;refine (r33_target _ _).mono ?_;rintro e w' ⟨rfl,rfl⟩) | (go_at_call 202;refine (r33_level _ _).mono ?_;rintro e w' ⟨rfl,rfl⟩) | (go_at_call 204;refine (r33_time _ _).mono ?_;rintro e w' ⟨rfl,rfl⟩))
     all_goals
      refine ⟨rfl,?_⟩
      rw [HQ22.out]
      refine ⟨rfl,rfl,rfl,rfl,rfl,rfl,?_⟩
      simp only [List.getElem?_toArray,List.getElem?_cons_succ,List.getElem?_cons_zero];go_light;unfold c22;grind
   ·simp only [List.drop_succ_cons,List.drop_zero]
    rw [HQ22.out]
    rintro s _ ⟨rfl,hd,hz,q0,q1,q2,q22⟩
    obtain ⟨f,hf,hs⟩:=open84 s hz
    have e0:=Option.some.inj ((hf 0 (by omega)).symm.trans q0)
    have e1:=Option.some.inj ((hf 1 (by omega)).symm.trans q1)
    have e2:=Option.some.inj ((hf 2 (by omega)).symm.trans q2)
    have e22:=Option.some.inj ((hf 22 (by omega)).symm.trans q22)
    rw [hd,e0,e1,e2,e22] at hs
    clear hf hz hd q0 q1 q2 q22 e0 e1 e2 e22
    subst hs
    obtain ⟨R,hR⟩:∃ R:Act→World→Prop,R=(fun s wx=>w.alloc (.cells (acnR a).toArray 87)=wx∧s.defers=[]∧s.tmps.size=84∧s.tmps[0]? = some (.agg (acnR a).toArray)∧s.tmps[1]? = some (.pointer (some ⟨w.heap.size,0,none⟩))∧s.tmps[2]? = some (.bool false)∧s.tmps[33]? = some (.bool (c33 a))):=⟨_,rfl⟩
    have HQ33:=Lib.hid hR
    clear hR
    refine wpList_cutAt 11 R ?_ ?_
    ·simp only [List.take_succ_cons,List.take_zero]
     cases hb:c22 a
     all_goals
      go_wp2_with (first | (go_at_call 200;refine (r33_target _ _).mono ?_;rintro e w' ⟨rfl,rfl⟩) | (go_at_call 202;refine (r33_level _ _).mono ?_;rintro e w' ⟨rfl,rfl⟩) | (go_at_call 204;refine (r33_time _ _).mono ?_;rintro e w' ⟨rfl,rfl⟩))
      all_goals
       refine ⟨rfl,?_⟩
       rw [HQ33.out]
       refine ⟨rfl,rfl,rfl,rfl,rfl,rfl,?_⟩
       simp only [List.getElem?_toArray,List.getElem?_cons_succ,List.getElem?_cons_zero];go_light;unfold c33;grind
    ·simp only [List.drop_succ_cons,List.drop_zero]
     rw [HQ33.out]
     rintro s _ ⟨rfl,hd,hz,q0,q1,q2,q33⟩
     obtain ⟨f,hf,hs⟩:=open84 s hz
     have e0:=Option.some.inj ((hf 0 (by omega)).symm.trans q0)
     have e1:=Option.some.inj ((hf 1 (by omega)).symm.trans q1)
     have e2:=Option.some.inj ((hf 2 (by omega)).symm.trans q2)
     have e33:=Option.some.inj ((hf 33 (by omega)).symm.trans q33)
     rw [hd,e0,e1,e2,e33] at hs
     clear hf hz hd q0 q1 q2 q33 e0 e1 e2 e33
     subst hs
     have HI:=Lib.hid (i1B_eq a)
     cases hb:c33 a
     all_goals
      go_wp2_with (first | (go_at_call 200;refine (r33_target _ _).mono ?_;rintro e w' ⟨rfl,rfl⟩) | (go_at_call 202;refine (r33_level _ _).mono ?_;rintro e w' ⟨rfl,rfl⟩) | (go_at_call 204;refine (r33_time _ _).mono ?_;rintro e w' ⟨rfl,rfl⟩))
      all_goals
       go_meet
       refine ⟨?_,rfl⟩
       rw [HI.out,hb]
       go_light
       grind
 case rest =>
  obtain ⟨rfl,rfl⟩:=hcut
  cases ht:i1B a
  ·have HT:=Lib.hid ht
   clear ht
   go_upto_region 3 with fail
   go_cut [74] (fun s wx=>s = .bool (i2B a)∧w.alloc (.cells (acnR a).toArray 87)=wx)
   case first =>
    refine wp_region_strip (l':=?l3) ?hl3 ?_
    case hl3 =>
     simp only [List.map_cons,List.map_nil,stripO]
     rfl
    obtain ⟨R,hR⟩:∃ R:Act→World→Prop,R=(fun s wx=>w.alloc (.cells (acnR a).toArray 87)=wx∧s.defers=[]∧s.tmps.size=84∧s.tmps[0]? = some (.agg (acnR a).toArray)∧s.tmps[1]? = some (.pointer (some ⟨w.heap.size,0,none⟩))∧s.tmps[2]? = some (.bool false)∧s.tmps[43]? = some (.bool false)∧s.tmps[53]? = some (.bool (c53 a))):=⟨_,rfl⟩
    have HQ53:=Lib.hid hR
    clear hR
    refine wpList_cutAt 10 R ?_ ?_
    ·simp only [List.take_succ_cons,List.take_zero]
     rcases nil_or a.entries.l with ⟨e1,e2,e3⟩ | ⟨e1,e2,e3⟩ <;> rcases dec2 a.kind 12 with ⟨k1,k2,k3⟩ | ⟨k1,k2,k3⟩
     all_goals
      have K3:=Lib.hid k3;have E2:=Lib.hid e2;clear k1 k3 e1 e2
      go_wp2_with fail
      all_goals
       refine ⟨rfl,?_⟩
       rw [HQ53.out]
       refine ⟨rfl,rfl,rfl,rfl,rfl,rfl,rfl,?_⟩
       simp [c53,K3.out,E2.out]
    ·simp only [List.drop_succ_cons,List.drop_zero]
     rw [HQ53.out]
     rintro s _ ⟨rfl,hd,hz,q0,q1,q2,q43,q53⟩
     obtain ⟨f,hf,hs⟩:=open84 s hz
     have e0:=Option.some.inj ((hf 0 (by omega)).symm.trans q0)
     have e1:=Option.some.inj ((hf 1 (by omega)).symm.trans q1)
     have e2:=Option.some.inj ((hf 2 (by omega)).symm.trans q2)
     have e43:=Option.some.inj ((hf 43 (by omega)).symm.trans q43)
     have e53:=Option.some.inj ((hf 53 (by omega)).symm.trans q53)
     rw [hd,e0,e1,e2,e43,e53] at hs
     clear hf hz hd q0 q1 q2 q43 q53 e0 e1 e2 e43 e53
     subst hs
     obtain ⟨R,hR⟩:∃ R:Act→World→Prop,R=(fun s wx=>w.alloc (.cells (acnR a).toArray 87)=wx∧s.defers=[]∧s.tmps.size=84∧s.tmps[0]? = some (.agg (acnR a).toArray)∧s.tmps[1]? = some (.pointer (some ⟨w.heap.size,0,none⟩))∧s.tmps[2]? = some (.bool false)∧s.tmps[43]? = some (.bool false)∧s.tmps[64]? = some (.bool (c64 a))):=⟨_,rfl⟩
     have HQ64:=Lib.hid hR
     clear hR
     refine wpList_cutAt 11 R ?_ ?_
     ·simp only [List.take_succ_cons,List.take_zero]
      cases hb:c53 a
      ·rcases nil_or a.params.l with ⟨e1,e2,e3⟩ | ⟨e1,e2,e3⟩ <;> rcases dec2 a.kind 13 with ⟨k1,k2,k3⟩ | ⟨k1,k2,k3⟩
       all_goals
        have K3:=Lib.hid k3;have E2:=Lib.hid e2;clear k1 k3 e1 e2
        go_wp2_with fail
        all_goals
         refine ⟨rfl,?_⟩
         rw [HQ64.out]
         refine ⟨rfl,rfl,rfl,rfl,rfl,rfl,rfl,?_⟩
         simp [c64,hb,K3.out,E2.out]
      ·go_wp2_with fail
       all_goals
        refine ⟨rfl,?_⟩
        rw [HQ64.out]
        refine ⟨rfl,rfl,rfl,rfl,rfl,rfl,rfl,?_⟩
        simp [c64,hb]
     ·simp only [List.drop_succ_cons,List.drop_zero]
      rw [HQ64.out]
      rintro s _ ⟨rfl,hd,hz,q0,q1,q2,q43,q64⟩
      obtain ⟨f,hf,hs⟩:=open84 s hz
      have e0:=Option.some.inj ((hf 0 (by omega)).symm.trans q0)
      have e1:=Option.some.inj ((hf 1 (by omega)).symm.trans q1)
      have e2:=Option.some.inj ((hf 2 (by omega)).symm.trans q2)
      have e43:=Option.some.inj ((hf 43 (by omega)).symm.trans q43)
      have e64:=Option.some.inj ((hf 64 (by omega)).symm.trans q64)
      rw [hd,e0,e1,e2,e43,e64] at hs
      clear hf hz hd q0 q1 q2 q43 q64 e0 e1 e2 e43 e64
      subst hs
      have HI:=Lib.hid (i2B_eq a)
      cases hb:c64 a
      ·rcases nil_or a.chans.l with ⟨e1,e2,e3⟩ | ⟨e1,e2,e3⟩ <;> rcases dec2 a.kind 14 with ⟨k1,k2,k3⟩ | ⟨k1,k2,k3⟩
       all_goals
        have K3:=Lib.hid k3;have E2:=Lib.hid e2;clear k1 k3 e1 e2
        go_wp2_with fail
        all_goals
         go_meet
         refine ⟨?_,rfl⟩
         rw [HI.out,hb]
         simp [K3.out,E2.out]
      ·go_wp2_with fail
       all_goals
        go_meet
        refine ⟨?_,rfl⟩
        rw [HI.out,hb]
        simp
   case rest =>
    obtain ⟨rfl,rfl⟩:=hcut
    cases ht2:i2B a
    ·have HV:=Lib.hid (show idleR a=(decide (a.kind=17) || sameE a.edit noEdit) by unfold idleR;rw [HT.out,ht2];rfl)
     clear ht2
     rcases dec2 a.kind 17 with ⟨k1,k2,k3⟩ | ⟨k1,k2,k3⟩
     all_goals
      have K3:=Lib.hid k3
      clear k2 k3
      go_wp2_with (first
       | (refine wpList_load_row rfl 85 _ rfl w.heap.size 9 rfl (editR a.edit) _ (rangeAt_end HR.out rfl) Tryz.underlying85 rfl (by kernel_rfl) ?_)
       | (refine wpList_built_want rfl 85 [] rfl [] rfl (editR noEdit).toArray (by kernel_rfl) ?_)
       | (go_at_call 119;refine (r32_SameEdit a.edit noEdit _ (HA.out.edit.mono (ex)) (noEdit_at _)).mono ?_;rintro e w' ⟨rfl,hx⟩;obtain ⟨y,rfl⟩:=hx.get;clear hx))
      go_ret
      refine ⟨ret_b ?_,ex⟩
      rw [HV.out]
      simp [K3.out]
    ·have HV:=Lib.hid (show false=idleR a by unfold idleR;rw [ht2];simp)
     clear ht2
     go_wp2
     go_ret
     exact ⟨ret_b HV.out,ex⟩
  ·have HV:=Lib.hid (show false=idleR a by unfold idleR;rw [ht];simp)
   clear ht
   go_wp2
   go_ret
   exact ⟨ret_b HV.out,ex⟩
end Go.Proofs.YtmhinhgflehkaaaGreat
namespace Go.Proofs.YtmhinhgflehkaaaGreat
open Go.RowKit
set_option maxHeartbeats 3200000 in
set_option maxRecDepth 100000 in
theorem r33_Check0 (a:Acn) (w:World) (ha:AcnAt w a):Calls Tryz.prog 113 #[.agg (acnR a).toArray] w fun e w'=>e = .returned (.int .i64 (r33E a))∧Ext w w':=by
 have HA:=Lib.hid ha
 have HR:=Lib.hid (rangeAt_new w rfl (acnR a) 87)
 clear ha
 go_enter Tryz.func113,Tryz.ntmps113
 go_wp2_with (first
  | (refine wpList_load_row rfl 87 _ rfl w.heap.size 0 rfl (acnR a) _ (rangeAt_mono HR.out (ex)) Tryz.underlying87 rfl (by kernel_rfl) ?_)
  | (go_at_call 146;refine (r33_numbers a _ HA.out.cue).mono ?_;rintro e w' ⟨rfl,hx⟩;obtain ⟨y,rfl⟩:=hx.get;clear hx)
  | (go_at_call 147;refine (r33_lists a _ (HA.out.mono (ex))).mono ?_;rintro e w' ⟨rfl,hx⟩;obtain ⟨y,rfl⟩:=hx.get;clear hx)
  | (go_at_call 148;refine (r33_idle a _ (HA.out.mono (ex))).mono ?_;rintro e w' ⟨rfl,hx⟩;obtain ⟨y,rfl⟩:=hx.get;clear hx))
 all_goals
  go_ret
  refine ⟨ret_i ?_,ex⟩
  go_light
  unfold r33E inE
  grind
end Go.Proofs.YtmhinhgflehkaaaGreat
namespace Go.Proofs.YtmhinhgflehkaaaGreat
open Go.RowKit

theorem useT {k:Int} (h0:0≤k) (h1:k < 20):useB k 0=tgB k∧useB k 1=decide (k=1)∧useB k 2=lvB k∧useB k 3=tmB k∧useB k 4=decide (k=12)∧useB k 5=decide (k=13)∧useB k 6=decide (k=14)∧useB k 7=decide (k=17):=by
 rcases (by omega:k=0 ∨ k=1 ∨ k=2 ∨ k=3 ∨ k=4 ∨ k=5 ∨ k=6 ∨ k=7 ∨ k=8 ∨ k=9 ∨ k=10 ∨ k=11 ∨ k=12 ∨ k=13 ∨ k=14 ∨ k=15 ∨ k=16 ∨ k=17 ∨ k=18 ∨ k=19) with rfl | rfl | rfl | rfl | rfl | rfl | rfl | rfl | rfl | rfl | rfl | rfl | rfl | rfl | rfl | rfl | rfl | rfl | rfl | rfl
 all_goals exact ⟨by kernel_rfl,by kernel_rfl,by kernel_rfl,by kernel_rfl,by kernel_rfl,by kernel_rfl,by kernel_rfl,by kernel_rfl⟩
theorem chkS_step (u:Nat→Bool) (e:Nat→Int) (z:Nat→Bool) (n i:Nat) (b:Bool):chkS u e z (n+1) i b=if u i=true∧e i ≠ 0 then e i else chkS u e z n (i+1) (b && (u i || z i)):=by
 rw [chkS]
 cases hu:u i
 ·simp
 ·by_cases he:e i=0 <;> simp [he]
theorem if_first {c:Prop} [Decidable c] {x y z:Int} (h:c→x ≠ 0):(if (if c then x else y) ≠ 0 then (if c then x else y) else z)=if c then x else if y ≠ 0 then y else z:=by
 by_cases hc:c
 ·simp [hc,h hc]
 ·simp [hc]
theorem numsR_eq (a:Acn):numsR a=if tgB a.kind=true∧inE a.target 1 1048576 ≠ 0 then inE a.target 1 1048576 else if a.kind=1∧numE a.cue ≠ 0 then numE a.cue else if lvB a.kind=true∧levelsE a.kind a.level ≠ 0 then levelsE a.kind a.level else if tmB a.kind=true∧inE a.time 0 10000000 ≠ 0 then inE a.time 0 10000000 else 0:=by
 have h1:(n1B a=true)=(tgB a.kind=true∧inE a.target 1 1048576 ≠ 0):=by simp [n1B]
 have h2:(n3B a=true)=(tmB a.kind=true∧inE a.time 0 10000000 ≠ 0):=by simp [n3B]
 unfold numsR
 simp only [h1,h2]
 have e1:=inE_two a.target 1 1048576
 have e2:=inE_two a.time 0 10000000
 split
 ·omega
 ·split
  ·rfl
  ·split
   ·rfl
   ·split
    ·omega
    ·rfl
theorem listsR_eq (a:Acn):listsR a=if a.kind=12∧setE a.entries.l ≠ 0 then setE a.entries.l else if a.kind=13∧parsE a.params.l ≠ 0 then parsE a.params.l else if a.kind=14∧chansE a.chans.l ≠ 0 then chansE a.chans.l else if a.kind=17∧editE a.edit ≠ 0 then editE a.edit else 0:=by
 unfold listsR
 by_cases h1:a.kind=12
 ·rw [h1];by_cases e:setE a.entries.l=0 <;> simp [e]
 ·by_cases h2:a.kind=13
  ·rw [h2];by_cases e:parsE a.params.l=0 <;> simp [e]
  ·by_cases h3:a.kind=14
   ·rw [h3];by_cases e:chansE a.chans.l=0 <;> simp [e]
   ·by_cases h4:a.kind=17
    ·rw [h4];by_cases e:editE a.edit=0 <;> simp [e]
    ·simp [h1,h2,h3,h4]
theorem if_and0 {c:Prop} [Decidable c] {y z:Int} (h:c→y ≠ 0):(if (if c then y else 0) ≠ 0 then (if c then y else 0) else z)=if c then y else z:=by
 by_cases hc:c
 ·simp [hc,h hc]
 ·simp [hc]
theorem idle_z (a:Acn):idleR a=(((((((((true && (tgB a.kind || (a.target == 0))) && (decide (a.kind=1) || a.cue.toList.isEmpty)) && (lvB a.kind || (a.level == 0))) && (tmB a.kind || (a.time == 0))) && (decide (a.kind=12) || ((a.entries.l.length:Int) == 0))) && (decide (a.kind=13) || ((a.params.l.length:Int) == 0))) && (decide (a.kind=14) || ((a.chans.l.length:Int) == 0))) && (decide (a.kind=17) || sameE a.edit noEdit))):=by
 have hz:∀ {α:Type} (l:List α),((l.length:Int) == 0)=decide (l=[]):=fun l=>by cases l <;> simp;omega
 have hi:∀ n:Int,(n == 0)=decide (n=0):=fun n=>by rw [Bool.eq_iff_iff];simp
 rw [Bool.eq_iff_iff]
 unfold idleR i1B i2B
 simp only [hz,hi,Bool.and_eq_true,Bool.or_eq_true,Bool.not_eq_true',decide_eq_true_eq,decide_eq_false_iff_not,Bool.true_and,not_or,not_and,Decidable.not_not,Bool.not_eq_false]
 have c1:∀ b:Bool,(b=false→a.target=0) ↔ (b=true ∨ a.target=0):=fun b=>by cases b <;> simp
 have c2:∀ b:Bool,(b=false→a.level=0) ↔ (b=true ∨ a.level=0):=fun b=>by cases b <;> simp
 have c3:∀ b:Bool,(b=false→a.time=0) ↔ (b=true ∨ a.time=0):=fun b=>by cases b <;> simp
 rw [c1,c2,c3]
 have d1:(¬ a.kind=1→a.cue.toList.isEmpty=true) ↔ (a.kind=1 ∨ a.cue.toList.isEmpty=true):=Decidable.or_iff_not_imp_left.symm
 have d2:(¬ a.kind=12→a.entries.l=[]) ↔ (a.kind=12 ∨ a.entries.l=[]):=Decidable.or_iff_not_imp_left.symm
 have d3:(¬ a.kind=13→a.params.l=[]) ↔ (a.kind=13 ∨ a.params.l=[]):=Decidable.or_iff_not_imp_left.symm
 have d4:(¬ a.kind=14→a.chans.l=[]) ↔ (a.kind=14 ∨ a.chans.l=[]):=Decidable.or_iff_not_imp_left.symm
 simp only [ne_eq,d1,d2,d3,d4,and_assoc]
theorem r33E_acn (a:Acn):r33E a=acnE a:=by
 unfold r33E acnE
 by_cases hk:a.kind < 0 ∨ 20≤a.kind
 ·rw [if_pos (by omega),if_pos hk]
 ·rw [if_neg (by omega),if_neg hk]
  by_cases ha:inE a.at_ 0 10000000 ≠ 0
  ·rw [if_pos ha,if_pos ha]
  ·rw [if_neg ha,if_neg ha]
   obtain ⟨u0,u1,u2,u3,u4,u5,u6,u7⟩:=useT (k:=a.kind) (by omega) (by omega)
   rw [chkS_step,chkS_step,chkS_step,chkS_step,chkS_step,chkS_step,chkS_step,chkS_step]
   simp only [u0,u1,u2,u3,u4,u5,u6,u7,fieldE,fieldZ,List.getD_cons_zero,List.getD_cons_succ,decide_eq_true_eq]
   rw [numsR_eq,listsR_eq,if_first (fun h=>h.2),if_first (fun h=>h.2),if_first (fun h=>h.2),if_and0 (fun h=>h.2),if_first (fun h=>h.2),if_first (fun h=>h.2),if_first (fun h=>h.2),if_and0 (fun h=>h.2),← idle_z]
   rfl
end Go.Proofs.YtmhinhgflehkaaaGreat
namespace Go.Proofs.YtmhinhgflehkaaaGreat
open Go.RowKit

theorem r33_Check (a:Acn) (w:World) (ha:AcnAt w a):Calls Tryz.prog 113 #[.agg (acnR a).toArray] w fun e w'=>e = .returned (.int .i64 (acnE a))∧Ext w w':=by
 rw [← r33E_acn]
 exact r33_Check0 a w ha
end Go.Proofs.YtmhinhgflehkaaaGreat
namespace Go.Proofs.YtmhinhgflehkaaaGreat
open Go.RowKit
set_option maxHeartbeats 800000 in
set_option maxRecDepth 100000 in
theorem r15_Few1 (b n c:Nat) (A:Option Addr) (w:World) (h:w.cell? ⟨b,1,none⟩=some (.slice A n c)):Calls Tryz.prog 173 #[.slice (some ⟨b,0,none⟩) 1 1] w fun e w'=>e = .returned (.bool (decide (n≤512)))∧Ext w w':=by
 go_enter Tryz.func173,Tryz.ntmps173
 go_wp2
 go_loopw [3] (fun q wr=>∃ k:Nat,k≤1∧q = .int .i64 k∧Ext w wr∧Hid (k=1→n≤512)) (fun q _=>1 - (intOf q).toNat)
 case atStart=>exact ⟨0,by omega,rfl,Ext.refl _,Lib.hid (by omega)⟩
 case round =>
  obtain ⟨k,hk,rfl,hx,HE⟩:=hrel
  obtain ⟨y,rfl⟩:=hx.get
  clear hx
  match k,hk with
  | 0,_ =>
   by_cases hn:512 < n
   ·go_wp2
    go_ret
    exact ⟨ret_b (decide_eq_false (by omega)).symm,ex⟩
   ·go_wp2
    go_light
    exact ⟨⟨1,by omega,by rfl,ex,Lib.hid fun _=>by omega⟩,by simp [intOf]⟩
  | 1,_ =>
   have HV:=Lib.hid (HE.out rfl)
   go_wp2
   go_ret
   exact ⟨ret_b (by have h:=HV.out;symm;simpa using h),ex⟩
  | k+2,hk=>exact absurd hk (by omega)
set_option maxHeartbeats 800000 in
set_option maxRecDepth 100000 in
theorem r14_Few1 (b n c:Nat) (A:Option Addr) (w:World) (h:w.cell? ⟨b,1,none⟩=some (.slice A n c)):Calls Tryz.prog 174 #[.slice (some ⟨b,0,none⟩) 1 1] w fun e w'=>e = .returned (.bool (decide (n≤40 ∨ 256 < n)))∧Ext w w':=by
 go_enter Tryz.func174,Tryz.ntmps174
 go_wp2
 go_loopw [3] (fun q wr=>∃ k:Nat,k≤1∧q = .int .i64 k∧Ext w wr∧Hid (k=1→n≤40 ∨ 256 < n)) (fun q _=>1 - (intOf q).toNat)
 case atStart=>exact ⟨0,by omega,rfl,Ext.refl _,Lib.hid (by omega)⟩
 case round =>
  obtain ⟨k,hk,rfl,hx,HE⟩:=hrel
  obtain ⟨y,rfl⟩:=hx.get
  clear hx
  match k,hk with
  | 0,_ =>
   by_cases h1:40 < n
   ·by_cases h2:n≤256
    ·go_wp2
     go_ret
     exact ⟨ret_b (decide_eq_false (by omega)).symm,ex⟩
    ·go_wp2
     go_light
     exact ⟨⟨1,by omega,by rfl,ex,Lib.hid fun _=>by omega⟩,by simp [intOf]⟩
   ·go_wp2
    go_light
    exact ⟨⟨1,by omega,by rfl,ex,Lib.hid fun _=>by omega⟩,by simp [intOf]⟩
  | 1,_ =>
   have HV:=Lib.hid (HE.out rfl)
   go_wp2
   go_ret
   exact ⟨ret_b (by have h:=HV.out;symm;simpa using h),ex⟩
  | k+2,hk=>exact absurd hk (by omega)
set_option maxHeartbeats 800000 in
set_option maxRecDepth 100000 in
theorem r26_Few1 (b n c:Nat) (A:Option Addr) (w:World) (h:w.cell? ⟨b,3,none⟩=some (.slice A n c)):Calls Tryz.prog 175 #[.slice (some ⟨b,0,none⟩) 1 1] w fun e w'=>e = .returned (.bool (decide (n≤30 ∨ 128 < n)))∧Ext w w':=by
 go_enter Tryz.func175,Tryz.ntmps175
 go_wp2
 go_loopw [3] (fun q wr=>∃ k:Nat,k≤1∧q = .int .i64 k∧Ext w wr∧Hid (k=1→n≤30 ∨ 128 < n)) (fun q _=>1 - (intOf q).toNat)
 case atStart=>exact ⟨0,by omega,rfl,Ext.refl _,Lib.hid (by omega)⟩
 case round =>
  obtain ⟨k,hk,rfl,hx,HE⟩:=hrel
  obtain ⟨y,rfl⟩:=hx.get
  clear hx
  match k,hk with
  | 0,_ =>
   by_cases h1:30 < n
   ·by_cases h2:n≤128
    ·go_wp2
     go_ret
     exact ⟨ret_b (decide_eq_false (by omega)).symm,ex⟩
    ·go_wp2
     go_light
     exact ⟨⟨1,by omega,by rfl,ex,Lib.hid fun _=>by omega⟩,by simp [intOf]⟩
   ·go_wp2
    go_light
    exact ⟨⟨1,by omega,by rfl,ex,Lib.hid fun _=>by omega⟩,by simp [intOf]⟩
  | 1,_ =>
   have HV:=Lib.hid (HE.out rfl)
   go_wp2
   go_ret
   exact ⟨ret_b (by have h:=HV.out;symm;simpa using h),ex⟩
  | k+2,hk=>exact absurd hk (by omega)
set_option maxHeartbeats 800000 in
set_option maxRecDepth 100000 in
theorem r28_Few1 (b:Nat) (w:World):Calls Tryz.prog 176 #[.slice (some ⟨b,0,none⟩) 1 1,.slice none 0 0] w fun e w'=>e = .returned (.bool true)∧Ext w w':=by
 go_enter Tryz.func176,Tryz.ntmps176
 go_wp2
 refine wp_loop_rounds 1 ?_
 rw [rounds_succ]
 go_wp2
 go_ret
 exact ⟨rfl,ex⟩
set_option maxHeartbeats 400000 in
set_option maxRecDepth 100000 in
theorem r15_FewEnts (A:Option Addr) (n c:Nat) (w:World):Calls Tryz.prog 136 #[.slice A n c] w fun e w'=>e = .returned (.bool (decide (n≤200 ∨ 4096 < n)))∧w=w':=by
 go_enter Tryz.func136,Tryz.ntmps136
 go_wp2
 all_goals
  go_ret
  refine ⟨ret_b ?_,rfl⟩
  go_light
  grind
set_option maxHeartbeats 3200000 in
set_option maxRecDepth 100000 in
theorem r32_FewEdit (e:Edit) (w:World):Calls Tryz.prog 137 #[.agg (editR e).toArray] w (SomeB w):=by
 go_enter Tryz.func137,Tryz.ntmps137
 go_upto_region 1 with fail
 refine wp_region_strip (l':=?l2) ?hl ?_
 case hl =>
  simp only [List.map_cons,List.map_nil,stripO]
  rfl
 go_wp2_with (first
  | (go_at_call 172;refine (r16_Few e.cue e.cA e.ck e.cB e.cm _).mono ?_;rintro e w' ⟨rfl,hx⟩;obtain ⟨y,rfl⟩:=hx.get;clear hx)
  | (go_at_call 173;refine (r15_Few1 _ e.hues.l.length e.hues.cap e.hues.at_ _ (by simp [go_sem])).mono ?_;rintro e w' ⟨rfl,hx⟩;obtain ⟨y,rfl⟩:=hx.get;clear hx)
  | (go_at_call 174;refine (r14_Few1 _ e.chans.l.length e.chans.cap e.chans.at_ _ (by simp [go_sem])).mono ?_;rintro e w' ⟨rfl,hx⟩;obtain ⟨y,rfl⟩:=hx.get;clear hx)
  | (go_at_call 175;refine (r26_Few1 _ e.sub.gains.l.length e.sub.gains.cap e.sub.gains.at_ _ (by simp [go_sem])).mono ?_;rintro e w' ⟨rfl,hx⟩;obtain ⟨y,rfl⟩:=hx.get;clear hx)
  | (go_at_call 176;refine (r28_Few1 _ _).mono ?_;rintro e w' ⟨rfl,hx⟩;obtain ⟨y,rfl⟩:=hx.get;clear hx))
 all_goals
  go_ret
  exact ⟨⟨_,rfl⟩,ex⟩
section
variable (a:Acn) (w:World)
set_option maxHeartbeats 1600000 in
set_option maxRecDepth 100000 in
theorem Few_1 (h1:40 < a.cue.size):Calls Tryz.prog 108 #[.agg (acnR a).toArray] w (SomeB w):=by
 go_enter Tryz.func108,Tryz.ntmps108
 go_wp2
 go_ret
 exact ⟨⟨_,rfl⟩,ex⟩
set_option maxHeartbeats 1600000 in
set_option maxRecDepth 100000 in
theorem Few_2 (h1 : ¬ 40 < a.cue.size) (h2:decide (a.entries.l.length≤200 ∨ 4096 < a.entries.l.length)=false):Calls Tryz.prog 108 #[.agg (acnR a).toArray] w (SomeB w):=by
 have HE:=Lib.hid h2
 clear h2
 go_enter Tryz.func108,Tryz.ntmps108
 go_wp2_with (go_at_call 136;refine (r15_FewEnts _ _ _ _).mono ?_;rintro e w' ⟨he,rfl⟩;rw [HE.out] at he;subst he)
 go_ret
 exact ⟨⟨_,rfl⟩,ex⟩
set_option maxHeartbeats 1600000 in
set_option maxRecDepth 100000 in
theorem Few_3 (h1 : ¬ 40 < a.cue.size) (h2:decide (a.entries.l.length≤200 ∨ 4096 < a.entries.l.length)=true) (h3:200 < a.params.l.length) (h4:a.params.l.length≤4096):Calls Tryz.prog 108 #[.agg (acnR a).toArray] w (SomeB w):=by
 have HE:=Lib.hid h2
 clear h2
 go_enter Tryz.func108,Tryz.ntmps108
 go_wp2_with (go_at_call 136;refine (r15_FewEnts _ _ _ _).mono ?_;rintro e w' ⟨he,rfl⟩;rw [HE.out] at he;subst he)
 go_ret
 exact ⟨⟨_,rfl⟩,ex⟩
set_option maxHeartbeats 1600000 in
set_option maxRecDepth 100000 in
theorem Few_4 (h1 : ¬ 40 < a.cue.size) (h2:decide (a.entries.l.length≤200 ∨ 4096 < a.entries.l.length)=true) (h3 : ¬ 200 < a.params.l.length):Calls Tryz.prog 108 #[.agg (acnR a).toArray] w (SomeB w):=by
 have HE:=Lib.hid h2
 have HR:=Lib.hid (rangeAt_new w rfl (acnR a) 87)
 clear h2
 by_cases h5:512 < a.chans.l.length
 all_goals
  go_enter Tryz.func108,Tryz.ntmps108
  go_wp2_with (first
   | (refine wpList_load_row rfl 85 (.tmp 31) rfl w.heap.size 9 rfl (editR a.edit) _ (rangeAt_mono (rangeAt_end HR.out rfl) (ex)) Tryz.underlying85 rfl (by kernel_rfl) ?_)
   | (go_at_call 136;refine (r15_FewEnts _ _ _ _).mono ?_;rintro e w' ⟨he,rfl⟩;rw [HE.out] at he;subst he)
   | (go_at_call 137;refine (r32_FewEdit a.edit _).mono ?_;rintro e w' ⟨⟨fe,rfl⟩,hx⟩;obtain ⟨y,rfl⟩:=hx.get;clear hx))
  go_ret
  exact ⟨⟨_,rfl⟩,ex⟩
set_option maxHeartbeats 1600000 in
set_option maxRecDepth 100000 in
theorem Few_5 (h1 : ¬ 40 < a.cue.size) (h2:decide (a.entries.l.length≤200 ∨ 4096 < a.entries.l.length)=true) (h4 : ¬ a.params.l.length≤4096):Calls Tryz.prog 108 #[.agg (acnR a).toArray] w (SomeB w):=by
 have HE:=Lib.hid h2
 have HR:=Lib.hid (rangeAt_new w rfl (acnR a) 87)
 clear h2
 by_cases h5:512 < a.chans.l.length
 all_goals
  go_enter Tryz.func108,Tryz.ntmps108
  go_wp2_with (first
   | (refine wpList_load_row rfl 85 (.tmp 31) rfl w.heap.size 9 rfl (editR a.edit) _ (rangeAt_mono (rangeAt_end HR.out rfl) (ex)) Tryz.underlying85 rfl (by kernel_rfl) ?_)
   | (go_at_call 136;refine (r15_FewEnts _ _ _ _).mono ?_;rintro e w' ⟨he,rfl⟩;rw [HE.out] at he;subst he)
   | (go_at_call 137;refine (r32_FewEdit a.edit _).mono ?_;rintro e w' ⟨⟨fe,rfl⟩,hx⟩;obtain ⟨y,rfl⟩:=hx.get;clear hx))
  go_ret
  exact ⟨⟨_,rfl⟩,ex⟩
theorem r33_Few:Calls Tryz.prog 108 #[.agg (acnR a).toArray] w (SomeB w):=by
 by_cases h1:40 < a.cue.size
 ·exact Few_1 a w h1
 ·cases h2:decide (a.entries.l.length≤200 ∨ 4096 < a.entries.l.length)
  ·exact Few_2 a w h1 h2
  ·by_cases h3:200 < a.params.l.length
   ·by_cases h4:a.params.l.length≤4096
    ·exact Few_3 a w h1 h2 h3 h4
    ·exact Few_5 a w h1 h2 h4
   ·exact Few_4 a w h1 h2 h3
end
end Go.Proofs.YtmhinhgflehkaaaGreat
namespace Go.Proofs.YtmhinhgflehkaaaGreat
open Go.RowKit
end Go.Proofs.YtmhinhgflehkaaaGreat
