import Derived.Test.YtnpdghjpcnjokaaGreatProg
import Derived.Test.YtnpdghjpcnjokaaGreatGbase
import Derived.Lib.Walk
import Derived.Lib.Strings
import Derived.Lib.Slices
import Derived.Lib.Bytealg
import Derived.BigCall
import Derived.BigGuard
import Derived.Deep.Draws
import Derived.Lib.IndexLaws
import Derived.Lib.IndexBytes
set_option maxHeartbeats 1000000
set_option maxRecDepth 100000
namespace Go.Proofs.YtnpdghjpcnjokaaGreat
open Go.RowKit Tryz

def dotAt (s:ByteArray):Int:=Lib.indexByte s.data.toList 46
def whole (s:ByteArray):ByteArray:=if dotAt s<0 then s else s.extract 0 (dotAt s).toNat
def rest (s:ByteArray):ByteArray:=if dotAt s<0 then ByteArray.empty else s.extract ((dotAt s).toNat+1) s.size
def point (s:ByteArray):Bool:=decide (0≤dotAt s)
theorem ztC {s:ByteArray}{k:Nat}(h:dotAt s=k):whole s=s.extract 0 k∧rest s=s.extract (k+1) s.size∧point s=true:=by
 refine⟨?_,?_,?_⟩
 ·unfold whole;rw[if_neg om,h];rfl
 ·unfold rest;rw[if_neg om,h];rfl
 ·unfold point;rw[decide_eq_true_iff];omega
theorem zmj {s:ByteArray}(h:dotAt s<0):whole s=s∧rest s=ByteArray.empty∧point s=false:=by refine⟨if_pos h,if_pos h,?_⟩;unfold point;rw[decide_eq_false_iff_not];omega
def isDig (c:UInt8):Bool:=!(decide ((c.toNat:Int)<48)||decide (57<(c.toNat:Int)))
def digs (s:ByteArray):Bool:=!s.toList.isEmpty && s.data.toList.all isDig

theorem zkG (s:ByteArray): -1≤dotAt s:=Lib.indexByte_ge _ _
theorem zkH (s:ByteArray)(k:Nat)(h:dotAt s=k):k<s.size:=by
 have h1:=(Lib.indexByte_some h).1;rcases Nat.lt_or_ge k s.data.toList.length with h2|h2
 ·exact h2
 ·rw[List.getElem?_eq_none h2] at h1;cases h1
theorem ztb (s:ByteArray)(k:Nat)(hk:k<s.size)(h:s[k]=46)(hn:∀j (hj:j<s.size),j<k→s[j]≠46):dotAt s=k:=by
 have hl:s.data.toList.length=s.size:=rfl;have hg:∀j (hj:j<s.size),s.data.toList[j]?=some s[j]:=fun j hj=>by rw[List.getElem?_eq_getElem om];rfl
 rcases(by omega:dotAt s<0∨0≤dotAt s) with h1|h1
 ·have h2:dotAt s= -1:=by have:=zkG s;omega
  exact absurd (by rw[hg k hk,h]) (Lib.indexByte_none h2 k)
 ·obtain⟨o,ho⟩:=Int.eq_ofNat_of_zero_le h1;have h2:=Lib.indexByte_some (show Lib.indexByte s.data.toList 46=(o:Int) from ho);have hos:=zkH s o ho;rcases Nat.lt_trichotomy o k with h3|h3|h3
  ·exact absurd (Option.some.inj ((hg o hos).symm.trans h2.1)) (hn o hos h3)
  ·rw[ho,h3]
  ·exact absurd (by rw[hg k hk,h]) (h2.2 k h3)
theorem zm2 (s:ByteArray)(hn:∀j (hj:j<s.size),s[j]≠46):dotAt s= -1:=by
 rcases(by omega:dotAt s<0∨0≤dotAt s) with h1|h1
 ·have:=zkG s;omega
 ·obtain⟨o,ho⟩:=Int.eq_ofNat_of_zero_le h1;have hos:=zkH s o ho;have h2:=(Lib.indexByte_some (show Lib.indexByte s.data.toList 46=(o:Int) from ho)).1;rw[List.getElem?_eq_getElem (by exact hos)] at h2;exact absurd (Option.some.inj h2) (hn o hos)


theorem stringslite_IndexByte (s:ByteArray)(c:Int)(w:World):
  Calls prog 249 #[.string s,.int .u8 c] w fun e w'=>e=.returned (.int .i64 (Lib.indexByte s.data.toList c.toNat.toUInt8))∧w=w':=by
 go_enter func249,ntmps249;go_wp2;rw[run_callFunc_extern func254 kr kr kr (e:=Extern.BytealgIndexByte.indexByte) kr,Lib.run_indexByteString];simp only[Result.andThen];rw[Oper.upon_value];go_wp2;go_ret;exact⟨rfl,rfl⟩

theorem zdS (s:ByteArray)(w:World):
  Calls prog 249 #[.string s,.int .u8 46] w fun e w'=>e=.returned (.int .i64 (dotAt s))∧w=w':=stringslite_IndexByte s 46 w

theorem zf5 (s:ByteArray)(w:World):
  Calls prog 245 #[.string s,.string ⟨#[46]⟩] w fun e w'=>e=.returned (.int .i64 (dotAt s))∧w=w':=by
 by_cases hs:s=⟨#[46]⟩
 ·subst hs;go_enter func245,ntmps245;go_wp2_with (go_at_call 249;refine(zdS _ _).mono ?_;rintro e w' ⟨rfl,rfl⟩);go_ret;exact⟨rfl,rfl⟩
 have hs':([46]==s.toList)=false:=by rw[beq_eq_false_iff_ne];intro h;exact hs (ByteArray.ext (Array.ext' (by rw[←Lib.toList_data,←h])))
 go_enter func245,ntmps245;go_wp2_with (go_at_call 249;refine(zdS s _).mono ?_;rintro e w' ⟨rfl,rfl⟩);go_ret;exact⟨rfl,rfl⟩

theorem zk3 (s:ByteArray)(w:World)(hs:s.size≤maxLen):
  Calls prog 217 #[.string s,.string ⟨#[46]⟩] w fun e w'=>e=.returned (.tuple #[.string (whole s),.string (rest s),.bool (point s)])∧Ext w w':=by
 unfold maxLen at hs;rcases(by omega:dotAt s<0∨0≤dotAt s) with h1|h1
 ·have E:Hid (whole s=s∧rest s=ByteArray.empty∧point s=false):=zh (zmj h1);go_enter func217,ntmps217;go_wp2_with (go_at_call 245;refine(zf5 s _).mono ?_;rintro e w' ⟨rfl,rfl⟩);go_ret3;obtain⟨e1,e2,e3⟩:=E.out;rw[e1,e2,e3];exact⟨rfl,Ext.refl _⟩
 ·obtain⟨k,hk⟩:=Int.eq_ofNat_of_zero_le h1;have hlt:=zkH s k hk;have E:Hid (dotAt s=k∧whole s=s.extract 0 k∧rest s=s.extract (k+1) s.size∧point s=true):=zh ⟨hk,ztC hk⟩;have C:Calls prog 245 #[.string s,.string ⟨#[46]⟩] w fun e w'=>e=.returned (.int .i64 k)∧w=w':=by rw[←hk];exact zf5 s w
  have HC:=zh C;clear hk h1 C;have hb1:(0:Int)≤(k:Int):=by omega
  have hb2:(k:Int)≤(s.size:Int):=by omega
  have hb3:(k:Int)+1≤(s.size:Int):=by omega
  have hb4:(0:Int)≤(k:Int)+1:=by omega
  go_enter func217,ntmps217;go_wp2_with (go_at_call 245;refine(HC.out).mono ?_;rintro e w' ⟨rfl,rfl⟩);have hw:IntKind.i64.wrap ((k:Int)+1)=(k:Int)+1:=IntWalk.i64_in _ om;have ht:((k:Int)+1).toNat=k+1:=by omega
  (refine zcL kr kr ?_;(repeat(go_big_quiet_step (fail)));refine wqN fun y=>?_);clear hw ht;go_wp2;go_ret3;obtain⟨_,e1,e2,e3⟩:=E.out;rw[e1,e2,e3];exact⟨rfl,ex⟩

theorem zep (s:ByteArray)(w:World)(hs:s.size≤maxLen):
  Calls prog 191 #[.string s,.string ⟨#[46]⟩] w fun e w'=>e=.returned (.tuple #[.string (whole s),.string (rest s),.bool (point s)])∧Ext w w':=by
 go_enter func191,ntmps191;go_wp2_with (go_at_call 217;refine zzg (zk3 s _ hs) fun y=>?_);go_ret3;exact⟨rfl,ex⟩

theorem zpX (s:ByteArray)(w:World)(hs:s.size≤maxLen):
  Calls prog 203 #[.string s] w fun e w'=>e=.returned (.tuple #[.string (whole s),.string (rest s),.bool (point s)])∧Ext w w':=by
 unfold maxLen at hs;go_enter func203,ntmps203;go_wp2;go_loopw [5] (fun i wr=> ∃k:Nat,k≤s.size∧i=.int .i64 k∧Ext w wr∧Hid (∀j (hj:j<s.size),j<k→s[j]≠46)) (fun i _=>s.size - (intOf i).toNat)
 case atStart => exact ⟨0,by omega,rfl,Ext.refl _,zh (by intro j _ hj;omega)⟩
 case round =>
  obtain⟨k,hk,rfl,hx,HN⟩:=hrel;obtain⟨y,rfl⟩:=hx.get;clear hx;by_cases hlt:k<s.size
  ·by_cases hd:s[k]=46
   ·have E:Hid (whole s=s.extract 0 k∧rest s=s.extract (k+1) s.size∧point s=true):=by have hdot:=ztb s k hlt hd HN.out;exact zh (ztC hdot)
    have hb:((s[k].toNat:Int)==46)=true:=by rw[hd];rfl
    clear hd HN;have hb1:(0:Int)≤(k:Int):=by omega
    have hb2:(k:Int)≤(s.size:Int):=by omega
    have hb3:(k:Int)+1≤(s.size:Int):=by omega
    have hb4:(0:Int)≤(k:Int)+1:=by omega
    go_wp2;have hw:IntKind.i64.wrap ((k:Int)+1)=(k:Int)+1:=IntWalk.i64_in _ om;have ht:((k:Int)+1).toNat=k+1:=by omega
    (refine zcL kr kr ?_;(repeat(go_big_quiet_step (fail)));refine wqN fun y=>?_);clear hw ht;go_wp2;go_ret3;obtain⟨e1,e2,e3⟩:=E.out;rw[e1,e2,e3];exact⟨rfl,ex⟩
   ·have hb:((s[k].toNat:Int)==46)=false:=by rw[beq_eq_false_iff_ne];intro h;exact hd (UInt8.toNat_inj.1 (by change s[k].toNat=46;omega))
    have HN':Hid (∀j (hj:j<s.size),j<k+1→s[j]≠46):=zh fun j hj hjk=>by
     by_cases hjk':j=k
     ·subst hjk';exact hd
     ·exact HN.out j hj om
    clear hd HN;go_wp2
    go_roundw
    case rel => exact ⟨k + 1,by omega,by go_num,ex,HN'⟩
    case measure => simp [intOf];omega
  ·have E:Hid (whole s=s∧rest s=ByteArray.empty∧point s=false):=by have hdot:=zm2 s fun j hj=>HN.out j hj om;exact zh (zmj om)
   go_wp2;go_ret3;obtain⟨e1,e2,e3⟩:=E.out;rw[e1,e2,e3];exact⟨rfl,ex⟩

theorem zgF (s:ByteArray)(w:World)(hs:s.size≤maxLen):
  Calls prog 204 #[.string s] w fun e w'=>e=.returned (.bool (digs s))∧w=w':=by
 unfold maxLen at hs;go_enter func204,ntmps204;go_wp2
 go_loop [3] (fun i=> ∃k:Nat,k≤s.size∧i=.int .i64 k∧Hid (∀j (hj:j<s.size),j<k→isDig s[j]=true)) (fun i=>s.size - (intOf i).toNat)
 case atStart => exact ⟨0,by omega,rfl,zh (by intro j _ hj;omega)⟩
 case round =>
  obtain⟨k,hk,rfl,HN⟩:=hrel;by_cases hlt:k<s.size
  ·by_cases hd:isDig s[k]=true
   ·have HN':Hid (∀j (hj:j<s.size),j<k+1→isDig s[j]=true):=zh fun j hj hjk=>by
     by_cases hjk':j=k
     ·subst hjk';exact hd
     ·exact HN.out j hj om
    simp[isDig] at hd;obtain⟨hd1,hd2⟩:=hd;clear HN;go_wp2;go_round
    case rel => exact ⟨k + 1,by omega,by go_num,HN'⟩
    case measure => simp [intOf];omega
   ·have E:Hid (digs s=false):=zh (by
     unfold digs;rw[Bool.and_eq_false_iff]
     right
     rw[Bool.eq_false_iff];intro h;exact hd (List.all_eq_true.1 h _ (by rw[List.mem_iff_getElem];exact⟨k,hlt,rfl⟩)))
    have hd':(s[k].toNat:Int)<48∨57<(s[k].toNat:Int):=by simp[isDig] at hd;omega
    clear hd HN;rcases hd' with hd'|hd'
    ·go_wp2;go_ret;rw[E.out];exact⟨rfl,rfl⟩
    ·have hd2:48≤(s[k].toNat:Int):=by omega
     go_wp2;go_ret;rw[E.out];exact⟨rfl,rfl⟩
  ·have E:Hid (digs s=decide (0<s.size)):=zh (by
    unfold digs;have h1:s.data.toList.all isDig=true:=List.all_eq_true.2 fun c hc=>by obtain⟨j,hj,rfl⟩:=List.mem_iff_getElem.1 hc;exact HN.out j hj (by have:j<s.size:=hj;omega)
    rw[h1,Bool.and_true,Lib.toList_data];have h2:s.data.toList.length=s.size:=rfl;cases hl:s.data.toList with
    |nil=>rw[hl] at h2;simp at h2;simp[←h2]
    |cons c l=>rw[hl] at h2;simp at h2;simp[←h2])
   go_wp2;go_ret;rw[E.out];exact⟨rfl,rfl⟩

theorem zD9 (r:Int)(w:World):
  Calls prog 219 #[.int .i32 r] w fun e w'=>e=.returned (.bool (decide (r<48)||decide (57<r)))∧w=w':=by
 by_cases h:r<48
 ·go_enter func219,ntmps219;go_wp2;go_ret;exact⟨ret_b (by simp[h]),rfl⟩
 ·have h':48≤r:=by omega
  go_enter func219,ntmps219;go_wp2;go_ret;exact⟨ret_b (by simp;omega),rfl⟩

theorem width_pos (s:ByteArray)(pos:Nat)(h:pos<s.size):1≤(Utf8.decode s pos).2:=by
 by_cases ha:(s[pos]'h).toNat<128
 ·rw[decode_ascii s pos h ha];exact Nat.le_refl _
 ·exact(decode_high s pos h om).2
theorem dig_rune (s:ByteArray)(pos:Nat)(h:pos<s.size):
  (isDig s[pos]=true∧Utf8.decode s pos=(s[pos].toNat,1)∧48≤(s[pos].toNat:Int)∧(s[pos].toNat:Int)≤57)∨(isDig s[pos]=false∧(((Utf8.decode s pos).1:Int)<48∨57<((Utf8.decode s pos).1:Int))):=by
 by_cases ha:(s[pos]'h).toNat<128
 ·rw[decode_ascii s pos h ha];by_cases hd:isDig s[pos]=true
  ·left;simp[isDig] at hd ⊢;omega
  ·right;simp[isDig] at hd ⊢;omega
 ·right
  have:=(decode_high s pos h om).1;simp[isDig];omega

theorem znX (s:ByteArray)(w:World)(hs:s.size≤maxLen):
  Calls prog 253 #[.string s,.func (Fn.func 219) #[] #[],.bool true] w fun e w'=>(∃k:Int,e=.returned (.int .i64 k)∧decide (0≤k)= !s.data.toList.all isDig)∧Ext w w':=by
 unfold maxLen at hs;go_enter func253,ntmps253;go_wp2;go_loopw [] (fun wr=> ∃pos:Nat,wr=w.iter s pos∧pos≤s.size∧Hid (∀j (hj:j<s.size),j<pos→isDig s[j]=true)) (fun wr=>s.size - wr.iterPos w.heap.size)
 case atStart => exact ⟨0,rfl,by omega,zh (by intro j _ hj;omega)⟩
 case round =>
  obtain⟨pos,rfl,hk,HN⟩:=hrel;by_cases hlt:pos<s.size
  ·have hnx:∀ty,(Instr.next (.pointer (some ⟨w.heap.size,0,none⟩)) true ty).run prog (w.iter s pos)=_:=fun ty=>run_next_any w s pos ty hlt;rcases dig_rune s pos hlt with⟨hd,hdec,h1,h2⟩|⟨hd,hdec⟩
   ·have HN':Hid (∀j (hj:j<s.size),j<pos+1→isDig s[j]=true):=zh fun j hj hjk=>by
     by_cases hjk':j=pos
     ·subst hjk';exact hd
     ·exact HN.out j hj om
    rw[hdec] at hnx;simp only[] at hnx;clear hd HN hdec;go_wp2_with (go_at_call 219;refine(zD9 _ _).mono ?_;rintro e w' ⟨rfl,rfl⟩)
    go_roundw
    case rel => exact ⟨pos + 1,rfl,by omega,HN'⟩
    case measure => simp;omega
   ·have hw:=width_pos s pos hlt;have E:Hid (decide ((0:Int)≤(pos:Int))= !s.data.toList.all isDig):=zh (by
     have:s.data.toList.all isDig=false:=by rw[Bool.eq_false_iff];intro h;have h3:=List.all_eq_true.1 h s[pos] (by rw[List.mem_iff_getElem];exact⟨pos,hlt,rfl⟩);rw[hd] at h3;cases h3
     rw[this];simp)
    clear hd HN;generalize Utf8.decode s pos=dd at hnx hdec hw;obtain⟨r,n⟩:=dd;simp only[] at hnx hdec hw;have hb:(decide ((r:Int)<48)||decide (57<(r:Int)))=true:=by simp;omega
    go_wp2_with (go_at_call 219;refine(zD9 _ _).mono ?_;rintro e w' ⟨rfl,rfl⟩);go_ret;exact⟨⟨pos,rfl,E.out⟩,by apply Ext.alloc;exact Ext.refl _⟩
  ·have hnx:∀ty,(Instr.next (.pointer (some ⟨w.heap.size,0,none⟩)) true ty).run prog (w.iter s pos)=_:=fun ty=>run_next_end w s pos ty hlt;have E:Hid (decide ((0:Int)≤ -1)= !s.data.toList.all isDig):=zh (by
    have h1:s.data.toList.all isDig=true:=List.all_eq_true.2 fun c hc=>by obtain⟨j,hj,rfl⟩:=List.mem_iff_getElem.1 hc;exact HN.out j hj (by have:j<s.size:=hj;omega)
    rw[h1];rfl)
   go_wp2;go_ret;exact⟨⟨-1,rfl,E.out⟩,by apply Ext.alloc;exact Ext.refl _⟩

def zCx (b:Bool) (e:Ending):Prop:=∃k:Int,e=.returned (.int .i64 k)∧decide (0≤k)=b

theorem zjx (s:ByteArray)(w:World)(hs:s.size≤maxLen):
  Calls prog 218 #[.string s,.func (Fn.func 219) #[] #[]] w fun e w'=>e=.returned (.bool (!s.data.toList.all isDig))∧Ext w w':=by
 go_enter func218,ntmps218;go_wp2_with fail
 go_in
 go_wp2_with fail;refine(znX s _ hs).mono ?_;rintro e w' ⟨⟨k,rfl,hk⟩,hx⟩;obtain⟨y,rfl⟩:=hx.get;clear hx;have HK:=zh hk;clear hk;go_wp2;go_ret;rw[←HK.out];exact⟨rfl,ex⟩

theorem zmh (s:ByteArray)(w:World)(hs:s.size≤maxLen):
  Calls prog 193 #[.string s] w fun e w'=>e=.returned (.bool (digs s))∧Ext w w':=by
 by_cases h:s.toList=[]
 ·have E:Hid (digs s=false):=zh (by simp[digs,h]);go_enter func193,ntmps193;go_wp2;go_ret;rw[E.out];exact⟨rfl,Ext.refl _⟩
 ·have E:Hid (digs s=s.data.toList.all isDig):=zh (by simp[digs,h]);have h2:s.toList.isEmpty=false:=by simpa using h
  clear h;go_enter func193,ntmps193;go_wp2_with (go_at_call 218;refine zzg (zjx s _ hs) fun y=>?_);go_ret;rw[E.out];exact⟨ret_b (by simp),ex⟩

def zbC (s:ByteArray):Bool:=decide (s.data.toList.getLast?=some 48)
theorem zzc (s:ByteArray)(h:1≤s.size):((s.extract (s.size - 1) s.size).toList==[48])=zbC s:=by rw[Lib.toList_data,Lib.extract_to_end];have hl:s.data.toList.length=s.size:=rfl;unfold zbC;rw[List.getLast?_eq_getElem?,hl];rw[List.drop_eq_getElem_cons om,List.drop_eq_nil_of_le om,List.getElem?_eq_getElem om];rw[Bool.eq_iff_iff];simp
theorem zro (s:ByteArray)(h:s.size=0):zbC s=false:=by have hl:s.data.toList.length=s.size:=rfl;have:s.data.toList=[]:=List.eq_nil_of_length_eq_zero om;simp[zbC,this]

theorem zr3 (s:ByteArray)(w:World)(hs:s.size≤maxLen):
  Calls prog 195 #[.string s,.string ⟨#[48]⟩] w fun e w'=>e=.returned (.bool (zbC s))∧w=w':=by
 unfold maxLen at hs;by_cases h:1≤s.size
 ·have E:=zh (zzc s h);have h0:(1:Int)≤(s.size:Int):=by omega
  go_enter func195,ntmps195;go_wp2_with go_in;go_ret;rw[←E.out];exact⟨rfl,rfl⟩
 ·have E:=zh (zro s om);have h0:s.size=0:=by omega
  go_enter func195,ntmps195;go_wp2_with go_in;go_ret;rw[E.out];exact⟨rfl,rfl⟩

def zcn (s:ByteArray):Bool:=decide (s.data.toList.head?=some 48)
def numE (s:ByteArray):Int:=
 if digs (whole s)=false then 3 else if point s=true∧(digs (rest s)=false∨zbC (rest s)=true) then 3
 else if(whole s).size≠1∧zcn (whole s)=true then 3 else if s.toList=[48]∨4<(whole s).size∨3<(rest s).size then 2 else 0

theorem zut (s:ByteArray):(whole s).size≤s.size:=by
 unfold whole;split
 ·exact Nat.le_refl _
 ·simp[ByteArray.size_extract];omega
theorem zz0 (s:ByteArray):(rest s).size≤s.size:=by
 unfold rest;split
 ·simp
 ·simp[ByteArray.size_extract]
theorem zeh (s:ByteArray)(h:digs s=true):1≤s.size:=by
 rcases Nat.lt_or_ge 0 s.size with h1|h1
 ·exact h1
 ·have hl:s.data.toList.length=s.size:=rfl;have h2:s.data.toList=[]:=List.eq_nil_of_length_eq_zero om;simp[digs,Lib.toList_data,h2] at h
theorem ztm (s:ByteArray)(h:0<s.size):((s[0].toNat:Int)==48)=zcn s:=by
 have hl:s.data.toList.length=s.size:=rfl;have h0:s.data.toList.head?=some s[0]:=by rw[List.head?_eq_getElem?,List.getElem?_eq_getElem om];rfl
 unfold zcn;rw[h0];by_cases h2:s[0]=48
 ·rw[h2];rfl
 ·rw[decide_eq_false (by intro h3;exact h2 (Option.some.inj h3)),beq_eq_false_iff_ne];intro h3;exact h2 (UInt8.toNat_inj.1 (by change s[0].toNat=48;omega))

section
variable (b:Nat) (W R:ByteArray) (p:Bool) (w:World) (h0:w.cell? ⟨b,0,none⟩=some (.string W)) (h1:w.cell? ⟨b,1,none⟩=some (.string R)) (h2:w.cell? ⟨b,2,none⟩=some (.bool p))
include h0 in
theorem zBw (hW:W.size≤maxLen):Calls prog 192 #[.pointer (some ⟨b,0,none⟩)] w fun e w'=>e=.returned (.bool (digs W))∧Ext w w':=by go_enter func192,ntmps192;go_wp2_with (go_at_call 193;refine zzg (zmh W _ hW) fun y=>?_);go_ret;exact⟨rfl,ex⟩
include h1 h2 in
theorem zBx (hR:R.size≤maxLen):Calls prog 194 #[.pointer (some ⟨b,0,none⟩)] w fun e w'=>e=.returned (.bool (!p||(digs R && !zbC R)))∧Ext w w':=by
 cases p with
 |false=>go_enter func194,ntmps194;go_wp2;go_ret;exact⟨rfl,ex⟩
 |true=>
  cases hd:digs R with
  |false=>have C:Calls prog 193 #[.string R] w fun e w'=>e=.returned (.bool false)∧Ext w w':=hd▸zmh R w hR;have HC:=zh C;clear hd C;go_enter func194,ntmps194;go_wp2_with (go_at_call 193;refine zzg (HC.out) fun y=>?_);go_ret;exact⟨rfl,ex⟩
  |true=>have C:Calls prog 193 #[.string R] w fun e w'=>e=.returned (.bool true)∧Ext w w':=hd▸zmh R w hR;have HC:=zh C;clear hd C;go_enter func194,ntmps194;go_wp2_with (first|(go_at_call 193;refine zzg (HC.out) fun y=>?_)|(go_at_call 195;refine(zr3 R _ hR).mono ?_;rintro e w' ⟨rfl,rfl⟩));go_ret;exact⟨rfl,ex⟩
include h0 in
theorem zBy (hW:W.size≤maxLen)(hW1:1≤W.size):Calls prog 196 #[.pointer (some ⟨b,0,none⟩)] w fun e w'=>e=.returned (.bool (W.size==1|| !zcn W))∧Ext w w':=by
 unfold maxLen at hW;have E:=zh (ztm W hW1);by_cases h1:W.size=1
 ·have hb:((W.size:Int)==1)=true:=by rw[h1];rfl
  have E2:Hid ((W.size==1)=true):=zh (by rw[h1];rfl);clear h1;go_enter func196,ntmps196;go_wp2;go_ret;rw[E2.out];exact⟨rfl,ex⟩
 ·have hb:((W.size:Int)==1)=false:=by rw[beq_eq_false_iff_ne];omega
  have E2:Hid ((W.size==1)=false):=zh (by rw[beq_eq_false_iff_ne];exact h1);clear h1;have hb2:(0:Int)<(W.size:Int):=by omega
  go_enter func196,ntmps196;go_wp2;go_ret;rw[E2.out,←E.out];exact⟨rfl,ex⟩
end

theorem zpN (s:ByteArray)(w:World)(hs:s.size≤maxLen):
  Calls prog 151 #[.string s] w fun e w'=>e=.returned (.int .i64 (numE s))∧Ext w w':=by
 have hW:(whole s).size≤maxLen:=Nat.le_trans (zut s) hs;have hR:(rest s).size≤maxLen:=Nat.le_trans (zz0 s) hs
 have HE:Hid (numE s=if digs (whole s)=false then 3 else if(!point s||(digs (rest s) && !zbC (rest s)))=false then 3
   else if((whole s).size==1|| !zcn (whole s))=false then 3 else if s.toList=[48]∨4<(whole s).size∨3<(rest s).size then 2 else 0):=zh (by
  unfold numE;cases digs (whole s)<;>cases point s<;>cases digs (rest s)<;>cases zbC (rest s)<;>cases zcn (whole s)<;>simp)
 have C1:Hid (∀(b:Nat) (w:World) (_:w.cell? ⟨b,0,none⟩=some (.string (whole s))),Calls prog 192 #[.pointer (some ⟨b,0,none⟩)] w fun e w'=>e=.returned (.bool (digs (whole s)))∧Ext w w'):=
  zh fun b w h=>zBw b (whole s) w h hW
 have C2:Hid (∀(b:Nat) (w:World) (_:w.cell? ⟨b,1,none⟩=some (.string (rest s))) (_:w.cell? ⟨b,2,none⟩=some (.bool (point s))),Calls prog 194 #[.pointer (some ⟨b,0,none⟩)] w fun e w'=>e=.returned (.bool (!point s||(digs (rest s) && !zbC (rest s))))∧Ext w w'):=
  zh fun b w h h'=>zBx b (rest s) (point s) w h h' hR
 have C3:Hid (∀(b:Nat) (w:World) (_:w.cell? ⟨b,0,none⟩=some (.string (whole s))) (_:digs (whole s)=true),Calls prog 196 #[.pointer (some ⟨b,0,none⟩)] w fun e w'=>e=.returned (.bool ((whole s).size==1|| !zcn (whole s)))∧Ext w w'):=
  zh fun b w h h'=>zBy b (whole s) w h hW (zeh _ h')
 have hs0:((whole s).size:Int)≤9223372036854775807:=by unfold maxLen at hW;omega
 have hs1:((rest s).size:Int)≤9223372036854775807:=by unfold maxLen at hR;omega
 generalize (!point s||(digs (rest s) && !zbC (rest s)))=f2 at *
 generalize ((whole s).size==1|| !zcn (whole s))=f3 at *
 have hD:Hid (digs (whole s)=digs (whole s)):=zh rfl;generalize hd:digs (whole s)=f1 at *
 cases f1 with
 |false=>clear hd C2 C3;go_enter func151,ntmps151;go_wp2_with (go_at_call 191;refine zzg (zep s _ hs) fun y=>?_);refine wp_loop_rounds 1 ?_;rw[rounds_succ];go_wp2_with (go_at_call 192;refine zzg (C1.out _ _ (by simp[go_sem, *])) fun y=>?_);go_ret;rw[HE.out];exact⟨rfl,ex⟩
 |true=>
  replace C3:=zh fun b w h=>C3.out b w h rfl;clear hd;cases f2 with
  |false=>go_enter func151,ntmps151;go_wp2_with (go_at_call 191;refine zzg (zep s _ hs) fun y=>?_);refine wp_loop_rounds 2 ?_;rw[rounds_succ];go_wp2_with (first|(go_at_call 192;refine zzg (C1.out _ _ (by simp[go_sem, *])) fun y=>?_)|(go_at_call 194;refine zzg (C2.out _ _ (by simp[go_sem, *]) (by simp[go_sem, *])) fun y=>?_));rw[rounds_succ];go_wp2_with (first|(go_at_call 192;refine zzg (C1.out _ _ (by simp[go_sem, *])) fun y=>?_)|(go_at_call 194;refine zzg (C2.out _ _ (by simp[go_sem, *]) (by simp[go_sem, *])) fun y=>?_));go_ret;rw[HE.out];exact⟨rfl,ex⟩
  |true=>
   cases f3 with
   |false=>go_enter func151,ntmps151;go_wp2_with (go_at_call 191;refine zzg (zep s _ hs) fun y=>?_);refine wp_loop_rounds 3 ?_;rw[rounds_succ];go_wp2_with (first|(go_at_call 192;refine zzg (C1.out _ _ (by simp[go_sem, *])) fun y=>?_)|(go_at_call 194;refine zzg (C2.out _ _ (by simp[go_sem, *]) (by simp[go_sem, *])) fun y=>?_)|(go_at_call 196;refine zzg (C3.out _ _ (by simp[go_sem, *])) fun y=>?_));rw[rounds_succ];go_wp2_with (first|(go_at_call 192;refine zzg (C1.out _ _ (by simp[go_sem, *])) fun y=>?_)|(go_at_call 194;refine zzg (C2.out _ _ (by simp[go_sem, *]) (by simp[go_sem, *])) fun y=>?_)|(go_at_call 196;refine zzg (C3.out _ _ (by simp[go_sem, *])) fun y=>?_));rw[rounds_succ];go_wp2_with (first|(go_at_call 192;refine zzg (C1.out _ _ (by simp[go_sem, *])) fun y=>?_)|(go_at_call 194;refine zzg (C2.out _ _ (by simp[go_sem, *]) (by simp[go_sem, *])) fun y=>?_)|(go_at_call 196;refine zzg (C3.out _ _ (by simp[go_sem, *])) fun y=>?_));go_ret;rw[HE.out];exact⟨rfl,ex⟩
   |true=>
    go_enter func151,ntmps151;go_wp2_with (go_at_call 191;refine zzg (zep s _ hs) fun y=>?_);refine wp_loop_rounds 4 ?_;rw[rounds_succ];go_wp2_with (first|(go_at_call 192;refine zzg (C1.out _ _ (by simp[go_sem, *])) fun y=>?_)|(go_at_call 194;refine zzg (C2.out _ _ (by simp[go_sem, *]) (by simp[go_sem, *])) fun y=>?_)|(go_at_call 196;refine zzg (C3.out _ _ (by simp[go_sem, *])) fun y=>?_));rw[rounds_succ];go_wp2_with (first|(go_at_call 192;refine zzg (C1.out _ _ (by simp[go_sem, *])) fun y=>?_)|(go_at_call 194;refine zzg (C2.out _ _ (by simp[go_sem, *]) (by simp[go_sem, *])) fun y=>?_)|(go_at_call 196;refine zzg (C3.out _ _ (by simp[go_sem, *])) fun y=>?_));rw[rounds_succ];go_wp2_with (first|(go_at_call 192;refine zzg (C1.out _ _ (by simp[go_sem, *])) fun y=>?_)|(go_at_call 194;refine zzg (C2.out _ _ (by simp[go_sem, *]) (by simp[go_sem, *])) fun y=>?_)|(go_at_call 196;refine zzg (C3.out _ _ (by simp[go_sem, *])) fun y=>?_));rw[rounds_succ];go_wp2
    all_goals
     go_ret;go_light;refine⟨ret_i ?_,ex⟩;rw[HE.out];simp only[Bool.true_eq_false,if_false];grind

theorem last_at (s:ByteArray)(h:0<s.size):((s[s.size - 1].toNat:Int)==48)=zbC s:=by
 have hl:s.data.toList.length=s.size:=rfl;have h0:s.data.toList.getLast?=some s[s.size - 1]:=by rw[List.getLast?_eq_getElem?,hl,List.getElem?_eq_getElem om];rfl
 unfold zbC;rw[h0];by_cases h2:s[s.size - 1]=48
 ·rw[h2];rfl
 ·rw[decide_eq_false (by intro h3;exact h2 (Option.some.inj h3)),beq_eq_false_iff_ne];intro h3;exact h2 (UInt8.toNat_inj.1 (by change s[s.size - 1].toNat=48;omega))

theorem zdk (s:ByteArray)(w:World)(hs:s.size≤maxLen):
  Calls prog 171 #[.string s] w fun e w'=>e=.returned (.int .i64 (numE s))∧Ext w w':=by
 have hW:(whole s).size≤maxLen:=Nat.le_trans (zut s) hs;have hR:(rest s).size≤maxLen:=Nat.le_trans (zz0 s) hs;have DW:Hid (∀w,Calls prog 204 #[.string (whole s)] w fun e w'=>e=.returned (.bool (digs (whole s)))∧w=w'):=zh fun w=>zgF _ w hW;have DR:Hid (∀w,Calls prog 204 #[.string (rest s)] w fun e w'=>e=.returned (.bool (digs (rest s)))∧w=w'):=zh fun w=>zgF _ w hR
 have HE:Hid (numE s=if digs (whole s)=false then 3 else if point s=true∧(digs (rest s)=false∨zbC (rest s)=true) then 3
   else if(whole s).size≠1∧zcn (whole s)=true then 3 else if s.toList=[48]∨4<(whole s).size∨3<(rest s).size then 2 else 0):=zh rfl
 have E1:Hid (digs (whole s)=true→∃h:0<(whole s).size,(((whole s)[0].toNat:Int)==48)=zcn (whole s)):=zh fun h=>⟨zeh _ h,ztm _ (zeh _ h)⟩
 have E2:Hid (digs (rest s)=true→∃h:0<(rest s).size,(((rest s)[(rest s).size - 1].toNat:Int)==48)=zbC (rest s)):=zh fun h=>⟨zeh _ h,last_at _ (zeh _ h)⟩
 unfold maxLen at hW hR;have S:Hid (∀w,Calls prog 203 #[.string s] w fun e w'=>e=.returned (.tuple #[.string (whole s),.string (rest s),.bool (point s)])∧Ext w w'):=zh fun w=>zpX s w hs;generalize digs (whole s)=d1 at *
 generalize digs (rest s)=d2 at *
 generalize point s=p at *
 cases d1 with
 |false=>
  go_enter func171,ntmps171;go_wp2_with (first|(go_at_call 203;refine zzg (S.out _) fun y=>?_)|(go_at_call_of 204 (Value.string (whole s));refine(DW.out _).mono ?_;rintro e w' ⟨rfl,rfl⟩)|(go_at_call_of 204 (Value.string (rest s));refine(DR.out _).mono ?_;rintro e w' ⟨rfl,rfl⟩))
  all_goals
   go_ret;go_light;refine⟨ret_i ?_,ex⟩;rw[HE.out];grind
 |true=>
  obtain⟨h1,e1⟩:=E1.out rfl;clear E1;generalize zcn (whole s)=f at *
  cases p with
  |false=>
   clear E2;cases f with
   |false=>
    go_enter func171,ntmps171;go_wp2_with (first|(go_at_call 203;refine zzg (S.out _) fun y=>?_)|(go_at_call_of 204 (Value.string (whole s));refine(DW.out _).mono ?_;rintro e w' ⟨rfl,rfl⟩)|(go_at_call_of 204 (Value.string (rest s));refine(DR.out _).mono ?_;rintro e w' ⟨rfl,rfl⟩))
    all_goals
     go_ret;go_light;refine⟨ret_i ?_,ex⟩;rw[HE.out];grind
   |true=>
    go_enter func171,ntmps171;go_wp2_with (first|(go_at_call 203;refine zzg (S.out _) fun y=>?_)|(go_at_call_of 204 (Value.string (whole s));refine(DW.out _).mono ?_;rintro e w' ⟨rfl,rfl⟩)|(go_at_call_of 204 (Value.string (rest s));refine(DR.out _).mono ?_;rintro e w' ⟨rfl,rfl⟩))
    all_goals
     go_ret;go_light;refine⟨ret_i ?_,ex⟩;rw[HE.out];grind
  |true=>
   cases d2 with
   |false=>
    go_enter func171,ntmps171;go_wp2_with (first|(go_at_call 203;refine zzg (S.out _) fun y=>?_)|(go_at_call_of 204 (Value.string (whole s));refine(DW.out _).mono ?_;rintro e w' ⟨rfl,rfl⟩)|(go_at_call_of 204 (Value.string (rest s));refine(DR.out _).mono ?_;rintro e w' ⟨rfl,rfl⟩))
    all_goals
     go_ret;go_light;refine⟨ret_i ?_,ex⟩;rw[HE.out];grind
   |true=>
    obtain⟨h2,e2⟩:=E2.out rfl;clear E2;generalize zbC (rest s)=l at *
    cases f with
    |false=>
     cases l with
     |false=>
      go_enter func171,ntmps171;go_wp2_with (first|(go_at_call 203;refine zzg (S.out _) fun y=>?_)|(go_at_call_of 204 (Value.string (whole s));refine(DW.out _).mono ?_;rintro e w' ⟨rfl,rfl⟩)|(go_at_call_of 204 (Value.string (rest s));refine(DR.out _).mono ?_;rintro e w' ⟨rfl,rfl⟩))
      all_goals
       go_ret;go_light;refine⟨ret_i ?_,ex⟩;rw[HE.out];grind
     |true=>
      go_enter func171,ntmps171;go_wp2_with (first|(go_at_call 203;refine zzg (S.out _) fun y=>?_)|(go_at_call_of 204 (Value.string (whole s));refine(DW.out _).mono ?_;rintro e w' ⟨rfl,rfl⟩)|(go_at_call_of 204 (Value.string (rest s));refine(DR.out _).mono ?_;rintro e w' ⟨rfl,rfl⟩))
      all_goals
       go_ret;go_light;refine⟨ret_i ?_,ex⟩;rw[HE.out];grind
    |true=>
     cases l with
     |false=>
      go_enter func171,ntmps171;go_wp2_with (first|(go_at_call 203;refine zzg (S.out _) fun y=>?_)|(go_at_call_of 204 (Value.string (whole s));refine(DW.out _).mono ?_;rintro e w' ⟨rfl,rfl⟩)|(go_at_call_of 204 (Value.string (rest s));refine(DR.out _).mono ?_;rintro e w' ⟨rfl,rfl⟩))
      all_goals
       go_ret;go_light;refine⟨ret_i ?_,ex⟩;rw[HE.out];grind
     |true=>
      go_enter func171,ntmps171;go_wp2_with (first|(go_at_call 203;refine zzg (S.out _) fun y=>?_)|(go_at_call_of 204 (Value.string (whole s));refine(DW.out _).mono ?_;rintro e w' ⟨rfl,rfl⟩)|(go_at_call_of 204 (Value.string (rest s));refine(DR.out _).mono ?_;rintro e w' ⟨rfl,rfl⟩))
      all_goals
       go_ret;go_light;refine⟨ret_i ?_,ex⟩;rw[HE.out];grind
