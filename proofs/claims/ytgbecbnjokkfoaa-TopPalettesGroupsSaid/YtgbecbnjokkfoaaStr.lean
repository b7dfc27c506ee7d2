import Derived.Test.YtgbecbnjokkfoaaProg
import Derived.Test.YtgbecbnjokkfoaaBase
import Derived.Test.YtgbecbnjokkfoaaPure
import Derived.Lib.Walk
import Derived.Lib.Strings
import Derived.Lib.Slices
import Derived.Lib.Bytealg
import Derived.BigCall
import Derived.BigGuard
import Derived.Deep.Draws
import Derived.Lib.IndexLaws
import Derived.Lib.IndexBytes
set_option maxHeartbeats 1000000
set_option maxRecDepth 100000
namespace Go.Proofs.Ytgbecbnjokkfoaa
open Go.RowKit

def dotAt (s : ByteArray) : Int:=Lib.indexByte s.data.toList 46
def whole (s : ByteArray) : ByteArray:=if dotAt s < 0 then s else s.extract 0 (dotAt s).toNat
def rest (s : ByteArray) : ByteArray:=if dotAt s < 0 then ByteArray.empty else s.extract ((dotAt s).toNat + 1) s.size
def point (s : ByteArray) : Bool:=decide (0 ≤ dotAt s)
theorem parts_at {s : ByteArray} {k : Nat} (h : dotAt s = k) : whole s = s.extract 0 k ∧ rest s = s.extract (k + 1) s.size ∧ point s = true:=by
 refine ⟨?_,?_,?_⟩
 ·unfold whole;rw [if_neg (by omega),h];rfl
 ·unfold rest;rw [if_neg (by omega),h];rfl
 ·unfold point;rw [decide_eq_true_iff];omega
theorem parts_none {s : ByteArray} (h : dotAt s < 0) : whole s = s ∧ rest s = ByteArray.empty ∧ point s = false:=by
 refine ⟨if_pos h,if_pos h,?_⟩
 unfold point;rw [decide_eq_false_iff_not];omega
def isDig (c : UInt8) : Bool:=!(decide ((c.toNat : Int) < 48) || decide (57 < (c.toNat : Int)))
def digs (s : ByteArray) : Bool:=!s.toList.isEmpty && s.data.toList.all isDig

theorem dotAt_ge (s : ByteArray) : -1 ≤ dotAt s:=Lib.indexByte_ge _ _
theorem dotAt_lt (s : ByteArray) (k : Nat) (h : dotAt s = k) : k < s.size:=by
 have h1:=(Lib.indexByte_some h).1
 rcases Nat.lt_or_ge k s.data.toList.length with h2 | h2
 ·exact h2
 ·rw [List.getElem?_eq_none h2] at h1;cases h1
theorem dotAt_is (s : ByteArray) (k : Nat) (hk : k < s.size) (h : s[k] = 46) (hn : ∀ j (hj : j < s.size),j < k → s[j] ≠ 46) : dotAt s = k:=by
 have hl : s.data.toList.length = s.size:=rfl
 have hg : ∀ j (hj : j < s.size),s.data.toList[j]? = some s[j]:=fun j hj => by rw [List.getElem?_eq_getElem (by omega)];rfl
 rcases (by omega : dotAt s < 0 ∨ 0 ≤ dotAt s) with h1 | h1
 ·have h2 : dotAt s = -1:=by have:=dotAt_ge s;omega
  exact absurd (by rw [hg k hk,h]) (Lib.indexByte_none h2 k)
 ·obtain ⟨o,ho⟩:=Int.eq_ofNat_of_zero_le h1
  have h2:=Lib.indexByte_some (show Lib.indexByte s.data.toList 46 = (o : Int) from ho)
  have hos:=dotAt_lt s o ho
  rcases Nat.lt_trichotomy o k with h3 | h3 | h3
  ·exact absurd (Option.some.inj ((hg o hos).symm.trans h2.1)) (hn o hos h3)
  ·rw [ho,h3]
  ·exact absurd (by rw [hg k hk,h]) (h2.2 k h3)
theorem dotAt_none (s : ByteArray) (hn : ∀ j (hj : j < s.size),s[j] ≠ 46) : dotAt s = -1:=by
 rcases (by omega : dotAt s < 0 ∨ 0 ≤ dotAt s) with h1 | h1
 ·have:=dotAt_ge s;omega
 ·obtain ⟨o,ho⟩:=Int.eq_ofNat_of_zero_le h1
  have hos:=dotAt_lt s o ho
  have h2:=(Lib.indexByte_some (show Lib.indexByte s.data.toList 46 = (o : Int) from ho)).1
  rw [List.getElem?_eq_getElem (by exact hos)] at h2
  exact absurd (Option.some.inj h2) (hn o hos)


theorem stringslite_IndexByte (s : ByteArray) (c : Int) (w : World) :
  Calls Try.prog 82 #[.string s,.int .u8 c] w fun e w' => e = .returned (.int .i64 (Lib.indexByte s.data.toList c.toNat.toUInt8)) ∧ w = w':=by
 go_enter Try.func82,Try.ntmps82
 go_wp2
 rw [run_callFunc_extern Try.func87 (by kernel_rfl) (by kernel_rfl) (by kernel_rfl) (e:=Extern.BytealgIndexByte.indexByte) (by kernel_rfl),Lib.run_indexByteString]
 simp only [Result.andThen]
 rw [Oper.upon_value]
 go_wp2
 go_ret
 exact ⟨rfl,rfl⟩

theorem stringslite_IndexByte_dot (s : ByteArray) (w : World) :
  Calls Try.prog 82 #[.string s,.int .u8 46] w fun e w' => e = .returned (.int .i64 (dotAt s)) ∧ w = w':=stringslite_IndexByte s 46 w

theorem stringslite_Index_dot (s : ByteArray) (w : World) :
  Calls Try.prog 79 #[.string s,.string ⟨#[46]⟩] w fun e w' => e = .returned (.int .i64 (dotAt s)) ∧ w = w':=by
 by_cases hs : s = ⟨#[46]⟩
 ·subst hs
  go_enter Try.func79,Try.ntmps79
  go_wp2_with (go_at_call 82;refine (stringslite_IndexByte_dot _ _).mono ?_;rintro e w' ⟨rfl,rfl⟩)
  go_ret
  exact ⟨rfl,rfl⟩
 have hs' : ([46] == s.toList) = false:=by
  rw [beq_eq_false_iff_ne]
  intro h
  exact hs (ByteArray.ext (Array.ext' (by rw [← Lib.toList_data,← h])))
 go_enter Try.func79,Try.ntmps79
 go_wp2_with (go_at_call 82;refine (stringslite_IndexByte_dot s _).mono ?_;rintro e w' ⟨rfl,rfl⟩)
 go_ret
 exact ⟨rfl,rfl⟩

theorem stringslite_Cut_dot (s : ByteArray) (w : World) (hs : s.size ≤ maxLen) :
  Calls Try.prog 73 #[.string s,.string ⟨#[46]⟩] w fun e w' => e = .returned (.tuple #[.string (whole s),.string (rest s),.bool (point s)]) ∧ Ext w w':=by
 unfold maxLen at hs
 rcases (by omega : dotAt s < 0 ∨ 0 ≤ dotAt s) with h1 | h1
 ·have E : Hid (whole s = s ∧ rest s = ByteArray.empty ∧ point s = false):=Lib.hid (parts_none h1)
  go_enter Try.func73,Try.ntmps73
  go_wp2_with (go_at_call 79;refine (stringslite_Index_dot s _).mono ?_;rintro e w' ⟨rfl,rfl⟩)
  go_ret3
  obtain ⟨e1,e2,e3⟩:=E.out
  rw [e1,e2,e3]
  exact ⟨rfl,Ext.refl _⟩
 ·obtain ⟨k,hk⟩:=Int.eq_ofNat_of_zero_le h1
  have hlt:=dotAt_lt s k hk
  have E : Hid (dotAt s = k ∧ whole s = s.extract 0 k ∧ rest s = s.extract (k + 1) s.size ∧ point s = true):=Lib.hid ⟨hk,parts_at hk⟩
  have C : Calls Try.prog 79 #[.string s,.string ⟨#[46]⟩] w fun e w' => e = .returned (.int .i64 k) ∧ w = w':=by rw [← hk];exact stringslite_Index_dot s w
  have HC:=Lib.hid C
  clear hk h1 C
  have hb1 : (0 : Int) ≤ (k : Int):=by omega
  have hb2 : (k : Int) ≤ (s.size : Int):=by omega
  have hb3 : (k : Int) + 1 ≤ (s.size : Int):=by omega
  have hb4 : (0 : Int) ≤ (k : Int) + 1:=by omega
  go_enter Try.func73,Try.ntmps73
  go_wp2_with (go_at_call 79;refine (HC.out).mono ?_;rintro e w' ⟨rfl,rfl⟩)
  have hw : IntKind.i64.wrap ((k : Int) + 1) = (k : Int) + 1:=IntWalk.i64_in _ (by omega)
  have ht : ((k : Int) + 1).toNat = k + 1:=by omega
  (refine wp_region_grows (by kernel_rfl) (by kernel_rfl) ?_;(repeat (go_big_quiet_step (fail)));refine wpQuiet_nil ?_;rintro _ ⟨y,rfl⟩)
  clear hw ht
  go_wp2
  go_ret3
  obtain ⟨_,e1,e2,e3⟩:=E.out
  rw [e1,e2,e3]
  exact ⟨rfl,ex⟩

theorem strings_Cut_dot (s : ByteArray) (w : World) (hs : s.size ≤ maxLen) :
  Calls Try.prog 61 #[.string s,.string ⟨#[46]⟩] w fun e w' => e = .returned (.tuple #[.string (whole s),.string (rest s),.bool (point s)]) ∧ Ext w w':=by
 go_enter Try.func61,Try.ntmps61
 go_wp2_with (go_at_call 73;refine (stringslite_Cut_dot s _ hs).mono ?_;rintro e w' ⟨rfl,hx⟩;obtain ⟨y,rfl⟩:=hx.get;clear hx)
 go_ret3
 exact ⟨rfl,ex⟩

theorem digits1 (r : Int) (w : World) :
  Calls Try.prog 75 #[.int .i32 r] w fun e w' => e = .returned (.bool (decide (r < 48) || decide (57 < r))) ∧ w = w':=by
 by_cases h : r < 48
 ·go_enter Try.func75,Try.ntmps75
  go_wp2
  go_ret
  exact ⟨ret_b (by simp [h]),rfl⟩
 ·have h' : 48 ≤ r:=by omega
  go_enter Try.func75,Try.ntmps75
  go_wp2
  go_ret
  exact ⟨ret_b (by simp;omega),rfl⟩

theorem width_pos (s : ByteArray) (pos : Nat) (h : pos < s.size) : 1 ≤ (Utf8.decode s pos).2:=by
 by_cases ha : (s[pos]'h).toNat < 128
 ·rw [decode_ascii s pos h ha]
  exact Nat.le_refl _
 ·exact (decode_high s pos h (by omega)).2
theorem dig_rune (s : ByteArray) (pos : Nat) (h : pos < s.size) :
  (isDig s[pos] = true ∧ Utf8.decode s pos = (s[pos].toNat,1) ∧ 48 ≤ (s[pos].toNat : Int) ∧ (s[pos].toNat : Int) ≤ 57) ∨ (isDig s[pos] = false ∧ (((Utf8.decode s pos).1 : Int) < 48 ∨ 57 < ((Utf8.decode s pos).1 : Int))):=by
 by_cases ha : (s[pos]'h).toNat < 128
 ·rw [decode_ascii s pos h ha]
  by_cases hd : isDig s[pos] = true
  ·left;simp [isDig] at hd ⊢;omega
  ·right;simp [isDig] at hd ⊢;omega
 ·right
  have:=(decode_high s pos h (by omega)).1
  simp [isDig];omega

theorem indexFunc_digits (s : ByteArray) (w : World) (hs : s.size ≤ maxLen) :
  Calls Try.prog 86 #[.string s,.func (Fn.func 75) #[] #[],.bool true] w fun e w' => (∃ k : Int,e = .returned (.int .i64 k) ∧ decide (0 ≤ k) = !s.data.toList.all isDig) ∧ Ext w w':=by
 unfold maxLen at hs
 go_enter Try.func86,Try.ntmps86
 go_wp2
 go_loopw [] (fun wr => ∃ pos : Nat,wr = w.iter s pos ∧ pos ≤ s.size ∧ Hid (∀ j (hj : j < s.size),j < pos → isDig s[j] = true)) (fun wr => s.size - wr.iterPos w.heap.size)
 case atStart => exact ⟨0,rfl,by omega,Lib.hid (by intro j _ hj;omega)⟩
 case round =>
  obtain ⟨pos,rfl,hk,HN⟩:=hrel
  by_cases hlt : pos < s.size
  ·have hnx : ∀ ty,(Instr.next (.pointer (some ⟨w.heap.size,0,none⟩)) true ty).run Try.prog (w.iter s pos) = _:=fun ty => run_next_any w s pos ty hlt
   rcases dig_rune s pos hlt with ⟨hd,hdec,h1,h2⟩ | ⟨hd,hdec⟩
   ·have HN' : Hid (∀ j (hj : j < s.size),j < pos + 1 → isDig s[j] = true):=Lib.hid fun j hj hjk => by
     by_cases hjk' : j = pos
     ·subst hjk';exact hd
     ·exact HN.out j hj (by omega)
    rw [hdec] at hnx
    simp only [] at hnx
    clear hd HN hdec
    go_wp2_with (go_at_call 75;refine (digits1 _ _).mono ?_;rintro e w' ⟨rfl,rfl⟩)
    go_roundw
    case rel => exact ⟨pos + 1,rfl,by omega,HN'⟩
    case measure => simp;omega
   ·have hw:=width_pos s pos hlt
    have E : Hid (decide ((0 : Int) ≤ (pos : Int)) = !s.data.toList.all isDig):=Lib.hid (by
     have : s.data.toList.all isDig = false:=by
      rw [Bool.eq_false_iff]
      intro h
      have h3:=List.all_eq_true.1 h s[pos] (by rw [List.mem_iff_getElem];exact ⟨pos,hlt,rfl⟩)
      rw [hd] at h3;cases h3
     rw [this];simp)
    clear hd HN
    generalize Utf8.decode s pos = dd at hnx hdec hw
    obtain ⟨r,n⟩:=dd
    simp only [] at hnx hdec hw
    have hb : (decide ((r : Int) < 48) || decide (57 < (r : Int))) = true:=by simp;omega
    go_wp2_with (go_at_call 75;refine (digits1 _ _).mono ?_;rintro e w' ⟨rfl,rfl⟩)
    go_ret
    exact ⟨⟨pos,rfl,E.out⟩,by apply Ext.alloc;exact Ext.refl _⟩
  ·have hnx : ∀ ty,(Instr.next (.pointer (some ⟨w.heap.size,0,none⟩)) true ty).run Try.prog (w.iter s pos) = _:=fun ty => run_next_end w s pos ty hlt
   have E : Hid (decide ((0 : Int) ≤ -1) = !s.data.toList.all isDig):=Lib.hid (by
    have h1 : s.data.toList.all isDig = true:=List.all_eq_true.2 fun c hc => by
     obtain ⟨j,hj,rfl⟩:=List.mem_iff_getElem.1 hc
     exact HN.out j hj (by have : j < s.size:=hj;omega)
    rw [h1];rfl)
   go_wp2
   go_ret
   exact ⟨⟨-1,rfl,E.out⟩,by apply Ext.alloc;exact Ext.refl _⟩
end Go.Proofs.Ytgbecbnjokkfoaa

namespace Go.Proofs.Ytgbecbnjokkfoaa
open Go.RowKit

def IntSign (b : Bool) (e : Ending) : Prop:=∃ k : Int,e = .returned (.int .i64 k) ∧ decide (0 ≤ k) = b

theorem ContainsFunc_digits (s : ByteArray) (w : World) (hs : s.size ≤ maxLen) :
  Calls Try.prog 74 #[.string s,.func (Fn.func 75) #[] #[]] w fun e w' => e = .returned (.bool (!s.data.toList.all isDig)) ∧ Ext w w':=by
 go_enter Try.func74,Try.ntmps74
 go_wp2_with fail
 go_in
 go_wp2_with fail
 refine (indexFunc_digits s _ hs).mono ?_
 rintro e w' ⟨⟨k,rfl,hk⟩,hx⟩
 obtain ⟨y,rfl⟩:=hx.get
 clear hx
 have HK:=Lib.hid hk
 clear hk
 go_wp2
 go_ret
 rw [← HK.out]
 exact ⟨rfl,ex⟩

theorem num_digits (s : ByteArray) (w : World) (hs : s.size ≤ maxLen) :
  Calls Try.prog 63 #[.string s] w fun e w' => e = .returned (.bool (digs s)) ∧ Ext w w':=by
 by_cases h : s.toList = []
 ·have E : Hid (digs s = false):=Lib.hid (by simp [digs,h])
  go_enter Try.func63,Try.ntmps63
  go_wp2
  go_ret
  rw [E.out]
  exact ⟨rfl,Ext.refl _⟩
 ·have E : Hid (digs s = s.data.toList.all isDig):=Lib.hid (by simp [digs,h])
  have h2 : s.toList.isEmpty = false:=by simpa using h
  clear h
  go_enter Try.func63,Try.ntmps63
  go_wp2_with (go_at_call 74;refine (ContainsFunc_digits s _ hs).mono ?_;rintro e w' ⟨rfl,hx⟩;obtain ⟨y,rfl⟩:=hx.get;clear hx)
  go_ret
  rw [E.out]
  exact ⟨ret_b (by simp),ex⟩

def lastZero (s : ByteArray) : Bool:=decide (s.data.toList.getLast? = some 48)
theorem suffix_zero (s : ByteArray) (h : 1 ≤ s.size) : ((s.extract (s.size - 1) s.size).toList == [48]) = lastZero s:=by
 rw [Lib.toList_data,Lib.extract_to_end]
 have hl : s.data.toList.length = s.size:=rfl
 unfold lastZero
 rw [List.getLast?_eq_getElem?,hl]
 rw [List.drop_eq_getElem_cons (by omega),List.drop_eq_nil_of_le (by omega),List.getElem?_eq_getElem (by omega)]
 rw [Bool.eq_iff_iff]
 simp
theorem lastZero_empty (s : ByteArray) (h : s.size = 0) : lastZero s = false:=by
 have hl : s.data.toList.length = s.size:=rfl
 have : s.data.toList = []:=List.eq_nil_of_length_eq_zero (by omega)
 simp [lastZero,this]

theorem HasSuffix_zero (s : ByteArray) (w : World) (hs : s.size ≤ maxLen) :
  Calls Try.prog 65 #[.string s,.string ⟨#[48]⟩] w fun e w' => e = .returned (.bool (lastZero s)) ∧ w = w':=by
 unfold maxLen at hs
 by_cases h : 1 ≤ s.size
 ·have E:=Lib.hid (suffix_zero s h)
  have h0 : (1 : Int) ≤ (s.size : Int):=by omega
  go_enter Try.func65,Try.ntmps65
  go_wp2_with go_in
  go_ret
  rw [← E.out]
  exact ⟨rfl,rfl⟩
 ·have E:=Lib.hid (lastZero_empty s (by omega))
  have h0 : s.size = 0:=by omega
  go_enter Try.func65,Try.ntmps65
  go_wp2_with go_in
  go_ret
  rw [E.out]
  exact ⟨rfl,rfl⟩

def firstZero (s : ByteArray) : Bool:=decide (s.data.toList.head? = some 48)
def numE (s : ByteArray) : Int :=
 if digs (whole s) = false then 3 else if point s = true ∧ (digs (rest s) = false ∨ lastZero (rest s) = true) then 3
 else if (whole s).size ≠ 1 ∧ firstZero (whole s) = true then 3 else if s.toList = [48] ∨ 4 < (whole s).size ∨ 3 < (rest s).size then 2 else 0

theorem whole_le (s : ByteArray) : (whole s).size ≤ s.size:=by
 unfold whole;split
 ·exact Nat.le_refl _
 ·simp [ByteArray.size_extract];omega
theorem rest_le (s : ByteArray) : (rest s).size ≤ s.size:=by
 unfold rest;split
 ·simp
 ·simp [ByteArray.size_extract]
theorem digs_size (s : ByteArray) (h : digs s = true) : 1 ≤ s.size:=by
 rcases Nat.lt_or_ge 0 s.size with h1 | h1
 ·exact h1
 ·have hl : s.data.toList.length = s.size:=rfl
  have h2 : s.data.toList = []:=List.eq_nil_of_length_eq_zero (by omega)
  simp [digs,Lib.toList_data,h2] at h
theorem first_at (s : ByteArray) (h : 0 < s.size) : ((s[0].toNat : Int) == 48) = firstZero s:=by
 have hl : s.data.toList.length = s.size:=rfl
 have h0 : s.data.toList.head? = some s[0]:=by
  rw [List.head?_eq_getElem?,List.getElem?_eq_getElem (by omega)];rfl
 unfold firstZero
 rw [h0]
 by_cases h2 : s[0] = 48
 ·rw [h2];rfl
 ·rw [decide_eq_false (by intro h3;exact h2 (Option.some.inj h3)),beq_eq_false_iff_ne]
  intro h3
  exact h2 (UInt8.toNat_inj.1 (by change s[0].toNat = 48;omega))

section
variable (b : Nat) (W R : ByteArray) (p : Bool) (w : World) (h0 : w.cell? ⟨b,0,none⟩ = some (.string W)) (h1 : w.cell? ⟨b,1,none⟩ = some (.string R)) (h2 : w.cell? ⟨b,2,none⟩ = some (.bool p))
include h0 in
theorem num_Check1 (hW : W.size ≤ maxLen) : Calls Try.prog 62 #[.pointer (some ⟨b,0,none⟩)] w fun e w' => e = .returned (.bool (digs W)) ∧ Ext w w':=by
 go_enter Try.func62,Try.ntmps62
 go_wp2_with (go_at_call 63;refine (num_digits W _ hW).mono ?_;rintro e w' ⟨rfl,hx⟩;obtain ⟨y,rfl⟩:=hx.get;clear hx)
 go_ret
 exact ⟨rfl,ex⟩
include h1 h2 in
theorem num_Check2 (hR : R.size ≤ maxLen) : Calls Try.prog 64 #[.pointer (some ⟨b,0,none⟩)] w fun e w' => e = .returned (.bool (!p || (digs R && !lastZero R))) ∧ Ext w w':=by
 cases p with
 | false =>
  go_enter Try.func64,Try.ntmps64
  go_wp2
  go_ret
  exact ⟨rfl,ex⟩
 | true =>
  cases hd : digs R with
  | false =>
   have C : Calls Try.prog 63 #[.string R] w fun e w' => e = .returned (.bool false) ∧ Ext w w':=hd ▸ num_digits R w hR
   have HC:=Lib.hid C
   clear hd C
   go_enter Try.func64,Try.ntmps64
   go_wp2_with (go_at_call 63;refine (HC.out).mono ?_;rintro e w' ⟨rfl,hx⟩;obtain ⟨y,rfl⟩:=hx.get;clear hx)
   go_ret
   exact ⟨rfl,ex⟩
  | true =>
   have C : Calls Try.prog 63 #[.string R] w fun e w' => e = .returned (.bool true) ∧ Ext w w':=hd ▸ num_digits R w hR
   have HC:=Lib.hid C
   clear hd C
   go_enter Try.func64,Try.ntmps64
   go_wp2_with (first | (go_at_call 63;refine (HC.out).mono ?_;rintro e w' ⟨rfl,hx⟩;obtain ⟨y,rfl⟩:=hx.get;clear hx) | (go_at_call 65;refine (HasSuffix_zero R _ hR).mono ?_;rintro e w' ⟨rfl,rfl⟩))
   go_ret
   exact ⟨rfl,ex⟩
include h0 in
theorem num_Check3 (hW : W.size ≤ maxLen) (hW1 : 1 ≤ W.size) : Calls Try.prog 66 #[.pointer (some ⟨b,0,none⟩)] w fun e w' => e = .returned (.bool (W.size == 1 || !firstZero W)) ∧ Ext w w':=by
 unfold maxLen at hW
 have E:=Lib.hid (first_at W hW1)
 by_cases h1 : W.size = 1
 ·have hb : ((W.size : Int) == 1) = true:=by rw [h1];rfl
  have E2 : Hid ((W.size == 1) = true):=Lib.hid (by rw [h1];rfl)
  clear h1
  go_enter Try.func66,Try.ntmps66
  go_wp2
  go_ret
  rw [E2.out]
  exact ⟨rfl,ex⟩
 ·have hb : ((W.size : Int) == 1) = false:=by rw [beq_eq_false_iff_ne];omega
  have E2 : Hid ((W.size == 1) = false):=Lib.hid (by rw [beq_eq_false_iff_ne];exact h1)
  clear h1
  have hb2 : (0 : Int) < (W.size : Int):=by omega
  go_enter Try.func66,Try.ntmps66
  go_wp2
  go_ret
  rw [E2.out,← E.out]
  exact ⟨rfl,ex⟩
end

theorem num_Check (s : ByteArray) (w : World) (hs : s.size ≤ maxLen) :
  Calls Try.prog 37 #[.string s] w fun e w' => e = .returned (.int .i64 (numE s)) ∧ Ext w w':=by
 have hW : (whole s).size ≤ maxLen:=Nat.le_trans (whole_le s) hs
 have hR : (rest s).size ≤ maxLen:=Nat.le_trans (rest_le s) hs
 have HE : Hid (numE s = if digs (whole s) = false then 3 else if (!point s || (digs (rest s) && !lastZero (rest s))) = false then 3
   else if ((whole s).size == 1 || !firstZero (whole s)) = false then 3 else if s.toList = [48] ∨ 4 < (whole s).size ∨ 3 < (rest s).size then 2 else 0):=Lib.hid (by
  unfold numE
  cases digs (whole s) <;> cases point s <;> cases digs (rest s) <;> cases lastZero (rest s) <;> cases firstZero (whole s) <;> simp)
 have C1 : Hid (∀ (b : Nat) (w : World) (_ : w.cell? ⟨b,0,none⟩ = some (.string (whole s))),Calls Try.prog 62 #[.pointer (some ⟨b,0,none⟩)] w fun e w' => e = .returned (.bool (digs (whole s))) ∧ Ext w w') :=
  Lib.hid fun b w h => num_Check1 b (whole s) w h hW
 have C2 : Hid (∀ (b : Nat) (w : World) (_ : w.cell? ⟨b,1,none⟩ = some (.string (rest s))) (_ : w.cell? ⟨b,2,none⟩ = some (.bool (point s))),Calls Try.prog 64 #[.pointer (some ⟨b,0,none⟩)] w fun e w' => e = .returned (.bool (!point s || (digs (rest s) && !lastZero (rest s)))) ∧ Ext w w') :=
  Lib.hid fun b w h h' => num_Check2 b (rest s) (point s) w h h' hR
 have C3 : Hid (∀ (b : Nat) (w : World) (_ : w.cell? ⟨b,0,none⟩ = some (.string (whole s))) (_ : digs (whole s) = true),Calls Try.prog 66 #[.pointer (some ⟨b,0,none⟩)] w fun e w' => e = .returned (.bool ((whole s).size == 1 || !firstZero (whole s))) ∧ Ext w w') :=
  Lib.hid fun b w h h' => num_Check3 b (whole s) w h hW (digs_size _ h')
 have hs0 : ((whole s).size : Int) ≤ 9223372036854775807:=by unfold maxLen at hW;omega
 have hs1 : ((rest s).size : Int) ≤ 9223372036854775807:=by unfold maxLen at hR;omega
 generalize (!point s || (digs (rest s) && !lastZero (rest s))) = f2 at *
 generalize ((whole s).size == 1 || !firstZero (whole s)) = f3 at *
 have hD : Hid (digs (whole s) = digs (whole s)):=Lib.hid rfl
 generalize hd : digs (whole s) = f1 at *
 cases f1 with
 | false =>
  clear hd C2 C3
  go_enter Try.func37,Try.ntmps37
  go_wp2_with (go_at_call 61;refine (strings_Cut_dot s _ hs).mono ?_;rintro e w' ⟨rfl,hx⟩;obtain ⟨y,rfl⟩:=hx.get;clear hx)
  refine wp_loop_rounds 1 ?_
  rw [rounds_succ]
  go_wp2_with (go_at_call 62;refine (C1.out _ _ (by simp [go_sem, *])).mono ?_;rintro e w' ⟨rfl,hx⟩;obtain ⟨y,rfl⟩:=hx.get;clear hx)
  go_ret
  rw [HE.out]
  exact ⟨rfl,ex⟩
 | true =>
  replace C3:=Lib.hid fun b w h => C3.out b w h rfl
  clear hd
  cases f2 with
  | false =>
   go_enter Try.func37,Try.ntmps37
   go_wp2_with (go_at_call 61;refine (strings_Cut_dot s _ hs).mono ?_;rintro e w' ⟨rfl,hx⟩;obtain ⟨y,rfl⟩:=hx.get;clear hx)
   refine wp_loop_rounds 2 ?_
   rw [rounds_succ]
   go_wp2_with (first | (go_at_call 62;refine (C1.out _ _ (by simp [go_sem, *])).mono ?_;rintro e w' ⟨rfl,hx⟩;obtain ⟨y,rfl⟩:=hx.get;clear hx) | (go_at_call 64;refine (C2.out _ _ (by simp [go_sem, *]) (by simp [go_sem, *])).mono ?_;rintro e w' ⟨rfl,hx⟩;obtain ⟨y,rfl⟩:=hx.get;clear hx))
   rw [rounds_succ]
   go_wp2_with (first | (go_at_call 62;refine (C1.out _ _ (by simp [go_sem, *])).mono ?_;rintro e w' ⟨rfl,hx⟩;obtain ⟨y,rfl⟩:=hx.get;clear hx) | (go_at_call 64;refine (C2.out _ _ (by simp [go_sem, *]) (by simp [go_sem, *])).mono ?_;rintro e w' ⟨rfl,hx⟩;obtain ⟨y,rfl⟩:=hx.get;clear hx))
   go_ret
   rw [HE.out]
   exact ⟨rfl,ex⟩
  | true =>
   cases f3 with
   | false =>
    go_enter Try.func37,Try.ntmps37
    go_wp2_with (go_at_call 61;refine (strings_Cut_dot s _ hs).mono ?_;rintro e w' ⟨rfl,hx⟩;obtain ⟨y,rfl⟩:=hx.get;clear hx)
    refine wp_loop_rounds 3 ?_
    rw [rounds_succ]
    go_wp2_with (first | (go_at_call 62;refine (C1.out _ _ (by simp [go_sem, *])).mono ?_;rintro e w' ⟨rfl,hx⟩;obtain ⟨y,rfl⟩:=hx.get;clear hx) | (go_at_call 64;refine (C2.out _ _ (by simp [go_sem, *]) (by simp [go_sem, *])).mono ?_;rintro e w' ⟨rfl,hx⟩;obtain ⟨y,rfl⟩:=hx.get;clear hx) | (go_at_call 66;refine (C3.out _ _ (by simp [go_sem, *])).mono ?_;rintro e w' ⟨rfl,hx⟩;obtain ⟨y,rfl⟩:=hx.get;clear hx))
    rw [rounds_succ]
    go_wp2_with (first | (go_at_call 62;refine (C1.out _ _ (by simp [go_sem, *])).mono ?_;rintro e w' ⟨rfl,hx⟩;obtain ⟨y,rfl⟩:=hx.get;clear hx) | (go_at_call 64;refine (C2.out _ _ (by simp [go_sem, *]) (by simp [go_sem, *])).mono ?_;rintro e w' ⟨rfl,hx⟩;obtain ⟨y,rfl⟩:=hx.get;clear hx) | (go_at_call 66;refine (C3.out _ _ (by simp [go_sem, *])).mono ?_;rintro e w' ⟨rfl,hx⟩;obtain ⟨y,rfl⟩:=hx.get;clear hx))
    rw [rounds_succ]
    go_wp2_with (first | (go_at_call 62;refine (C1.out _ _ (by simp [go_sem, *])).mono ?_;rintro e w' ⟨rfl,hx⟩;obtain ⟨y,rfl⟩:=hx.get;clear hx) | (go_at_call 64;refine (C2.out _ _ (by simp [go_sem, *]) (by simp [go_sem, *])).mono ?_;rintro e w' ⟨rfl,hx⟩;obtain ⟨y,rfl⟩:=hx.get;clear hx) | (go_at_call 66;refine (C3.out _ _ (by simp [go_sem, *])).mono ?_;rintro e w' ⟨rfl,hx⟩;obtain ⟨y,rfl⟩:=hx.get;clear hx))
    go_ret
    rw [HE.out]
    exact ⟨rfl,ex⟩
   | true =>
    go_enter Try.func37,Try.ntmps37
    go_wp2_with (go_at_call 61;refine (strings_Cut_dot s _ hs).mono ?_;rintro e w' ⟨rfl,hx⟩;obtain ⟨y,rfl⟩:=hx.get;clear hx)
    refine wp_loop_rounds 4 ?_
    rw [rounds_succ]
    go_wp2_with (first | (go_at_call 62;refine (C1.out _ _ (by simp [go_sem, *])).mono ?_;rintro e w' ⟨rfl,hx⟩;obtain ⟨y,rfl⟩:=hx.get;clear hx) | (go_at_call 64;refine (C2.out _ _ (by simp [go_sem, *]) (by simp [go_sem, *])).mono ?_;rintro e w' ⟨rfl,hx⟩;obtain ⟨y,rfl⟩:=hx.get;clear hx) | (go_at_call 66;refine (C3.out _ _ (by simp [go_sem, *])).mono ?_;rintro e w' ⟨rfl,hx⟩;obtain ⟨y,rfl⟩:=hx.get;clear hx))
    rw [rounds_succ]
    go_wp2_with (first | (go_at_call 62;refine (C1.out _ _ (by simp [go_sem, *])).mono ?_;rintro e w' ⟨rfl,hx⟩;obtain ⟨y,rfl⟩:=hx.get;clear hx) | (go_at_call 64;refine (C2.out _ _ (by simp [go_sem, *]) (by simp [go_sem, *])).mono ?_;rintro e w' ⟨rfl,hx⟩;obtain ⟨y,rfl⟩:=hx.get;clear hx) | (go_at_call 66;refine (C3.out _ _ (by simp [go_sem, *])).mono ?_;rintro e w' ⟨rfl,hx⟩;obtain ⟨y,rfl⟩:=hx.get;clear hx))
    rw [rounds_succ]
    go_wp2_with (first | (go_at_call 62;refine (C1.out _ _ (by simp [go_sem, *])).mono ?_;rintro e w' ⟨rfl,hx⟩;obtain ⟨y,rfl⟩:=hx.get;clear hx) | (go_at_call 64;refine (C2.out _ _ (by simp [go_sem, *]) (by simp [go_sem, *])).mono ?_;rintro e w' ⟨rfl,hx⟩;obtain ⟨y,rfl⟩:=hx.get;clear hx) | (go_at_call 66;refine (C3.out _ _ (by simp [go_sem, *])).mono ?_;rintro e w' ⟨rfl,hx⟩;obtain ⟨y,rfl⟩:=hx.get;clear hx))
    rw [rounds_succ]
    go_wp2
    all_goals
     go_ret
     go_light
     refine ⟨ret_i ?_,ex⟩
     rw [HE.out]
     simp only [Bool.true_eq_false,if_false]
     grind

theorem last_at (s : ByteArray) (h : 0 < s.size) : ((s[s.size - 1].toNat : Int) == 48) = lastZero s:=by
 have hl : s.data.toList.length = s.size:=rfl
 have h0 : s.data.toList.getLast? = some s[s.size - 1]:=by
  rw [List.getLast?_eq_getElem?,hl,List.getElem?_eq_getElem (by omega)];rfl
 unfold lastZero
 rw [h0]
 by_cases h2 : s[s.size - 1] = 48
 ·rw [h2];rfl
 ·rw [decide_eq_false (by intro h3;exact h2 (Option.some.inj h3)),beq_eq_false_iff_ne]
  intro h3
  exact h2 (UInt8.toNat_inj.1 (by change s[s.size - 1].toNat = 48;omega))

end Go.Proofs.Ytgbecbnjokkfoaa
