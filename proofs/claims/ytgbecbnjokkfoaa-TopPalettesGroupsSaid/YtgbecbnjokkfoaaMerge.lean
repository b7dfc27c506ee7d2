import Derived.Test.YtgbecbnjokkfoaaPut
import Derived.Test.YtgbecbnjokkfoaaGset
import Derived.Test.YtgbecbnjokkfoaaGins
set_option maxHeartbeats 3200000
set_option maxRecDepth 100000
namespace Go.Proofs.Ytgbecbnjokkfoaa
open Go.RowKit

@[go_sem high] theorem neq_prm (a b c d : Int) (w : World) : (binOp .neq 40 (.agg #[.int .i64 a,.int .i64 b]) (.agg #[.int .i64 c,.int .i64 d])).run Try.prog w = .ok (.bool (!eqP a b c d)) w:=by
 have hS : Try.prog.underlying 40 = some (.struct (Try.prog.fieldsOf 40)):=by kernel_rfl
 have hp : Try.prog.stoodInHeld 40 = false:=by kernel_rfl
 rw [run_neq_struct,show (10000 : Nat) = 9999 + 1 from rfl,run_equalIn_agg w 9999 40 _ _ hS hp]
 simp only [Program.fieldsOf,Try.underlying40]
 go_simp
 unfold eqP
 by_cases h1 : a = c <;> by_cases h2 : b = d <;> simp [h1,h2]

theorem Clone_M (A : Option Addr) (k : Nat) (l : List Move) (w : World) (hs : Sl w A 5 (l.map mv)) (hl : l.length ≤ 1000000) : Calls Try.prog 48 #[.slice A l.length k] w (RetSl w 60 5 l.length (l.map mv)):=by
 cases A with
 | none =>
  have hnil : l = []:=by simpa using hs.none_nil
  subst hnil
  go_enter Try.func48,Try.ntmps48
  go_wp2
  go_ret
  exact ⟨_,_,rfl,ex,Own.nil _⟩
 | some a =>
  go_enter Try.func48,Try.ntmps48
  go_wp2_with (at_builtin;refine wpList_append_mine (w0:=w) rfl _ _ 49 49 rfl 60 60 5 40 Try.underlying49 Try.underlying49 info_M (by decide) (ex) _ 0 0 [] rfl (Own.nil _) (some a) l.length _ (l.map mv) rfl (hs.mono (ex)) (by simp) (mv_one l) (by unfold maxLen;omega) (by omega) l.length (by omega) (l.map mv) rfl ?_;intro A' k' w1 hx1 hown hg hA;have HO:=Lib.hid hown;obtain ⟨y,rfl⟩:=hx1.get;clear hown hx1 hg hA)
  go_ret
  exact ⟨_,_,rfl,ex,HO.out⟩

theorem mv_app (o : List Move) (x : Move) : o.map mv ++ [mv x] = (o ++ [x]).map mv:=by simp

end Go.Proofs.Ytgbecbnjokkfoaa

namespace Go.Proofs.Ytgbecbnjokkfoaa
open Go.RowKit

theorem heap_new {w : World} {o : Obj} {n : Nat} (h : w.heap.size = n) : (w.alloc o).heap[n]? = some o:=by subst h;exact heap_alloc_new w o
theorem Own.lt {w0 w : World} {E : TypeId} {size : Nat} {A : Option Addr} {n k : Nat} {rows : List (List Value)} (h : Own w0 w E size A n k rows) (hk : k ≠ 0) : ∀ a,A = some a → a.block < w.heap.size:=fun a ha => by
 rcases h.at_ with h0 | ⟨g,cur,h1,_,h3,_⟩
 ·exact absurd h0 hk
 ·rw [h1] at ha;injection ha with ha;subst ha;exact (Array.getElem?_eq_some_iff.1 h3).1
def RetMoves (w : World) (R : List Move × Int) (e : Ending) (w' : World) : Prop:=∃ A k,e = .returned (.tuple #[.slice A R.1.length k,.int .i64 R.2]) ∧ Ext w w' ∧ Sl w' A 5 (R.1.map mv) ∧ R.1.length ≤ k ∧ k ≤ maxLen
def RetMovesO (w : World) (R : List Move × Int) (e : Ending) (w' : World) : Prop:=∃ A k,e = .returned (.tuple #[.slice A R.1.length k,.int .i64 R.2]) ∧ Ext w w' ∧ Own w w' 60 5 A R.1.length k (R.1.map mv)

theorem cue_mergedO (A : Option Addr) (k : Nat) (a : List Move) (B : Option Addr) (m : Nat) (b : List Move) (w : World) (hs : Sl w A 5 (a.map mv)) (hl : a.length ≤ 5000) (hs' : Sl w B 5 (b.map mv)) (hl' : b.length ≤ 5000) (hok : okM a) (hok' : ∀ x ∈ b,moveE1 x = 0) :
  Calls Try.prog 22 #[.slice A a.length k,.slice B b.length m] w (RetMovesO w (mergedV a b)):=by
 have HK:=Lib.hid hok'
 have HA:=Lib.hid hok
 clear hok hok'
 go_enter Try.func22,Try.ntmps22
 go_wp2_with (go_at_call 48;refine (Clone_M A k a _ hs (by omega)).mono ?_;rintro e w' ⟨A1,k1,rfl,hx,hown⟩;have HO:=Lib.hid hown;obtain ⟨y,rfl⟩:=hx.get;clear hx hown)
 go_loopw [6,15] (fun s i wr => ∃ (j : Nat) (D : Option Addr) (c : Nat) (o : List Move),j ≤ b.length ∧ i = .int .i64 j ∧ s = .slice D o.length c ∧ o.length ≤ a.length + j ∧ Hid (o = mergeL a (b.take j)) ∧ Hid (okM o) ∧ Ext w wr ∧ Hid (Own w wr 60 5 D o.length c (o.map mv))) (fun _ i _ => b.length - (intOf i).toNat)
 case atStart => exact ⟨0,A1,k1,a,by omega,rfl,rfl,by omega,Lib.hid (by simp [mergeL]),HA,ex,HO⟩
 case round =>
  obtain ⟨j,D,c,o,hj,rfl,rfl,ho,HE,HQ,hx,HO⟩:=hrel
  obtain ⟨y,rfl⟩:=hx.get
  clear hx
  by_cases hlt : j < b.length
  ·obtain ⟨x,hx⟩ : ∃ x,b[j]? = some x:=⟨_,List.getElem?_eq_getElem hlt⟩
   have HS:=Lib.hid (mergeL_step a hx)
   have hx1:=HK.out x (List.mem_of_getElem? hx)
   have HP:=Lib.hid (show paramE x.p = 0 by unfold moveE1 at hx1;by_cases h : paramE x.p = 0;exact h;simp [h] at hx1)
   have HQ':=Lib.hid (okM_put HQ.out hx1)
   have hpl:=posP_le o x.p
   obtain ⟨b',of,rfl,hc0,hc1,hc2,hc3,hc4⟩:=hs'.row5 (i:=j) (by rw [List.getElem?_map,hx];rfl)
   have hb0 : (0 : Int) ≤ (j : Int):=by omega
   have hb1 : (j : Int) < (b.length : Int):=by omega
   clear hx hs' hs hx1
   cases hf : foundP o x.p
   ·have HN:=Lib.hid (putL_new HQ.out x hf)
    have HC:=Lib.hid (HO.out.cap)
    go_wp2_with (first
     | (go_at_call 25;refine (cue_find D c o x.p _ (HO.out.sl.mono (ex)) (by omega) ((okM_iff o).2 HQ.out) HP.out).mono ?_;rintro e w' ⟨rfl,hx⟩;obtain ⟨y,rfl⟩:=hx.get;clear hx)
     | (go_at_call 49;refine (Insert_M w D c o (posP o x.p) x _ _ (ex) (HO.out.mono (ex)) (by omega) hpl (heap_new (by simp [go_sem])) (fun hk a ha => by have:=(HO.out.lt hk a ha);simp [go_sem] at this ⊢;omega)).mono ?_;rintro e w' ⟨D1,c1,rfl,hx,hown,hgr⟩;have HO1:=Lib.hid hown;obtain ⟨y1,rfl⟩:=hx.get;clear hx hown hgr))
    go_light
    have hln : (putL o x).length = o.length + 1:=by rw [HN.out];exact insAt_len _ _ _
    exact ⟨⟨j + 1,D1,c1,putL o x,by omega,by go_num,by rw [hln],by omega,Lib.hid (by rw [HS.out,HE.out]),HQ',ex,Lib.hid (by rw [hln,HN.out];exact HO1.out.mono (ex))⟩,by simp [intOf];omega⟩
   ·obtain ⟨hput,hpos⟩:=putL_found HQ.out x hf
    have HN:=Lib.hid hput
    obtain ⟨g,rfl,_,_⟩:=HO.out.there hpos
    have hb2 : (0 : Int) ≤ (posP o x.p : Int):=by omega
    have hb3 : (posP o x.p : Int) < (o.length : Int):=by omega
    clear hput
    go_wp2_with (first
     | (go_at_call 25;refine (cue_find _ c o x.p _ (HO.out.sl.mono (ex)) (by omega) ((okM_iff o).2 HQ.out) HP.out).mono ?_;rintro e w' ⟨rfl,hx⟩;obtain ⟨y,rfl⟩:=hx.get;clear hx)
     | (refine wpList_store_mine (w0:=w) rfl 60 _ _ rfl 60 5 (ex) g o.length c (posP o x.p) (o.map mv) (HO.out.mono (ex)) hpos (mv x) (by rfl) (by rfl) rfl (mv_one [x] _ (by simp)) (by kernel_rfl) ?_;intro w1 hx1 hown hg;have HO1:=Lib.hid hown;obtain ⟨y1,rfl⟩:=hx1.get;clear hown hx1 hg))
    go_light
    have hln : (putL o x).length = o.length:=by rw [HN.out];simp
    exact ⟨⟨j + 1,some ⟨g,0,none⟩,c,putL o x,by omega,by go_num,by rw [hln],by omega,Lib.hid (by rw [HS.out,HE.out]),HQ',ex,Lib.hid (by rw [hln,HN.out,List.map_set];exact HO1.out.mono (ex))⟩,by simp [intOf];omega⟩
  ·have HE':=Lib.hid (show o = mergeL a b by rw [HE.out,List.take_of_length_le (by omega)])
   go_wp2
   ·go_ret2
    have h : mergedV a b = ([],5):=by unfold mergedV;rw [← HE'.out,if_pos (by omega)]
    exact ⟨none,0,by rw [h];rfl,ex,by rw [h];exact Own.nil _⟩
   ·go_ret2
    have h : mergedV a b = (o,0):=by unfold mergedV;rw [← HE'.out,if_neg (by omega)]
    exact ⟨D,c,by rw [h];rfl,ex,by rw [h];exact HO.out.mono (ex)⟩
theorem cue_merged (A : Option Addr) (k : Nat) (a : List Move) (B : Option Addr) (m : Nat) (b : List Move) (w : World) (hs : Sl w A 5 (a.map mv)) (hl : a.length ≤ 5000) (hs' : Sl w B 5 (b.map mv)) (hl' : b.length ≤ 5000) (hok : okM a) (hok' : ∀ x ∈ b,moveE1 x = 0) :
  Calls Try.prog 22 #[.slice A a.length k,.slice B b.length m] w (RetMoves w (mergedV a b)) :=
 (cue_mergedO A k a B m b w hs hl hs' hl' hok hok').mono fun _ _ ⟨D,c,h1,h2,h3⟩ => ⟨D,c,h1,h2,h3.sl,h3.le,h3.cap⟩

theorem ret_nil {w w' : World} {R : List Move × Int} {x : Int} {e : Ending} (hR : R = ([],x)) (he : e = .returned (.tuple #[.slice none 0 0,.int .i64 x])) (hx : Ext w w') : RetMoves w R e w':=by
 subst hR;exact ⟨none,0,he,hx,Sl.nil _ _ _,by simp,by unfold maxLen;omega⟩

section
variable (A : Option Addr) (k : Nat) (a : List Move) (B : Option Addr) (m : Nat) (b : List Move) (w : World) (hs : Sl w A 5 (a.map mv)) (hk : a.length ≤ k) (hkm : k ≤ maxLen) (hs' : Sl w B 5 (b.map mv)) (hm : b.length ≤ m) (hmm : m ≤ maxLen)
include hs hk hkm hs' hm hmm
end
end Go.Proofs.Ytgbecbnjokkfoaa
