import Derived.Test.YtgbecbnjokkfoaaRow
import Derived.Test.YtgbecbnjokkfoaaGpal
import Derived.Test.YtgbecbnjokkfoaaGset
namespace Go.Proofs.Ytgbecbnjokkfoaa
set_option maxHeartbeats 1600000
set_option maxRecDepth 100000
open Go.RowKit
attribute [local go_sem ↓] Go.wp_at_zero Go.wp_at_succ

def iv (z : Int) : List Value:=[.int .i64 z]
theorem iv_one : ∀ (l : List Int),∀ r ∈ l.map iv,∀ u ∈ r,u.oneCell' = true:=fun l r hr u hu => by
 obtain ⟨t,_,rfl⟩:=List.mem_map.1 hr
 simp only [iv,List.mem_cons,List.not_mem_nil,or_false] at hu
 subst hu;rfl
theorem info_int : infoOk Try.prog 3 1 8 = true:=by kernel_rfl
theorem Sl.row1v {w : World} {A : Option Addr} {rows : List (List Value)} {i : Nat} {v0 : Value} (h : Sl w A 1 rows) (hr : rows[i]? = some [v0]) : ∃ b o,A = some ⟨b,o,none⟩ ∧ w.cell? ⟨b,o + i,none⟩ = some v0:=by
 obtain ⟨_,b,o,hA,hc⟩:=h.at_ i _ hr
 exact ⟨b,o,hA,by have:=hc 0 v0 rfl;rwa [Nat.mul_one,Nat.add_zero] at this⟩
theorem iv_app (o : List Int) (x : Int) : o.map iv ++ [iv x] = (o ++ [x]).map iv:=by simp

def scanC : List Int → List Int → Int
 | _,[] => 0
 | seen,c :: l => if c < 1 ∨ 999 < c then 2 else if c ∈ seen then 7 else scanC (seen ++ [c]) l
def groupE (n : Int) (l : List Int) : Int:=if n < 1 ∨ 1048576 < n then 2 else if 256 < l.length then 5 else scanC [] l
theorem scanC_ok : ∀ (l seen : List Int),scanC seen l = 0 → (∀ c ∈ l,1 ≤ c ∧ c ≤ 999 ∧ c ∉ seen) ∧ l.Nodup
 | [],_,_ => by simp
 | c :: l,seen,h => by
  unfold scanC at h
  split at h
  ·contradiction
  ·split at h
   ·contradiction
   ·rename_i h1 h2
    obtain ⟨h3,h4⟩:=scanC_ok l (seen ++ [c]) h
    refine ⟨fun x hx => ?_,?_⟩
    ·rcases List.mem_cons.1 hx with rfl | hx
     ·exact ⟨by omega,by omega,h2⟩
     ·have:=h3 x hx
      exact ⟨this.1,this.2.1,fun hs => this.2.2 (by simp [hs])⟩
    ·rw [List.nodup_cons]
     exact ⟨fun hc => (h3 c hc).2.2 (by simp),h4⟩
theorem groupE_ok {n : Int} {l : List Int} (h : groupE n l = 0) : (∀ c ∈ l,1 ≤ c ∧ c ≤ 999) ∧ l.Nodup:=by
 unfold groupE at h
 split at h
 ·contradiction
 ·split at h
  ·contradiction
  ·have:=scanC_ok l [] h
   exact ⟨fun c hc => ⟨(this.1 c hc).1,(this.1 c hc).2.1⟩,this.2⟩
theorem scanC_at {l : List Int} {k : Nat} {c : Int} (h : l[k]? = some c) : scanC (l.take k) (l.drop k) = if c < 1 ∨ 999 < c then 2 else if c ∈ l.take k then 7 else scanC (l.take (k + 1)) (l.drop (k + 1)):=by
 obtain ⟨h1,rfl⟩:=List.getElem?_eq_some_iff.1 h
 rw [List.drop_eq_getElem_cons h1,scanC,List.take_succ_eq_append_getElem h1]

theorem r14_occurs (A : Option Addr) (n c : Nat) (l : List Int) (hn : l.length = n) (v : Int) (w : World) (hs : Sl w A 1 (l.map iv)) (hl : n ≤ maxLen) :
  Calls Try.prog 12 #[.slice A n c,.int .i64 v] w fun e w' => e = .returned (.bool (decide (v ∈ l))) ∧ w = w':=by
 unfold maxLen at hl
 go_enter Try.func12,Try.ntmps12
 go_wp2
 go_loop [5] (fun i => ∃ k : Nat,k ≤ n ∧ i = .int .i64 k ∧ Hid (v ∉ l.take k)) (fun i => n - (intOf i).toNat)
 case atStart => exact ⟨0,by omega,rfl,Lib.hid (by simp)⟩
 case round =>
  obtain ⟨k,hk,rfl,HE⟩:=hrel
  by_cases hlt : k < n
  ·obtain ⟨m,hm⟩ : ∃ m,l[k]? = some m:=⟨_,List.getElem?_eq_getElem (by omega)⟩
   obtain ⟨b,o,rfl,hc0⟩:=hs.row1v (i:=k) (by rw [List.getElem?_map,hm];rfl)
   have HM:=Lib.hid hm
   have hb0 : (0 : Int) ≤ (k : Int):=by omega
   have hb1 : (k : Int) < (n : Int):=by omega
   clear hm hs
   by_cases he : m = v
   ·have hz : (m == v) = true:=by simpa using he
    have HV:=Lib.hid (show decide (v ∈ l) = true from decide_eq_true (by rw [← he];exact List.mem_of_getElem? HM.out))
    clear he
    go_wp2
    go_ret
    rw [HV.out]
    exact ⟨rfl,rfl⟩
   ·have hz : (m == v) = false:=by simpa using he
    have HK:=Lib.hid (show v ∉ l.take (k + 1) by
     obtain ⟨h1,h2⟩:=List.getElem?_eq_some_iff.1 HM.out
     rw [List.take_succ_eq_append_getElem h1,List.mem_append,h2]
     intro h
     rcases h with h | h
     ·exact HE.out h
     ·simp at h;exact he h.symm)
    clear he
    go_wp2
    go_light
    exact ⟨⟨k + 1,by omega,by go_num,HK⟩,by simp [intOf];omega⟩
  ·have HV:=Lib.hid (show decide (v ∈ l) = false from decide_eq_false (by have:=HE.out;rwa [List.take_of_length_le (by omega)] at this))
   go_wp2
   go_ret
   rw [HV.out]
   exact ⟨rfl,rfl⟩

theorem r14_occurs_as (A : Option Addr) (n c : Nat) (l : List Int) (hn : l.length = n) (v : Int) {d : Bool} (hd : decide (v ∈ l) = d) (w : World) (hs : Sl w A 1 (l.map iv)) (hl : n ≤ maxLen) :
  Calls Try.prog 12 #[.slice A n c,.int .i64 v] w fun e w' => e = .returned (.bool d) ∧ w = w':=by
 subst hd;exact r14_occurs A n c l hn v w hs hl
theorem r14_Check (n : Int) (A : Option Addr) (c : Nat) (l : List Int) (w : World) (hs : Sl w A 1 (l.map iv)) (hl : l.length ≤ c) (hc : c ≤ maxLen) :
  Calls Try.prog 4 #[.agg #[.int .i64 n,.slice A l.length c]] w fun e w' => e = .returned (.int .i64 (groupE n l)) ∧ Ext w w':=by
 unfold maxLen at hc
 by_cases hn : n < 1 ∨ 1048576 < n
 ·have HV:=Lib.hid (show groupE n l = 2 by unfold groupE;rw [if_pos hn])
  rcases hn with hn | hn
  ·go_enter Try.func4,Try.ntmps4
   go_wp2
   go_ret
   rw [HV.out]
   exact ⟨rfl,ex⟩
  ·have hn2 : ¬ n < 1:=by omega
   go_enter Try.func4,Try.ntmps4
   go_wp2
   go_ret
   rw [HV.out]
   exact ⟨rfl,ex⟩
 have hn1 : 1 ≤ n:=by omega
 have hn2 : n ≤ 1048576:=by omega
 have HN:=Lib.hid hn
 clear hn
 by_cases h256 : 256 < l.length
 ·have HV:=Lib.hid (show groupE n l = 5 by unfold groupE;rw [if_neg HN.out,if_pos h256])
  go_enter Try.func4,Try.ntmps4
  go_wp2
  go_ret
  rw [HV.out]
  exact ⟨rfl,ex⟩
 have h0 : (0 : Int) ≤ l.length:=by omega
 have HM:=Lib.hid (show groupE n l = scanC (l.take 0) (l.drop 0) by unfold groupE;rw [if_neg HN.out,if_neg h256];rfl)
 go_enter Try.func4,Try.ntmps4
 go_wp2
 go_loopw [3] (fun i wr => ∃ k : Nat,k ≤ l.length ∧ i = .int .i64 k ∧ Ext (w.alloc (.cells #[.int .i64 n,.slice A l.length c] 24)) wr ∧ Hid (groupE n l = scanC (l.take k) (l.drop k))) (fun i _ => l.length - (intOf i).toNat)
 case atStart => exact ⟨0,by omega,rfl,ex,HM⟩
 case round =>
  obtain ⟨k,hk,rfl,hx,HE⟩:=hrel
  obtain ⟨y,rfl⟩:=hx.get
  clear hx HM
  by_cases hlt : k < l.length
  ·obtain ⟨m,hm⟩ : ∃ m,l[k]? = some m:=⟨_,List.getElem?_eq_getElem hlt⟩
   have HSL:=Lib.hid hs
   obtain ⟨b,o,rfl,hc0⟩:=hs.row1v (i:=k) (by rw [List.getElem?_map,hm];rfl)
   have HS:=Lib.hid (HE.out.trans (scanC_at hm))
   have hb0 : (0 : Int) ≤ (k : Int):=by omega
   have hb1 : (k : Int) < (l.length : Int):=by omega
   have hb2 : (k : Int) ≤ (c : Int):=by omega
   have HTL:=Lib.hid (show (l.take k).length = k by rw [List.length_take];omega)
   clear HE hm hs
   by_cases hr : m < 1 ∨ 999 < m
   ·have HV:=Lib.hid (show groupE n l = 2 by rw [HS.out,if_pos hr])
    rcases hr with hr | hr
    ·go_wp2
     go_ret
     rw [HV.out]
     exact ⟨rfl,ex⟩
    ·have hr2 : ¬ m < 1:=by omega
     go_wp2
     go_ret
     rw [HV.out]
     exact ⟨rfl,ex⟩
   ·have hr1 : 1 ≤ m:=by omega
    have hr2 : m ≤ 999:=by omega
    have HR:=Lib.hid hr
    clear hr
    have HST:=Lib.hid (fun (V : World) (h : Sl V (some ⟨b,o,none⟩) 1 (l.map iv)) => show Sl V (some ⟨b,o,none⟩) 1 ((l.take k).map iv) from ⟨fun i row hr => h.at_ i row (by
     rw [List.getElem?_map] at hr ⊢
     rw [List.getElem?_take] at hr
     split at hr
     ·exact hr
     ·simp at hr)⟩)
    cases hd : decide (m ∈ l.take k)
    ·have HV:=Lib.hid (show groupE n l = scanC (l.take (k + 1)) (l.drop (k + 1)) by rw [HS.out,if_neg HR.out,if_neg (of_decide_eq_false hd)])
     have HD:=Lib.hid hd
     clear hd
     go_wp2
     (refine wp_region_grows (by kernel_rfl) (by kernel_rfl) ?_;(repeat (go_big_quiet_step ((go_at_call 12;exact Calls.grows_same (r14_occurs_as _ k _ (l.take k) HTL.out m HD.out _ (HST.out _ (HSL.out.mono (ex))) (by unfold maxLen;omega))))));refine wpQuiet_nil ?_;rintro _ ⟨y,rfl⟩)
     go_wp2
     go_light
     exact ⟨⟨k + 1,by omega,by go_num,ex,HV⟩,by simp [intOf];omega⟩
    ·have HV:=Lib.hid (show groupE n l = 7 by rw [HS.out,if_neg HR.out,if_pos (of_decide_eq_true hd)])
     have HD:=Lib.hid hd
     clear hd
     go_wp2
     (refine wp_region_grows (by kernel_rfl) (by kernel_rfl) ?_;(repeat (go_big_quiet_step ((go_at_call 12;exact Calls.grows_same (r14_occurs_as _ k _ (l.take k) HTL.out m HD.out _ (HST.out _ (HSL.out.mono (ex))) (by unfold maxLen;omega))))));refine wpQuiet_nil ?_;rintro _ ⟨y,rfl⟩)
     go_wp2
     go_ret
     rw [HV.out]
     exact ⟨rfl,ex⟩
  ·have HV:=Lib.hid (show groupE n l = 0 by rw [HE.out,List.drop_eq_nil_of_le (by omega)];rfl)
   go_wp2
   go_ret
   rw [HV.out]
   exact ⟨rfl,ex⟩

theorem mul_in {a k A K : Int} (h1 : -A ≤ a) (h2 : a ≤ A) (h3 : 0 ≤ k) (h4 : k ≤ K) (hA : 0 ≤ A) : -(A * K) ≤ a * k ∧ a * k ≤ A * K:=by
 have e1:=Int.mul_le_mul_of_nonneg_right h1 h3
 have e2:=Int.mul_le_mul_of_nonneg_right h2 h3
 have e3:=Int.mul_le_mul_of_nonneg_left h4 hA
 rw [Int.neg_mul] at e1
 omega
theorem fan_in {a b k W u : Int} (ha : 0 ≤ a) (ha2 : a ≤ 65535) (hb : 0 ≤ b) (hb2 : b ≤ 65535) (hk : 0 ≤ k) (hkW : k ≤ W) (hW : 1 ≤ W) (hu : u = 2 * (b - a) * k + W) {f : Int} (h1 : 2 * W * f ≤ u) (h2 : u < 2 * W * f + 2 * W) : 0 ≤ a + f ∧ a + f ≤ 65535:=by
 have e0 : 2 * (b - a) * k = 2 * ((b - a) * k):=by rw [Int.mul_assoc]
 have e1 : 2 * W * f = 2 * (W * f):=by rw [Int.mul_assoc]
 rw [e0] at hu
 rw [e1] at h1 h2
 have hW0 : 0 ≤ W:=by omega
 rcases Int.le_total a b with h | h
 ·have p1 : 0 ≤ (b - a) * k:=Int.mul_nonneg (by omega) hk
  have p2 : (b - a) * k ≤ (b - a) * W:=Int.mul_le_mul_of_nonneg_left hkW (by omega)
  rw [Int.mul_comm (b - a) W] at p2
  have f0 : 0 ≤ f:=by
   by_cases h3 : f < 0
   ·have:=Int.mul_le_mul_of_nonneg_left (show f ≤ -1 by omega) hW0
    rw [show W * -1 = -W by omega] at this
    omega
   ·omega
  have f1 : f ≤ b - a:=by
   by_cases h3 : (b - a) < f
   ·have:=Int.mul_le_mul_of_nonneg_left (show b - a + 1 ≤ f by omega) hW0
    rw [Int.mul_add,Int.mul_one] at this
    omega
   ·omega
  omega
 ·have p1 : (b - a) * k ≤ 0:=Int.mul_nonpos_of_nonpos_of_nonneg (by omega) hk
  have p2 : (b - a) * W ≤ (b - a) * k:=by
   have:=Int.mul_le_mul_of_nonneg_left hkW (show 0 ≤ a - b by omega)
   rw [show b - a = -(a - b) by omega,Int.neg_mul,Int.neg_mul]
   omega
  rw [Int.mul_comm (b - a) W] at p2
  have f0 : f ≤ 0:=by
   by_cases h3 : 0 < f
   ·have:=Int.mul_le_mul_of_nonneg_left (show 1 ≤ f by omega) hW0
    rw [Int.mul_one] at this
    omega
   ·omega
  have f1 : b - a ≤ f:=by
   by_cases h3 : f < (b - a)
   ·have:=Int.mul_le_mul_of_nonneg_left (show f ≤ b - a - 1 by omega) hW0
    rw [Int.mul_sub,Int.mul_one] at this
    omega
   ·omega
  omega
theorem fan_go {a b k W u : Int} (ha : 0 ≤ a) (ha2 : a ≤ 65535) (hb : 0 ≤ b) (hb2 : b ≤ 65535) (hk : 0 ≤ k) (hkW : k ≤ W) (hW : 1 ≤ W) (hu : u = 2 * (b - a) * k + W) :
  (u.tmod (2 * W) < 0 → 0 ≤ a + u.tdiv (2 * W) - 1 ∧ a + u.tdiv (2 * W) - 1 ≤ 65535) ∧ (¬ u.tmod (2 * W) < 0 → 0 ≤ a + u.tdiv (2 * W) ∧ a + u.tdiv (2 * W) ≤ 65535):=by
 have e:=Int.mul_tdiv_add_tmod u (2 * W)
 have hlt : u.tmod (2 * W) < 2 * W:=Int.tmod_lt_of_pos _ (by omega)
 have hgt : -(2 * W) < u.tmod (2 * W):=by
  have:=Int.tmod_lt_of_pos (-u) (show 0 < 2 * W by omega)
  rw [Int.neg_tmod] at this
  omega
 constructor
 ·intro h
  have:=fan_in ha ha2 hb hb2 hk hkW hW hu (f:=u.tdiv (2 * W) - 1) (by rw [Int.mul_sub,Int.mul_one];omega) (by rw [Int.mul_sub,Int.mul_one];omega)
  omega
 ·intro h
  exact fan_in ha ha2 hb hb2 hk hkW hW hu (f:=u.tdiv (2 * W)) (by omega) (by omega)
end Go.Proofs.Ytgbecbnjokkfoaa
