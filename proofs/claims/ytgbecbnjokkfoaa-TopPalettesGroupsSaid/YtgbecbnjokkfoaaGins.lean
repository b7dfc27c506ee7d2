import Derived.Test.YtgbecbnjokkfoaaOwn
import Derived.Lib.AppendZeros
import Derived.Test.YtgbecbnjokkfoaaGset
import Derived.Lib.Overlaps
import Derived.Laws.Externs
set_option maxHeartbeats 1600000
set_option maxRecDepth 100000
namespace Go.Proofs.Ytgbecbnjokkfoaa
open Go.RowKit

section
variable {P : Program} {W : World}
theorem run_copy_blk (dT sT ty E : TypeId) (i : TypeInfo) (size : Nat) (hu : P.underlying dT = some (.slice E)) (hi : P.info? E = some i) (hsize : i.size = size) (g off dLen dCap sLen sCap : Nat) (cur : Array Value) (T : TypeId)
  (hg : W.heap[g]? = some (.cells cur T (0,0))) (a : Addr) (cs : List Value) (cnt : Nat) (hcl : cs.length = cnt * size) (hle : Nat.min sLen dLen = cnt) (hsrc : ∀ j v,cs[j]? = some v → W.cell? (a.add j) = some v) (hfit : off + cs.length ≤ cur.size) (h1 : ∀ v ∈ cs,v.oneCell' = true) :
  (Builtin.copy_ #[dT,sT] ty #[.slice (some ⟨g,off,none⟩) dLen dCap,.slice (some a) sLen sCap]).run P W =
   .ok (goInt cnt) (W.setRow g (cur.toList.take off ++ cs ++ cur.toList.drop (off + cs.length)).toArray):=by
 subst hsize
 have hl:=run_firstCells_some (P:=P) W i.size cnt a sLen sCap cs hcl hsrc
 have hst:=run_storeCells_at P g off T cs 0 cur W hg (by simpa using hfit) h1
 simp only [Nat.add_zero] at hst
 simp [Builtin.copy_,run_underlying hu,Builtin.lenOf,sizeOf,typeInfo,hi,hle,hl,hst]

theorem wp_copy_blk {o : Oper} {a : Act} {K : Act → World → Prop} {Q : Exit → Act → World → Prop} (d s : Operand) (dT sT : TypeId) (ho : o.op = .call { callee:=.builtin .copy,args:=#[d,s],argTypes:=#[dT,sT] })
  (E : TypeId) (size bytes : Nat) (hu : P.underlying dT = some (.slice E)) (hI : infoOk P E size bytes = true) (hpos : 0 < size) (g off dLen dCap sLen sCap : Nat) (S : Option Addr) (hd : a.eval d = .slice (some ⟨g,off,none⟩) dLen dCap) (hs : a.eval s = .slice S sLen sCap)
  (cur : Array Value) (T : TypeId) (hg : W.heap[g]? = some (.cells cur T (0,0))) (rows : List (List Value)) (hsl : Sl W S size rows) (cnt : Nat) (hlen : rows.length = cnt) (hs0 : 0 < cnt) (h1 : ∀ r ∈ rows,∀ u ∈ r,u.oneCell' = true) (hle : Nat.min sLen dLen = cnt) (hfit : off + cnt * size ≤ cur.size)
  {w0 : World} (hx : Ext w0 W) (hg0 : w0.heap.size ≤ g) (h : ∀ w',Ext w0 w' → Hid (w'.heap[g]? = some (.cells (cur.toList.take off ++ rows.flatten ++ cur.toList.drop (off + cnt * size)).toArray T (0,0))) → W.grownBy w' (some g) → K (a.put o.dst (goInt cnt)) w') : o.wp P a W K Q:=by
 obtain ⟨i,z,e1,_,e3,_,_⟩:=infoOk_get hI
 have hfl:=flat_len rows (sl_row hsl)
 rw [hlen] at hfl
 have hsrc:=src_rows (P:=P) (tx:=dT) (c:=sCap) hu hsl hlen h1 hpos
 cases S with
 | none =>
  have:=hsl.at_ 0 _ (List.getElem?_eq_getElem (show 0 < rows.length by omega))
  obtain ⟨_,_,_,h2,_⟩:=this
  cases h2
 | some ad =>
  have hcell : ∀ j v,rows.flatten[j]? = some v → W.cell? (ad.add j) = some v:=by
   intro j v hv
   have hj : j < cnt * size:=by rw [← hfl];exact (List.getElem?_eq_some_iff.1 hv).1
   have hdm : j / size * size + j % size = j:=by rw [Nat.mul_comm];exact Nat.div_add_mod j size
   have hi : j / size < rows.length:=by rw [hlen];exact (Nat.div_lt_iff_lt_mul hpos).2 hj
   have hrr:=List.getElem?_eq_getElem hi
   obtain ⟨hl,b,o,ha,hc⟩:=hsl.at_ (j / size) _ hrr
   injection ha with ha
   subst ha
   have hf:=flat_get rows (sl_row hsl) (j / size) _ hrr (j % size) (Nat.mod_lt _ hpos)
   rw [hdm,hv] at hf
   have:=hc (j % size) v hf.symm
   rw [Nat.add_assoc,hdm] at this
   unfold Addr.add
   split
   ·subst_vars;simpa using this
   ·exact this
  have hr:=run_copy_blk (P:=P) (W:=W) dT sT o.type E i size hu e1 e3 g off dLen dCap sLen sCap cur T hg ad rows.flatten cnt hfl hle hcell (by rw [hfl];exact hfit) hsrc.one
  unfold Oper.wp execOp
  simp only [ho,resolve,invoke,builtin,Sem.run_bind,Sem.run_pure,Result.andThen_ok,List.map_toArray,List.map_cons,List.map_nil,hd,hs,hr]
  rw [hfl]
  exact h _ (below_setRow hx hg0 _) (Lib.hid (setRow_heap W g cur _ T _ hg)) ⟨rfl,rfl,rfl,by simp [World.setRow],fun j _ hne => setRow_other W g j _ (fun e => hne (by rw [e]))⟩
theorem wpList_copy_blk {ops : Array Oper} {rest : List Oper} {o : Oper} {a : Act} {Q : Exit → Act → World → Prop} (hgd : o.guard = none) (d s : Operand) (dT sT : TypeId) (ho : o.op = .call { callee:=.builtin .copy,args:=#[d,s],argTypes:=#[dT,sT] })
  (E : TypeId) (size bytes : Nat) (hu : P.underlying dT = some (.slice E)) (hI : infoOk P E size bytes = true) (hpos : 0 < size) (g off dLen dCap sLen sCap : Nat) (S : Option Addr) (hd : a.eval d = .slice (some ⟨g,off,none⟩) dLen dCap) (hs : a.eval s = .slice S sLen sCap)
  (cur : Array Value) (T : TypeId) (hg : W.heap[g]? = some (.cells cur T (0,0))) (rows : List (List Value)) (hsl : Sl W S size rows) (cnt : Nat) (hlen : rows.length = cnt) (hs0 : 0 < cnt) (h1 : ∀ r ∈ rows,∀ u ∈ r,u.oneCell' = true) (hle : Nat.min sLen dLen = cnt) (hfit : off + cnt * size ≤ cur.size)
  {w0 : World} (hx : Ext w0 W) (hg0 : w0.heap.size ≤ g) (h : ∀ w',Ext w0 w' → Hid (w'.heap[g]? = some (.cells (cur.toList.take off ++ rows.flatten ++ cur.toList.drop (off + cnt * size)).toArray T (0,0))) → W.grownBy w' (some g) → wpList P ops Q rest (a.put o.dst (goInt cnt)) w') : wpList P ops Q (o :: rest) a W :=
 wpList_plain hgd fun _ hK => wp_copy_blk d s dT sT ho E size bytes hu hI hpos g off dLen dCap sLen sCap S hd hs cur T hg rows hsl cnt hlen hs0 h1 hle hfit hx hg0 fun w' a1 a2 a3 => hK _ _ (h w' a1 a2 a3)

theorem step_copy_blk {ops : Array Oper} {o : Oper} {a : Act} {K : Act → World → Prop} {Q : Exit → Act → World → Prop} {F : Prop} (hgd : o.guard = none) (d s : Operand) (dT sT : TypeId) (ho : o.op = .call { callee:=.builtin .copy,args:=#[d,s],argTypes:=#[dT,sT] })
  (E : TypeId) (size bytes : Nat) (hu : P.underlying dT = some (.slice E)) (hI : infoOk P E size bytes = true) (hpos : 0 < size) (g off dLen dCap sLen sCap : Nat) (S : Option Addr) (hd : a.eval d = .slice (some ⟨g,off,none⟩) dLen dCap) (hs : a.eval s = .slice S sLen sCap)
  (cur : Array Value) (T : TypeId) (hg : W.heap[g]? = some (.cells cur T (0,0))) (rows : List (List Value)) (hsl : Sl W S size rows) (cnt : Nat) (hlen : rows.length = cnt) (hs0 : 0 < cnt) (h1 : ∀ r ∈ rows,∀ u ∈ r,u.oneCell' = true) (hle : Nat.min sLen dLen = cnt) (hfit : off + cnt * size ≤ cur.size)
  {w0 : World} (hx : Ext w0 W) (hg0 : w0.heap.size ≤ g) (h : ∀ w',Ext w0 w' → Hid (w'.heap[g]? = some (.cells (cur.toList.take off ++ rows.flatten ++ cur.toList.drop (off + cnt * size)).toArray T (0,0))) → W.grownBy w' (some g) → K (a.put o.dst (goInt cnt)) w') :
  if Region.wanted o (yielded ops a.tmps) = true then Oper.wp P o a W K Q else F:=by
 have hw : Region.wanted o (yielded ops a.tmps) = true:=by simp [Region.wanted,hgd]
 rw [if_pos hw]
 exact wp_copy_blk d s dT sT ho E size bytes hu hI hpos g off dLen dCap sLen sCap S hd hs cur T hg rows hsl cnt hlen hs0 h1 hle hfit hx hg0 h

theorem run_append_zeros (t tn ty E : TypeId) (i : TypeInfo) (z : Value) (kn : IntKind) (ht : P.underlying t = some (.slice E)) (htn : P.underlying tn = some (.int kn)) (hi : P.info? E = some i) (hz : i.zero = some z) (hs : 0 < i.size)
  (b : Addr) (n k m : Nat) (olds : List Value) (hlo : olds.length = n * i.size) (holds : ∀ j v,olds[j]? = some v → W.cell? (b.add j) = some v) (hm : 0 < m) (hk : k < n + m) (h63 : (n + m : Int) ≤ 9223372036854775807) (h48 : (n + m) * i.bytes ≤ 140737488355328) :
  (Builtin.append_ #[t,tn] ty #[.slice (some b) n k,.int .i64 (m : Int)]).run P W =
   .ok (.slice (some ⟨W.heap.size,0,none⟩) (n + m) (grownCap W (n + m) k E)) (W.drew.alloc (.cells (olds.toArray ++ Builtin.zeroCells z.cells m ++ Builtin.zeroCells z.cells (grownCap W (n + m) k E - (n + m))) E)):=by
 have hw : IntKind.i64.wrap (m : Int) = m:=by rw [IntKind.wrap_i64];omega
 have hn : ¬ (n + m ≤ k):=by omega
 have h63' : ¬ (9223372036854775807 < ((n : Int) + (m : Int))):=by omega
 have hfit : Builtin.nextslicecap (n + m) k * i.bytes ≤ 281474976710656:=growslice_fits (by omega) h48
 have h48' : ¬ (281474976710656 < Builtin.nextslicecap (n + m) k * i.bytes):=by omega
 have hmb : m * i.bytes ≤ (n + m) * i.bytes:=Nat.mul_le_mul_right _ (by omega)
 have h48i : ¬ (281474976710656 < (m : Int) * (i.bytes : Int)):=by
  have : ((m * i.bytes : Nat) : Int) ≤ 140737488355328:=by omega
  rw [Int.natCast_mul] at this;omega
 have hms : ¬ (m * i.size = 0):=by
  intro h;rcases Nat.mul_eq_zero.1 h with h | h <;> omega
 have hm0 : ¬ (m = 0):=by omega
 have hs0 : ¬ (i.size = 0):=by omega
 have hneg : ¬ ((m : Int) < 0):=by omega
 have hfo:=run_firstCells_some (P:=P) W.drew i.size n b n k olds hlo (by simpa using holds)
 simp [Builtin.append_,run_underlying ht,run_underlying htn,sizeOf,typeInfo,zeroValue,hi,hz,asInt,asIntOf,hw,hn,h63',h48',h48i,hneg,hms,Question.forced,hfo,newRow,grownCap]
end
end Go.Proofs.Ytgbecbnjokkfoaa

namespace Go.Proofs.Ytgbecbnjokkfoaa
open Go.RowKit
attribute [local go_sem ↓] Go.wp_at_zero Go.wp_at_succ

theorem Sl.dropped {w : World} {b o size : Nat} {rows : List (List Value)} (h : Sl w (some ⟨b,o,none⟩) size rows) (i : Nat) : Sl w (some ⟨b,o + i * size,none⟩) size (rows.drop i) :=
 ⟨fun j row hr => by
  rw [List.getElem?_drop] at hr
  obtain ⟨h1,b',o',h2,h3⟩:=h.at_ (i + j) row hr
  injection h2 with h2
  injection h2 with h2 h4
  subst h2 h4
  refine ⟨h1,b,o + i * size,rfl,fun q v hv => ?_⟩
  have:=h3 q v hv
  rwa [show o + (i + j) * size + q = o + i * size + j * size + q by rw [Nat.add_mul];omega] at this⟩
theorem Sl.block {w : World} {b : Nat} {E : TypeId} {size : Nat} {row : List Value} (hb : w.heap[b]? = some (.cells row.toArray E (0,0))) (h : row.length = size) : Sl w (some ⟨b,0,none⟩) size [row] :=
 ⟨fun i r hr => by
  cases i with
  | zero =>
   simp at hr
   subst hr
   exact ⟨h,b,0,rfl,fun j v hv => by simp [World.cell?,hb,hv]⟩
  | succ i => simp at hr⟩
def insAt (l : List Move) (i : Nat) (x : Move) : List Move:=l.take i ++ x :: l.drop i
theorem insAt_len (l : List Move) (i : Nat) (x : Move) : (insAt l i x).length = l.length + 1:=by
 simp [insAt];omega
def RetIns (w0 w : World) (A : Option Addr) (rows : List (List Value)) (n : Nat) (e : Ending) (w' : World) : Prop :=
 ∃ A' k',e = .returned (.slice A' n k') ∧ Ext w0 w' ∧ Own w0 w' 60 5 A' n k' rows ∧ w.grownBy w' (A.map (·.block))

theorem Insert_end (w0 : World) (A : Option Addr) (k : Nat) (l : List Move) (x : Move) (b : Nat) (w : World) (hx : Ext w0 w) (ho : Own w0 w 60 5 A l.length k (l.map mv)) (hl : l.length ≤ 100000)
  (hb : w.heap[b]? = some (.cells (mv x).toArray 60 (0,0))) :
  Calls Try.prog 49 #[.slice A l.length k,.int .i64 l.length,.slice (some ⟨b,0,none⟩) 1 1] w (RetIns w0 w A ((insAt l l.length x).map mv) (l.length + 1)):=by
 have hle:=ho.le
 have hcap:=ho.cap
 unfold maxLen at hcap
 have hb0 : (0 : Int) ≤ (l.length : Int):=by omega
 have hb1 : (l.length : Int) ≤ (k : Int):=by omega
 have HB:=Lib.hid hb
 have HX:=Lib.hid hx
 have HO:=Lib.hid ho
 have HR:=Lib.hid (show (insAt l l.length x).map mv = l.map mv ++ [mv x] by simp [insAt])
 clear hb hx ho
 by_cases hk : l.length = k
 ·subst hk
  go_enter Try.func49,Try.ntmps49
  go_wp2_with (at_builtin;refine wpList_append_mine (w0:=w0) rfl _ _ 49 49 rfl 60 60 5 40 Try.underlying49 Try.underlying49 info_M (by decide) HX.out A l.length l.length (l.map mv) rfl HO.out (some ⟨b,0,none⟩) 1 1 [mv x] rfl (Sl.block HB.out rfl) rfl (mv_one [x]) (by unfold maxLen;omega) (by omega) (l.length + 1) rfl (l.map mv ++ [mv x]) rfl ?_;intro D n' w1 hx1 hown hg hA;have HS:=Lib.hid (And.intro hx1 (And.intro hown hg));clear hx1 hown hg hA)
  go_ret
  rw [HR.out]
  exact ⟨_,_,rfl,HS.out.1,HS.out.2.1,HS.out.2.2⟩
 ·go_enter Try.func49,Try.ntmps49
  go_wp2_with (at_builtin;refine wpList_append_mine (w0:=w0) rfl _ _ 49 49 rfl 60 60 5 40 Try.underlying49 Try.underlying49 info_M (by decide) HX.out A l.length k (l.map mv) rfl HO.out (some ⟨b,0,none⟩) 1 1 [mv x] rfl (Sl.block HB.out rfl) rfl (mv_one [x]) (by unfold maxLen;omega) (by omega) (l.length + 1) rfl (l.map mv ++ [mv x]) rfl ?_;intro D n' w1 hx1 hown hg hA;have HS:=Lib.hid (And.intro hx1 (And.intro hown hg));clear hx1 hown hg hA)
  go_ret
  rw [HR.out]
  exact ⟨_,_,rfl,HS.out.1,HS.out.2.1,HS.out.2.2⟩

theorem overlaps_M (w : World) (b g off la c n k kB : Nat) (hne : b ≠ g) (tA tB : TypeId) (kA : Nat) (hsa : w.shape? b = some (tA,kA)) (hsb : w.shape? g = some (tB,kB)) (hkB : kB ≠ 0) (hfa : w.frozen? ⟨b,0,none⟩ = false) (hfe : w.frozen? ⟨b,kA,none⟩ = false) :
  (callFunc 70 #[.slice (some ⟨b,0,none⟩) la c,.slice (some ⟨g,off,none⟩) n k]).run Try.prog w = .ok (.value (.bool false)) w:=by
 rw [run_callFunc_extern Try.func70 (by kernel_rfl) (by kernel_rfl) (by kernel_rfl) (e:=Extern.SlicesOverlaps.overlaps #[49,49] #[4]) (by kernel_rfl),
  Lib.run_overlaps_apart w 49 4 60 Try.underlying49 5 (fun _ => by kernel_rfl) ⟨b,0,none⟩ ⟨g,off,none⟩ la c n k hne tA tB kA kB hsa hsb hkB hfa hfe]
 rfl

theorem mid_splice {α : Type} (cur : List α) (a b x : List α) (i n s : Nat) (_ha : a.length = i) (hb : b.length = n) (hx : x.length = s) (hc : cur.take i = a) (hl : i + n + s ≤ cur.length) :
  ((cur.take (i + s) ++ b ++ cur.drop (i + s + n)).take i ++ x ++ (cur.take (i + s) ++ b ++ cur.drop (i + s + n)).drop (i + s)) = a ++ x ++ b ++ cur.drop (i + s + n):=by
 have h1 : (cur.take (i + s)).length = i + s:=by rw [List.length_take];omega
 rw [List.append_assoc (cur.take (i + s)) b,List.take_append_of_le_length (by omega),List.take_take,Nat.min_eq_left (by omega),hc,List.drop_append_of_le_length (by omega),List.drop_of_length_le (by omega)]
 simp [List.append_assoc]

theorem mid_splice2 {α : Type} (cur : List α) (a b x : List α) (i n s : Nat) (ha : a.length = i) (hx : x.length = s) (hc : cur.take i = a) (_hl : i + n + s ≤ cur.length) :
  ((cur.take i ++ x ++ cur.drop (i + s)).take (i + s) ++ b ++ (cur.take i ++ x ++ cur.drop (i + s)).drop (i + s + n)) = a ++ x ++ b ++ cur.drop (i + s + n):=by
 have h1 : (a ++ x).length = i + s:=by rw [List.length_append];omega
 rw [hc,List.take_append_of_le_length (by omega),List.take_of_length_le (by omega),List.drop_append,List.drop_eq_nil_of_le (by omega),List.nil_append,h1,List.drop_drop]
 congr 2
 omega
theorem mv_len (l : List Move) : ∀ r ∈ l.map mv,r.length = 5:=fun r hr => by
 obtain ⟨m,_,rfl⟩:=List.mem_map.1 hr;rfl
theorem flat_take {α : Type} {size : Nat} : ∀ (rows : List (List α)) (_ : ∀ r ∈ rows,r.length = size) (i : Nat),rows.flatten.take (i * size) = (rows.take i).flatten
 | [],_,i => by simp
 | r :: rs,h,0 => by simp
 | r :: rs,h,i + 1 => by
  have hl:=h r (by simp)
  rw [List.flatten_cons,List.take_succ_cons,List.flatten_cons,← flat_take rs (fun x hx => h x (by simp [hx])) i,Nat.succ_mul,List.take_append,hl,List.take_of_length_le (by omega)]
  congr 2
  omega
theorem ins_take (cur : List Value) (l : List Move) (i n : Nat) (_hn : l.length = n) (ht : cur.take (n * 5) = (l.map mv).flatten) (hi : i ≤ n) : cur.take (i * 5) = ((l.take i).map mv).flatten:=by
 have:=congrArg (List.take (i * 5)) ht
 rw [List.take_take,Nat.min_eq_left (Nat.mul_le_mul_right 5 hi),flat_take _ (mv_len l)] at this
 rw [this,List.map_take]
theorem ins_all (l : List Move) (i : Nat) (x : Move) : ((insAt l i x).map mv).flatten = ((l.take i).map mv).flatten ++ mv x ++ ((l.map mv).drop i).flatten:=by
 unfold insAt
 rw [List.map_append,List.flatten_append,List.map_cons,List.flatten_cons,List.map_drop]
 simp [List.append_assoc]
theorem ins_fin (fin cur : List Value) (l : List Move) (i k : Nat) (x : Move) (hi : i ≤ l.length) (hk : l.length + 1 ≤ k) (hc : cur.length = k * 5) (hf : fin = ((l.take i).map mv).flatten ++ mv x ++ ((l.map mv).drop i).flatten ++ cur.drop (i * 5 + 5 + (l.length - i) * 5)) :
  fin.length = k * 5 ∧ fin.take ((l.length + 1) * 5) = ((insAt l i x).map mv).flatten:=by
 have h1 : (((l.take i).map mv).flatten ++ mv x ++ ((l.map mv).drop i).flatten).length = (l.length + 1) * 5:=by
  rw [← ins_all,flat_len _ (mv_len _),List.length_map,insAt_len]
 subst hf
 constructor
 ·rw [List.length_append,h1,List.length_drop,hc]
  have : (l.length + 1) * 5 ≤ k * 5:=Nat.mul_le_mul_right 5 hk
  omega
 ·rw [List.take_append_of_le_length (by omega),List.take_of_length_le (by omega),ins_all]
theorem grown_trans' {a b c : World} {row : Option Nat} (h : a.grownBy b row) (k : b.grownBy c row) : a.grownBy c row :=
 ⟨k.os.trans h.os,k.tape.trans h.tape,k.output.trans h.output,Nat.le_trans h.size k.size,fun j hj hne => (k.block j (Nat.lt_of_lt_of_le hj h.size) hne).trans (h.block j hj hne)⟩

theorem Insert_room (w0 : World) (A : Option Addr) (k : Nat) (l : List Move) (i : Nat) (x : Move) (b : Nat) (w : World) (hx : Ext w0 w) (ho : Own w0 w 60 5 A l.length k (l.map mv)) (hl : l.length ≤ 100000) (hi : i < l.length) (hk : l.length + 1 ≤ k)
  (hb : w.heap[b]? = some (.cells (mv x).toArray 60 (0,0))) (hne : ∀ a,A = some a → a.block ≠ b) :
  Calls Try.prog 49 #[.slice A l.length k,.int .i64 i,.slice (some ⟨b,0,none⟩) 1 1] w (RetIns w0 w A ((insAt l i x).map mv) (l.length + 1)):=by
 have hcap:=ho.cap
 unfold maxLen at hcap
 rcases ho.at_ with h0 | ⟨g,cur,rfl,hg,hbk,hcs,htk⟩
 ·omega
 have hgb : b ≠ g:=Ne.symm (hne _ rfl)
 have hov : ∀ (off n c : Nat) (W : World),W = w → (callFunc 70 #[.slice (some ⟨b,0,none⟩) 1 1,.slice (some ⟨g,off,none⟩) n c]).run Try.prog W = .ok (.value (.bool false)) W:=fun off n c W hW => by
  subst hW
  refine overlaps_M _ b g off 1 1 n c cur.size hgb 60 60 5 ?_ ?_ ?_ ?_ ?_
  ·simp [World.shape?,hb,mv]
  ·simp [World.shape?,hbk]
  ·rw [hcs];omega
  ·simp [World.frozen?,hb]
  ·simp [World.frozen?,hb]
 have hb0 : (0 : Int) ≤ (i : Int):=by omega
 have hb1 : (i : Int) ≤ (l.length : Int):=by omega
 have hb2 : (i : Int) + 1 ≤ (l.length : Int) + 1:=by omega
 have hb3 : (l.length : Int) + 1 ≤ (k : Int):=by omega
 have hb4 : ((i : Int) == (l.length : Int)) = false:=by rw [beq_eq_false_iff_ne];omega
 have HB:=Lib.hid hb
 have HX:=Lib.hid hx
 have HO:=Lib.hid ho
 have HC:=Lib.hid (And.intro hbk (And.intro hcs (And.intro htk hgb)))
 have HV:=Lib.hid hov
 clear hb hx ho hbk hcs htk hne hgb hov
 go_enter Try.func49,Try.ntmps49
 go_wp2
 rw [HV.out _ _ _ _ rfl,Oper.upon_value]
 go_wp2
 have hsrc:=Sl.dropped (HO.out.sl) i
 rw [Nat.zero_add] at hsrc
 have hc5 : cur.size = k * 5:=HC.out.2.1
 have p1 : ((l.map mv).drop i).length = l.length - i:=by simp
 have p2 : 0 < l.length - i:=by omega
 have p3 : (i + 1) * 5 + (l.length - i) * 5 ≤ cur.size:=by omega
 have p4 : Nat.min (l.length + 1 - i) (l.length - i) = l.length - i:=Nat.min_eq_right (by omega)
 have P:=Lib.hid (And.intro p1 (And.intro p2 (And.intro p3 p4)))
 clear p1 p2 p3 p4
 have q1 : (i : Int) ≤ (l.length : Int) + 1:=by omega
 have q2 : (i : Int) < (k : Int):=by omega
 have q3 : ¬ k = i + 1:=by omega
 have q4 : ¬ k = i:=by omega
 have hw : IntKind.i64.wrap ((i : Int) + 1) = (i : Int) + 1:=IntWalk.i64_in _ (by omega)
 have hw1 : (0 : Int) ≤ (i : Int) + 1:=by omega
 have ht : ((i : Int) + 1).toNat = i + 1:=by omega
 go_region_law ((refine step_copy_blk (w0:=w0) rfl _ _ 49 49 rfl 60 5 40 Try.underlying49 info_M (by decide) g ((i + 1) * 5) (l.length - i) (k - (i + 1)) (l.length + 1 - i) (k - i) (some ⟨g,i * 5,none⟩) (by simp [Act.eval,Act.put]) (by simp [Act.eval,Act.put]) cur 60 HC.out.1 ((l.map mv).drop i) (hsrc.mono ((Ext.refl _).drew)) (l.length - i) P.out.1 P.out.2.1 (fun r hr => mv_one l r (List.mem_of_mem_drop hr)) P.out.2.2.2 P.out.2.2.1 HX.out.drew hg ?_;intro w1 hx1 hb1' hgr1;have H1:=Lib.hid (And.intro hx1 (And.intro hb1'.out hgr1));clear hx1 hb1' hgr1))
 clear hc5 hsrc hw hw1 ht
 have hB1 : w1.heap[b]? = some (.cells (mv x).toArray 60 (0,0)):=(H1.out.2.2.block b (Array.getElem?_eq_some_iff.1 HB.out).1 (by have:=HC.out.2.2.2;simpa using this)).trans HB.out
 have hS1:=Lib.hid (Sl.block (size:=5) hB1 rfl)
 clear hB1
 have hfit : i * 5 + 1 * 5 ≤ (cur.toList.take ((i + 1) * 5) ++ ((l.map mv).drop i).flatten ++ cur.toList.drop ((i + 1) * 5 + (l.length - i) * 5)).toArray.size:=by
  rw [List.size_toArray,len_splice3 _ _ _ _ (by rw [flat_len (size:=5) _ (fun r hr => HO.out.row r (List.mem_of_mem_drop hr)),P.out.1]) (by have:=P.out.2.2.1;simpa using this)]
  have:=P.out.2.2.1
  simp;omega
 have HF:=Lib.hid hfit
 clear hfit
 go_wp2_with (refine wpList_copy_blk (w0:=w0) rfl (.tmp 80) (.tmp 81) 49 49 rfl 60 5 40 Try.underlying49 info_M (by decide) g (i * 5) (l.length + 1 - i) (k - i) 1 1 (some ⟨b,0,none⟩) rfl rfl _ 60 H1.out.2.1 [mv x] hS1.out 1 rfl (by omega) (mv_one [x]) (Nat.min_eq_left (by omega)) HF.out H1.out.1 hg ?_;intro w2 hx2 hb2' hgr2;have H2:=Lib.hid (And.intro hx2 (And.intro hb2'.out hgr2));clear hx2 hb2' hgr2)
 go_ret
 have hcl : cur.toList.length = k * 5:=by simpa using HC.out.2.1
 have hfin:=mid_splice cur.toList ((l.take i).map mv).flatten ((l.map mv).drop i).flatten (mv x) (i * 5) ((l.length - i) * 5) 5 (by rw [flat_len _ (mv_len _),List.length_map,List.length_take,Nat.min_eq_left (by omega)]) (by rw [flat_len (size:=5) _ (fun r hr => HO.out.row r (List.mem_of_mem_drop hr)),P.out.1]) rfl (ins_take _ l i _ rfl HC.out.2.2.1 (by omega)) (by omega)
 have hf2:=ins_fin _ cur.toList l i k x (by omega) hk hcl rfl
 rw [← hfin] at hf2
 have hblk:=H2.out.2.1
 rw [show (i + 1) * 5 = i * 5 + 5 by omega,show [mv x].flatten = mv x by simp] at hblk
 refine ⟨_,k,rfl,H2.out.1,⟨by simp [insAt_len],mv_len _,mv_one _,hk,HO.out.cap,.inr ⟨g,_,rfl,hg,hblk,?_,?_⟩⟩,grown_trans' (⟨H1.out.2.2.os,H1.out.2.2.tape,H1.out.2.2.output,H1.out.2.2.size,H1.out.2.2.block⟩ : w.grownBy w1 (some g)) H2.out.2.2⟩
 ·rw [List.size_toArray];exact hf2.1
 ·exact hf2.2
end Go.Proofs.Ytgbecbnjokkfoaa

namespace Go.Proofs.Ytgbecbnjokkfoaa
open Go.RowKit
attribute [local go_sem ↓] Go.wp_at_zero Go.wp_at_succ

theorem Sl.kept {w w' : World} {A : Option Addr} {size : Nat} {rows : List (List Value)} {row : Option Nat} (h : Sl w A size rows) (hg : w.grownBy w' row) (hne : ∀ a,A = some a → some a.block ≠ row) : Sl w' A size rows :=
 ⟨fun i r hr => by
  obtain ⟨h1,b,o,h2,h3⟩:=h.at_ i r hr
  exact ⟨h1,b,o,h2,fun j v hv => hg.cell (h3 j v hv) (show some b ≠ row from hne _ h2)⟩⟩

theorem Insert_grow (w0 : World) (A : Option Addr) (k : Nat) (l : List Move) (i : Nat) (x : Move) (b : Nat) (w : World) (hx : Ext w0 w) (ho : Own w0 w 60 5 A l.length k (l.map mv)) (hl : l.length ≤ 100000) (hi : i < l.length) (hk : ¬ l.length + 1 ≤ k)
  (hb : w.heap[b]? = some (.cells (mv x).toArray 60 (0,0))) :
  Calls Try.prog 49 #[.slice A l.length k,.int .i64 i,.slice (some ⟨b,0,none⟩) 1 1] w (RetIns w0 w A ((insAt l i x).map mv) (l.length + 1)):=by
 have hle:=ho.le
 obtain rfl : l.length = k:=by omega
 rcases ho.at_ with h0 | ⟨g,cur,rfl,hg,hbk,hcs,htk⟩
 ·omega
 obtain ⟨I,z,e1,e2,e3,e4,e5⟩:=infoOk_get info_M
 obtain ⟨K,hK⟩ : ∃ K,K = grownCap w (l.length + 1) l.length 60:=⟨_,rfl⟩
 have hK1 : l.length + 1 ≤ K:=by rw [hK];exact grownCap_ge _ _ _ _
 have hK2 : K ≤ maxLen:=by rw [hK];exact grownCap_le_maxLen _ _ _ _ (by unfold maxLen;omega)
 obtain ⟨cur2,hcur⟩ : ∃ c2 : Array Value,c2 = ((l.take i).map mv).flatten.toArray ++ Builtin.zeroCells z.cells (l.length + 1 - i) ++ Builtin.zeroCells z.cells (K - (l.length + 1)):=⟨_,rfl⟩
 have hol : ((l.take i).map mv).flatten.length = i * 5:=by rw [flat_len _ (mv_len _),List.length_map,List.length_take,Nat.min_eq_left (by omega)]
 have hsz : cur2.size = K * 5:=by
  rw [hcur,Array.size_append,Array.size_append,size_zeroCells,size_zeroCells,List.size_toArray,hol,e5];omega
 have htk2 : cur2.toList.take (i * 5) = ((l.take i).map mv).flatten:=by
  rw [hcur,Array.toList_append,Array.toList_append,List.append_assoc,List.take_append_of_le_length (by simpa using Nat.le_of_eq hol.symm),List.take_of_length_le (by simpa using Nat.le_of_eq hol)]
 have hrun0:=run_append_zeros (P:=Try.prog) (W:=w) 49 3 49 60 I z .i64 Try.underlying49 Try.underlying3 e1 e2 (by omega) ⟨g,0,none⟩ i l.length (l.length + 1 - i) ((l.take i).map mv).flatten (by rw [hol,e3]) (fun j v hv => by
  have hj : j < i * 5:=by rw [← hol];exact (List.getElem?_eq_some_iff.1 hv).1
  have hadd : (⟨g,0,none⟩ : Addr).add j = ⟨g,j,none⟩:=by unfold Addr.add;split <;> simp_all
  rw [hadd]
  rw [← ins_take _ l i _ rfl htk (by omega),List.getElem?_take,if_pos hj] at hv
  unfold World.cell?
  simp only [hbk]
  simpa using hv) (by omega) (by omega) (by omega) (by rw [e4];omega)
 rw [show i + (l.length + 1 - i) = l.length + 1 by omega,show ((l.length + 1 - i : Nat) : Int) = (l.length : Int) + 1 - (i : Int) by omega,← hK,← hcur] at hrun0
 obtain ⟨w1,hw1⟩ : ∃ w1,w1 = w.drew.alloc (.cells cur2 60):=⟨_,rfl⟩
 rw [← hw1] at hrun0
 have hx1 : Ext w w1:=by rw [hw1];exact ((Ext.refl w).drew).alloc _
 have hN : w1.heap[w.heap.size]? = some (.cells cur2 60 (0,0)):=by rw [hw1];exact heap_alloc_new w.drew _
 have hN0 : w0.heap.size ≤ w.heap.size:=hx.size
 have hb0 : (0 : Int) ≤ (i : Int):=by omega
 have hb1 : (i : Int) ≤ (l.length : Int):=by omega
 have hb2 : (i : Int) + 1 ≤ (l.length : Int) + 1:=by omega
 have hb4 : ((i : Int) == (l.length : Int)) = false:=by rw [beq_eq_false_iff_ne];omega
 have hb5 : (i : Int) ≤ (l.length : Int) + 1:=by omega
 have hb6 : (l.length : Int) + 1 ≤ (K : Int):=by omega
 have hcb : ((w1.heap[b]?) = some (.cells (mv x).toArray 60 (0,0))):=by rw [hx1.block b (Array.getElem?_eq_some_iff.1 hb).1];exact hb
 have HS1:=Lib.hid (Sl.block (size:=5) hcb rfl)
 have hs2:=(Sl.dropped ho.sl i).mono hx1
 rw [Nat.zero_add] at hs2
 have HS2:=Lib.hid hs2
 have HG:=Lib.hid (show g ≠ w.heap.size by have:=(Array.getElem?_eq_some_iff.1 hbk).1;omega)
 have HL:=Lib.hid (show ((l.map mv).drop i).length = l.length - i by simp)
 have q3 : ¬ K = i:=by omega
 have q4 : ¬ K = i + 1:=by omega
 have q5 : ¬ l.length = i:=by omega
 have HX:=Lib.hid (hx.trans hx1)
 have HX1:=Lib.hid hx1
 have HR:=Lib.hid hrun0
 have HN:=Lib.hid hN
 have HC:=Lib.hid (And.intro hsz htk2)
 have hfit : i * 5 + 1 * 5 ≤ cur2.size:=by rw [hsz];omega
 have HF:=Lib.hid hfit
 have HK:=Lib.hid hK2
 clear hs2 hb hx ho hbk hcs htk e1 e2 e3 e4 e5 hK hcur hrun0 hw1 hx1 hN hcb hol hsz htk2 hfit hK2
 go_enter Try.func49,Try.ntmps49
 go_wp2_with (first
  | (refine Lib.wpList_append_run _ rfl (.tmp 34) (.tmp 39) 49 3 rfl _ _ rfl rfl _ _ HR.out ?_)
  | (refine wpList_copy_blk (w0:=w0) rfl (.tmp 43) (.tmp 44) 49 49 rfl 60 5 40 Try.underlying49 info_M (by decide) w.heap.size (i * 5) (l.length + 1 - i) (K - i) 1 1 (some ⟨b,0,none⟩) rfl rfl cur2 60 HN.out [mv x] HS1.out 1 rfl (by omega) (mv_one [x]) (Nat.min_eq_left (by omega)) HF.out HX.out hN0 ?_;intro w2 hx2 hb2' hgr2;have H2:=Lib.hid (And.intro hx2 (And.intro hb2'.out hgr2));clear hx2 hb2' hgr2))
 have p2 : 0 < l.length - i:=by omega
 have p3 : (i + 1) * 5 + (l.length - i) * 5 ≤ (cur2.toList.take (i * 5) ++ [mv x].flatten ++ cur2.toList.drop (i * 5 + 1 * 5)).toArray.size:=by
  have hc:=HC.out.1
  rw [List.size_toArray,len_splice3 _ _ _ _ (by rfl) (by simp;omega)]
  simp;omega
 have p4 : Nat.min (l.length - i) (l.length - i) = l.length - i:=Nat.min_eq_right (Nat.le_refl _)
 have P:=Lib.hid (And.intro HL.out (And.intro p2 (And.intro p3 p4)))
 have hw : IntKind.i64.wrap ((i : Int) + 1) = (i : Int) + 1:=IntWalk.i64_in _ (by omega)
 have hw1 : (0 : Int) ≤ (i : Int) + 1:=by omega
 have ht : ((i : Int) + 1).toNat = i + 1:=by omega
 clear p2 p3 p4
 go_region_law ((refine step_copy_blk (w0:=w0) rfl _ _ 49 49 rfl 60 5 40 Try.underlying49 info_M (by decide) w.heap.size ((i + 1) * 5) (l.length - i) (K - (i + 1)) (l.length - i) (l.length - i) (some ⟨g,i * 5,none⟩) (by simp [Act.eval,Act.put]) (by simp [Act.eval,Act.put]) _ 60 H2.out.2.1 ((l.map mv).drop i) (((Sl.kept HS2.out H2.out.2.2 (fun a ha => by injection ha with ha;subst ha;intro hh;injection hh with hh;exact HG.out hh)).mono ((Ext.refl _).drew))) (l.length - i) P.out.1 P.out.2.1 (fun r hr => mv_one l r (List.mem_of_mem_drop hr)) P.out.2.2.2 P.out.2.2.1 H2.out.1.drew hN0 ?_;intro w3 hx3 hb3' hgr3;have H3:=Lib.hid (And.intro hx3 (And.intro hb3'.out hgr3));clear hx3 hb3' hgr3))
 clear hw hw1 ht
 go_wp2
 go_ret
 have hcl : cur2.toList.length = K * 5:=by simpa using HC.out.1
 have hfin:=mid_splice2 cur2.toList ((l.take i).map mv).flatten ((l.map mv).drop i).flatten (mv x) (i * 5) ((l.length - i) * 5) 5 (by rw [flat_len _ (mv_len _),List.length_map,List.length_take,Nat.min_eq_left (by omega)]) rfl HC.out.2 (by omega)
 have hf2:=ins_fin _ cur2.toList l i K x (by omega) (by omega) hcl rfl
 rw [← hfin] at hf2
 have hblk:=H3.out.2.1
 rw [show (i + 1) * 5 = i * 5 + 5 by omega,show [mv x].flatten = mv x by simp] at hblk
 have hgr : w.grownBy w3 (some g):=by
  have h1:=HX1.out
  have h2:=H2.out.2.2
  have h3:=H3.out.2.2
  refine ⟨h3.os.trans (h2.os.trans h1.os),h3.tape.trans (h2.tape.trans h1.tape),h3.output.trans (h2.output.trans h1.output),Nat.le_trans h1.size (Nat.le_trans h2.size h3.size),fun j hj _ => ?_⟩
  have e1:=h3.block j (Nat.lt_of_lt_of_le (Nat.lt_of_lt_of_le hj h1.size) h2.size) (by simp;omega)
  have e2:=h2.block j (Nat.lt_of_lt_of_le hj h1.size) (by simp;omega)
  exact e1.trans (e2.trans (h1.block j hj))
 refine ⟨_,K,rfl,H3.out.1,⟨by simp [insAt_len],mv_len _,mv_one _,by omega,HK.out,.inr ⟨w.heap.size,_,rfl,hN0,hblk,?_,?_⟩⟩,hgr⟩
 ·rw [List.size_toArray];exact hf2.1
 ·exact hf2.2

theorem Insert_M (w0 : World) (A : Option Addr) (k : Nat) (l : List Move) (i : Nat) (x : Move) (b : Nat) (w : World) (hx : Ext w0 w) (ho : Own w0 w 60 5 A l.length k (l.map mv)) (hl : l.length ≤ 100000) (hi : i ≤ l.length)
  (hb : w.heap[b]? = some (.cells (mv x).toArray 60 (0,0))) (hne : k ≠ 0 → ∀ a,A = some a → a.block ≠ b) :
  Calls Try.prog 49 #[.slice A l.length k,.int .i64 i,.slice (some ⟨b,0,none⟩) 1 1] w (RetIns w0 w A ((insAt l i x).map mv) (l.length + 1)):=by
 by_cases h1 : i = l.length
 ·subst h1;exact Insert_end w0 A k l x b w hx ho hl hb
 ·by_cases h2 : l.length + 1 ≤ k
  ·exact Insert_room w0 A k l i x b w hx ho hl (by omega) h2 hb (hne (by omega))
  ·exact Insert_grow w0 A k l i x b w hx ho hl (by omega) h2 hb
end Go.Proofs.Ytgbecbnjokkfoaa
