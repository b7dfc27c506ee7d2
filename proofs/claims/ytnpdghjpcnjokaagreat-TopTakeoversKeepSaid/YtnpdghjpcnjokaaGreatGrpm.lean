import Derived.Test.YtnpdghjpcnjokaaGreatGrag
import Derived.Test.YtnpdghjpcnjokaaGreatGrpj
set_option maxHeartbeats 1600000
set_option maxRecDepth 100000
namespace Go.Proofs.YtnpdghjpcnjokaaGreat
open Go.RowKit

theorem zfu (w : World) (o : Obj) : (w.alloc o).heap = w.heap.push o:=rfl
structure zav (b : Nat) (W W' : World) : Prop where
 size : W'.heap.size = W.heap.size
 else_ : ∀ g,g ≠ b → W'.heap[g]? = W.heap[g]?
 few : ∃ cs T fr,W.heap[b]? = some (.cells cs T fr) ∧ cs.size < 44
theorem zav.lt {b : Nat} {W W' : World} (h : zav b W W') : b < W.heap.size:=by
 obtain ⟨cs,T,fr,hb,-⟩:=h.few
 exact (Array.getElem?_eq_some_iff.1 hb).1
theorem zav.box {w : World} {cs cs' : Array Value} {T : TypeId} {b : Nat} (hb : w.heap.size = b) (_h : cs'.size = cs.size) (h44 : cs.size < 44) : zav b (w.alloc (.cells cs T)) (w.alloc (.cells cs' T)):=by
 subst hb
 refine ⟨by simp [zfu],fun g hg => ?_,cs,T,(0,0),by simp [zfu],h44⟩
 simp only [zfu,Array.getElem?_push]
 rw [if_neg hg,if_neg hg]
theorem zav.alloc {b : Nat} {W W' : World} (h : zav b W W') (o : Obj) : zav b (W.alloc o) (W'.alloc o):=by
 have hl:=h.lt
 obtain ⟨cs,T,fr,hb,h44⟩:=h.few
 refine ⟨by simp [zfu,h.size],fun g hg => ?_,cs,T,fr,?_,h44⟩
 ·simp only [zfu,Array.getElem?_push,h.size]
  split
  ·rfl
  ·exact h.else_ g hg
 ·simp only [zfu,Array.getElem?_push]
  rw [if_neg om];exact hb
theorem zav.xt {b : Nat} {W W' : World} (h : zav b W W') (y : Gr) : zav b (YtnpdghjpcnjokaaGreat.xt W y) (YtnpdghjpcnjokaaGreat.xt W' y):=by
 have hl:=h.lt
 obtain ⟨cs,T,fr,hb,h44⟩:=h.few
 refine ⟨by show (W'.heap ++ y.objs).size = (W.heap ++ y.objs).size;simp [h.size],fun g hg => ?_,cs,T,fr,?_,h44⟩
 ·show (W'.heap ++ y.objs)[g]? = (W.heap ++ y.objs)[g]?
  simp only [Array.getElem?_append,h.size]
  split
  ·exact h.else_ g hg
  ·rfl
 ·show (W.heap ++ y.objs)[b]? = _
  rw [Array.getElem?_append_left hl];exact hb
theorem zav.drew {b : Nat} {W W' : World} (h : zav b W W') : zav b W.drew W'.drew:=⟨h.size,h.else_,h.few⟩
theorem Sl.turn {b : Nat} {w W W' : World} {A : Option Addr} {rows : List (List Value)} (ht : zav b W W') (hx : Ext w W) (h : Sl w A 45 rows) : Sl W' A 45 rows :=
 ⟨fun i row hr => by
  obtain ⟨h1,g,o,h2,h3⟩:=(h.mono hx).at_ i row hr
  refine ⟨h1,g,o,h2,fun j v hv => ?_⟩
  have hne : g ≠ b:=by
   intro he
   subst he
   obtain ⟨cs,T,fr,hb,h44⟩:=ht.few
   obtain ⟨x,hx⟩ : ∃ x,row[44]? = some x:=⟨_,List.getElem?_eq_getElem om⟩
   have:=h3 44 x hx
   rw [cell_of_row _ g _ cs T fr hb] at this
   have:=(Array.getElem?_eq_some_iff.1 this).1
   omega
  rw [World.cell?_of_block (ht.else_ g hne)]
  exact h3 j v hv⟩
structure ExAt (w : World) (A : Option Addr) (c n : Nat) (l : List Rec) : Prop where
 sl : Sl w A 45 (l.map recR)
 len : l.length = n
 le : l.length ≤ c
 cap : c ≤ maxLen
 el : ∀ r ∈ l,∃ t,r.act = goA t
theorem ExAt.recs {w : World} {A : Option Addr} {c n : Nat} {l : List Rec} (h : ExAt w A c n l) : za3 w A c l:=⟨h.sl,h.le,h.cap,fun r hr => by
 obtain ⟨t,ht⟩:=h.el r hr
 rw [ht];exact zdH _ _ _ _ w⟩
theorem ExAt.of {w : World} {A : Option Addr} {c n : Nat} {l : List Rec} (h : za3 w A c l) (hn : l.length = n) (he : ∀ r ∈ l,∃ t,r.act = goA t) : ExAt w A c n l:=⟨h.sl,hn,h.le,h.cap,he⟩
theorem ExAt.mono {w w' : World} {A : Option Addr} {c n : Nat} {l : List Rec} (hx : Ext w w') (h : ExAt w A c n l) : ExAt w' A c n l:=⟨h.sl.mono hx,h.len,h.le,h.cap,h.el⟩
theorem ExAt.turn {b : Nat} {w W W' : World} {A : Option Addr} {c n : Nat} {l : List Rec} (ht : zav b W W') (hx : Ext w W) (h : ExAt w A c n l) : ExAt W' A c n l:=⟨Sl.turn ht hx h.sl,h.len,h.le,h.cap,h.el⟩
theorem ExAt.any {w : World} {A : Option Addr} {c : Nat} (h : ExAt w A c 0 []) (W : World) : ExAt W A c 0 []:=⟨Sl.nil _ _ _,h.len,h.le,h.cap,h.el⟩
theorem ExAt.nil (W : World) : ExAt W none 0 0 []:=⟨Sl.nil _ _ _,rfl,Nat.le_refl _,Nat.zero_le _,by simp⟩
def exL (l : List Rec) : Prop:=∀ r ∈ l,∃ t,r.act = goA t
def GotN (w : World) (id t : Int) (sp : Bool) (l : List Rec) (k : Nat) (ak nx : Int) (e : Ending) (w' : World) : Prop:=∃ A c,e = .returned (.tuple #[.agg #[.int .i64 id,.int .i64 t,.bool sp,.slice A k c,.int .i64 ak,.int .i64 nx],.int .i64 0]) ∧ Ext w w' ∧ ExAt w' A c k l
theorem GotN.of {w w' : World} {v : Nod × Int} {id t : Int} {sp : Bool} {l : List Rec} {k : Nat} {ak nx : Int} {e : Ending} (h : zaH w v e w') (hv : v = (⟨id,t,sp,l,ak,nx⟩,0)) (hk : l.length = k) (hl : exL l) : GotN w id t sp l k ak nx e w':=by
 subst hv hk
 obtain ⟨A,c,he,hx,hr⟩:=h
 exact ⟨A,c,he,hx,ExAt.of hr rfl hl⟩
def GotM (w : World) (t at_ b : Int) (l : List Rec) (k : Nat) (ak : Int) (e : Ending) (w' : World) : Prop:=∃ A c,e = .returned (.tuple #[.agg #[.int .i64 0,.int .i64 t,.int .i64 at_,.int .i64 b,.slice A k c,.int .i64 ak],.int .i64 0]) ∧ Ext w w' ∧ ExAt w' A c k l
def GotR (w : World) (id t : Int) (sp : Bool) (l : List Rec) (k : Nat) (ak nx : Int) (ak_ at_ term : Int) (ok : Bool) (e : Ending) (w' : World) : Prop:=∃ A c,e = .returned (.tuple #[.agg #[.int .i64 id,.int .i64 t,.bool sp,.slice A k c,.int .i64 ak,.int .i64 nx],.agg #[.int .i64 ak_,.int .i64 term,.int .i64 at_,.int .i64 0,.slice none 0 0,.int .i64 0],.bool ok,.int .i64 0]) ∧ Ext w w' ∧ ExAt w' A c k l
theorem zz1 {fn : Func} {tmps : Array Value} {w : World} {i b : Nat} {a : Acn} (hf : fn.results = #[.cell i 99]) (ht : tmps.getD i undef = .pointer (some ⟨b,0,none⟩)) (hr : w.rangeAt b 0 (acnR a)) : (results fn tmps).run Tryz.prog w = .ok (.agg (acnR a).toArray) w:=by
 have hl:=run_loadVar_mid w b 0 99 (acnR a) _ hr Tryz.underlying99 rfl kr
 have ha : (asAddr (tmps.getD i undef)).run Tryz.prog w = .ok ⟨b,0,none⟩ w:=by rw [ht];rfl
 generalize hq : acnR a = cs at *
 unfold results
 rw [hf]
 simp only [List.mapM_toArray,List.mapM_cons,List.mapM_nil,Sem.run_bind,Sem.run_map,Sem.run_pure,bind_pure_comp,ha,hl,Result.andThen]
 rfl
theorem madeA (t : Int) : Program.built Tryz.prog 99 [(0,.int .i64 t),(1,.int .i64 0),(2,.int .i64 1)] = some (acnR (goA t)).toArray:=by kernel_rfl
theorem zhY (t : Int) (w : World) : Calls Tryz.prog 71 #[.int .i64 t] w fun e w' => e = .returned (.agg (acnR (goA t)).toArray) ∧ Ext w w':=by
 obtain ⟨q,hq⟩ : ∃ q,goA t = q:=⟨_,rfl⟩
 have HM:=zh (madeA t)
 rw [hq] at HM ⊢
 clear hq
 go_enter Tryz.func71,Tryz.ntmps71
 go_wp2_with (first
  | (refine zah rfl 99 _ rfl [(0,.int .i64 t),(1,.int .i64 0),(2,.int .i64 1)] rfl (acnR q).toArray HM.out ?_)
  | (refine za7 rfl 99 _ _ rfl rfl sg (acnR q) rfl rfl kr (zbV _) ?_))
 refine bodyPost_ret (v:=.agg (acnR q).toArray) (zz1 (i:=2) (by simp [Tryz.results71]) rfl (zag w rfl (acnR q) _)) rfl ?_
 exact ⟨rfl,ex⟩
end Go.Proofs.YtnpdghjpcnjokaaGreat

namespace Go.Proofs.YtnpdghjpcnjokaaGreat
open Go.RowKit

end Go.Proofs.YtnpdghjpcnjokaaGreat
