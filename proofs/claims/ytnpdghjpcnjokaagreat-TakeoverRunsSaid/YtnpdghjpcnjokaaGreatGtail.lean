import Derived.Test.YtnpdghjpcnjokaaGreatGbase
import Derived.StillTail
import Derived.OrdersIn
import Derived.TacticsIn
import Derived.OrdersHeld
import Derived.Deep.RegionHeld
namespace Go.Proofs.YtnpdghjpcnjokaaGreat
open Go.RowKit

section
variable {P:Program} {ops:Array Oper} {md:Region.Mode} {C:World→Prop}

def headQ (P:Program) (md:Region.Mode) (ops:Array Oper) (C:World→Prop) (n:Nat) (L:Array Bool→Act→Prop):Nat→Array Bool→Act→Prop
 |0,listed,a=>L listed a
 |f+1,listed,a=>Region.ready md ops listed≠[]∧∀i∈Region.ready md ops listed,i<n∧qOp P ops C i (headQ P md ops C n L f (listed.setIfInBounds i true)) a

theorem zjt {n g:Nat}{L:Array Bool→Act→Prop}{Q':Exit→Act→World→Prop}(hL:∀listed a w,C w→L listed a→wpAny P md ops Q' g listed a w):
  ∀(f:Nat) (listed:Array Bool) (a:Act) (w:World),C w→headQ P md ops C n L f listed a→wpAny P md ops Q' (f+g) listed a w
 |0,_,_,_,hw,h=>by rw[Nat.zero_add];exact hL _ _ _ hw h
 |f+1,_,_,_,hw,h=>by rw[show f+1+g=(f+g)+1 by omega];exact⟨fun h0=>absurd h0 h.1,fun i hi=>wpOp_of_qOp hw (fun a' w' hw' h'=>zjt hL f _ a' w' hw' h') (h.2 i hi).2⟩

theorem zyl {n i:Nat} {oi:Oper} {v:Value} {L:Array Bool→Act→Prop} (hi:ops[i]?=some oi) (hsel:∀(j:Nat) (o:Oper) cs b,ops[j]?=some o→o.op≠ .select cs b)
  (hs:Region.sinkB md ops n=true) (hc:Region.chainB md ops n=true) (hn:n<ops.size) (hin:i<n)
  (hdone:∀listed a,L listed a→∀j∈Region.ready md ops listed,n≤j):
  ∀(f:Nat) (listed:Array Bool) (a:Act),HeadInv md ops n listed→
   (∀j oj,ops[j]?=some oj→j≠i→listed.getD j true=false→(∀e∈oj.after,Region.binds md e=true→e.on≠i)→oi.apart ops oj=true)→
   i∈Region.ready md ops listed→YieldsIn P ops C oi v a→
   headQ P md ops C n L f (listed.setIfInBounds i true) (a.put oi.dst v)→headQ P md ops C n L (f+1) listed a:=by
 intro f
 induction f with
 |zero=>
  intro listed a inv _ hr hy H;have hun:=(mem_ready.1 hr).1;refine⟨fun h=>(by rw[h] at hr;cases hr),fun j hj=> ?_⟩;have hjn:j<n:=by
   rcases Nat.lt_or_ge j n with h|h
   ·exact h
   ·exact absurd hj (tail_waits hs hc hn inv _ i rfl hin hun j h)
  refine⟨hjn,?_⟩;by_cases hji:j=i
  ·subst hji;exact hy.qOp hi H
  ·have:=hdone _ _ H j (ready_mono hj hji);omega
 |succ f ih=>
  intro listed a inv hfree hr hy H;have hun:=(mem_ready.1 hr).1;refine⟨fun h=>(by rw[h] at hr;cases hr),fun j hj=> ?_⟩;have hjn:j<n:=by
   rcases Nat.lt_or_ge j n with h|h
   ·exact h
   ·exact absurd hj (tail_waits hs hc hn inv _ i rfl hin hun j h)
  refine⟨hjn,?_⟩;by_cases hji:j=i
  ·subst hji;exact hy.qOp hi H
  ·have h1:=(H.2 j (ready_mono hj hji)).2;obtain⟨hjun,oj,hoj,hall⟩:=mem_ready.1 hj;have hnot:∀e∈oj.after,Region.binds md e=true→e.on≠i:=fun e he hb heq=>by have h1:=hall e he hb;rw[heq,getD_both hun] at h1;cases h1
   have h2:=qOp_put hoj (hfree j oj hoj hji hjun hnot) (fun cs b=>hsel i oi cs b hi) (fun cs b=>hsel j oj cs b hoj) hy h1
   have hfree':∀k ok,ops[k]?=some ok→k≠i→(listed.setIfInBounds j true).getD k true=false→
     (∀e∈ok.after,Region.binds md e=true→e.on≠i)→oi.apart ops ok=true:=fun k ok hk hki hun hno=>by
    refine hfree k ok hk hki ?_ hno;by_cases hjk:j=k
    ·subst hjk;exact hjun
    ·rw[getD_set_ne true hjk] at hun;exact hun
   refine qOp_mono (fun a' h3=>ih (listed.setIfInBounds j true) a' (inv.set hj hjn) hfree' (ready_mono hr (Ne.symm hji)) h3.1 ?_) h2;rw[Array.setIfInBounds_comm _ _ hji];exact h3.2

theorem zpw {n g:Nat}{Lq:Act→Prop}(hsel:Region.noSelect ops=true)(hs:Region.sinkB md ops n=true)(hc:Region.chainB md ops n=true)(hn:n<ops.size):
  ∀(l:List Oper) (k:Nat) (listed:Array Bool) (a:Act),(∀j,j<l.length→l[j]?=ops[k+j]?)→k+l.length=n→HeadInv md ops n listed→
  Region.lexHead md ops g l.length k listed=true→wpQuiet P ops C Lq l a→
  headQ P md ops C n (fun listed' a'=>Region.seqB md ops g n listed'=true∧Lq a') l.length listed a
 |[],k,listed,a,_,hk,_,hB,h=>by
  have:k=n:=by simpa using hk
  subst this;exact⟨by simpa [Region.lexHead] using hB,h⟩
 |o::l,k,listed,a,hl,hk,inv,hB,h=>by
  have h0:ops[k]?=some o:=by simpa using (hl 0 (by simp)).symm
  simp only[List.length_cons,Region.lexHead,Bool.and_eq_true] at hB;obtain⟨⟨hr,hf⟩,hB'⟩:=hB;have hkn:k<n:=by simp only[List.length_cons] at hk;omega
  have hr':k∈Region.ready md ops listed:=by simpa using hr
  have hst:qOp P ops C k (wpQuiet P ops C Lq l) a:=by unfold qOp;simp only[h0];exact h
  obtain⟨v,hy,hK⟩:=yieldsIn_of_qOp h0 hst
  exact zyl h0 (Region.noSelect_spec hsel) hs hc hn hkn (fun listed' a' hL=>seqB_ready hL.1) l.length listed a inv (Region.free_spec h0 hf) hr' hy
   (zpw hsel hs hc hn l (k+1) _ _ (fun j hj=>by have:=hl (j+1) (by simp;omega);simpa [Nat.add_assoc,Nat.add_comm 1 j] using this) (by simp only[List.length_cons] at hk;omega) (inv.set hr' hkn) hB' hK)

theorem zrE {id:Nat} {Q:Exit→Act→World→Prop} {a:Act} {w:World} {l:List Oper} (n:Nat) (hm:P.follows .mixedOrders=true) (hB:Region.lexTailB .any l.toArray n=true)
  (h:wpQuiet P l.toArray (fun w'=> ∃y,w'=xt w y) (fun a'=> ∀w',(∃y,w'=xt w y)→wpList P l.toArray Q (l.drop n) a' w') (l.take n) a):(Code.region id l.toArray true).wp P Q a w:=by
 simp only[Region.lexTailB,Bool.and_eq_true,decide_eq_true_eq] at hB;obtain⟨⟨⟨⟨hsel,hn⟩,hs⟩,hc⟩,hlex⟩:=hB;have hn':n<l.length:=by simpa using hn
 have htl:(l.take n).length=n:=by simp;omega
 have hdl:(l.drop n).length=l.toArray.size - n:=by simp
 have inv0:HeadInv .any l.toArray n (Array.replicate l.toArray.size false):=
  ⟨by simp,fun j oj _ hl=>(by rw[getD_replicate_false] at hl;cases hl),fun t _ ht=>getD_in (by simpa using ht) (getD_replicate_false _ _)⟩
 have H:=zpw (md:=.any) (g:=l.toArray.size - n) hsel hs hc hn (l.take n) 0 _ a (fun j hj=>by
  have hj':j<n:=by rw[htl] at hj;exact hj
  simp[hj']) (by simpa using htl) inv0 (by rw[htl];exact hlex) h
 refine wp_region_any hm ?_;have:=zjt (Q':=Q) (g:=l.toArray.size - n) (fun listed a' w' hw' hL=>by have:=wpAny_of_seq (md:=.any) (Q':=Q) (l.drop n) n listed a' w' (fun j=>by simp[List.getElem?_drop]) (by rw[hdl];exact hL.1) (hL.2 w' hw');rwa [hdl] at this) _ _ _ w.drew (Ext.refl w).drew.get H
 rw[htl,show n+(l.toArray.size - n)=l.toArray.size by omega] at this;exact this
end

section
variable {P:Program} {ops:Array Oper} {md:Region.Mode} {C:World→Prop} {l n:Nat}
def noDefer (ops:List Oper):Bool:=ops.all fun o=>match o.op with| .defer _=>false|_=>true

end

section
variable {P:Program} {ops:Array Oper} {Q:Exit→Act→World→Prop} {md:Region.Mode} {S:Array Bool→World→Prop}

structure ShutL (md : Region.Mode) (ops : Array Oper) (L : Array Bool) : Prop where
 size:L.size=ops.size
 closed:∀j oj,ops[j]?=some oj→L.getD j false=true→∀e∈oj.after,Region.binds md e=true→L.getD e.on false=true
theorem ShutL.start:ShutL md ops (Array.replicate ops.size false):=⟨by simp,fun j oj _ hl=>(by rw[getD_replicate_false] at hl;cases hl)⟩
theorem ShutL.set {L:Array Bool}{i:Nat}(h:ShutL md ops L)(hr:i∈Region.ready md ops L):ShutL md ops (L.setIfInBounds i true):=by
 refine⟨by simp[h.size],fun j oj hj hl e he hb=> ?_⟩;obtain⟨_,o,ho,hdeps⟩:=mem_ready.1 hr;by_cases hij:i=j
 ·subst hij;obtain rfl:oj=o:=Option.some.inj (hj.symm.trans ho);exact getD_set_true (hdeps e he hb)
 ·rw[getD_set_ne false hij] at hl;exact getD_set_true (h.closed j oj hj hl e he hb)
def zdI (md:Region.Mode) (ops:Array Oper) (k i:Nat):Bool:=match ops[k]? with|some o=>o.after.any fun e=>Region.binds md e && e.on==i|none=>false
theorem ShutL.not {L:Array Bool}{k i:Nat}(h:ShutL md ops L)(hw:zdI md ops k i=true)(hi:L.getD i true=false):L.getD k false=false:=by
 unfold zdI at hw;cases ho:ops[k]? with
 |none=>rw[ho] at hw;cases hw
 |some o=>
  rw[ho] at hw;obtain⟨e,he,hb⟩:=Array.any_eq_true'.1 hw;simp only[Bool.and_eq_true,beq_iff_eq] at hb;cases hk:L.getD k false with
  |false=>rfl
  |true=>have:=h.closed k o ho hk e he hb.1;rw[hb.2,getD_both hi] at this;cases this

def wpAnyL (P:Program) (md:Region.Mode) (ops:Array Oper) (Q:Exit→Act→World→Prop) (S:Array Bool→World→Prop):Nat→Array Bool→Act→World→Prop
 |0,L,a,w=>Region.ready md ops L=[]∧Q .normal a w
 |f+1,L,a,w=>(Region.ready md ops L=[]→Q .normal a w)∧∀i∈Region.ready md ops L,wpOp P ops Q i (fun a' w'=>S (L.setIfInBounds i true) w'∧wpAnyL P md ops Q S f (L.setIfInBounds i true) a' w') a w
theorem zsE:∀(f:Nat) (L:Array Bool) (a:Act) (w:World),wpAnyL P md ops Q S f L a w→wpAny P md ops Q f L a w
 |0,_,_,_,h=>h
 |f+1,_,_,_,h=>⟨h.1,fun i hi=>wpOp_mono (fun a' w' h'=>zsE f _ a' w' h'.2) (h.2 i hi)⟩
theorem wpAnyL_first {i:Nat} {oi:Oper} {v:Value} {T:World→Prop} (hi:ops[i]?=some oi) (hsel:∀(j:Nat) (o:Oper) cs b,ops[j]?=some o→o.op≠ .select cs b)
  (hQ:∀c a w,Q (.panic c) (a.put oi.dst v) w→Q (.panic c) a w)
  (hT:∀L w,ShutL md ops L→L.getD i true=false→S L w→T w) (hS1:∀L w,S L w→S (L.setIfInBounds i true) w) (hS2:∀L w,S (L.setIfInBounds i true) w→S L w):
  ∀(f:Nat) (L:Array Bool) (a:Act) (w:World),ShutL md ops L→
   (∀j oj,ops[j]?=some oj→j≠i→L.getD j true=false→(∀e∈oj.after,Region.binds md e=true→e.on≠i)→oi.apart ops oj=true)→
   i∈Region.ready md ops L→YieldsIf P ops T oi v a→S L w→
   wpAnyL P md ops Q S f (L.setIfInBounds i true) (a.put oi.dst v) w→wpAnyL P md ops Q S (f+1) L a w:=by
 intro f
 induction f with
 |zero=>
  intro L a w hcl _ hr hy hS H;have hun:=(mem_ready.1 hr).1;refine⟨fun h=>(by rw[h] at hr;cases hr),fun j hj=> ?_⟩;by_cases hji:j=i
  ·subst hji;exact hy.wpOp hi (hT L w hcl hun hS) ⟨hS1 L w hS,H⟩
  ·have:=ready_mono hj hji;rw[H.1] at this;cases this
 |succ f ih=>
  intro L a w hcl hfree hr hy hS H;have hun:=(mem_ready.1 hr).1;refine⟨fun h=>(by rw[h] at hr;cases hr),fun j hj=> ?_⟩;by_cases hji:j=i
  ·subst hji;exact hy.wpOp hi (hT L w hcl hun hS) ⟨hS1 L w hS,H⟩
  ·have h1:=H.2 j (ready_mono hj hji);obtain⟨hjun,oj,hoj,hall⟩:=mem_ready.1 hj;have hnot:∀e∈oj.after,Region.binds md e=true→e.on≠i:=fun e he hb heq=>by have h1:=hall e he hb;rw[heq,getD_both hun] at h1;cases h1
   have h2:=wpOp_putIf hoj (hfree j oj hoj hji hjun hnot) (fun cs b=>hsel i oi cs b hi) (fun cs b=>hsel j oj cs b hoj) hQ hy h1
   have hfree':∀k ok,ops[k]?=some ok→k≠i→(L.setIfInBounds j true).getD k true=false→
     (∀e∈ok.after,Region.binds md e=true→e.on≠i)→oi.apart ops ok=true:=fun k ok hk hki hun' hno=>by
    refine hfree k ok hk hki ?_ hno;by_cases hjk:j=k
    ·subst hjk;exact hjun
    ·rw[getD_set_ne true hjk] at hun';exact hun'
   refine wpOp_mono (fun a' w' h3=> ?_) h2;obtain⟨h4,h5,h6⟩:=h3;rw[Array.setIfInBounds_comm _ _ (Ne.symm hji)] at h5 h6;have h7:=hS2 _ _ h5;exact⟨h7,ih (L.setIfInBounds j true) a' w' (hcl.set hj) hfree' (ready_mono hr (Ne.symm hji)) h4 h7 h6⟩
theorem za1 {i:Nat} {oi:Oper} {v:Value} {T:World→Prop} {f:Nat} {L:Array Bool} {a:Act} {w:World} (hi:ops[i]?=some oi)
  (hs:Region.noSelect ops=true) (hf:Region.free md ops L i=true) (hr:(Region.ready md ops L).contains i=true)
  (hQ:∀c a w,Q (.panic c) (a.put oi.dst v) w→Q (.panic c) a w)
  (hT:∀L w,ShutL md ops L→L.getD i true=false→S L w→T w) (hS1:∀L w,S L w→S (L.setIfInBounds i true) w) (hS2:∀L w,S (L.setIfInBounds i true) w→S L w)
  (hy:YieldsIf P ops T oi v a) (hcl:ShutL md ops L) (hS:S L w)
  (h:ShutL md ops (L.setIfInBounds i true)→S (L.setIfInBounds i true) w→wpAnyL P md ops Q S f (L.setIfInBounds i true) (a.put oi.dst v) w):wpAnyL P md ops Q S (f+1) L a w:=
 wpAnyL_first hi (Region.noSelect_spec hs) hQ hT hS1 hS2 f L a w hcl (Region.free_spec hi hf) (by simpa using hr) hy hS (h (hcl.set (by simpa using hr)) (hS1 L w hS))
theorem za9 {i:Nat} {o:Oper} {f:Nat} {L:Array Bool} {a:Act} {w:World} (hr:Region.ready md ops L=[i]) (ho:ops[i]?=some o) (hg:o.guard=none) (hcl:ShutL md ops L)
  (h:∀K:Act→World→Prop,(∀a w,S (L.setIfInBounds i true) w→(ShutL md ops (L.setIfInBounds i true)→S (L.setIfInBounds i true) w→wpAnyL P md ops Q S f (L.setIfInBounds i true) a w)→K a w)→Oper.wp P o a w K Q):wpAnyL P md ops Q S (f+1) L a w:=by
 have hm:i∈Region.ready md ops L:=by rw[hr];simp
 refine⟨fun h0=>(by rw[hr] at h0;cases h0),fun j hj=> ?_⟩;rw[hr] at hj;obtain rfl:j=i:=by simpa using hj
 unfold wpOp;simp only[ho];rw[if_pos (by simp[Region.wanted,hg])];exact .inl (Oper.wp_mono (fun a' w' h'=>h') (h _ fun a w h1 h2=>⟨h1,h2 (hcl.set hm) h1⟩))
theorem zas {L:Array Bool}{a:Act}{w:World}(hr:Region.ready md ops L=[])(h:Q .normal a w):∀f,wpAnyL P md ops Q S f L a w
 |0=>⟨hr,h⟩
 |_+1=>⟨fun _=>h,by rw[hr];simp⟩
theorem zaw {id:Nat} {a:Act} {w:World} {l:List Oper} (hm:P.follows .mixedOrders=true) (hS:S (Array.replicate l.toArray.size false) w.drew)
  (h:ShutL .any l.toArray (Array.replicate l.toArray.size false)→S (Array.replicate l.toArray.size false) w.drew→wpAnyL P .any l.toArray Q S l.toArray.size (Array.replicate l.toArray.size false) a w.drew):(Code.region id l.toArray true).wp P Q a w:=
 wp_region_any hm (zsE _ _ _ _ (h ShutL.start hS))
def SS (k1 k2:Nat) (A1 A2 A3:World→Prop) (L:Array Bool) (w:World):Prop:=(L.getD k1 false=false→A1 w)∧(L.getD k2 false=false→A2 w)∧A3 w
theorem SS.up {k1 k2 i:Nat}{A1 A2 A3:World→Prop}(h1:i≠k1)(h2:i≠k2):∀L w,SS k1 k2 A1 A2 A3 L w→SS k1 k2 A1 A2 A3 (L.setIfInBounds i true) w:=fun L w h=>⟨fun hl=>h.1 (by rwa [getD_set_ne false h1] at hl),fun hl=>h.2.1 (by rwa [getD_set_ne false h2] at hl),h.2.2⟩
theorem SS.down {k1 k2 i:Nat}{A1 A2 A3:World→Prop}(h1:i≠k1)(h2:i≠k2):∀L w,SS k1 k2 A1 A2 A3 (L.setIfInBounds i true) w→SS k1 k2 A1 A2 A3 L w:=fun L w h=>⟨fun hl=>h.1 (by rwa [getD_set_ne false h1]),fun hl=>h.2.1 (by rwa [getD_set_ne false h2]),h.2.2⟩
end
theorem wtg {P:Program} {ops:Array Oper} {Q:Exit→Act→World→Prop} {md:Region.Mode} {k1 k2:Nat} {A1 A2 A3:World→Prop} (i:Nat) {oi:Oper} (v:Value) {T:World→Prop} {f:Nat} {L:Array Bool} {a:Act} {w:World} (hi:ops[i]?=some oi)
  (hT:∀L w,ShutL md ops L→L.getD i true=false→SS k1 k2 A1 A2 A3 L w→T w) (hy:∀w,T w→(execOp a.eval oi).run P w=.ok (.value v) w) (hcl:ShutL md ops L) (hS:SS k1 k2 A1 A2 A3 L w)
  (h:ShutL md ops (L.setIfInBounds i true)→SS k1 k2 A1 A2 A3 (L.setIfInBounds i true) w→wpAnyL P md ops Q (SS k1 k2 A1 A2 A3) f (L.setIfInBounds i true) (a.put oi.dst v) w)
  (hs:Region.noSelect ops=true:=by kernel_rfl) (hf:Region.free md ops L i=true:=by kernel_rfl) (hr:(Region.ready md ops L).contains i=true:=by kernel_rfl)
  (hQ:∀c a w,Q (.panic c) (a.put oi.dst v) w→Q (.panic c) a w:=by exact fun _ _ _ h=>h) (h1:i≠k1:=by decide) (h2:i≠k2:=by decide) (hw:Region.wanted oi (yielded ops a.tmps)=true:=by rfl):wpAnyL P md ops Q (SS k1 k2 A1 A2 A3) (f+1) L a w:=
 za1 hi hs hf hr hQ hT (SS.up h1 h2) (SS.down h1 h2) (.inl ⟨hw,hy⟩) hcl hS h
theorem wtk {P:Program} {ops:Array Oper} {Q:Exit→Act→World→Prop} {md:Region.Mode} {k1 k2:Nat} {A1 A2 A3:World→Prop} (i:Nat) {oi:Oper} {v:Value} {f:Nat} {L:Array Bool} {a:Act} {w:World} (hi:ops[i]?=some oi)
  (hcl:ShutL md ops L) (hS:SS k1 k2 A1 A2 A3 L w)
  (h:ShutL md ops (L.setIfInBounds i true)→SS k1 k2 A1 A2 A3 (L.setIfInBounds i true) w→wpAnyL P md ops Q (SS k1 k2 A1 A2 A3) f (L.setIfInBounds i true) (a.put oi.dst v) w)
  (hs:Region.noSelect ops=true:=by kernel_rfl) (hf:Region.free md ops L i=true:=by kernel_rfl) (hr:(Region.ready md ops L).contains i=true:=by kernel_rfl)
  (hy:∀w,True→(execOp a.eval oi).run P w=.ok (.value v) w:=by intro w9 hw9;(try dsimp only at hw9);go_simp;try with_reducible rfl)
  (hQ:∀c a w,Q (.panic c) (a.put oi.dst v) w→Q (.panic c) a w:=by exact fun _ _ _ h=>h) (h1:i≠k1:=by decide) (h2:i≠k2:=by decide) (hw:Region.wanted oi (yielded ops a.tmps)=true:=by rfl):wpAnyL P md ops Q (SS k1 k2 A1 A2 A3) (f+1) L a w:=
 za1 (T:=fun _=>True) hi hs hf hr hQ (fun _ _ _ _ _=>trivial) (SS.up h1 h2) (SS.down h1 h2) (.inl ⟨hw,hy⟩) hcl hS h

def zf6 (o:Oper):Oper:={o with after:=#[]}
section
variable {P:Program} {ops:Array Oper} {Q:Exit→Act→World→Prop}
theorem zud (tmps:Array Value):yielded (ops.map zf6) tmps=yielded ops tmps:=by
 funext j
 unfold yielded;rw[Array.getElem?_map];cases ops[j]?<;>rfl
theorem zso (ρ:Operand→Value)(o:Oper):execOp ρ (zf6 o)=execOp ρ o:=by cases o;rfl
theorem strip_wp (o:Oper)(a:Act)(w:World)(K:Act→World→Prop):(zf6 o).wp P a w K Q=o.wp P a w K Q:=by unfold Oper.wp;rw[zso];rfl
theorem zC7 (o:Oper)(a:Act)(w:World):(zf6 o).asks P a w=o.asks P a w:=by unfold Oper.asks;rw[zso]
theorem zn9:∀(l:List Oper),wpList P (ops.map zf6) Q (l.map zf6)=wpList P ops Q l
 |[]=>rfl
 |o::l=>by
  funext a w
  rw[List.map_cons,wpList,wpList,zud,zn9 l,strip_wp,zC7];rfl
theorem zbf {id:Nat}{a:Act}{w:World}{l l':List Oper}(hl:l.map zf6=l')(h:wpList P l'.toArray Q l' a w):(Code.region id l.toArray false).wp P Q a w:=by refine wp_region_lit ?_;rw[←zn9 (ops:=l.toArray) l,List.map_toArray,hl];exact h
end

section
variable {P:Program} {ops:Array Oper} {Q:Exit→Act→World→Prop}
def CutQ (R:Act→World→Prop) (e:Exit) (a:Act) (w:World):Prop:=e=.normal∧R a w
theorem zqN {R:Act→World→Prop}{o:Oper}{a:Act}{w:World}{K K':Act→World→Prop}(h:∀a w,K a w→K' a w)(hh:o.wp P a w K (CutQ R)):o.wp P a w K' Q:=by
 unfold Oper.wp at *
 generalize (execOp a.eval o).run P w=r at *
 have hl:¬LetsOut (CutQ R):=by rintro⟨_,_,h,_⟩;cases h
 cases r with
 |ok n w'=>
  cases n<;>simp only[Oper.upon] at hh ⊢
  case value => exact h _ _ hh
  case skip => exact h _ _ hh
  case defer => exact h _ _ hh
  case enter =>
   refine hh.mono fun e w'' he=> ?_;cases e with
   |returned v=>exact h _ _ he
   |panicked c=>exact absurd he.1 (by simp)
   |outgrown=>exact absurd he hl
  case row => exact hh.mono fun v w'' he => h _ _ he
 |halt x w'=>
  cases x<;>simp only[Oper.upon] at hh ⊢
  exact absurd hh.1 (by simp)
theorem zeJ {R:Act→World→Prop}{l2:List Oper}(h2:∀a w,R a w→wpList P ops Q l2 a w):∀(l1:List Oper) (a:Act) (w:World),wpList P ops (CutQ R) l1 a w→wpList P ops Q (l1++l2) a w
 |[],a,w,h=>h2 a w h.2
 |o::l,a,w,h=>by
  rw[wpList] at h;rw[List.cons_append,wpList];split
  ·rename_i hw;rw[if_pos hw] at h;rcases h with h|⟨_,_,_,h,_⟩
   ·exact .inl (zqN (fun a w=>zeJ h2 l a w) h)
   ·cases h
  ·rename_i hw;rw[if_neg hw] at h;exact zeJ h2 l _ _ h
theorem zbL {l:List Oper}{a:Act}{w:World}(n:Nat)(R:Act→World→Prop)(h1:wpList P ops (CutQ R) (l.take n) a w)(h2:∀a w,R a w→wpList P ops Q (l.drop n) a w):wpList P ops Q l a w:=by have:=zeJ h2 (l.take n) a w h1;rwa [List.take_append_drop] at this
end
