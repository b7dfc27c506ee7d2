import Derived.Test.YtnpdghjpcnjokaaGreatGrpa
namespace Go.Proofs.YtnpdghjpcnjokaaGreat
open Go.RowKit

section
variable {P:Program} {ops:Array Oper} {Q:Exit→Act→World→Prop}

def dstB (ops:Array Oper) (i:Nat):Option Tmp:=(ops[i]?).bind (·.dst)
def headB (ops:Array Oper) (k m:Nat):Bool:=(List.range k).all fun i=>match ops[i]? with
 |none=>false
 |some o=>(match o.dst with
  |none=>false
  |some d=>decide (d<m) && (List.range k).all fun j=>decide (j=i)||decide (dstB ops j≠some d)) && o.after.all fun e=> !Region.binds .any e||decide (e.on<i)
def tailB (ops:Array Oper) (k:Nat) (F:List Nat):Bool:=(List.range ops.size).all fun i=>decide (i<k)||((List.range k).all fun c=>F.contains c||zdI .any ops i c)||(List.range i).any fun j=>decide (k≤j) && zdI .any ops i j
def zgZ (ops:Array Oper) (k:Nat) (F:List Nat):Array Bool:=((List.range ops.size).map fun i=>decide (i<k) && !F.contains i).toArray
def zdb (ops:Array Oper) (k:Nat):Array Bool:=((List.range ops.size).map fun i=>decide (i<k)).toArray
def freeB (ops:Array Oper) (k:Nat) (F:List Nat):Bool:=F.all fun i=>decide (i<k) && Region.free .any ops (zgZ ops k F) i && (match ops[i]? with
 |none=>false
 |some o=>o.after.all fun e=> !Region.binds .any e||(decide (e.on<k) && !F.contains e.on))
def zwP (ops:Array Oper) (k:Nat) (F:List Nat) (m:Nat):Bool:=
 Region.noSelect ops && decide (k≤ops.size) && headB ops k m && tailB ops k F && freeB ops k F && Region.seqB .any ops (ops.size - k) k (zdb ops k)

theorem zd5 {i j:Nat}(h:zdI .any ops i j=true):∃o e,ops[i]?=some o∧e∈o.after∧Region.binds .any e=true∧e.on=j:=by
 unfold zdI at h;cases ho:ops[i]? with
 |none=>rw[ho] at h;cases h
 |some o=>rw[ho] at h;obtain⟨e,he,hb⟩:=Array.any_eq_true'.1 h;simp only[Bool.and_eq_true,beq_iff_eq] at hb;exact⟨o,e,rfl,he,hb.1,hb.2⟩
theorem zbS {k m:Nat}(h:headB ops k m=true){i:Nat}(hi:i<k):∃o d,ops[i]?=some o∧o.dst=some d∧dstB ops i=some d∧d<m∧(∀j,j<k→j≠i→dstB ops j≠some d)∧∀e∈o.after,Region.binds .any e=true→e.on<i:=by
 have h1:=List.all_eq_true.1 h i (List.mem_range.2 hi);cases ho:ops[i]? with
 |none=>simp[ho] at h1
 |some o=>
  simp only[ho,Bool.and_eq_true] at h1;obtain⟨h2,h3⟩:=h1;cases hd:o.dst with
  |none=>simp[hd] at h2
  |some d=>
   simp only[hd,Bool.and_eq_true,decide_eq_true_eq] at h2;refine⟨o,d,rfl,hd,by unfold dstB;rw[ho];exact hd,h2.1,fun j hj hne=> ?_,fun e he hb=> ?_⟩
   ·have h4:=List.all_eq_true.1 h2.2 j (List.mem_range.2 hj);simp only[Bool.or_eq_true,decide_eq_true_eq] at h4;rcases h4 with h4|h4
    ·exact absurd h4 hne
    ·exact h4
   ·have h4:=Array.all_eq_true_iff_forall_mem.1 h3 e he;simpa [hb] using h4

def zc0:List Oper→(Nat→Value)→Nat→Act→Act
 |[],_,_,a=>a
 |o::l,u,i,a=>zc0 l u (i+1) (a.put o.dst (u i))
theorem ztF (a:Act)(d:Option Tmp)(v:Value):(a.put d v).tmps.size=a.tmps.size:=by cases d<;>simp[Act.put]
theorem put_defers (a:Act)(d:Option Tmp)(v:Value):(a.put d v).defers=a.defers:=by cases d<;>rfl
theorem zAo (a:Act){d:Option Tmp}(v:Value){t:Nat}(h:d≠some t):(a.put d v).tmps[t]?=a.tmps[t]?:=by
 cases d with
 |none=>rfl
 |some d=>have hne:d≠t:=fun e=>h (by rw[e]);simp[Act.put,Array.getElem?_setIfInBounds_ne hne]
theorem put_eq (a:Act)(v:Value){t:Nat}(h:t<a.tmps.size):(a.put (some t) v).tmps[t]?=some v:=by simp[Act.put,Array.getElem?_setIfInBounds_self_of_lt h]
theorem zkY:∀(l:List Oper) (u:Nat→Value) (i:Nat) (a:Act),(zc0 l u i a).defers=a.defers
 |[],_,_,_=>rfl
 |o::l,u,i,a=>by rw[zc0,zkY l u (i+1) _,put_defers]
theorem zpW:∀(l:List Oper) (u:Nat→Value) (i:Nat) (a:Act) (t:Nat),(∀o∈l,o.dst≠some t)→(zc0 l u i a).tmps[t]?=a.tmps[t]?
 |[],_,_,_,_,_=>rfl
 |o::l,u,i,a,t,h=>by rw[zc0,zpW l u (i+1) _ t (fun q hq=>h q (by simp[hq])),zAo _ _ (h o (by simp))]
theorem zvS:∀(l:List Oper) (u:Nat→Value) (i:Nat) (a:Act) (t j:Nat) (o:Oper),l[j]?=some o→o.dst=some t→(∀j' q,l[j']?=some q→j'≠j→q.dst≠some t)→t<a.tmps.size→(zc0 l u i a).tmps[t]?=some (u (i+j))
 |[],_,_,_,_,_,_,h,_,_,_=>by simp at h
 |q::l,u,i,a,t,0,o,h,hd,hn,ht=>by
  obtain rfl:q=o:=by simpa using h
  rw[zc0,zpW l u (i+1) _ t (fun q' hq'=>by obtain⟨j',hj'⟩:=List.getElem?_of_mem hq';exact hn (j'+1) q' (by simpa using hj') om),hd,put_eq _ _ ht]
  rfl
 |q::l,u,i,a,t,j+1,o,h,hd,hn,ht=>by rw[zc0,zvS l u (i+1) _ t j o (by simpa using h) hd (fun j' q' hj' hne=>hn (j'+1) q' (by simpa using hj') om) (by rw[ztF];exact ht)];congr 2;omega

structure SInv (ops : Array Oper) (k : Nat) (T : Nat → Value → World → Prop) (a0 : Act) (w0 : World) (L : Array Bool) (a : Act) (w : World) : Prop where
 size:L.size=ops.size
 ext:Ext w0 w
 tmps:a.tmps.size=a0.tmps.size
 defers:a.defers=a0.defers
 tail:∀i,k≤i→L.getD i false=false
 old:∀t,(∀i,i<k→dstB ops i≠some t)→a.tmps[t]?=a0.tmps[t]?
 new:∀i d,i<k→dstB ops i=some d→L.getD i false=true→T i (a.tmps.getD d undef) w
def heldU (ops:Array Oper) (a:Act) (i:Nat):Value:=a.tmps.getD ((dstB ops i).getD 0) undef
theorem zym {k i:Nat}(h:i<k):(ops.toList.take k)[i]?=ops[i]?:=by rw[List.getElem?_take,if_pos h,Array.getElem?_toList]
theorem SInv.act {k:Nat}{T:Nat→Value→World→Prop}{a0:Act}{w0:World}{L:Array Bool}{a:Act}{w:World}(h:SInv ops k T a0 w0 L a w)(hB:headB ops k a0.tmps.size=true):
  a=zc0 (ops.toList.take k) (heldU ops a) 0 a0:=by
 have hlt:∀j q,(ops.toList.take k)[j]?=some q→j<k:=fun j q hj=>by
  rw[List.getElem?_take] at hj;split at hj
  ·assumption
  ·cases hj
 have ht:a.tmps=(zc0 (ops.toList.take k) (heldU ops a) 0 a0).tmps:=by
  apply Array.ext_getElem?;intro t;by_cases hx:∃i,i<k∧dstB ops i=some t
  ·obtain⟨i,hi,hd⟩:=hx;obtain⟨o,d,ho,hod,hd',hdm,hne,-⟩:=zbS hB hi;rw[hd] at hd';obtain rfl:t=d:=by injection hd'
   rw[zvS _ _ 0 a0 t i o (by rw[zym hi,ho]) hod (fun j q hj hji=>by have hjk:=hlt j q hj;rw[zym hjk] at hj;have:=hne j hjk hji;unfold dstB at this;rw[hj] at this;exact this) hdm,Nat.zero_add]
   unfold heldU;rw[hd];have:t<a.tmps.size:=by rw[h.tmps];exact hdm
   simp[this]
  ·rw[zpW _ _ 0 a0 t (fun q hq=>by obtain⟨j,hj⟩:=List.getElem?_of_mem hq;have hjk:=hlt j q hj;rw[zym hjk] at hj;intro he;exact hx ⟨j,hjk,by unfold dstB;rw[hj];exact he⟩)]
   exact h.old t fun i hi he=>hx ⟨i,hi,he⟩
 have hd:a.defers=(zc0 (ops.toList.take k) (heldU ops a) 0 a0).defers:=by rw[zkY];exact h.defers
 generalize zc0 (ops.toList.take k) (heldU ops a) 0 a0=b at ht hd;cases a;cases b;simp only at ht hd;subst ht hd;rfl
theorem SInv.next {k:Nat} {T:Nat→Value→World→Prop} {a0:Act} {w0:World} {L:Array Bool} {a:Act} {w:World} (h:SInv ops k T a0 w0 L a w) (hB:headB ops k a0.tmps.size=true) (hst:∀i v w w',Ext w w'→T i v w→T i v w')
  {i:Nat} (hi:i<k) {v:Value} {w':World} (hx:Ext w w') (hv:T i v w'):SInv ops k T a0 w0 (L.setIfInBounds i true) (a.put (dstB ops i) v) w':=by
 obtain⟨o,d,ho,hod,hd,hdm,hne,-⟩:=zbS hB hi;refine⟨by simp[h.size],h.ext.trans hx,by rw[ztF];exact h.tmps,by rw[put_defers];exact h.defers,fun j hj=> ?_,fun t ht=> ?_,fun j dj hj hdj hl=> ?_⟩
 ·rw[getD_set_ne false om];exact h.tail j hj
 ·rw[zAo _ _ (ht i hi)];exact h.old t ht
 ·rw[hd];by_cases hij:j=i
  ·subst hij;rw[hd] at hdj;obtain rfl:d=dj:=by injection hdj
   have:(a.put (some d) v).tmps.getD d undef=v:=by rw[Array.getD_eq_getD_getElem?,put_eq _ _ (by rw[h.tmps];exact hdm)];rfl
   rw[this];exact hv
  ·have hdd:d≠dj:=fun e=>hne j hj hij (by rw[e];exact hdj);have:(a.put (some d) v).tmps.getD dj undef=a.tmps.getD dj undef:=by rw[Array.getD_eq_getD_getElem?,Array.getD_eq_getD_getElem?,zAo _ _ (fun e=>hdd (by injection e))]
   rw[this];rw[getD_set_ne false (fun e=>hij e.symm)] at hl;exact hst _ _ _ _ hx (h.new j dj hj hdj hl)
theorem SInv.at_ {k:Nat}{T:Nat→Value→World→Prop}{a0:Act}{w0:World}{L:Array Bool}{a:Act}{w:World}(h:SInv ops k T a0 w0 L a w)(hB:headB ops k a0.tmps.size=true){i:Nat}(hi:i<k)(hl:L.getD i false=true):T i (heldU ops a i) w:=by obtain⟨o,d,ho,hod,hd,-⟩:=zbS hB hi;unfold heldU;rw[hd];exact h.new i d hi hd hl

def leftN (n:Nat) (L:Array Bool):Nat:=((List.range n).filter fun j=> !L.getD j false).length
theorem zgw {n i:Nat}{L:Array Bool}(hi:i<n)(hL:i<L.size)(h:L.getD i false=false):leftN n L=leftN n (L.setIfInBounds i true)+1:=by
 have key:∀n,leftN n L=leftN n (L.setIfInBounds i true)+(if i<n then 1 else 0):=by
  intro n
  induction n with
  |zero=>simp[leftN]
  |succ n ih=>
   unfold leftN at ih ⊢
   rw[List.range_succ,List.filter_append,List.filter_append,List.length_append,List.length_append,ih];by_cases hin:i=n
   ·subst hin;have e2:(L.setIfInBounds i true).getD i false=true:=by rw[Array.getD_eq_getD_getElem?,Array.getElem?_setIfInBounds_self_of_lt hL];rfl
    rw[List.filter_cons,List.filter_cons,h,e2];simp
   ·have e1:(L.setIfInBounds i true).getD n false=L.getD n false:=getD_set_ne false hin;rw[List.filter_cons,List.filter_cons,e1,List.filter_nil,List.filter_nil];have:(if i<n+1 then 1 else 0)=(if i<n then 1 else 0):=by
     by_cases h:i<n
     ·rw[if_pos h,if_pos om]
     ·rw[if_neg h,if_neg om]
    rw[this];omega
 have:=key n;rw[if_pos hi] at this;exact this
theorem zpI {n i:Nat}{L:Array Bool}(hi:i<n)(h:L.getD i false=false):0<leftN n L:=by unfold leftN;exact List.length_pos_of_mem (List.mem_filter.2 ⟨List.mem_range.2 hi,by rw[h];rfl⟩)
theorem zfx {n k:Nat}{L:Array Bool}(hk:k≤n)(h1:∀i,i<k→L.getD i false=true)(h2:∀i,k≤i→L.getD i false=false):leftN n L=n - k:=by
 have key:∀m,leftN (k+m) L=m:=by
  intro m
  induction m with
  |zero=>unfold leftN;rw[Nat.add_zero,List.length_eq_zero_iff,List.filter_eq_nil_iff];intro i hi;rw[h1 i (List.mem_range.1 hi)];simp
  |succ m ih=>
   unfold leftN at ih ⊢
   rw[←Nat.add_assoc,List.range_succ,List.filter_append,List.length_append,ih,List.filter_cons,h2 (k+m) om];simp
 have:=key (n - k);rwa [show k+(n - k)=n by omega] at this

def zsQ (P:Program) (ops:Array Oper) (Q:Exit→Act→World→Prop) (k:Nat) (T:Nat→Value→World→Prop) (a0:Act) (w0:World) (i:Nat):Prop:=
 ∀(u:Nat→Value) (w:World),Ext w0 w→(∀j,zdI .any ops i j=true→T j (u j) w)→
  wpOp P ops Q i (fun a' w'=> ∃v,a'=(zc0 (ops.toList.take k) u 0 a0).put (dstB ops i) v∧Ext w w'∧T i v w') (zc0 (ops.toList.take k) u 0 a0) w
def zef (P:Program) (ops:Array Oper) (k:Nat) (T:Nat→Value→World→Prop) (a0:Act) (w0:World) (i:Nat):Prop:=
 ∀(u:Nat→Value) (w:World),Ext w0 w→(∀j,zdI .any ops i j=true→T j (u j) w)→
  ∃v,(∀o,ops[i]?=some o→Yields P ops o v (zc0 (ops.toList.take k) u 0 a0))∧T i v w
theorem zef.slot {k:Nat}{T:Nat→Value→World→Prop}{a0:Act}{w0:World}{i:Nat}(hB:headB ops k a0.tmps.size=true)(hi:i<k)(h:zef P ops k T a0 w0 i):zsQ P ops Q k T a0 w0 i:=by intro u w hx hd;obtain⟨v,hy,hv⟩:=h u w hx hd;obtain⟨o,d,ho,hod,hdd,-⟩:=zbS hB hi;refine(hy o ho).wpOp ho ⟨v,?_,Ext.refl _,hv⟩;rw[hdd,hod]
section
variable {k:Nat} {F:List Nat} {T:Nat→Value→World→Prop} {a0:Act} {w0:World}
theorem zCs (hB:headB ops k a0.tmps.size=true) (hT:tailB ops k F=true) (hks:k≤ops.size) (hst:∀i v w w',Ext w w'→T i v w→T i v w') (hop:∀i,i<k→zsQ P ops Q k T a0 w0 i)
  (hend:∀L a w,SInv ops k T a0 w0 L a w→(∀i,i<k→F.contains i=false→L.getD i false=true)→wpAny P .any ops Q (leftN ops.size L) L a w):
  ∀(f:Nat) (L:Array Bool) (a:Act) (w:World),SInv ops k T a0 w0 L a w→leftN ops.size L=f→wpAny P .any ops Q f L a w:=by
 intro f
 induction f with
 |zero=>
  intro L a w inv hf;rw[←hf];refine hend L a w inv fun i hi _=> ?_;cases hl:L.getD i false with
  |true=>rfl
  |false=>have:=zpI (n:=ops.size) (i:=i) om hl;omega
 |succ f ih=>
  intro L a w inv hf;by_cases hall:∀i,i<k→F.contains i=false→L.getD i false=true
  ·rw[←hf];exact hend L a w inv hall
  ·have hall':∀i,i<k→Region.ready .any ops L=[]→L.getD i false=true:=by
    intro i
    induction i using Nat.strongRecOn with
    |_ i ihi=>
     intro hi hr;cases hl:L.getD i false with
     |true=>rfl
     |false=>obtain⟨o,d,ho,-,-,-,-,hed⟩:=zbS hB hi;have hm:i∈Region.ready .any ops L:=mem_ready.2 ⟨getD_in (by rw[inv.size];omega) hl,o,ho,fun e he hb=>ihi e.on (hed e he hb) (by have:=hed e he hb;omega) hr⟩;rw[hr] at hm;cases hm
   refine⟨fun hr=>absurd (fun i hi _=>hall' i hi hr) hall,fun i hi=> ?_⟩;obtain⟨hun,o,ho,hdeps⟩:=mem_ready.1 hi;have his:i<ops.size:=(Array.getElem?_eq_some_iff.1 ho).1;have hw:∀j,zdI .any ops i j=true→L.getD j false=true:=fun j hj=>by
    obtain⟨o',e,ho',he,hb,rfl⟩:=zd5 hj;rw[ho] at ho';obtain rfl:o=o':=by injection ho'
    exact hdeps e he hb
   have hik:i<k:=by
    rcases Nat.lt_or_ge i k with h|h
    ·exact h
    ·exfalso;have h1:=List.all_eq_true.1 hT i (List.mem_range.2 his);simp only[Bool.or_eq_true,decide_eq_true_eq] at h1;rcases h1 with(h1|h1)|h1
     ·omega
     ·refine hall fun c hc hF=> ?_;have h2:=List.all_eq_true.1 h1 c (List.mem_range.2 hc);rw[hF,Bool.false_or] at h2;exact hw c h2
     ·obtain⟨j,hj,h2⟩:=List.any_eq_true.1 h1;simp only[Bool.and_eq_true,decide_eq_true_eq] at h2;have h3:=hw j h2.2;rw[inv.tail j h2.1] at h3;cases h3
   have hact:=inv.act hB;have hg:=hop i hik (heldU ops a) w inv.ext (fun j hj=>by
    have hlj:=hw j hj;obtain⟨o',e,ho',he,hb,rfl⟩:=zd5 hj;obtain⟨o2,-,ho2,-,-,-,-,hed⟩:=zbS hB hik;rw[ho'] at ho2;obtain rfl:o'=o2:=by injection ho2
    exact inv.at_ hB (by have:=hed e he hb;omega) hlj)
   rw[←hact] at hg;refine wpOp_mono (fun a' w' h=> ?_) hg;obtain⟨v,rfl,hx,hv⟩:=h;refine ih _ _ _ (inv.next hB hst hik hx hv) ?_;have:=zgw (n:=ops.size) (i:=i) (L:=L) his (by rw[inv.size];exact his) (getD_both hun);omega
theorem zmI (hB:headB ops k a0.tmps.size=true) (hF:freeB ops k F=true) (hks:k≤ops.size) (hsel:Region.noSelect ops=true) (hseq:Region.seqB .any ops (ops.size - k) k (zdb ops k)=true) (hst:∀i v w w',Ext w w'→T i v w→T i v w')
  (hQ:∀c t t' ds w,Q (.panic c) ⟨t,ds⟩ w→Q (.panic c) ⟨t',ds⟩ w) (hpure:∀i,i∈F→zef P ops k T a0 w0 i)
  (hend:∀u w,Ext w0 w→(∀i,i<k→T i (u i) w)→wpList P ops Q (ops.toList.drop k) (zc0 (ops.toList.take k) u 0 a0) w):
  ∀(G:List Nat) (_:∀i∈G,i∈F) (L:Array Bool) (a:Act) (w:World),SInv ops k T a0 w0 L a w→(∀i,i<k→F.contains i=false→L.getD i false=true)→(∀i,i<k→G.contains i=false→L.getD i false=true)→wpAny P .any ops Q (leftN ops.size L) L a w
 |[],_,L,a,w,inv,_,h=>by
  have h1:∀i,i<k→L.getD i false=true:=fun i hi=>h i hi rfl;have hL:L=zdb ops k:=by
   apply Array.ext_getElem?;intro i;have e:(zdb ops k)[i]?=((List.range ops.size)[i]?).map fun i=>decide (i<k):=by unfold zdb;simp
   rw[e];by_cases hi:i<ops.size
   ·rw[List.getElem?_range hi];have hi':i<L.size:=by rw[inv.size];exact hi
    by_cases hik:i<k
    ·have:=h1 i hik;simp[hi'] at this;simp[hi',hik,this]
    ·have:=inv.tail i om;simp[hi'] at this;simp[hi',hik,this]
   ·rw[Array.getElem?_eq_none (by rw[inv.size];omega),List.getElem?_eq_none (by simp;omega)];rfl
  rw[zfx hks h1 inv.tail];have hlen:(ops.toList.drop k).length=ops.size - k:=by simp
  rw[←hlen];refine wpAny_of_seq (ops.toList.drop k) k L a w (fun j=>by rw[List.getElem?_drop,Array.getElem?_toList]) (by rw[hlen,hL];exact hseq) ?_;rw[inv.act hB];exact hend _ w inv.ext fun i hi=>inv.at_ hB hi (h1 i hi)
 |i::G,hG,L,a,w,inv,hc,h=>by
  have hiF:=hG i (by simp);by_cases hl:L.getD i false=true
  ·refine zmI hB hF hks hsel hseq hst hQ hpure hend G (fun j hj=>hG j (by simp[hj])) L a w inv hc fun j hj hGj=> ?_;by_cases hji:j=i
   ·rw[hji];exact hl
   ·refine h j hj ?_;rw[List.contains_cons,hGj,Bool.or_false,beq_eq_false_iff_ne];exact hji
  ·have hl':L.getD i false=false:=by simpa using hl
   have h1:=List.all_eq_true.1 hF i hiF;simp only[Bool.and_eq_true,decide_eq_true_eq] at h1;obtain⟨⟨hik,hfree⟩,hdep⟩:=h1;obtain⟨o,d,ho,hod,hd,hdm,hne,hed⟩:=zbS hB hik;simp only[ho] at hdep;have his:i<ops.size:=by omega
   have hdl:∀e∈o.after,Region.binds .any e=true→L.getD e.on false=true:=fun e he hb=>by have h2:=Array.all_eq_true_iff_forall_mem.1 hdep e he;simp only[hb,Bool.not_true,Bool.false_or,Bool.and_eq_true,decide_eq_true_eq,Bool.not_eq_true'] at h2;exact hc e.on h2.1 h2.2
   have hready:i∈Region.ready .any ops L:=mem_ready.2 ⟨getD_in (by rw[inv.size];exact his) hl',o,ho,hdl⟩;obtain⟨v,hy,hv⟩:=hpure i hiF (heldU ops a) w inv.ext (fun j hj=>by
    obtain⟨o',e,ho',he,hb,rfl⟩:=zd5 hj;rw[ho] at ho';obtain rfl:o=o':=by injection ho'
    exact inv.at_ hB (by have:=hed e he hb;omega) (hdl e he hb))
   rw[←inv.act hB] at hy;rw[zgw (n:=ops.size) (i:=i) his (by rw[inv.size];exact his) hl'];refine wpAny_first ho (Region.noSelect_spec hsel) (fun c a w h=>by
    obtain⟨t,ds⟩:=a;generalize o.dst=dd at h;cases dd with
    |none=>exact h
    |some d=>exact hQ c _ t ds w h) (leftN ops.size (L.setIfInBounds i true)) L a w (fun j oj hj hji hun hno=> ?_) hready (hy o ho) ?_
   ·refine Region.free_spec ho hfree j oj hj hji ?_ hno;have hjs:j<ops.size:=(Array.getElem?_eq_some_iff.1 hj).1;have ec:(zgZ ops k F).getD j true=(decide (j<k) && !F.contains j):=by unfold zgZ;simp[hjs]
    rw[ec];by_cases hjk:j<k∧F.contains j=false
    ·have:=hc j hjk.1 hjk.2;rw[getD_both hun] at this;cases this
    ·by_cases h2:j<k
     ·have h3:F.contains j=true:=by
       cases h4:F.contains j with
       |true=>rfl
       |false=>exact absurd ⟨h2,h4⟩ hjk
      simp only[h3];simp
     ·simp[h2]
   ·rw[hod,←hd];refine zmI hB hF hks hsel hseq hst hQ hpure hend G (fun j hj=>hG j (by simp[hj])) _ _ w (inv.next hB hst hik (Ext.refl w) hv) (fun j hj hFj=>getD_set_true (hc j hj hFj)) fun j hj hGj=> ?_;by_cases hji:j=i
    ·rw[hji,Array.getD_eq_getD_getElem?,Array.getElem?_setIfInBounds_self_of_lt (by rw[inv.size];exact his)];rfl
    ·refine getD_set_true (h j hj ?_);rw[List.contains_cons,hGj,Bool.or_false,beq_eq_false_iff_ne];exact hji
end
def allOf (p:Nat→Prop):Nat→Nat→Prop
 |0,_=>True
 |n+1,i=>p i∧allOf p n (i+1)
theorem zfD {p:Nat→Prop}:∀{n i:Nat},allOf p n i→∀j,i≤j→j<i+n→p j
 |0,_,_,_,h1,h2=>by omega
 |n+1,i,h,j,h1,h2=>by
  by_cases hj:j=i
  ·rw[hj];exact h.1
  ·exact zfD h.2 j om om
theorem zoe {p:Nat→Prop}:∀{n i:Nat},(∀j,i≤j→j<i+n→p j)→allOf p n i
 |0,_,_=>trivial
 |n+1,i,h=>⟨h i (Nat.le_refl _) om,zoe fun j h1 h2=>h j om om⟩
theorem zqP {id:Nat} {a:Act} {w:World} {l:List Oper} (k:Nat) (F:List Nat) (T:Nat→Value→World→Prop) (hm:P.follows .mixedOrders=true) (hB:zwP l.toArray k F a.tmps.size=true)
  (hst:∀i v w w',Ext w w'→T i v w→T i v w') (hQ:∀c t t' ds w,Q (.panic c) ⟨t,ds⟩ w→Q (.panic c) ⟨t',ds⟩ w)
  (hop:allOf (fun i=>if F.contains i=true then zef P l.toArray k T a w.drew i else zsQ P l.toArray Q k T a w.drew i) k 0)
  (hend:∀u w',Ext w.drew w'→allOf (fun i=>T i (u i) w') k 0→wpList P l.toArray Q (l.drop k) (zc0 (l.take k) u 0 a) w'):(Code.region id l.toArray true).wp P Q a w:=by
 simp only[zwP,Bool.and_eq_true,decide_eq_true_eq] at hB;obtain⟨⟨⟨⟨⟨h1,h2⟩,h3⟩,h4⟩,h5⟩,h6⟩:=hB;have hpure:∀i,i∈F→zef P l.toArray k T a w.drew i:=fun i hi=>by
  have hik:i<k:=by have:=List.all_eq_true.1 h5 i hi;simp only[Bool.and_eq_true,decide_eq_true_eq] at this;exact this.1.1
  have:=zfD hop i om om;rwa [if_pos (by simpa using hi)] at this
 refine wp_region_any hm ?_;have hleft:leftN l.toArray.size (Array.replicate l.toArray.size false)=l.toArray.size:=by have:=zfx (n:=l.toArray.size) (k:=0) (L:=Array.replicate l.toArray.size false) (Nat.zero_le _) (fun i hi=>by omega) (fun i _=>getD_replicate_false _ _);simpa using this
 refine zCs (F:=F) h3 h4 h2 hst (fun i hi=> ?_) (fun L a' w' inv hall=> ?_) l.toArray.size _ a w.drew ⟨by simp,Ext.refl _,rfl,rfl,fun i _=>getD_replicate_false _ _,fun _ _=>rfl,fun i d _ _ hl=>by rw[getD_replicate_false] at hl;cases hl⟩ hleft
 ·by_cases hF:F.contains i=true
  ·exact(hpure i (by simpa using hF)).slot h3 hi
  ·have:=zfD hop i om om;rwa [if_neg hF] at this
 ·refine zmI h3 h5 h2 h1 h6 hst hQ hpure (fun u w'' hx hT=> ?_) F (fun _ h=>h) L a' w' inv hall hall;have:=hend u w'' hx (zoe fun j _ hj=>hT j om);simpa using this

structure Stab where
 p:Value→World→Prop
 up:∀v w w',Ext w w'→p v w→p v w'
def Stab.is (x:Value):Stab:=⟨fun v _=>v=x,fun _ _ _ _ h=>h⟩
def Stab.any:Stab:=⟨fun _ _=>True,fun _ _ _ _ _=>trivial⟩
def prop (Ts:List Stab) (i:Nat):Value→World→Prop:=match Ts[i]? with|some t=>t.p|none=>fun _ _=>True
theorem zpV (Ts:List Stab):∀i v w w',Ext w w'→prop Ts i v w→prop Ts i v w':=fun i v w w' hx h=>by
 unfold prop at h ⊢
 cases hi:Ts[i]? with
 |none=>trivial
 |some t=>rw[hi] at h;exact t.up v w w' hx h
def SlotA (P:Program) (ops:Array Oper) (Q:Exit→Act→World→Prop) (T:Nat→Value→World→Prop) (A:(Nat→Value)→Act) (w0:World) (i:Nat):Prop:=
 ∀(u:Nat→Value) (w:World),Ext w0 w→(∀j,zdI .any ops i j=true→T j (u j) w)→wpOp P ops Q i (fun a' w'=> ∃v,a'=(A u).put (dstB ops i) v∧Ext w w'∧T i v w') (A u) w
theorem sla {P:Program}{ops:Array Oper}{Q:Exit→Act→World→Prop}{T:Nat→Value→World→Prop}{A:(Nat→Value)→Act}{w0:World}{i:Nat}(h:∀(u:Nat→Value) (y:Gr),(∀j,zdI .any ops i j=true→T j (u j) (xt w0 y))→wpOp P ops Q i (fun a' w'=> ∃v,a'=(A u).put (dstB ops i) v∧Ext (xt w0 y) w'∧T i v w') (A u) (xt w0 y)):SlotA P ops Q T A w0 i:=fun u w hx hd=>by obtain⟨y,rfl⟩:=hx.get;exact h u y hd
def PureA (P:Program) (ops:Array Oper) (T:Nat→Value→World→Prop) (A:(Nat→Value)→Act) (w0:World) (i:Nat):Prop:=
 ∀(u:Nat→Value) (w:World),Ext w0 w→(∀j,zdI .any ops i j=true→T j (u j) w)→∃v,(∀o,ops[i]?=some o→Yields P ops o v (A u))∧T i v w
theorem zrD {id:Nat} {a:Act} {w:World} {l:List Oper} (k:Nat) (F:List Nat) (Ts:List Stab) {A:(Nat→Value)→Act} (hA:∀u,zc0 (l.take k) u 0 a=A u) (hm:P.follows .mixedOrders=true) (hB:zwP l.toArray k F a.tmps.size=true)
  (hQ:∀c t t' ds w,Q (.panic c) ⟨t,ds⟩ w→Q (.panic c) ⟨t',ds⟩ w)
  (hop:allOf (fun i=>if F.contains i=true then PureA P l.toArray (prop Ts) A w.drew i else SlotA P l.toArray Q (prop Ts) A w.drew i) k 0)
  (hend:∀u w',Ext w.drew w'→allOf (fun i=>prop Ts i (u i) w') k 0→wpList P l.toArray Q (l.drop k) (A u) w'):(Code.region id l.toArray true).wp P Q a w:=by
 obtain rfl:A=fun u=>zc0 (l.take k) u 0 a:=funext fun u=>(hA u).symm;exact zqP k F (prop Ts) hm hB (zpV Ts) hQ hop hend

theorem za0 {i:Nat} {T:Nat→Value→World→Prop} {o:Oper} {d:Tmp} {a:Act} {w:World} (ho:ops[i]?=some o) (hd:o.dst=some d) (hw:Region.wanted o (yielded ops a.tmps)=true)
  (h:∀K:Act→World→Prop,(∀a' w',a'=a.put (some d) (a'.tmps.getD d undef)→Ext w w'→T i (a'.tmps.getD d undef) w'→K a' w')→o.wp P a w K Q):
  wpOp P ops Q i (fun a' w'=> ∃v,a'=a.put (dstB ops i) v∧Ext w w'∧T i v w') a w:=by
 unfold wpOp;simp only[ho];rw[if_pos hw];have e:dstB ops i=some d:=by unfold dstB;rw[ho];exact hd
 rw[e];exact .inl (h _ fun a' w' h1 h2 h3=>⟨_,h1,h2,h3⟩)
theorem zaI {i:Nat} {T:Nat→Value→World→Prop} {w:World} {o:Oper} {b:Act} {v:Value} (ho:ops[i]?=some o) (hw:Region.wanted o (yielded ops b.tmps)=true)
  (hy:∀w',(execOp b.eval o).run P w'=.ok (.value v) w') (hT:T i v w):
  ∃v,(∀o,ops[i]?=some o→Yields P ops o v b)∧T i v w:=
 ⟨v,fun o' ho'=>by rw[ho] at ho';obtain rfl:o=o':=(by injection ho');exact .inl ⟨hw,hy⟩,hT⟩
end

def BoxAt (W:World) (b:Nat) (cs:List Value) (T:TypeId):Prop:=W.heap[b]?=some (.cells cs.toArray T (0,0))
theorem BoxAt.mono {W W':World}{b:Nat}{cs:List Value}{T:TypeId}(h:BoxAt W b cs T)(hx:Ext W W'):BoxAt W' b cs T:=by
 unfold BoxAt at *
 rw[hx.block b (Array.getElem?_eq_some_iff.1 h).1];exact h
theorem BoxAt.lt {W:World}{b:Nat}{cs:List Value}{T:TypeId}(h:BoxAt W b cs T):b<W.heap.size:=(Array.getElem?_eq_some_iff.1 h).1
theorem BoxAt.new {W:World}{b:Nat}(hb:W.heap.size=b)(cs:List Value)(T:TypeId):BoxAt (W.alloc (.cells cs.toArray T)) b cs T:=by subst hb;show(W.heap.push _)[W.heap.size]?=_;simp
theorem BoxAt.alloc {W:World}{b:Nat}{cs:List Value}{T:TypeId}(h:BoxAt W b cs T)(o:Obj):BoxAt (W.alloc o) b cs T:=h.mono ((Ext.refl W).alloc o)
theorem BoxAt.xt {W:World}{b:Nat}{cs:List Value}{T:TypeId}(h:BoxAt W b cs T)(y:Gr):BoxAt (YtnpdghjpcnjokaaGreat.xt W y) b cs T:=h.mono ((Ext.refl W).xt y)
theorem BoxAt.drew {W:World}{b:Nat}{cs:List Value}{T:TypeId}(h:BoxAt W b cs T):BoxAt W.drew b cs T:=h.mono ((Ext.refl W).drew)
theorem BoxAt.drewN {W:World}{b:Nat}{cs:List Value}{T:TypeId}(h:BoxAt W b cs T)(n:Nat):BoxAt (W.drewN n) b cs T:=h.mono ((Ext.refl W).drewN n)
theorem bxA {P:Prop}(h:P:=by repeat(first|exact BoxAt.new (by first|rfl|(simp[go_sem];done)|(simp[go_sem];omega)) _ _|apply BoxAt.xt|apply BoxAt.drew|apply BoxAt.drewN|apply BoxAt.alloc)):P:=h
theorem BoxAt.cell {W:World}{b:Nat}{cs:List Value}{T:TypeId}(h:BoxAt W b cs T){i:Nat}{v:Value}(hv:cs[i]?=some v):W.cell? ⟨b,i,none⟩=some v:=by unfold BoxAt at h;rw[cell_of_row _ b i _ _ _ h];simpa using hv
theorem BoxAt.c {W:World}{b:Nat}{cs:List Value}{T:TypeId}(h:BoxAt W b cs T)(i:Nat){v:Value}(hv:cs[i]?=some v):W.cell? ⟨b,i,none⟩=some v:=h.cell hv
theorem BoxAt.cA {W:World}{b:Nat}{v0 v1 v2 v3 v4 v5 v6 v7:Value}{T:TypeId}(h:BoxAt W b [v0,v1,v2,v3,v4,v5,v6,v7] T){p:Prop}(k:W.cell? ⟨b,0,none⟩=some v0→W.cell? ⟨b,1,none⟩=some v1→W.cell? ⟨b,2,none⟩=some v2→W.cell? ⟨b,3,none⟩=some v3→W.cell? ⟨b,4,none⟩=some v4→W.cell? ⟨b,5,none⟩=some v5→W.cell? ⟨b,6,none⟩=some v6→W.cell? ⟨b,7,none⟩=some v7→p):p:=k (h.c 0 rfl) (h.c 1 rfl) (h.c 2 rfl) (h.c 3 rfl) (h.c 4 rfl) (h.c 5 rfl) (h.c 6 rfl) (h.c 7 rfl)
theorem BoxAt.cB {W:World}{b:Nat}{v0 v1 v2 v3 v4 v5 v6 v7 v8 v9 v10 v11 v12 v13 v14 v15 v16 v17 v18 v19 v20:Value}{T:TypeId}(h:BoxAt W b [v0,v1,v2,v3,v4,v5,v6,v7,v8,v9,v10,v11,v12,v13,v14,v15,v16,v17,v18,v19,v20] T){p:Prop}(k:W.cell? ⟨b,0,none⟩=some v0→W.cell? ⟨b,1,none⟩=some v1→W.cell? ⟨b,2,none⟩=some v2→W.cell? ⟨b,3,none⟩=some v3→W.cell? ⟨b,4,none⟩=some v4→W.cell? ⟨b,5,none⟩=some v5→W.cell? ⟨b,6,none⟩=some v6→W.cell? ⟨b,7,none⟩=some v7→W.cell? ⟨b,8,none⟩=some v8→W.cell? ⟨b,9,none⟩=some v9→W.cell? ⟨b,10,none⟩=some v10→W.cell? ⟨b,11,none⟩=some v11→W.cell? ⟨b,12,none⟩=some v12→W.cell? ⟨b,13,none⟩=some v13→W.cell? ⟨b,14,none⟩=some v14→W.cell? ⟨b,15,none⟩=some v15→W.cell? ⟨b,16,none⟩=some v16→W.cell? ⟨b,17,none⟩=some v17→W.cell? ⟨b,18,none⟩=some v18→W.cell? ⟨b,19,none⟩=some v19→W.cell? ⟨b,20,none⟩=some v20→p):p:=k (h.c 0 rfl) (h.c 1 rfl) (h.c 2 rfl) (h.c 3 rfl) (h.c 4 rfl) (h.c 5 rfl) (h.c 6 rfl) (h.c 7 rfl) (h.c 8 rfl) (h.c 9 rfl) (h.c 10 rfl) (h.c 11 rfl) (h.c 12 rfl) (h.c 13 rfl) (h.c 14 rfl) (h.c 15 rfl) (h.c 16 rfl) (h.c 17 rfl) (h.c 18 rfl) (h.c 19 rfl) (h.c 20 rfl)
theorem BoxAt.froz {W:World}{b:Nat}{cs:List Value}{T:TypeId}(h:BoxAt W b cs T)(i:Nat):W.frozen? ⟨b,i,none⟩=false:=by unfold BoxAt at h;unfold World.frozen?;simp[h]
theorem BoxAt.there {W:World}{b:Nat}{cs:List Value}{T:TypeId}(h:BoxAt W b cs T):W.there b 0 cs.length:=fun j hj=>by rw[Nat.zero_add];exact⟨by rw[h.cell (List.getElem?_eq_getElem hj)];rfl,h.froz j⟩
theorem BoxAt.differ {W:World}{b b':Nat}{cs cs':List Value}{T T':TypeId}(h:BoxAt W b cs T)(h':BoxAt W b' cs' T')(hT:T≠T'):b≠b':=fun e=>by subst e;unfold BoxAt at h h';rw[h] at h';injection h' with h';injection h' with h1 h2;exact hT h2
structure Turn (b : Nat) (W W' : World) : Prop where
 size:W'.heap.size=W.heap.size
 else_:∀g,g≠b→W'.heap[g]?=W.heap[g]?
 os:W'.os=W.os
 tape:W'.tape=W.tape
 output:W'.output=W.output
 few:∃cs T fr,W.heap[b]?=some (.cells cs T fr)∧cs.size<44
theorem BoxAt.turn {W W':World}{b b':Nat}{cs:List Value}{T:TypeId}(ht:Turn b W W')(hne:b'≠b)(h:BoxAt W b' cs T):BoxAt W' b' cs T:=by
 unfold BoxAt at *
 rw[ht.else_ b' hne];exact h
theorem Turn.ext {X W W':World}{b:Nat}(ht:Turn b W W')(hx:Ext X W)(hb:X.heap.size≤b):Ext X W':=
 ⟨ht.os.trans hx.os,ht.tape.trans hx.tape,ht.output.trans hx.output,by rw[ht.size];exact hx.size,fun k hk=>by rw[ht.else_ k om];exact hx.block k hk⟩
theorem Sl.turn2 {b:Nat}{W W':World}{A:Option Addr}{rows:List (List Value)}(ht:Turn b W W')(h:Sl W A 45 rows):Sl W' A 45 rows:=
 ⟨fun i row hr=>by
  obtain⟨h1,g,o,h2,h3⟩:=h.at_ i row hr;refine⟨h1,g,o,h2,fun j v hv=> ?_⟩;have hne:g≠b:=by
   intro he;subst he;obtain⟨cs,T,fr,hb,h44⟩:=ht.few;obtain⟨x,hx⟩:∃x,row[44]?=some x:=⟨_,List.getElem?_eq_getElem om⟩
   have:=h3 44 x hx;rw[cell_of_row _ g _ cs T fr hb] at this;have:=(Array.getElem?_eq_some_iff.1 this).1;omega
  rw[World.cell?_of_block (ht.else_ g hne)];exact h3 j v hv⟩
theorem Own.turn2 {b:Nat}{w0 W W':World}{E:TypeId}{A:Option Addr}{n k:Nat}{rows:List (List Value)}(ht:Turn b W W')(h:Own w0 W E 45 A n k rows):Own w0 W' E 45 A n k rows:=by
 refine⟨h.len,h.row,h.one,h.le,h.cap,?_⟩;rcases h.at_ with h0|⟨g,cur,h1,h2,h3,h4,h5⟩
 ·exact .inl h0
 ·by_cases hg:g=b
  ·subst hg;obtain⟨cs,T,fr,hb,h44⟩:=ht.few;rw[h3] at hb;injection hb with hb;injection hb with e1;subst e1;exact .inl om
  ·exact .inr ⟨g,cur,h1,h2,by rw[ht.else_ g hg];exact h3,h4,h5⟩
theorem zaG {P:Program}{c:Code}{Q:Exit→Act→World→Prop}{a:Act}{W:World}(h:∀W',W'=W→c.wp P Q a W'):c.wp P Q a W:=h W rfl
structure LogW (w W : World) (A : Option Addr) (N c : Nat) (l : List Rec) : Prop where
 sl:Sl W A 45 (l.map recR)
 len:l.length=N
 le:N≤c
 cap:c≤maxLen
 el:∀r∈l,AcnAt w r.act
theorem LogW.recs {w W W':World}{A:Option Addr}{N c:Nat}{l:List Rec}(h:LogW w W A N c l)(hx:Ext w W)(hy:Ext W W'):za3 W' A c l:=
 ⟨h.sl.mono hy,by rw[h.len];exact h.le,h.cap,fun r hr=>(h.el r hr).mono (hx.trans hy)⟩
theorem LogW.mono {w W W':World}{A:Option Addr}{N c:Nat}{l:List Rec}(h:LogW w W A N c l)(hx:Ext W W'):LogW w W' A N c l:=⟨h.sl.mono hx,h.len,h.le,h.cap,h.el⟩
theorem LogW.turn {b:Nat}{w W W':World}{A:Option Addr}{N c:Nat}{l:List Rec}(ht:Turn b W W')(h:LogW w W A N c l):LogW w W' A N c l:=⟨h.sl.turn2 ht,h.len,h.le,h.cap,h.el⟩
theorem LogW.of {w W:World}{A:Option Addr}{c:Nat}{l:List Rec}(h:za3 w A c l)(hx:Ext w W):LogW w W A l.length c l:=⟨h.sl.mono hx,rfl,h.le,h.cap,h.el⟩
theorem LogW.nil (w W:World):LogW w W none 0 0 []:=⟨Sl.nil _ _ _,rfl,Nat.le_refl _,Nat.zero_le _,by simp⟩
theorem LogW.own {w X W:World}{E:TypeId}{A:Option Addr}{N c:Nat}{l:List Rec}(h:Own X W E 45 A N c (l.map recR))(he:∀r∈l,AcnAt w r.act):LogW w W A N c l:=
 ⟨h.sl,by have:=h.len;rwa [List.length_map] at this,h.le,h.cap,he⟩
section
variable {P:Program} {ops:Array Oper} {rest:List Oper} {op:Oper} {a:Act} {Q:Exit→Act→World→Prop}
theorem zwO {W:World}{b:Nat}{zs:List Value}{T:TypeId}(hb:BoxAt W b zs T)(cells:List Value)(hz:zs.length=cells.length)(h44:zs.length<44):Turn b W (W.setCells b 0 cells)∧BoxAt (W.setCells b 0 cells) b cells T:=by
 have key:∀(cells:List Value) (o:Nat) (W:World) (zs:List Value),BoxAt W b zs T→o+cells.length≤zs.length→zs.length<44→Turn b W (W.setCells b o cells)∧BoxAt (W.setCells b o cells) b (zs.take o++cells++zs.drop (o+cells.length)) T:=by
  intro cells
  induction cells with
  |nil=>intro o W zs hb ho h44;refine⟨⟨rfl,fun _ _=>rfl,rfl,rfl,rfl,zs.toArray,T,(0,0),hb,by simpa using h44⟩,?_⟩;simp only[World.setCells,List.append_nil,List.length_nil,Nat.add_zero,List.take_append_drop];exact hb
  |cons v r ih=>
   intro o W zs hb ho h44;simp only[List.length_cons] at ho;have hb1:BoxAt (W.setCell ⟨b,o,none⟩ v) b (zs.set o v) T:=by
    unfold BoxAt at *
    unfold World.setCell;rw[Array.getElem?_modify,if_pos rfl,hb];simp
   have ht:Turn b W (W.setCell ⟨b,o,none⟩ v):=⟨by simp[World.setCell],fun g hg=>by unfold World.setCell;rw[Array.getElem?_modify,if_neg (Ne.symm hg)],rfl,rfl,rfl,zs.toArray,T,(0,0),hb,by simpa using h44⟩
   obtain⟨i1,i2⟩:=ih (o+1) _ (zs.set o v) hb1 (by rw[List.length_set];omega) (by rw[List.length_set];exact h44);refine⟨⟨i1.size.trans ht.size,fun g hg=>(i1.else_ g hg).trans (ht.else_ g hg),i1.os.trans ht.os,i1.tape.trans ht.tape,i1.output.trans ht.output,ht.few⟩,?_⟩;have e:(zs.set o v).take (o+1)++r++(zs.set o v).drop (o+1+r.length)=zs.take o++v::r++zs.drop (o+(r.length+1)):=by rw[List.drop_set_of_lt om,show o+1+r.length=o+(r.length+1) by omega,List.take_succ_eq_append_getElem (by rw[List.length_set];omega),List.take_set_of_le (Nat.le_refl o)];simp
   rw[e] at i2;exact i2
 have:=key cells 0 W zs hb om h44;rw[List.take_zero,Nat.zero_add,List.drop_eq_nil_of_le om,List.append_nil,List.nil_append] at this;exact this
theorem zqQ {K:Act→World→Prop} (ty:TypeId) (x y:Operand) (ho:op.op=.store ty x y) {W:World} {b:Nat} {zs:List Value} {T:TypeId} (hb:BoxAt W b zs T) (hx:a.eval x=.pointer (some ⟨b,0,none⟩))
  (cells:List Value) (hy:a.eval y=.agg cells.toArray) (hz:zs.length=cells.length) (h44:zs.length<44) (hi:(P.info? ty).map (·.size)=some cells.length) (h1:∀u∈cells,u.oneCell'=true)
  (h:∀W',Turn b W W'→BoxAt W' b cells T→K (a.put op.dst undef) W'):op.wp P a W K Q:=by
 refine wp_store_mid ty x y ho b 0 cells.toArray hx hy (fun j hj=> ?_) (by simpa using hi) (all_oneCell_toArray h1) ?_
 ·exact hb.there j (by rw[hz];simpa using hj)
 ·obtain⟨i1,i2⟩:=zwO hb cells hz h44;exact h _ i1 i2
theorem zao {md:Region.Mode} {S:Array Bool→World→Prop} {i:Nat} {o:Oper} {f:Nat} {L:Array Bool} {w:World} (hr:Region.ready md ops L=[i]) (ho:ops[i]?=some o) (hg:o.guard=none) (hcl:ShutL md ops L)
  (ty:TypeId) (x y:Operand) (hop:o.op=.store ty x y) {b:Nat} {zs:List Value} {T:TypeId} (hb:BoxAt w b zs T) (hx:a.eval x=.pointer (some ⟨b,0,none⟩))
  (cells:List Value) (hy:a.eval y=.agg cells.toArray) (hz:zs.length=cells.length) (h44:zs.length<44) (hi:(P.info? ty).map (·.size)=some cells.length) (h1:∀u∈cells,u.oneCell'=true)
  (h:∀W',Turn b w W'→BoxAt W' b cells T→S (L.setIfInBounds i true) W'∧(ShutL md ops (L.setIfInBounds i true)→S (L.setIfInBounds i true) W'→wpAnyL P md ops Q S f (L.setIfInBounds i true) (a.put o.dst undef) W')):wpAnyL P md ops Q S (f+1) L a w:=
 za9 hr ho hg hcl fun _ hK=>zqQ ty x y hop hb hx cells hy hz h44 hi h1 fun W' h2 h3=>hK _ _ (h W' h2 h3).1 (h W' h2 h3).2
theorem za2 (hgd:op.guard=none) (ty:TypeId) (x y:Operand) (ho:op.op=.store ty x y) {W:World} {b:Nat} {zs:List Value} {T:TypeId} (hb:BoxAt W b zs T) (hx:a.eval x=.pointer (some ⟨b,0,none⟩))
  (cells:List Value) (hy:a.eval y=.agg cells.toArray) (hz:zs.length=cells.length) (h44:zs.length<44) (hi:(P.info? ty).map (·.size)=some cells.length) (h1:∀u∈cells,u.oneCell'=true)
  (h:∀W',Turn b W W'→BoxAt W' b cells T→wpList P ops Q rest (a.put op.dst undef) W'):wpList P ops Q (op::rest) a W:=
 wpList_plain hgd fun _ hK=>zqQ ty x y ho hb hx cells hy hz h44 hi h1 fun W' h2 h3=>hK _ _ (h W' h2 h3)
end
theorem BoxAt.six {W:World}{b:Nat}{v0 v1 v2 v3 v4 v5:Value}{T:TypeId}(h:BoxAt W b [v0,v1,v2,v3,v4,v5] T):
  W.cell? ⟨b,0,none⟩=some v0∧W.cell? ⟨b,1,none⟩=some v1∧W.cell? ⟨b,2,none⟩=some v2∧W.cell? ⟨b,3,none⟩=some v3∧W.cell? ⟨b,4,none⟩=some v4∧W.cell? ⟨b,5,none⟩=some v5:=
 ⟨h.cell rfl,h.cell rfl,h.cell rfl,h.cell rfl,h.cell rfl,h.cell rfl⟩
theorem zaa (n:Nod)(A:Option Addr)(c:Nat):∀u∈((Ln n A c):List Value),u.oneCell'=true:=fun u hu=>by simp only[List.mem_cons,List.not_mem_nil,or_false] at hu;rcases hu with rfl|rfl|rfl|rfl|rfl|rfl<;>rfl
theorem zaT (m:Msg):∀u∈((La m):List Value),u.oneCell'=true:=fun u hu=>by simp only[List.mem_cons,List.not_mem_nil,or_false] at hu;rcases hu with rfl|rfl|rfl|rfl|rfl|rfl<;>rfl
theorem zcF (n:Nod)(m:Msg):∀r∈(recvV n m).1.log,r∈n.log∨r∈m.recs:=by
 have hn:∀r∈nod0.log,r∈n.log∨r∈m.recs:=fun _ hr=>by simp[nod0] at hr
 have ht:∀x:Nod,x.log=n.log→∀r∈tookL x m,r∈n.log∨r∈m.recs:=fun x hx r hr=>by
  unfold tookL at hr;simp only at hr;split at hr
  ·rcases List.mem_append.1 hr with hr|hr
   ·exact .inl (by rw[←hx];exact List.mem_of_mem_take hr)
   ·exact .inr (List.mem_of_mem_drop hr)
  ·exact .inl (by rw[←hx];exact hr)
 have htv:∀x:Nod,x.log=n.log→∀r∈(takeV x m).1.log,r∈n.log∨r∈m.recs:=fun x hx r hr=>by
  unfold takeV at hr;simp only at hr
  repeat' split at hr
  all_goals first
   |exact .inl (by rw[←hx];exact hr)
   |exact ht x hx r hr
 unfold recvV;split
 ·exact hn
 split
 ·exact hn
 split
 ·exact hn
 split
 ·exact hn
 unfold recdV;split
 ·split<;>exact fun _ hr=> .inl hr
 split
 ·exact htv _ (zch n m)
 split
 ·intro r hr;refine .inl ?_;have:(ackN (inTerm n m) m).log=n.log:=by unfold ackN;split<;>exact zch n m
  rw[←this];exact hr
 ·intro r hr;refine .inl ?_;have:(zar (inTerm n m) m).log=n.log:=by unfold zar;split<;>exact zch n m
  rw[←this];exact hr
theorem zec (n:Nod):∀r∈(sentM n).recs,r∈n.log:=fun _ hr=>List.mem_of_mem_drop (List.mem_of_mem_take hr)
structure Four (T : TypeId) (w W : World) (x : Nod) (A : Option Addr) (c : Nat) (y : Nod) (B : Option Addr) (d : Nat) : Prop where
 ext:Ext w W
 b1:BoxAt W w.heap.size (Ln x A c) T
 b2:BoxAt W (w.heap.size+1) (Ln y B d) T
 b3:BoxAt W (w.heap.size+2) Zn T
 b4:BoxAt W (w.heap.size+3) Zn T
 l1:LogW w W A x.log.length c x.log
 l2:LogW w W B y.log.length d y.log
section
variable {T:TypeId} {w W W':World} {x y:Nod} {A B:Option Addr} {c d:Nat}
end

section
variable {P:Program} {ops:Array Oper} {Q:Exit→Act→World→Prop}

def zzA (w:World) (v:Value):Prop:=∃g,v=.pointer (some ⟨g,0,none⟩)∧w.heap.size≤g
def zzB (w:World) (v:Value):Prop:=∃g,v=.pointer (some ⟨g,0,none⟩)∧g<w.heap.size
def Diff (ops:Array Oper) (Al:List Nat) (k:Nat) (L:Array Bool) (a:Act):Prop:=∀i j,i<k→j<k→Al.contains i=true→Al.contains j=true→i≠j→L.getD i false=true→L.getD j false=true→heldU ops a i≠heldU ops a j
theorem zvt {k:Nat}{T:Nat→Value→World→Prop}{a0:Act}{w0:World}{L:Array Bool}{a:Act}{w:World}(inv:SInv ops k T a0 w0 L a w)(hB:headB ops k a0.tmps.size=true){i j:Nat}(hi:i<k)(hj:j<k)(v:Value):
  heldU ops (a.put (dstB ops i) v) j=if j=i then v else heldU ops a j:=by
 obtain⟨o,d,ho,hod,hd,hdm,hne,-⟩:=zbS hB hi;unfold heldU;by_cases h:j=i
 ·subst h;rw[if_pos rfl,hd];show(a.put (some d) v).tmps.getD d undef=v;rw[Array.getD_eq_getD_getElem?,put_eq _ _ (by rw[inv.tmps];exact hdm)];rfl
 ·rw[if_neg h,hd];obtain⟨o2,d2,-,-,hd2,-,-,-⟩:=zbS hB hj;rw[hd2];show(a.put (some d) v).tmps.getD d2 undef=a.tmps.getD d2 undef;rw[Array.getD_eq_getD_getElem?,Array.getD_eq_getD_getElem?,zAo _ _ (fun e=>hne j hj h (by rw[hd2];exact e.symm))]
theorem Diff.next {Al:List Nat} {k:Nat} {T:Nat→Value→World→Prop} {a0:Act} {w0:World} {L:Array Bool} {a:Act} {w:World} (h:Diff ops Al k L a) (hB:headB ops k a0.tmps.size=true) (inv:SInv ops k T a0 w0 L a w) {i:Nat} (hi:i<k) {v:Value}
  (hv:Al.contains i=true→∀j,Al.contains j=true→j<k→j≠i→L.getD j false=true→v≠heldU ops a j):Diff ops Al k (L.setIfInBounds i true) (a.put (dstB ops i) v):=by
 intro p q hp hq hpa hqa hne hlp hlq;rw[zvt inv hB hi hp,zvt inv hB hi hq];by_cases h1:p=i
 ·subst h1;rw[if_pos rfl,if_neg (Ne.symm hne)];rw[getD_set_ne false hne] at hlq;exact hv hpa q hqa hq (Ne.symm hne) hlq
 ·rw[if_neg h1];rw[getD_set_ne false (Ne.symm h1)] at hlp;by_cases h2:q=i
  ·subst h2;rw[if_pos rfl];exact(hv hqa p hpa hp h1 hlp).symm
  ·rw[if_neg h2];rw[getD_set_ne false (Ne.symm h2)] at hlq;exact h p q hp hq hpa hqa hne hlp hlq
def zoV (P:Program) (ops:Array Oper) (Q:Exit→Act→World→Prop) (k:Nat) (T:Nat→Value→World→Prop) (Al:List Nat) (a0:Act) (w0:World) (i:Nat):Prop:=
 ∀(u:Nat→Value) (w:World),Ext w0 w→(∀j,zdI .any ops i j=true→T j (u j) w)→
  wpOp P ops Q i (fun a' w'=> ∃v,a'=(zc0 (ops.toList.take k) u 0 a0).put (dstB ops i) v∧Ext w w'∧T i v w'∧(Al.contains i=true→zzA w v)) (zc0 (ops.toList.take k) u 0 a0) w
theorem zef.slot2 {Al:List Nat}{k:Nat}{T:Nat→Value→World→Prop}{a0:Act}{w0:World}{i:Nat}(hB:headB ops k a0.tmps.size=true)(hi:i<k)(hA:Al.contains i=false)(h:zef P ops k T a0 w0 i):zoV P ops Q k T Al a0 w0 i:=by intro u w hx hd;obtain⟨v,hy,hv⟩:=h u w hx hd;obtain⟨o,d,ho,hod,hdd,-⟩:=zbS hB hi;refine(hy o ho).wpOp ho ⟨v,?_,Ext.refl _,hv,fun h=>by rw[hA] at h;cases h⟩;rw[hdd,hod]
section
variable {k:Nat} {F Al:List Nat} {T:Nat→Value→World→Prop} {a0:Act} {w0:World}
end
def SlotB (P:Program) (ops:Array Oper) (Q:Exit→Act→World→Prop) (T:Nat→Value→World→Prop) (Al:List Nat) (A:(Nat→Value)→Act) (w0:World) (i:Nat):Prop:=
 ∀(u:Nat→Value) (w:World),Ext w0 w→(∀j,zdI .any ops i j=true→T j (u j) w)→wpOp P ops Q i (fun a' w'=> ∃v,a'=(A u).put (dstB ops i) v∧Ext w w'∧T i v w'∧(Al.contains i=true→zzA w v)) (A u) w
theorem zaf {i:Nat} {T:Nat→Value→World→Prop} {Al:List Nat} {o:Oper} {d:Tmp} {a:Act} {w:World} (ho:ops[i]?=some o) (hd:o.dst=some d) (hw:Region.wanted o (yielded ops a.tmps)=true)
  (h:∀K:Act→World→Prop,(∀a' w',a'=a.put (some d) (a'.tmps.getD d undef)→Ext w w'→T i (a'.tmps.getD d undef) w'→(Al.contains i=true→zzA w (a'.tmps.getD d undef))→K a' w')→o.wp P a w K Q):
  wpOp P ops Q i (fun a' w'=> ∃v,a'=a.put (dstB ops i) v∧Ext w w'∧T i v w'∧(Al.contains i=true→zzA w v)) a w:=by
 unfold wpOp;simp only[ho];rw[if_pos hw];have e:dstB ops i=some d:=by unfold dstB;rw[ho];exact hd
 rw[e];exact .inl (h _ fun a' w' h1 h2 h3 h4=>⟨_,h1,h2,h3,h4⟩)
theorem slr {i:Nat} {T:Nat→Value→World→Prop} {Al:List Nat} {o:Oper} {d:Tmp} {a:Act} {w:World} (ho:ops[i]?=some o) (hd:o.dst=some d) (hw:Region.wanted o (yielded ops a.tmps)=true) (hn:Al.contains i=false)
  (h:∀K:Act→World→Prop,(∀a' w',a'=a.put (some d) (a'.tmps.getD d undef)→Ext w w'→T i (a'.tmps.getD d undef) w'→K a' w')→o.wp P a w K Q):
  wpOp P ops Q i (fun a' w'=> ∃v,a'=a.put (dstB ops i) v∧Ext w w'∧T i v w'∧(Al.contains i=true→zzA w v)) a w:=
 zaf ho hd hw fun K hK=>h K fun a' w' h1 h2 h3=>hK a' w' h1 h2 h3 fun e=>by rw[hn] at e;cases e
theorem slb {T:Nat→Value→World→Prop}{Al:List Nat}{A:(Nat→Value)→Act}{w0:World}{i:Nat}(h:∀(u:Nat→Value) (y:Gr),(∀j,zdI .any ops i j=true→T j (u j) (xt w0 y))→wpOp P ops Q i (fun a' w'=> ∃v,a'=(A u).put (dstB ops i) v∧Ext (xt w0 y) w'∧T i v w'∧(Al.contains i=true→zzA (xt w0 y) v)) (A u) (xt w0 y)):SlotB P ops Q T Al A w0 i:=fun u w hx hd=>by obtain⟨y,rfl⟩:=hx.get;exact h u y hd
end
