import Derived.Test.YtnpdghjpcnjokaaGreatGbase
import Derived.Deep.AppendSrc
import Derived.Laws.CopyRow
import Derived.Laws.CopyOwn
import Derived.Laws.Tables
namespace Go.Proofs.YtnpdghjpcnjokaaGreat
open Go.RowKit

theorem flat_get {α:Type}{size:Nat}:∀(rows:List (List α)) (_:∀r∈rows,r.length=size) (i:Nat) (row:List α),rows[i]?=some row→∀j,j<size→rows.flatten[i * size+j]?=row[j]?
 |[],_,_,_,h,_,_=>by simp at h
 |r::rs,hr,0,row,h,j,hj=>by
  have h0:r=row:=by simpa using h
  subst h0;rw[List.flatten_cons,Nat.zero_mul,Nat.zero_add,List.getElem?_append_left (by rw[hr r (by simp)];exact hj)]
 |r::rs,hr,i+1,row,h,j,hj=>by have hl:=hr r (by simp);rw[List.flatten_cons,List.getElem?_append_right (by rw[hl,Nat.succ_mul];omega),hl,show(i+1) * size+j - size=i * size+j by rw[Nat.succ_mul];omega];exact flat_get rs (fun x hx=>hr x (by simp[hx])) i row (by simpa using h) j hj
theorem zb6 {α:Type}{size:Nat}:∀(rows:List (List α)) (_:∀r∈rows,r.length=size),rows.flatten.length=rows.length * size
 |[],_=>by simp
 |r::rs,h=>by rw[List.flatten_cons,List.length_append,h r (by simp),zb6 rs (fun x hx=>h x (by simp[hx])),List.length_cons,Nat.succ_mul,Nat.add_comm]

structure Own (w0 w : World) (E : TypeId) (size : Nat) (A : Option Addr) (n k : Nat) (rows : List (List Value)) : Prop where
 len:rows.length=n
 row:∀r∈rows,r.length=size
 one:∀r∈rows,∀u∈r,u.oneCell'=true
 le:n≤k
 cap:k≤maxLen
 at_:k=0∨∃g cur,A=some ⟨g,0,none⟩∧w0.heap.size≤g∧w.heap[g]?=some (.cells cur E (0,0))∧cur.size=k * size∧cur.toList.take (n * size)=rows.flatten

theorem Own.nil {w0 w:World}{E:TypeId}{size:Nat}(A:Option Addr):Own w0 w E size A 0 0 []:=⟨rfl,by simp,by simp,Nat.le_refl _,by unfold maxLen;omega,.inl rfl⟩
theorem Own.mono {w0 w w':World}{E:TypeId}{size:Nat}{A:Option Addr}{n k:Nat}{rows:List (List Value)}(h:Own w0 w E size A n k rows)(hx:Ext w w'):Own w0 w' E size A n k rows:=by
 refine⟨h.len,h.row,h.one,h.le,h.cap,?_⟩;rcases h.at_ with h0|⟨g,cur,h1,h2,h3,h4⟩
 ·exact .inl h0
 ·exact .inr ⟨g,cur,h1,h2,by rw[hx.block g (Array.getElem?_eq_some_iff.1 h3).1];exact h3,h4⟩
theorem Own.kept {w0 w w':World}{E:TypeId}{size:Nat}{A:Option Addr}{n k:Nat}{rows:List (List Value)}{row:Option Nat}(h:Own w0 w E size A n k rows)(hg:w.grownBy w' row)(hne:∀a,A=some a→some a.block≠row):Own w0 w' E size A n k rows:=by
 refine⟨h.len,h.row,h.one,h.le,h.cap,?_⟩;rcases h.at_ with h0|⟨g,cur,h1,h2,h3,h4⟩
 ·exact .inl h0
 ·exact .inr ⟨g,cur,h1,h2,by rw[hg.block g (Array.getElem?_eq_some_iff.1 h3).1 (hne _ h1)];exact h3,h4⟩
theorem Own.get {w0 w:World}{E:TypeId}{size:Nat}{A:Option Addr}{n k:Nat}{rows:List (List Value)}(h:Own w0 w E size A n k rows):∀i row,rows[i]?=some row→∃g,A=some ⟨g,0,none⟩∧∀j v,row[j]?=some v→w.cell? ⟨g,i * size+j,none⟩=some v:=by
 intro i row hr;have hi:i<n:=by rw[←h.len];exact(List.getElem?_eq_some_iff.1 hr).1
 rcases h.at_ with h0|⟨g,cur,h1,_,h3,h4,h5⟩
 ·have:=h.le;omega
 ·refine⟨g,h1,fun j v hv=> ?_⟩;have hlen:row.length=size:=h.row row (List.mem_of_getElem? hr);have hj:j<size:=by rw[←hlen];exact(List.getElem?_eq_some_iff.1 hv).1
  have hf:=flat_get rows h.row i row hr j hj;rw[hv,←h5,List.getElem?_take] at hf;split at hf
  ·unfold World.cell?;simp only[h3];simpa using hf
  ·cases hf
theorem Own.sl {w0 w:World}{E:TypeId}{size:Nat}{A:Option Addr}{n k:Nat}{rows:List (List Value)}(h:Own w0 w E size A n k rows):Sl w A size rows:=
 ⟨fun i row hr=>by obtain⟨g,h1,h2⟩:=h.get i row hr;exact⟨h.row row (List.mem_of_getElem? hr),g,0,h1,fun j v hv=>by rw[Nat.zero_add];exact h2 j v hv⟩⟩

theorem ziX {P:Program}{w:World}{size:Nat}{tx e':TypeId}(hk:P.underlying tx=some (.slice e')){A:Option Addr}{m c:Nat}{rows:List (List Value)}(hs:Sl w A size rows)(hm:rows.length=m)(h1:∀r∈rows,∀u∈r,u.oneCell'=true)(hz:0<size):
  Src P size tx (.slice A m c) m rows.flatten w:=by
 have hrow:∀r∈rows,r.length=size:=fun r hr=>by obtain⟨i,hi⟩:=List.getElem?_of_mem hr;exact(hs.at_ i r hi).1
 have hone:∀u∈rows.flatten,u.oneCell'=true:=fun u hu=>by obtain⟨r,hr,hu⟩:=List.mem_flatten.1 hu;exact h1 r hr u hu
 have hfl:rows.flatten.length=m * size:=by rw[zb6 rows hrow,hm]
 cases A with
 |none=>
  have h0:rows=[]:=by
   cases rows with
   |nil=>rfl
   |cons r rs=>obtain⟨_,b,o,h,_⟩:=hs.at_ 0 r rfl;cases h
  subst h0;subst hm;exact Src.ofNil w hk c
 |some a=>
  refine Src.ofSlice w hk a m c rows.flatten hfl (fun j u hu=> ?_) hone;have hj:j<m * size:=by rw[←hfl];exact(List.getElem?_eq_some_iff.1 hu).1
  have hdm:j / size * size+j % size=j:=by rw[Nat.mul_comm];exact Nat.div_add_mod j size
  have hi:j / size<rows.length:=by rw[hm];exact(Nat.div_lt_iff_lt_mul hz).2 hj
  have hrr:=List.getElem?_eq_getElem hi;obtain⟨hl,b,o,ha,hc⟩:=hs.at_ (j / size) _ hrr;injection ha with ha;subst ha;have hf:=flat_get rows hrow (j / size) _ hrr (j % size) (Nat.mod_lt _ hz);rw[hdm,hu] at hf;have:=hc (j % size) u hf.symm;rw[Nat.add_assoc,hdm] at this;unfold Addr.add;split
  ·subst_vars;simpa using this
  ·exact this

theorem zqD {α:Type}(l:List α)(a b:List α)(n:Nat)(h:l.take n=a)(hn:n+b.length≤l.length):(l.take n++b++l.drop (n+b.length)).take (n+b.length)=a++b:=by
 rw[h];have hl:(a++b).length=n+b.length:=by rw[List.length_append,←h,List.length_take];omega
 rw[List.take_append_of_le_length om,List.take_of_length_le om]

theorem zbO {α:Type}(l b:List α)(n m:Nat)(hm:b.length=m)(hn:n+m≤l.length):(l.take n++b++l.drop (n+m)).length=l.length:=by simp only[List.length_append,List.length_take,List.length_drop,hm];omega

section
variable {P:Program} {w0 W:World} {E:TypeId} {size:Nat} {A:Option Addr} {n k:Nat} {rows news:List (List Value)}
theorem zsj (hr:∀r∈rows,r.length=size)(hn:∀r∈news,r.length=size):∀r∈rows++news,r.length=size:=fun r h=>by
 rcases List.mem_append.1 h with h|h
 ·exact hr r h
 ·exact hn r h
theorem zms (hr:∀r∈rows,∀u∈r,u.oneCell'=true)(hn:∀r∈news,∀u∈r,u.oneCell'=true):∀r∈rows++news,∀u∈r,u.oneCell'=true:=fun r h=>by
 rcases List.mem_append.1 h with h|h
 ·exact hr r h
 ·exact hn r h

theorem Own.new {n' k':Nat}{all:List (List Value)}{rest:Array Value}(hx:Ext w0 W)(hl:all.length=n')(hr:∀r∈all,r.length=size)(h1:∀r∈all,∀u∈r,u.oneCell'=true)(hle:n'≤k')(hk:k'≤maxLen)(hrest:rest.size=(k' - n') * size):
  Own w0 (W.alloc (.cells (all.flatten.toArray++rest) E)) E size (some ⟨W.heap.size,0,none⟩) n' k' all:=by
 refine⟨hl,hr,h1,hle,hk,.inr ⟨W.heap.size,_,rfl,hx.size,heap_alloc_new W _,?_,?_⟩⟩
 ·have:=zb6 all hr;rw[Array.size_append,List.size_toArray,this,hl,hrest,←Nat.add_mul];congr 1;omega
 ·have:=zb6 all hr;rw[hl] at this;rw[Array.toList_append,←this,List.take_append_of_le_length (by simp),List.take_of_length_le (by simp)]

theorem zqb (t tx ty:TypeId) (i:TypeInfo) (z:Value) (bytes:Nat) (ht:P.underlying t=some (.slice E)) (hi:P.info? E=some i) (hz:i.zero=some z) (hsize:i.size=size) (hby:i.bytes=bytes) (hzs:z.cells.size=size)
  (hx:Ext w0 W) (ho:Own w0 W E size A n k rows) {x:Value} {m:Nat} (hsrc:Src P size tx x m news.flatten W) (hm:news.length=m) (hnr:∀r∈news,r.length=size) (hn1:∀r∈news,∀u∈r,u.oneCell'=true)
  (h63:n+m≤maxLen) (hbytes:(n+m) * bytes≤140737488355328):
  ∃A' k' w',(Builtin.append_ #[t,tx] ty #[.slice A n k,x]).run P W=.ok (.slice A' (n+m) k') w'∧Ext w0 w'∧Own w0 w' E size A' (n+m) k' (rows++news)∧W.grownBy w' (A.map (·.block))∧(A'=A∨A'=some ⟨W.heap.size,0,none⟩):=by
 subst hsize;subst hby;have hfl:=zb6 rows ho.row;have hfn:=zb6 news hnr;have hall:(rows++news).length=n+m:=by rw[List.length_append,ho.len,hm]
 have h63':((n+m:Nat):Int)≤9223372036854775807:=by unfold maxLen at h63;omega
 by_cases hroom:n+m≤k
 ·rcases ho.at_ with h0|⟨g,cur,rfl,hg,hb,hcs,htk⟩
  ·subst h0;have h1:n=0:=by omega
   have h2:m=0:=by omega
   subst h1 h2;have h3:news=[]:=List.eq_nil_of_length_eq_zero hm;subst h3;have h4:rows=[]:=List.eq_nil_of_length_eq_zero ho.len;subst h4;refine⟨A,0,W,?_,hx,Own.nil A,⟨rfl,rfl,rfl,Nat.le_refl _,fun _ _ _=>rfl⟩,.inl rfl⟩;have hcl:=hsrc.cells;rcases hsrc.kind with⟨e',hk⟩|hk<;>cases A<;>simp[Builtin.append_,run_underlying ht,run_underlying hk,sizeOf,typeInfo,hi,hsrc.len,hcl,storeCells]
  ·have hfit:n * i.size+0+news.flatten.length≤cur.size:=by rw[hfn,hm,hcs,Nat.add_zero,←Nat.add_mul];exact Nat.mul_le_mul_right _ hroom
   have hst:=run_storeCells_at P g (n * i.size) E news.flatten 0 cur W hb hfit hsrc.one;simp only[Nat.add_zero] at hst hfit;refine⟨some ⟨g,0,none⟩,k,W.setRow g (cur.toList.take (n * i.size)++news.flatten++cur.toList.drop (n * i.size+news.flatten.length)).toArray,?_,?_,?_,⟨rfl,rfl,rfl,by simp[World.setRow],fun j _ hne=>setRow_other W g j _ (fun e=>hne (by rw[e];rfl))⟩,.inl rfl⟩
   ·rcases hsrc.kind with⟨e',hk⟩|hk<;>simp[Builtin.append_,run_underlying ht,run_underlying hk,sizeOf,typeInfo,hi,hsrc.len,hroom,hsrc.cells,Addr.add_lit,hst]
   ·exact below_setRow hx hg _
   ·refine⟨hall,zsj ho.row hnr,zms ho.one hn1,hroom,ho.cap,.inr ⟨g,_,rfl,hg,setRow_heap W g cur _ E _ hb,?_,?_⟩⟩
    ·rw[List.size_toArray,zbO _ _ _ _ rfl (by simpa using hfit)];simpa using hcs
    ·have:=zqD cur.toList rows.flatten news.flatten (n * i.size) htk (by simpa using hfit);rw[hfn,hm] at this;rw[List.flatten_append,←this,Nat.add_mul,hfn,hm]
 ·have hold:(Builtin.firstCells i.size n (.slice A n k)).run P W.drew=.ok rows.flatten.toArray W.drew:=by
   rcases ho.at_ with h0|⟨g,cur,rfl,hg,hb,hcs,htk⟩
   ·have h1:n=0:=by have:=ho.le;omega
    have h4:rows=[]:=List.eq_nil_of_length_eq_zero (by rw[ho.len,h1]);subst h4;subst h1;cases A with
    |none=>exact run_firstCells_none _ _ _ _ _
    |some b=>exact run_firstCells_some W.drew i.size 0 b 0 k [] (by simp) (by simp)
   ·refine run_firstCells_some W.drew i.size n _ n k rows.flatten (by rw[hfl,ho.len]) (fun j v hv=> ?_);have hadd:(⟨g,0,none⟩:Addr).add j=⟨g,j,none⟩:=by unfold Addr.add;split<;>simp_all
    rw[hadd,←htk,List.getElem?_take] at *
    split at hv
    ·show W.cell? _=_;unfold World.cell?;simp only[hb];simpa using hv
    ·cases hv
  have hfit2:Builtin.nextslicecap (n+m) k * i.bytes≤281474976710656:=growslice_fits om hbytes;have hcapge:=grownCap_ge W (n+m) k E;have hrun:=run_append_grow_src (P:=P) W t tx ty E i z ht hi hz A n k rows.flatten hold x m news.flatten hsrc om h63' hfit2;rw[←List.flatten_append] at hrun;refine⟨_,_,_,hrun,(hx.drew).alloc _,?_,⟨rfl,rfl,rfl,by simp,fun j hj _=>heap_alloc_old W.drew _ hj⟩,.inr rfl⟩;refine Own.new (W:=W.drew) (hx.drew) hall (zsj ho.row hnr) (zms ho.one hn1) hcapge (grownCap_le_maxLen W _ _ E h63) ?_;rw[size_zeroCells,hzs]

end

def zbz (P:Program) (E:TypeId) (size bytes:Nat):Bool:=match P.info? E with
 |some i=>i.size==size && i.bytes==bytes && (match i.zero with|some z=>z.cells.size==size|none=>false)
 |none=>false
theorem zci {P:Program}{E:TypeId}{size bytes:Nat}(h:zbz P E size bytes=true):∃i z,P.info? E=some i∧i.zero=some z∧i.size=size∧i.bytes=bytes∧z.cells.size=size:=by
 unfold zbz at h;split at h
 ·rename_i i hi;simp only[Bool.and_eq_true,beq_iff_eq] at h;obtain⟨⟨h1,h2⟩,h3⟩:=h;split at h3
  ·rename_i z hz;exact⟨i,z,hi,hz,h1,h2,by simpa using h3⟩
  ·cases h3
 ·cases h

section
variable {P:Program} {ops:Array Oper} {rest:List Oper} {o:Oper} {a:Act} {Q:Exit→Act→World→Prop} {w0 W:World}
theorem zsm {A:Option Addr}{size:Nat}{rows:List (List Value)}(h:Sl W A size rows):∀r∈rows,r.length=size:=fun r hr=>by obtain⟨i,hi⟩:=List.getElem?_of_mem hr;exact(h.at_ i r hi).1
theorem zgn {K:Act→World→Prop} (s x:Operand) (t tx:TypeId) (ho:o.op=.call {callee:=.builtin .append,args:=#[s,x],argTypes:=#[t,tx]}) (E e':TypeId) (size bytes:Nat) (ht:P.underlying t=some (.slice E)) (htx:P.underlying tx=some (.slice e'))
  (hI:zbz P E size bytes=true) (hpos:0<size) (hx:Ext w0 W) (A:Option Addr) (n k:Nat) (rows:List (List Value)) (hs:a.eval s=.slice A n k) (hown:Own w0 W E size A n k rows)
  (B:Option Addr) (m c:Nat) (news:List (List Value)) (hxv:a.eval x=.slice B m c) (hsl:Sl W B size news) (hm:news.length=m) (hn1:∀r∈news,∀u∈r,u.oneCell'=true) (h63:n+m≤maxLen) (hbytes:(n+m) * bytes≤140737488355328) (N:Nat) (hN:n+m=N) (all:List (List Value)) (hall:rows++news=all)
  (h:∀A' k' w',Ext w0 w'→Own w0 w' E size A' N k' all→W.grownBy w' (A.map (·.block))→(A'=A∨A'=some ⟨W.heap.size,0,none⟩)→K (a.put o.dst (.slice A' N k')) w'):o.wp P a W K Q:=by
 subst hN;subst hall;obtain⟨i,z,h1,h2,h3,h4,h5⟩:=zci hI;obtain⟨A',k',w',hr,g1,g2,g3,g4⟩:=zqb (P:=P) t tx o.type i z bytes ht h1 h2 h3 h4 h5 hx hown (ziX (c:=c) htx hsl hm hn1 hpos) hm (zsm hsl) hn1 h63 hbytes;unfold Oper.wp execOp;simp only[ho,resolve,invoke,builtin,Sem.run_bind,Sem.run_pure,Result.andThen_ok,List.map_toArray,List.map_cons,List.map_nil,hs,hxv,hr];exact h A' k' w' g1 g2 g3 g4
theorem za6 (hgd:o.guard=none) (s x:Operand) (t tx:TypeId) (ho:o.op=.call {callee:=.builtin .append,args:=#[s,x],argTypes:=#[t,tx]}) (E e':TypeId) (size bytes:Nat) (ht:P.underlying t=some (.slice E)) (htx:P.underlying tx=some (.slice e'))
  (hI:zbz P E size bytes=true) (hpos:0<size) (hx:Ext w0 W) (A:Option Addr) (n k:Nat) (rows:List (List Value)) (hs:a.eval s=.slice A n k) (hown:Own w0 W E size A n k rows)
  (B:Option Addr) (m c:Nat) (news:List (List Value)) (hxv:a.eval x=.slice B m c) (hsl:Sl W B size news) (hm:news.length=m) (hn1:∀r∈news,∀u∈r,u.oneCell'=true) (h63:n+m≤maxLen) (hbytes:(n+m) * bytes≤140737488355328) (N:Nat) (hN:n+m=N) (all:List (List Value)) (hall:rows++news=all)
  (h:∀A' k' w',Ext w0 w'→Own w0 w' E size A' N k' all→W.grownBy w' (A.map (·.block))→(A'=A∨A'=some ⟨W.heap.size,0,none⟩)→wpList P ops Q rest (a.put o.dst (.slice A' N k')) w'):wpList P ops Q (o::rest) a W:=
 wpList_plain hgd fun _ hK=>zgn s x t tx ho E e' size bytes ht htx hI hpos hx A n k rows hs hown B m c news hxv hsl hm hn1 h63 hbytes N hN all hall fun A' k' w' h1 h2 h3 h4=>hK _ _ (h A' k' w' h1 h2 h3 h4)
theorem zbP {K:Act→World→Prop} {F:Prop} (hgd:o.guard=none) (s x:Operand) (t tx:TypeId) (ho:o.op=.call {callee:=.builtin .append,args:=#[s,x],argTypes:=#[t,tx]}) (E e':TypeId) (size bytes:Nat) (ht:P.underlying t=some (.slice E)) (htx:P.underlying tx=some (.slice e'))
  (hI:zbz P E size bytes=true) (hpos:0<size) (hx:Ext w0 W) (A:Option Addr) (n k:Nat) (rows:List (List Value)) (hs:a.eval s=.slice A n k) (hown:Own w0 W E size A n k rows)
  (B:Option Addr) (m c:Nat) (news:List (List Value)) (hxv:a.eval x=.slice B m c) (hsl:Sl W B size news) (hm:news.length=m) (hn1:∀r∈news,∀u∈r,u.oneCell'=true) (h63:n+m≤maxLen) (hbytes:(n+m) * bytes≤140737488355328) (N:Nat) (hN:n+m=N) (all:List (List Value)) (hall:rows++news=all)
  (h:∀A' k' w',Ext w0 w'→Own w0 w' E size A' N k' all→W.grownBy w' (A.map (·.block))→(A'=A∨A'=some ⟨W.heap.size,0,none⟩)→K (a.put o.dst (.slice A' N k')) w'):
  if Region.wanted o (yielded ops a.tmps)=true then Oper.wp P o a W K Q else F:=by
 have hw:Region.wanted o (yielded ops a.tmps)=true:=by simp[Region.wanted,hgd]
 rw[if_pos hw];exact zgn s x t tx ho E e' size bytes ht htx hI hpos hx A n k rows hs hown B m c news hxv hsl hm hn1 h63 hbytes N hN all hall h
end

theorem zhf (b:Nat)(E:TypeId):∀(vs:List Value) (o:Nat) (w:World) (cur:Array Value),w.heap[b]?=some (.cells cur E (0,0))→o+vs.length≤cur.size→
  (w.setCells b o vs).heap[b]?=some (.cells (cur.toList.take o++vs++cur.toList.drop (o+vs.length)).toArray E (0,0))
 |[],o,w,cur,h,_=>by rw[World.setCells,h];simp
 |v::r,o,w,cur,h,hl=>by
  rw[World.setCells];have hlt:o<cur.size:=by simp at hl;omega
  rw[zhf b E r (o+1) _ (cur.setIfInBounds o v) (heap_setCell_same w b o cur E v h) (by simp at hl ⊢;omega)];congr 3;have hd:(cur.setIfInBounds o v).toList=cur.toList.set o v:=Array.toList_setIfInBounds;rw[hd];have hl2:o<cur.toList.length:=by simpa using hlt
  apply List.ext_getElem?;intro j;simp only[List.length_cons,List.append_assoc,List.getElem?_append,List.length_take,List.length_set,List.getElem?_take,List.getElem?_set,List.getElem?_drop,List.cons_append,List.getElem?_cons];simp at hl;have hm1:min (o+1) cur.toList.length=o+1:=by simp;omega
  have hm2:min o cur.toList.length=o:=by simp;omega
  simp only[hm1,hm2];by_cases h1:j<o
  ·simp[h1,show j<o+1 by omega,show ¬o=j by omega]
  ·by_cases h2:j=o
   ·subst h2;simp[hlt]
   ·have e1:¬o=o+1+r.length+(j - (o+1) - r.length):=by omega
    have e2:j - o≠0:=by omega
    have e3:j - o - 1=j - (o+1):=by omega
    have e4:o+1+r.length+(j - (o+1) - r.length)=o+(r.length+1)+(j - o - (r.length+1)):=by omega
    have e5:(j - o<r.length+1)=(j - (o+1)<r.length):=by rw[eq_iff_iff];omega
    simp only[if_neg (show ¬j<o+1 by omega),if_neg h1,if_neg e2,e3,e4];by_cases h5:j - (o+1)<r.length
    ·simp only[if_pos h5]
    ·have e6:o+(r.length+1)+(j - (o+1) - r.length)=o+(r.length+1)+(j - o - (r.length+1)):=by omega
     simp only[if_neg h5,e6];rw[if_neg om]
section
variable {w0 w:World} {E:TypeId} {size:Nat} {A:Option Addr} {n k:Nat} {rows:List (List Value)}
end

section
variable {P:Program} {ops:Array Oper} {rest:List Oper} {o:Oper} {a:Act} {Q:Exit→Act→World→Prop} {w0 W:World}
end

theorem zzy (w:World)(y:Gr)(n i:Nat)(v:Value)(h:n<w.heap.size):(xt w y).setCell ⟨n,i,none⟩ v=xt (w.setCell ⟨n,i,none⟩ v) y:=by
 unfold World.setCell xt;congr 1;apply Array.ext_getElem?;intro k;simp only[Array.getElem?_modify,Array.getElem?_append,Array.size_modify];by_cases hk:k<w.heap.size
 ·simp[hk]
 ·rw[if_neg hk,if_neg hk,if_neg om]
theorem zhm (b:Nat)(y:Gr):∀(vs:List Value) (o:Nat) (w:World),b<w.heap.size→(xt w y).setCells b o vs=xt (w.setCells b o vs) y
 |[],_,_,_=>rfl
 |v::r,o,w,h=>by rw[World.setCells,World.setCells,zzy w y b o v h,zhm b y r (o+1) _ (by simpa [World.setCell] using h)]
theorem zjr (T:TypeId)(w:World):∀(vs:List Value) (o:Nat) (c:Array Value),o+vs.length≤c.size→
  (w.alloc (.cells c T)).setCells w.heap.size o vs=w.alloc (.cells (c.toList.take o++vs++c.toList.drop (o+vs.length)).toArray T)
 |[],o,c,_=>by simp[World.setCells]
 |v::r,o,c,h=>by
  have hlt:o<c.size:=by simp at h;omega
  rw[World.setCells,World.setCell_alloc_new,zjr T w r (o+1) _ (by simp at h ⊢;omega)];congr 3;have hd:(c.setIfInBounds o v).toList=c.toList.set o v:=Array.toList_setIfInBounds;rw[hd];have hl2:o<c.toList.length:=by simpa using hlt
  have h3:(c.toList.set o v).take (o+1)=c.toList.take o++[v]:=by rw[List.take_succ_eq_append_getElem (by simpa using hl2),List.take_set_of_le (Nat.le_refl _),List.getElem_set_self]
  have h4:(c.toList.set o v).drop (o+1+r.length)=c.toList.drop (o+(v::r).length):=by rw[List.drop_set_of_lt om];congr 1;simp;omega
  rw[h3,h4];simp
theorem zeO (T:TypeId)(w:World)(zs cs:Array Value)(h:zs.size=cs.size):(w.alloc (.cells zs T)).setCells w.heap.size 0 cs.toList=w.alloc (.cells cs T):=by rw[zjr T w cs.toList 0 zs (by simp;omega)];rw[List.drop_eq_nil_of_le (by simp;omega)];simp

theorem za4 {w w':World}{b o:Nat}{cs:List Value}(h:w.rangeAt b o cs)(hx:Ext w w'):w'.rangeAt b o cs:=fun j v hv=>hx.cell (h j v hv)
theorem zag (w:World){b:Nat}(hb:w.heap.size=b)(cs:List Value)(T:TypeId):(w.alloc (.cells cs.toArray T)).rangeAt b 0 cs:=fun j v hv=>by subst hb;simp only[Nat.zero_add];rw[World.cell?_alloc_new];simpa using hv
theorem zwt {w:World}{b o:Nat}{xs ys zs:List Value}(h:w.rangeAt b o (xs++ys++zs)){n:Nat}(hn:o+xs.length=n):w.rangeAt b n ys:=fun j v hv=>by
 subst hn;have h1:(xs++ys++zs)[xs.length+j]?=some v:=by have hj:=(List.getElem?_eq_some_iff.1 hv).1;rw[List.getElem?_append_left (by simp;omega),List.getElem?_append_right om,Nat.add_sub_cancel_left,hv]
 have:=h _ _ h1;rwa [←Nat.add_assoc] at this
theorem zbq {w:World}{b o:Nat}{xs ys:List Value}(h:w.rangeAt b o (xs++ys)){n:Nat}(hn:o+xs.length=n):w.rangeAt b n ys:=
 zwt (zs:=[]) (by simpa using h) hn
theorem Sl.range {w:World}{A:Option Addr}{size:Nat}{rows:List (List Value)}(h:Sl w A size rows){i:Nat}{row:List Value}(hr:rows[i]?=some row):∃b o,A=some ⟨b,o,none⟩∧w.rangeAt b (o+i * size) row:=by obtain⟨_,b,o,hA,hc⟩:=h.at_ i _ hr;exact⟨b,o,hA,hc⟩

section
variable {P:Program} {ops:Array Oper} {rest:List Oper} {op:Oper} {a:Act} {Q:Exit→Act→World→Prop}
theorem wpList_load_row {w:World} (hw:Region.wanted op (yielded ops a.tmps)=true) (ty:TypeId) (x:Operand) (ho:op.op=.load ty x) (b o:Nat) (hx:a.eval x=.pointer (some ⟨b,o,none⟩)) (cs:List Value) (d:TypeDesc) (hc:w.rangeAt b o cs)
  (hu:P.underlying ty=some d) (hd:d.isRow=true) (hi:(P.info? ty).map (·.size)=some cs.length) (h:wpList P ops Q rest (a.put op.dst (.agg cs.toArray)) w):wpList P ops Q (op::rest) a w:=
 BigFrame.wpList_want hw fun _ hK=>wp_load_mid ty x ho b o hx cs d hc hu hd hi (hK _ _ h)
theorem zah (hgd:op.guard=none) {w:World} (t:TypeId) (ps:List (Nat×Operand)) (ho:op.op=.build t ps.toArray) (vals:List (Nat×Value)) (hv:ps.map (fun p=>(p.1,a.eval p.2))=vals) (cells:Array Value) (hc:P.built t vals=some cells)
  (h:wpList P ops Q rest (a.put op.dst (.agg cells)) w):wpList P ops Q (op::rest) a w:=by
 have hv':((ps.toArray).map fun(i,x)=>(i,a.eval x)).toList=vals:=by rw[←hv];simp
 exact wpList_plain hgd fun _ hK=>wp_build t ps.toArray ho (by rw[hv',hc];rfl) (by rw[hv',hc];exact hK _ _ h)
theorem za7 (hgd:op.guard=none) (ty:TypeId) (x y:Operand) (ho:op.op=.store ty x y) {V:World} {zs:Array Value} {T:TypeId} {n:Nat} (hx:a.eval x=.pointer (some ⟨n,0,none⟩)) (hn:V.heap.size=n)
  (cells:List Value) (hy:a.eval y=.agg cells.toArray) (hz:zs.size=cells.length) (hi:(P.info? ty).map (·.size)=some cells.length) (h1:∀u∈cells,u.oneCell'=true)
  (h:wpList P ops Q rest (a.put op.dst undef) (V.alloc (.cells cells.toArray T))):wpList P ops Q (op::rest) a (V.alloc (.cells zs T)):=by
 subst hn;have hz':zs.size=cells.toArray.size:=by simpa using hz
 refine wpList_store_mid hgd ty x y ho V.heap.size 0 cells.toArray hx hy (fun j hj=> ?_) (by simpa using hi) (all_oneCell_toArray h1) ?_
 ·rw[Nat.zero_add];constructor
  ·rw[World.cell?_alloc_new];simp[hz'];simpa using hj
  ·exact World.frozen?_alloc_new _ _ _ _
 ·rw[zeO T V zs cells.toArray hz'];exact h
theorem ziv (hgd:op.guard=none) (ty:TypeId) (x y:Operand) (ho:op.op=.store ty x y) {V:World} {g:Gr} {zs:Array Value} {T:TypeId} {n:Nat} (hx:a.eval x=.pointer (some ⟨n,0,none⟩)) (hn:V.heap.size=n)
  (cells:List Value) (hy:a.eval y=.agg cells.toArray) (hz:zs.size=cells.length) (hi:(P.info? ty).map (·.size)=some cells.length) (h1:∀u∈cells,u.oneCell'=true)
  (h:wpList P ops Q rest (a.put op.dst undef) (xt (V.alloc (.cells cells.toArray T)) g)):wpList P ops Q (op::rest) a (xt (V.alloc (.cells zs T)) g):=by
 subst hn;have hx':=zlu (V.alloc (.cells zs T)) g;have hz':zs.size=cells.toArray.size:=by simpa using hz
 refine wpList_store_mid hgd ty x y ho V.heap.size 0 cells.toArray hx hy (fun j hj=> ?_) (by simpa using hi) (all_oneCell_toArray h1) ?_
 ·rw[Nat.zero_add];have h2:(V.alloc (.cells zs T)).cell? ⟨V.heap.size,j,none⟩=some (zs[j]' om):=by rw[World.cell?_alloc_new];simp
  constructor
  ·rw[Ext.cell hx' h2];rfl
  ·rw[xt_froz _ _ _ (by rw[h2];rfl)];exact World.frozen?_alloc_new _ _ _ _
 ·rw[zhm _ _ _ _ _ (by simp),zeO T V zs cells.toArray hz'];exact h
end
