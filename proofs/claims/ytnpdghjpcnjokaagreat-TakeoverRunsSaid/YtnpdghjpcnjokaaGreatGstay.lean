import Derived.Test.YtnpdghjpcnjokaaGreatGopq
import Derived.Test.YtnpdghjpcnjokaaGreatGrpj
set_option linter.all false
namespace Go.Proofs.YtnpdghjpcnjokaaGreat
open Go.RowKit Go.Proofs.Tryz

theorem zfN {R:Rec→Prop}(n:Nod)(t:Int)(h:∀r∈n.log,R r):∀r∈(leadV n t).1.log,R r:=by
 intro r hr;unfold leadV at hr;split at hr
 ·simp[nod0] at hr
 split at hr
 ·simp[nod0] at hr
 split at hr
 ·simp[nod0] at hr
 split at hr
 ·simp[nod0] at hr
 ·exact h r hr
theorem zg4 {R:Rec→Prop}(n:Nod)(a:Acn)(h:∀r∈n.log,R r)(ha:R ⟨n.term,a⟩):∀r∈(actV n a).1.log,R r:=by
 intro r hr;unfold actV at hr;split at hr
 ·simp[nod0] at hr
 split at hr
 ·simp[nod0] at hr
 split at hr
 ·simp[nod0] at hr
 split at hr
 ·simp[nod0] at hr
 split at hr
 ·simp[nod0] at hr
 ·rcases List.mem_append.1 (show r∈n.log++[⟨n.term,a⟩] from hr) with h1|h1
  ·exact h r h1
  ·rw[List.mem_singleton.1 h1];exact ha
def GotLA (w0 w:World) (x:Nod) (er:Int) (e:Ending) (W:World):Prop:=∃D K,e=.returned (.tuple #[.agg (Ln x D K),er])∧Ext w W∧LogW w0 W D x.log.length K x.log
theorem zaH.parts {w w0 w':World}{v:Nod×Int}{x:Nod}{er:Int}{e:Ending}(h:zaH w v e w')(hv:v=(x,er))(h1:∀r∈x.log,AcnAt w0 r.act):GotLA w0 w x er e w':=by subst hv;obtain⟨A,c,he,hx,r1⟩:=h;exact⟨A,c,he,hx,⟨r1.sl,rfl,r1.le,r1.cap,h1⟩⟩
def GotSE (w:World) (m:Msg) (er:Int) (e:Ending) (W:World):Prop:=∃D K,e=.returned (.tuple #[.agg (Lm m D K),er])∧Ext w W∧za3 W D K m.recs
theorem zd6.parts {w w':World}{v:Msg×Int}{m:Msg}{er:Int}{e:Ending}(h:zd6 w v e w')(hv:v=(m,er)):GotSE w m er e w':=by subst hv;obtain⟨A,c,he,hx,ho,hr⟩:=h;exact⟨A,c,he,hx,Own.recs ho rfl fun r h1=>(hr r h1).mono hx⟩
def Stab.gotn (w:World) (x:Nod) (er:Int):Stab:=⟨fun v W=> ∃D K,v=.tuple #[.agg (Ln x D K),er]∧LogW w W D x.log.length K x.log,fun _ _ _ hx ⟨D,K,e,h⟩=>⟨D,K,e,h.mono hx⟩⟩
theorem BoxAt.row {W:World}{b n:Nat}{cs:List Value}{T:TypeId}(h:BoxAt W b cs T)(hn:cs.length=n):rowQ W b 0 n=some cs:=zcg (fun j v hj=>by rw[Nat.zero_add];exact h.cell hj) hn

def Mute (T1 T2:TypeId) (o:Obj):Prop:=∃cs T fr,o=.cells cs T fr∧(T=T1∨T=T2)∧∀(i:Nat) s,cs[i]?≠some (.string s)
structure Stay (T1 T2 : TypeId) (W W' : World) : Prop where
 os:W'.os=W.os
 tape:W'.tape=W.tape
 output:W'.output=W.output
 size:W.heap.size≤W'.heap.size
 keep:∀(g:Nat) (o:Obj),W.heap[g]?=some o→¬Mute T1 T2 o→W'.heap[g]?=some o
section
variable {T1 T2:TypeId} {W W' X:World}
theorem Stay.trans (h:Stay T1 T2 W W')(k:Stay T1 T2 W' X):Stay T1 T2 W X:=
 ⟨k.os.trans h.os,k.tape.trans h.tape,k.output.trans h.output,Nat.le_trans h.size k.size,fun g o h1 h2=>k.keep g o (h.keep g o h1 h2) h2⟩
theorem Ext.stay (h:Ext W W'):Stay T1 T2 W W':=
 ⟨h.os,h.tape,h.output,h.size,fun g o h1 _=>by rw[h.block g (Array.getElem?_eq_some_iff.1 h1).1];exact h1⟩
theorem Turn.stay {b:Nat}{cs:Array Value}{T:TypeId}{fr:Nat×Nat}(h:Turn b W W')(hb:W.heap[b]?=some (.cells cs T fr))(hT:T=T1∨T=T2)(hs:∀(i:Nat) s,cs[i]?≠some (.string s)):Stay T1 T2 W W':=
 ⟨h.os,h.tape,h.output,Nat.le_of_eq h.size.symm,fun g o h1 h2=>by
  have hg:g≠b:=fun e=>by subst e;rw[hb] at h1;injection h1 with h1;exact h2 ⟨cs,T,fr,h1.symm,hT,hs⟩
  rw[h.else_ g hg];exact h1⟩
theorem zs3 {b:Nat}{cs:Array Value}{T:TypeId}{fr:Nat×Nat}(h:W.grownBy W' (some b))(hb:W.heap[b]?=some (.cells cs T fr))(hT:T=T1∨T=T2)(hs:∀(i:Nat) s,cs[i]?≠some (.string s)):Stay T1 T2 W W':=
 ⟨h.os,h.tape,h.output,h.size,fun g o h1 h2=>by
  have hg:some g≠some b:=fun e=>by injection e with e;subst e;rw[hb] at h1;injection h1 with h1;exact h2 ⟨cs,T,fr,h1.symm,hT,hs⟩
  rw[h.block g (Array.getElem?_eq_some_iff.1 h1).1 hg];exact h1⟩
theorem Stay.box {b:Nat}{cs:List Value}{T:TypeId}(h:Stay T1 T2 W W')(hb:BoxAt W b cs T)(h1:T≠T1)(h2:T≠T2):BoxAt W' b cs T:=by
 unfold BoxAt at *
 refine h.keep b _ hb ?_;rintro⟨cs',T',fr,e,hT,-⟩;injection e with e1 e2;subst e2;rcases hT with hT|hT
 ·exact h1 hT
 ·exact h2 hT
theorem Stay.cell {p:Addr}{v:Value}(h:Stay T1 T2 W W')(hc:W.cell? p=some v)(hn:∀o:Obj,W.heap[p.block]?=some o→¬Mute T1 T2 o):W'.cell? p=some v:=by have hlt:=World.block_lt_of_cell? W p hc;have h1:W.heap[p.block]?=some W.heap[p.block]:=Array.getElem?_eq_getElem hlt;have h2:=h.keep p.block _ h1 (hn _ h1);rw[World.cell?_of_block (h2.trans h1.symm)];exact hc
theorem Stay.sl {A:Option Addr}{l:List Rec}(h:Stay T1 T2 W W')(hs:Sl W A 45 (l.map recR)):Sl W' A 45 (l.map recR):=
 ⟨fun i row hr=>by
  obtain⟨h1,b,o,h2,h3⟩:=hs.at_ i row hr;refine⟨h1,b,o,h2,fun j v hv=>h.cell (h3 j v hv) fun ob hb hm=> ?_⟩;obtain⟨cs,T,fr,rfl,-,hno⟩:=hm;rw[List.getElem?_map] at hr;cases hl:l[i]? with
  |none=>rw[hl] at hr;cases hr
  |some r=>
   rw[hl] at hr;injection hr with hr;have h4:row[4]?=some (.string r.act.cue):=by rw[←hr];rfl
   have:=h3 4 _ h4;rw[cell_of_row W b _ cs T fr hb] at this;exact hno _ _ this⟩
theorem Stay.logw {w:World}{A:Option Addr}{N c:Nat}{l:List Rec}(h:Stay T1 T2 W W')(hl:LogW w W A N c l):LogW w W' A N c l:=⟨h.sl hl.sl,hl.len,hl.le,hl.cap,hl.el⟩
end

theorem zla:∀(cells:List Value) (o:Nat) (W:World) (zs:List Value) {b:Nat} {T:TypeId},BoxAt W b zs T→o+cells.length≤zs.length→zs.length<44→Turn b W (W.setCells b o cells)∧BoxAt (W.setCells b o cells) b (zs.take o++cells++zs.drop (o+cells.length)) T:=by
 intro cells
 induction cells with
 |nil=>intro o W zs b T hb ho h44;refine⟨⟨rfl,fun _ _=>rfl,rfl,rfl,rfl,zs.toArray,T,(0,0),hb,by simpa using h44⟩,?_⟩;simp only[World.setCells,List.append_nil,List.length_nil,Nat.add_zero,List.take_append_drop];exact hb
 |cons v r ih=>
  intro o W zs b T hb ho h44;simp only[List.length_cons] at ho;have hb1:BoxAt (W.setCell ⟨b,o,none⟩ v) b (zs.set o v) T:=by
   unfold BoxAt at *
   unfold World.setCell;rw[Array.getElem?_modify,if_pos rfl,hb];simp
  have ht:Turn b W (W.setCell ⟨b,o,none⟩ v):=⟨by simp[World.setCell],fun g hg=>by unfold World.setCell;rw[Array.getElem?_modify,if_neg (Ne.symm hg)],rfl,rfl,rfl,zs.toArray,T,(0,0),hb,by simpa using h44⟩
  obtain⟨i1,i2⟩:=ih (o+1) _ (zs.set o v) hb1 (by rw[List.length_set];omega) (by rw[List.length_set];exact h44);refine⟨⟨i1.size.trans ht.size,fun g hg=>(i1.else_ g hg).trans (ht.else_ g hg),i1.os.trans ht.os,i1.tape.trans ht.tape,i1.output.trans ht.output,ht.few⟩,?_⟩;have e:(zs.set o v).take (o+1)++r++(zs.set o v).drop (o+1+r.length)=zs.take o++v::r++zs.drop (o+(r.length+1)):=by rw[List.drop_set_of_lt om,show o+1+r.length=o+(r.length+1) by omega,List.take_succ_eq_append_getElem (by rw[List.length_set];omega),List.take_set_of_le (Nat.le_refl o)];simp
  rw[e] at i2;exact i2
theorem zmt {P:Program}(w:World)(b o:Nat)(ty:TypeId)(v:Value)(ht:w.there b o 1)(hi:(P.info? ty).map (·.size)=some 1)(h1:v.oneCell'=true):
  (storeVar ty ⟨b,o,none⟩ v).run P w=.ok () (w.setCells b o [v]):=by
 have hc:v.cells=#[v]:=by cases v<;>first|rfl|cases h1
 have:=run_storeCells_cells (P:=P) b o [v] 0 w (fun j hj=>by simpa using (ht j (by simpa using hj)).1) (fun j hj=>by simpa using (ht j (by simpa using hj)).2) (fun u hu=>by simp at hu;subst hu;exact h1);cases hq:P.info? ty with
 |none=>simp[hq] at hi
 |some i=>
  have hs:i.size=1:=by simpa [hq] using hi
  simp only[Nat.add_zero] at this;simp[storeVar,sizeOf,typeInfo,hq,hc,hs,this]
section
variable {P:Program} {ops:Array Oper} {rest:List Oper} {op:Oper} {a:Act} {Q:Exit→Act→World→Prop}
theorem zuw {K:Act→World→Prop} (ty:TypeId) (x y:Operand) (ho:op.op=.store ty x y) {W:World} {b:Nat} {zs:List Value} {T:TypeId} (hb:BoxAt W b zs T) (o:Nat) (hx:a.eval x=.pointer (some ⟨b,o,none⟩))
  (cells:List Value) (hy:a.eval y=.agg cells.toArray) (hz:o+cells.length≤zs.length) (h44:zs.length<44) (hi:(P.info? ty).map (·.size)=some cells.length) (h1:∀u∈cells,u.oneCell'=true) (zs':List Value) (he:zs.take o++cells++zs.drop (o+cells.length)=zs')
  (h:∀W',Turn b W W'→BoxAt W' b zs' T→K (a.put op.dst undef) W'):op.wp P a W K Q:=by
 subst he;refine wp_store_mid ty x y ho b o cells.toArray hx hy (fun j hj=> ?_) (by simpa using hi) (all_oneCell_toArray h1) ?_
 ·have:=hb.there (o+j) (by simp at hj;omega);rwa [Nat.zero_add] at this
 ·obtain⟨i1,i2⟩:=zla cells o W zs hb hz h44;exact h _ i1 i2
theorem zab (hgd:op.guard=none) (ty:TypeId) (x y:Operand) (ho:op.op=.store ty x y) {W:World} {b:Nat} {zs:List Value} {T:TypeId} (hb:BoxAt W b zs T) (o:Nat) (hx:a.eval x=.pointer (some ⟨b,o,none⟩))
  (cells:List Value) (hy:a.eval y=.agg cells.toArray) (hz:o+cells.length≤zs.length) (h44:zs.length<44) (hi:(P.info? ty).map (·.size)=some cells.length) (h1:∀u∈cells,u.oneCell'=true) (zs':List Value) (he:zs.take o++cells++zs.drop (o+cells.length)=zs')
  (h:∀W',Turn b W W'→BoxAt W' b zs' T→wpList P ops Q rest (a.put op.dst undef) W'):wpList P ops Q (op::rest) a W:=
 wpList_plain hgd fun _ hK=>zuw ty x y ho hb o hx cells hy hz h44 hi h1 zs' he fun W' h2 h3=>hK _ _ (h W' h2 h3)
theorem zdF {K:Act→World→Prop} (ty:TypeId) (x y:Operand) (ho:op.op=.store ty x y) {W:World} {b:Nat} {zs:List Value} {T:TypeId} (hb:BoxAt W b zs T) (o:Nat) (hx:a.eval x=.pointer (some ⟨b,o,none⟩))
  (v:Value) (hy:a.eval y=v) (hz:o<zs.length) (h44:zs.length<44) (hi:(P.info? ty).map (·.size)=some 1) (h1:v.oneCell'=true) (zs':List Value) (he:zs.set o v=zs')
  (h:∀W',Turn b W W'→BoxAt W' b zs' T→K (a.put op.dst undef) W'):op.wp P a W K Q:=by
 subst he hy;have hth:W.there b o 1:=fun j hj=>by have:=hb.there (o+j) om;rwa [Nat.zero_add] at this
 obtain⟨i1,i2⟩:=zla [a.eval y] o W zs hb (by show o+1≤_;omega) h44;unfold Oper.wp execOp;simp only[ho,hx,Instr.storeAt,Instr.sureAddr,Sem.run_bind,Sem.run_pure,Result.andThen_ok,zmt W b o ty _ hth hi h1];refine h _ i1 ?_;rw[List.set_eq_take_append_cons_drop,if_pos hz];simpa using i2
theorem zae (hgd:op.guard=none) (ty:TypeId) (x y:Operand) (ho:op.op=.store ty x y) {W:World} {b:Nat} {zs:List Value} {T:TypeId} (hb:BoxAt W b zs T) (o:Nat) (hx:a.eval x=.pointer (some ⟨b,o,none⟩))
  (v:Value) (hy:a.eval y=v) (hz:o<zs.length) (h44:zs.length<44) (hi:(P.info? ty).map (·.size)=some 1) (h1:v.oneCell'=true) (zs':List Value) (he:zs.set o v=zs')
  (h:∀W',Turn b W W'→BoxAt W' b zs' T→wpList P ops Q rest (a.put op.dst undef) W'):wpList P ops Q (op::rest) a W:=
 wpList_plain hgd fun _ hK=>zdF ty x y ho hb o hx v hy hz h44 hi h1 zs' he fun W' h2 h3=>hK _ _ (h W' h2 h3)
end

def noStr (u:Value):Bool:=match u with| .string _=>false|_=>true
theorem noStr_ne {u:Value}(h:noStr u=true)(s:ByteArray):u≠ .string s:=fun e=>by subst e;cases h
theorem zh6 {cs:List Value}(h:∀u∈cs,noStr u=true)(i:Nat)(s:ByteArray):cs.toArray[i]?≠some (.string s):=fun e=>by rw[List.getElem?_toArray] at e;exact noStr_ne (h _ (List.mem_of_getElem? e)) s rfl
structure OwnM (w0 w : World) (E : TypeId) (size : Nat) (A : Option Addr) (n k : Nat) (rows : List (List Value)) : Prop where
 own:Own w0 w E size A n k rows
 mute:∀g cur,A=some ⟨g,0,none⟩→w.heap[g]?=some (.cells cur E (0,0))→∀u∈cur.toList,noStr u=true
 low:∀a,A=some a→a.block<w.heap.size
section
variable {w0 w w':World} {E:TypeId} {size:Nat} {A:Option Addr} {n k:Nat} {rows news:List (List Value)}
theorem OwnM.nil (w0 w:World)(E:TypeId)(size:Nat):OwnM w0 w E size none 0 0 []:=⟨Own.nil none,fun _ _ h=>(by cases h),fun _ h=>(by cases h)⟩
theorem OwnM.mono (h:OwnM w0 w E size A n k rows)(hx:Ext w w'):OwnM w0 w' E size A n k rows:=
 ⟨h.own.mono hx,fun g cur hA hb=>h.mute g cur hA (by rw[←hx.block g (h.low _ hA)];exact hb),fun a ha=>Nat.lt_of_lt_of_le (h.low a ha) hx.size⟩
theorem OwnM.turn {b:Nat}(h:OwnM w0 w E size A n k rows)(ht:Turn b w w')(hne:∀a,A=some a→a.block≠b):OwnM w0 w' E size A n k rows:=by
 refine⟨⟨h.own.len,h.own.row,h.own.one,h.own.le,h.own.cap,?_⟩,fun g cur hA hb=>h.mute g cur hA ?_,fun a ha=>by rw[ht.size];exact h.low a ha⟩
 ·rcases h.own.at_ with h0|⟨g,cur,h1,h2,h3,h4⟩
  ·exact .inl h0
  ·exact .inr ⟨g,cur,h1,h2,by rw[ht.else_ g (hne _ h1)];exact h3,h4⟩
 ·rw[←ht.else_ g (hne _ hA)];exact hb
theorem OwnM.kept {row:Option Nat}(h:OwnM w0 w E size A n k rows)(hg:w.grownBy w' row)(hne:∀a,A=some a→some a.block≠row):OwnM w0 w' E size A n k rows:=
 ⟨h.own.kept hg hne,fun g cur hA hb=>h.mute g cur hA (by rw[←hg.block g (h.low _ hA) (hne _ hA)];exact hb),fun a ha=>Nat.lt_of_lt_of_le (h.low a ha) hg.size⟩
theorem zuy {z:Array Value}{m:Nat}(hz:∀u∈z.toList,noStr u=true)(hd:noStr (default:Value)=true):∀u∈(Builtin.zeroCells z m).toList,noStr u=true:=fun u hu=>by
 unfold Builtin.zeroCells at hu;rw[Array.toList_map,List.mem_map] at hu;obtain⟨i,-,rfl⟩:=hu;by_cases hi:i % z.size<z.size
 ·have:z[i % z.size]! =z[i % z.size]:=by simp[hi]
  rw[this];exact hz _ (by simp)
 ·have:z[i % z.size]! =default:=by simp[hi]
  rw[this];exact hd
end
section
variable {P:Program} {w0 W:World} {E:TypeId} {size:Nat} {A:Option Addr} {n k:Nat} {rows news:List (List Value)}
theorem zqc (t tx ty:TypeId) (i:TypeInfo) (z:Value) (bytes:Nat) (ht:P.underlying t=some (.slice E)) (hi:P.info? E=some i) (hz:i.zero=some z) (hsize:i.size=size) (hby:i.bytes=bytes) (hzs:z.cells.size=size)
  (hx:Ext w0 W) (hm0:OwnM w0 W E size A n k rows) {x:Value} {m:Nat} (hsrc:Src P size tx x m news.flatten W) (hm:news.length=m) (hmp:0<m) (hnr:∀r∈news,r.length=size) (hn1:∀r∈news,∀u∈r,u.oneCell'=true)
  (hns:∀r∈news,∀u∈r,noStr u=true) (hrs:∀r∈rows,∀u∈r,noStr u=true) (hzn:∀u∈z.cells.toList,noStr u=true) (h63:n+m≤maxLen) (hbytes:(n+m) * bytes≤140737488355328):
  ∃A' k' w',(Builtin.append_ #[t,tx] ty #[.slice A n k,x]).run P W=.ok (.slice A' (n+m) k') w'∧Ext w0 w'∧OwnM w0 w' E size A' (n+m) k' (rows++news)∧W.grownBy w' (A.map (·.block))∧(A'=A∨A'=some ⟨W.heap.size,0,none⟩):=by
 obtain⟨ho,hmu,hlow⟩:=hm0;subst hsize;subst hby;have hfl:=zb6 rows ho.row;have hfn:=zb6 news hnr;have hall:(rows++news).length=n+m:=by rw[List.length_append,ho.len,hm]
 have h63':((n+m:Nat):Int)≤9223372036854775807:=by unfold maxLen at h63;omega
 have hnsf:∀u∈news.flatten,noStr u=true:=fun u hu=>by obtain⟨r,hr,hu⟩:=List.mem_flatten.1 hu;exact hns r hr u hu
 have hrsf:∀u∈rows.flatten,noStr u=true:=fun u hu=>by obtain⟨r,hr,hu⟩:=List.mem_flatten.1 hu;exact hrs r hr u hu
 by_cases hroom:n+m≤k
 ·rcases ho.at_ with h0|⟨g,cur,rfl,hg,hb,hcs,htk⟩
  ·omega
  ·have hfit:n * i.size+0+news.flatten.length≤cur.size:=by rw[hfn,hm,hcs,Nat.add_zero,←Nat.add_mul];exact Nat.mul_le_mul_right _ hroom
   have hst:=run_storeCells_at P g (n * i.size) E news.flatten 0 cur W hb hfit hsrc.one;simp only[Nat.add_zero] at hst hfit;have hmc:=hmu g cur rfl hb;refine⟨some ⟨g,0,none⟩,k,W.setRow g (cur.toList.take (n * i.size)++news.flatten++cur.toList.drop (n * i.size+news.flatten.length)).toArray,?_,?_,?_,⟨rfl,rfl,rfl,by simp[World.setRow],fun j _ hne=>setRow_other W g j _ (fun e=>hne (by rw[e];rfl))⟩,.inl rfl⟩
   ·rcases hsrc.kind with⟨e',hk⟩|hk<;>simp[Builtin.append_,run_underlying ht,run_underlying hk,sizeOf,typeInfo,hi,hsrc.len,hroom,hsrc.cells,Addr.add_lit,hst]
   ·exact below_setRow hx hg _
   ·refine⟨⟨hall,zsj ho.row hnr,zms ho.one hn1,hroom,ho.cap,.inr ⟨g,_,rfl,hg,setRow_heap W g cur _ E _ hb,?_,?_⟩⟩,fun g' cur' hA hb' u hu=> ?_,fun a ha=> ?_⟩
    ·rw[List.size_toArray,zbO _ _ _ _ rfl (by simpa using hfit)];simpa using hcs
    ·have:=zqD cur.toList rows.flatten news.flatten (n * i.size) htk (by simpa using hfit);rw[hfn,hm] at this;rw[List.flatten_append,←this,Nat.add_mul,hfn,hm]
    ·injection hA with hA;injection hA with hA;subst hA;rw[setRow_heap W g cur _ E _ hb] at hb';injection hb' with hb';injection hb' with hb';subst hb';simp only at hu;rcases List.mem_append.1 hu with hu|hu
     ·rcases List.mem_append.1 hu with hu|hu
      ·exact hmc u (List.mem_of_mem_take hu)
      ·exact hnsf u hu
     ·exact hmc u (List.mem_of_mem_drop hu)
    ·injection ha with ha;subst ha;have:=hlow _ rfl;simpa [World.setRow] using this
 ·have hold:(Builtin.firstCells i.size n (.slice A n k)).run P W.drew=.ok rows.flatten.toArray W.drew:=by
   rcases ho.at_ with h0|⟨g,cur,rfl,hg,hb,hcs,htk⟩
   ·have h1:n=0:=by have:=ho.le;omega
    have h4:rows=[]:=List.eq_nil_of_length_eq_zero (by rw[ho.len,h1]);subst h4;subst h1;cases A with
    |none=>exact run_firstCells_none _ _ _ _ _
    |some b=>exact run_firstCells_some W.drew i.size 0 b 0 k [] (by simp) (by simp)
   ·refine run_firstCells_some W.drew i.size n _ n k rows.flatten (by rw[hfl,ho.len]) (fun j v hv=> ?_);have hadd:(⟨g,0,none⟩:Addr).add j=⟨g,j,none⟩:=by unfold Addr.add;split<;>simp_all
    rw[hadd,←htk,List.getElem?_take] at *
    split at hv
    ·show W.cell? _=_;unfold World.cell?;simp only[hb];simpa using hv
    ·cases hv
  have hfit2:Builtin.nextslicecap (n+m) k * i.bytes≤281474976710656:=growslice_fits om hbytes;have hcapge:=grownCap_ge W (n+m) k E;have hrun:=run_append_grow_src (P:=P) W t tx ty E i z ht hi hz A n k rows.flatten hold x m news.flatten hsrc om h63' hfit2;rw[←List.flatten_append] at hrun;refine⟨_,_,_,hrun,(hx.drew).alloc _,⟨?_,fun g' cur' hA hb' u hu=> ?_,fun a ha=> ?_⟩,⟨rfl,rfl,rfl,by simp,fun j hj _=>heap_alloc_old W.drew _ hj⟩,.inr rfl⟩
  ·refine Own.new (W:=W.drew) (hx.drew) hall (zsj ho.row hnr) (zms ho.one hn1) hcapge (grownCap_le_maxLen W _ _ E h63) ?_;rw[size_zeroCells,hzs]
  ·injection hA with hA;injection hA with hA;subst hA;rw[show W.heap.size=W.drew.heap.size from rfl,heap_alloc_new W.drew _] at hb';injection hb' with hb';injection hb' with hb';subst hb';rw[Array.toList_append] at hu;rcases List.mem_append.1 hu with hu|hu
   ·simp only[List.flatten_append] at hu;rcases List.mem_append.1 hu with hu|hu
    ·exact hrsf u hu
    ·exact hnsf u hu
   ·exact zuy hzn rfl u hu
  ·injection ha with ha;subst ha;simp
def zgg (P:Program) (E:TypeId):Bool:=match P.info? E with
 |some i=>match i.zero with
  |some z=>z.cells.all noStr
  |none=>false
 |none=>false
theorem zxr {i:TypeInfo}{z:Value}(h:zgg P E=true)(hi:P.info? E=some i)(hz:i.zero=some z):∀u∈z.cells.toList,noStr u=true:=fun u hu=>by unfold zgg at h;rw[hi] at h;simp only[hz] at h;exact Array.all_eq_true_iff_forall_mem.1 h u (by simpa using hu)
end
section
variable {P:Program} {ops:Array Oper} {rest:List Oper} {o:Oper} {a:Act} {Q:Exit→Act→World→Prop} {w0 W:World}
theorem OwnM.stay {w':World}{E T2:TypeId}{size:Nat}{A:Option Addr}{n k:Nat}{rows:List (List Value)}(h:OwnM w0 W E size A n k rows)(hk:k≠0)(hg:W.grownBy w' (A.map (·.block))):Stay E T2 W w':=by
 rcases h.own.at_ with h0|⟨g,cur,rfl,h2,h3,h4⟩
 ·exact absurd h0 hk
 ·refine zs3 hg h3 (.inl rfl) fun i s hs=> ?_;have:=h.mute g cur rfl h3 (.string s) (by rw[←Array.getElem?_toList] at hs;exact List.mem_of_getElem? hs);cases this
theorem OwnM.stay' {w':World}{E T2:TypeId}{size:Nat}{A:Option Addr}{n k:Nat}{rows:List (List Value)}(h:OwnM w0 W E size A n k rows)(hk:A=none∨k≠0)(hg:W.grownBy w' (A.map (·.block))):Stay E T2 W w':=by
 rcases hk with rfl|hk
 ·exact Ext.stay ⟨hg.os,hg.tape,hg.output,hg.size,fun j hj=>hg.block j hj (by simp)⟩
 ·exact h.stay hk hg
theorem zcw {K:Act→World→Prop} (T2:TypeId) (s x:Operand) (t tx:TypeId) (ho:o.op=.call {callee:=.builtin .append,args:=#[s,x],argTypes:=#[t,tx]}) (E e':TypeId) (size bytes:Nat) (ht:P.underlying t=some (.slice E)) (htx:P.underlying tx=some (.slice e'))
  (hI:zbz P E size bytes=true) (hZ:zgg P E=true) (hpos:0<size) (hx:Ext w0 W) (A:Option Addr) (n k:Nat) (rows:List (List Value)) (hs:a.eval s=.slice A n k) (hown:OwnM w0 W E size A n k rows) (hAk:A=none∨k≠0) (hrs:∀r∈rows,∀u∈r,noStr u=true)
  (B:Option Addr) (m c:Nat) (news:List (List Value)) (hxv:a.eval x=.slice B m c) (hsl:Sl W B size news) (hm:news.length=m) (hmp:0<m) (hn1:∀r∈news,∀u∈r,u.oneCell'=true) (hns:∀r∈news,∀u∈r,noStr u=true) (h63:n+m≤maxLen) (hbytes:(n+m) * bytes≤140737488355328) (N:Nat) (hN:n+m=N) (all:List (List Value)) (hall:rows++news=all)
  (h:∀A' k' w',Ext w0 w'→OwnM w0 w' E size A' N k' all→k'≠0→Stay E T2 W w'→W.grownBy w' (A.map (·.block))→(A'=A∨A'=some ⟨W.heap.size,0,none⟩)→K (a.put o.dst (.slice A' N k')) w'):o.wp P a W K Q:=by
 subst hN;subst hall;obtain⟨i,z,h1,h2,h3,h4,h5⟩:=zci hI;obtain⟨A',k',w',hr,g1,g2,g3,g4⟩:=zqc (P:=P) t tx o.type i z bytes ht h1 h2 h3 h4 h5 hx hown (ziX (c:=c) htx hsl hm hn1 hpos) hm hmp (zsm hsl) hn1 hns hrs (zxr hZ h1 h2) h63 hbytes;unfold Oper.wp execOp;simp only[ho,resolve,invoke,builtin,Sem.run_bind,Sem.run_pure,Result.andThen_ok,List.map_toArray,List.map_cons,List.map_nil,hs,hxv,hr];exact h A' k' w' g1 g2 (by have:=g2.own.le;omega) (hown.stay' hAk g3) g3 g4
theorem zAH (hgd:o.guard=none) (T2:TypeId) (s x:Operand) (t tx:TypeId) (ho:o.op=.call {callee:=.builtin .append,args:=#[s,x],argTypes:=#[t,tx]}) (E e':TypeId) (size bytes:Nat) (ht:P.underlying t=some (.slice E)) (htx:P.underlying tx=some (.slice e'))
  (hI:zbz P E size bytes=true) (hZ:zgg P E=true) (hpos:0<size) (hx:Ext w0 W) (A:Option Addr) (n k:Nat) (rows:List (List Value)) (hs:a.eval s=.slice A n k) (hown:OwnM w0 W E size A n k rows) (hAk:A=none∨k≠0) (hrs:∀r∈rows,∀u∈r,noStr u=true)
  (B:Option Addr) (m c:Nat) (news:List (List Value)) (hxv:a.eval x=.slice B m c) (hsl:Sl W B size news) (hm:news.length=m) (hmp:0<m) (hn1:∀r∈news,∀u∈r,u.oneCell'=true) (hns:∀r∈news,∀u∈r,noStr u=true) (h63:n+m≤maxLen) (hbytes:(n+m) * bytes≤140737488355328) (N:Nat) (hN:n+m=N) (all:List (List Value)) (hall:rows++news=all)
  (h:∀A' k' w',Ext w0 w'→OwnM w0 w' E size A' N k' all→k'≠0→Stay E T2 W w'→W.grownBy w' (A.map (·.block))→(A'=A∨A'=some ⟨W.heap.size,0,none⟩)→wpList P ops Q rest (a.put o.dst (.slice A' N k')) w'):wpList P ops Q (o::rest) a W:=
 wpList_plain hgd fun _ hK=>zcw T2 s x t tx ho E e' size bytes ht htx hI hZ hpos hx A n k rows hs hown hAk hrs B m c news hxv hsl hm hmp hn1 hns h63 hbytes N hN all hall fun A' k' w' h1 h2 h3 h4 h5 h6=>hK _ _ (h A' k' w' h1 h2 h3 h4 h5 h6)
end

section
variable {P:Program} {ops:Array Oper} {Q:Exit→Act→World→Prop}
def tailT (ops:Array Oper) (k:Nat) (F:List Nat):Bool:=(List.range ops.size).all fun i=>decide (i<k)||((List.range k).all fun c=>F.contains c||(zdI .any ops i c||(List.range k).any fun j=>zdI .any ops i j && zdI .any ops j c))||(List.range i).any fun j=>decide (k≤j) && zdI .any ops i j
def slotsT (ops:Array Oper) (k:Nat) (F:List Nat) (m:Nat):Bool:=
 Region.noSelect ops && decide (k≤ops.size) && headB ops k m && tailT ops k F && freeB ops k F && Region.seqB .any ops (ops.size - k) k (zdb ops k)
def SInvS (ops:Array Oper) (k:Nat) (T:Nat→Value→World→Prop) (a0:Act) (w0:World) (L:Array Bool) (a:Act) (w:World):Prop:=
 SInv ops k T a0 w0 L a w∧∀i j,L.getD i false=true→zdI .any ops i j=true→L.getD j false=true
theorem SInvS.next {k:Nat} {T:Nat→Value→World→Prop} {a0:Act} {w0:World} {L:Array Bool} {a:Act} {w:World} (h:SInvS ops k T a0 w0 L a w) (hB:headB ops k a0.tmps.size=true) (hst:∀i v w w',Ext w w'→T i v w→T i v w')
  {i:Nat} (hi:i<k) {v:Value} {w':World} (hx:Ext w w') (hv:T i v w') (hw:∀j,zdI .any ops i j=true→L.getD j false=true):SInvS ops k T a0 w0 (L.setIfInBounds i true) (a.put (dstB ops i) v) w':=by
 refine⟨h.1.next hB hst hi hx hv,fun p q hp hq=> ?_⟩;by_cases hpi:i=p
 ·subst hpi;exact getD_set_true (hw q hq)
 ·rw[getD_set_ne false hpi] at hp;exact getD_set_true (h.2 p q hp hq)
end
section
variable {P:Program} {ops:Array Oper} {Q:Exit→Act→World→Prop}
section
variable {k:Nat} {F Al:List Nat} {T:Nat→Value→World→Prop} {a0:Act} {w0:World}
theorem zzw (hB:headB ops k a0.tmps.size=true) (hT:tailT ops k F=true) (hks:k≤ops.size) (hst:∀i v w w',Ext w w'→T i v w→T i v w') (hAl:∀j,Al.contains j=true→∀v w,T j v w→zzB w v) (hop:∀i,i<k→zoV P ops Q k T Al a0 w0 i)
  (hend:∀L a w,SInvS ops k T a0 w0 L a w→Diff ops Al k L a→(∀i,i<k→F.contains i=false→L.getD i false=true)→wpAny P .any ops Q (leftN ops.size L) L a w):
  ∀(f:Nat) (L:Array Bool) (a:Act) (w:World),SInvS ops k T a0 w0 L a w→Diff ops Al k L a→leftN ops.size L=f→wpAny P .any ops Q f L a w:=by
 intro f
 induction f with
 |zero=>
  intro L a w inv hdf hf;rw[←hf];refine hend L a w inv hdf fun i hi _=> ?_;cases hl:L.getD i false with
  |true=>rfl
  |false=>have:=zpI (n:=ops.size) (i:=i) om hl;omega
 |succ f ih=>
  intro L a w inv hdf hf;by_cases hall:∀i,i<k→F.contains i=false→L.getD i false=true
  ·rw[←hf];exact hend L a w inv hdf hall
  ·have hall':∀i,i<k→Region.ready .any ops L=[]→L.getD i false=true:=by
    intro i
    induction i using Nat.strongRecOn with
    |_ i ihi=>
     intro hi hr;cases hl:L.getD i false with
     |true=>rfl
     |false=>obtain⟨o,d,ho,-,-,-,-,hed⟩:=zbS hB hi;have hm:i∈Region.ready .any ops L:=mem_ready.2 ⟨getD_in (by rw[inv.1.size];omega) hl,o,ho,fun e he hb=>ihi e.on (hed e he hb) (by have:=hed e he hb;omega) hr⟩;rw[hr] at hm;cases hm
   refine⟨fun hr=>absurd (fun i hi _=>hall' i hi hr) hall,fun i hi=> ?_⟩;obtain⟨hun,o,ho,hdeps⟩:=mem_ready.1 hi;have his:i<ops.size:=(Array.getElem?_eq_some_iff.1 ho).1;have hw:∀j,zdI .any ops i j=true→L.getD j false=true:=fun j hj=>by
    obtain⟨o',e,ho',he,hb,rfl⟩:=zd5 hj;rw[ho] at ho';obtain rfl:o=o':=by injection ho'
    exact hdeps e he hb
   have hik:i<k:=by
    rcases Nat.lt_or_ge i k with h|h
    ·exact h
    ·exfalso;have h1:=List.all_eq_true.1 hT i (List.mem_range.2 his);simp only[Bool.or_eq_true,decide_eq_true_eq] at h1;rcases h1 with(h1|h1)|h1
     ·omega
     ·refine hall fun c hc hF=> ?_;have h2:=List.all_eq_true.1 h1 c (List.mem_range.2 hc);rw[hF,Bool.false_or,Bool.or_eq_true] at h2;rcases h2 with h2|h2
      ·exact hw c h2
      ·obtain⟨j,-,h2⟩:=List.any_eq_true.1 h2;rw[Bool.and_eq_true] at h2;exact inv.2 j c (hw j h2.1) h2.2
     ·obtain⟨j,hj,h2⟩:=List.any_eq_true.1 h1;simp only[Bool.and_eq_true,decide_eq_true_eq] at h2;have h3:=hw j h2.2;rw[inv.1.tail j h2.1] at h3;cases h3
   have hact:=inv.1.act hB;have hg:=hop i hik (heldU ops a) w inv.1.ext (fun j hj=>by
    have hlj:=hw j hj;obtain⟨o',e,ho',he,hb,rfl⟩:=zd5 hj;obtain⟨o2,-,ho2,-,-,-,-,hed⟩:=zbS hB hik;rw[ho'] at ho2;obtain rfl:o'=o2:=by injection ho2
    exact inv.1.at_ hB (by have:=hed e he hb;omega) hlj)
   rw[←hact] at hg;refine wpOp_mono (fun a' w' h=> ?_) hg;obtain⟨v,rfl,hx,hv,hfr⟩:=h;refine ih _ _ _ (inv.next hB hst hik hx hv hw) (hdf.next hB inv.1 hik (fun hal j hj hjk hne hlj he=> ?_)) ?_
   ·obtain⟨g,e1,h1⟩:=hfr hal;obtain⟨g',e2,h2⟩:=hAl j hj _ _ (inv.1.at_ hB hjk hlj);rw[e1,e2] at he;injection he with he;injection he with he;injection he with he;omega
   have:=zgw (n:=ops.size) (i:=i) (L:=L) his (by rw[inv.1.size];exact his) (getD_both hun);omega
theorem zk9 (hB:headB ops k a0.tmps.size=true) (hF:freeB ops k F=true) (hks:k≤ops.size) (hsel:Region.noSelect ops=true) (hseq:Region.seqB .any ops (ops.size - k) k (zdb ops k)=true) (hst:∀i v w w',Ext w w'→T i v w→T i v w')
  (hQ:∀c t t' ds w,Q (.panic c) ⟨t,ds⟩ w→Q (.panic c) ⟨t',ds⟩ w) (hFA:∀i,i∈F→Al.contains i=false) (hpure:∀i,i∈F→zef P ops k T a0 w0 i)
  (hend:∀u w,Ext w0 w→(∀i,i<k→T i (u i) w)→(∀i j,i<k→j<k→Al.contains i=true→Al.contains j=true→i≠j→u i≠u j)→wpList P ops Q (ops.toList.drop k) (zc0 (ops.toList.take k) u 0 a0) w):
  ∀(G:List Nat) (_:∀i∈G,i∈F) (L:Array Bool) (a:Act) (w:World),SInvS ops k T a0 w0 L a w→Diff ops Al k L a→(∀i,i<k→F.contains i=false→L.getD i false=true)→(∀i,i<k→G.contains i=false→L.getD i false=true)→wpAny P .any ops Q (leftN ops.size L) L a w
 |[],_,L,a,w,inv,hdf,_,h=>by
  have h1:∀i,i<k→L.getD i false=true:=fun i hi=>h i hi rfl;have hL:L=zdb ops k:=by
   apply Array.ext_getElem?;intro i;have e:(zdb ops k)[i]?=((List.range ops.size)[i]?).map fun i=>decide (i<k):=by unfold zdb;simp
   rw[e];by_cases hi:i<ops.size
   ·rw[List.getElem?_range hi];have hi':i<L.size:=by rw[inv.1.size];exact hi
    by_cases hik:i<k
    ·have:=h1 i hik;simp[hi'] at this;simp[hi',hik,this]
    ·have:=inv.1.tail i om;simp[hi'] at this;simp[hi',hik,this]
   ·rw[Array.getElem?_eq_none (by rw[inv.1.size];omega),List.getElem?_eq_none (by simp;omega)];rfl
  rw[zfx hks h1 inv.1.tail];have hlen:(ops.toList.drop k).length=ops.size - k:=by simp
  rw[←hlen];refine wpAny_of_seq (ops.toList.drop k) k L a w (fun j=>by rw[List.getElem?_drop,Array.getElem?_toList]) (by rw[hlen,hL];exact hseq) ?_;rw[inv.1.act hB];exact hend _ w inv.1.ext (fun i hi=>inv.1.at_ hB hi (h1 i hi)) fun i j hi hj ha hb hne=>hdf i j hi hj ha hb hne (h1 i hi) (h1 j hj)
 |i::G,hG,L,a,w,inv,hdf,hc,h=>by
  have hiF:=hG i (by simp);by_cases hl:L.getD i false=true
  ·refine zk9 hB hF hks hsel hseq hst hQ hFA hpure hend G (fun j hj=>hG j (by simp[hj])) L a w inv hdf hc fun j hj hGj=> ?_;by_cases hji:j=i
   ·rw[hji];exact hl
   ·refine h j hj ?_;rw[List.contains_cons,hGj,Bool.or_false,beq_eq_false_iff_ne];exact hji
  ·have hl':L.getD i false=false:=by simpa using hl
   have h1:=List.all_eq_true.1 hF i hiF;simp only[Bool.and_eq_true,decide_eq_true_eq] at h1;obtain⟨⟨hik,hfree⟩,hdep⟩:=h1;obtain⟨o,d,ho,hod,hd,hdm,hne,hed⟩:=zbS hB hik;simp only[ho] at hdep;have his:i<ops.size:=by omega
   have hdl:∀e∈o.after,Region.binds .any e=true→L.getD e.on false=true:=fun e he hb=>by have h2:=Array.all_eq_true_iff_forall_mem.1 hdep e he;simp only[hb,Bool.not_true,Bool.false_or,Bool.and_eq_true,decide_eq_true_eq,Bool.not_eq_true'] at h2;exact hc e.on h2.1 h2.2
   have hready:i∈Region.ready .any ops L:=mem_ready.2 ⟨getD_in (by rw[inv.1.size];exact his) hl',o,ho,hdl⟩;have hww:∀j,zdI .any ops i j=true→L.getD j false=true:=fun j hj=>by
    obtain⟨o',e,ho',he,hb,rfl⟩:=zd5 hj;rw[ho] at ho';obtain rfl:o=o':=by injection ho'
    exact hdl e he hb
   obtain⟨v,hy,hv⟩:=hpure i hiF (heldU ops a) w inv.1.ext (fun j hj=>by
    obtain⟨o',e,ho',he,hb,rfl⟩:=zd5 hj;rw[ho] at ho';obtain rfl:o=o':=by injection ho'
    exact inv.1.at_ hB (by have:=hed e he hb;omega) (hdl e he hb))
   rw[←inv.1.act hB] at hy;rw[zgw (n:=ops.size) (i:=i) his (by rw[inv.1.size];exact his) hl'];refine wpAny_first ho (Region.noSelect_spec hsel) (fun c a w h=>by
    obtain⟨t,ds⟩:=a;generalize o.dst=dd at h;cases dd with
    |none=>exact h
    |some d=>exact hQ c _ t ds w h) (leftN ops.size (L.setIfInBounds i true)) L a w (fun j oj hj hji hun hno=> ?_) hready (hy o ho) ?_
   ·refine Region.free_spec ho hfree j oj hj hji ?_ hno;have hjs:j<ops.size:=(Array.getElem?_eq_some_iff.1 hj).1;have ec:(zgZ ops k F).getD j true=(decide (j<k) && !F.contains j):=by unfold zgZ;simp[hjs]
    rw[ec];by_cases hjk:j<k∧F.contains j=false
    ·have:=hc j hjk.1 hjk.2;rw[getD_both hun] at this;cases this
    ·by_cases h2:j<k
     ·have h3:F.contains j=true:=by
       cases h4:F.contains j with
       |true=>rfl
       |false=>exact absurd ⟨h2,h4⟩ hjk
      simp only[h3];simp
     ·simp[h2]
   ·rw[hod,←hd];refine zk9 hB hF hks hsel hseq hst hQ hFA hpure hend G (fun j hj=>hG j (by simp[hj])) _ _ w (inv.next hB hst hik (Ext.refl w) hv hww) (hdf.next hB inv.1 hik (fun hal=>by rw[hFA i hiF] at hal;cases hal)) (fun j hj hFj=>getD_set_true (hc j hj hFj)) fun j hj hGj=> ?_;by_cases hji:j=i
    ·rw[hji,Array.getD_eq_getD_getElem?,Array.getElem?_setIfInBounds_self_of_lt (by rw[inv.1.size];exact his)];rfl
    ·refine getD_set_true (h j hj ?_);rw[List.contains_cons,hGj,Bool.or_false,beq_eq_false_iff_ne];exact hji
end
theorem zod {id:Nat} {a:Act} {w:World} {l:List Oper} (k:Nat) (F Al:List Nat) (Ts:List Stab) {A:(Nat→Value)→Act} (hA:∀u,zc0 (l.take k) u 0 a=A u) (hm:P.follows .mixedOrders=true) (hB:slotsT l.toArray k F a.tmps.size=true) (hFA:F.all (fun i=> !Al.contains i)=true)
  (hQ:∀c t t' ds w,Q (.panic c) ⟨t,ds⟩ w→Q (.panic c) ⟨t',ds⟩ w) (hAl:∀j,Al.contains j=true→∀v w,prop Ts j v w→zzB w v)
  (hop:allOf (fun i=>if F.contains i=true then PureA P l.toArray (prop Ts) A w.drew i else SlotB P l.toArray Q (prop Ts) Al A w.drew i) k 0)
  (hend:∀u w',Ext w.drew w'→allOf (fun i=>prop Ts i (u i) w') k 0→(∀i j,i<k→j<k→Al.contains i=true→Al.contains j=true→i≠j→u i≠u j)→wpList P l.toArray Q (l.drop k) (A u) w'):(Code.region id l.toArray true).wp P Q a w:=by
 obtain rfl:A=fun u=>zc0 (l.take k) u 0 a:=funext fun u=>(hA u).symm;simp only[slotsT,Bool.and_eq_true,decide_eq_true_eq] at hB;obtain⟨⟨⟨⟨⟨h1,h2⟩,h3⟩,h4⟩,h5⟩,h6⟩:=hB;have hFA':∀i,i∈F→Al.contains i=false:=fun i hi=>by have:=List.all_eq_true.1 hFA i hi;simpa using this
 have hpure:∀i,i∈F→zef P l.toArray k (prop Ts) a w.drew i:=fun i hi=>by
  have hik:i<k:=by have:=List.all_eq_true.1 h5 i hi;simp only[Bool.and_eq_true,decide_eq_true_eq] at this;exact this.1.1
  have:=zfD hop i om om;rwa [if_pos (by simpa using hi)] at this
 refine wp_region_any hm ?_;have hleft:leftN l.toArray.size (Array.replicate l.toArray.size false)=l.toArray.size:=by have:=zfx (n:=l.toArray.size) (k:=0) (L:=Array.replicate l.toArray.size false) (Nat.zero_le _) (fun i hi=>by omega) (fun i _=>getD_replicate_false _ _);simpa using this
 refine zzw (F:=F) (Al:=Al) h3 h4 h2 (zpV Ts) hAl (fun i hi=> ?_) (fun L a' w' inv hdf hall=> ?_) l.toArray.size _ a w.drew ⟨⟨by simp,Ext.refl _,rfl,rfl,fun i _=>getD_replicate_false _ _,fun _ _=>rfl,fun i d _ _ hl=>by rw[getD_replicate_false] at hl;cases hl⟩,fun i j hl=>by rw[getD_replicate_false] at hl;cases hl⟩ (fun p q _ _ _ _ _ hl _=>by rw[getD_replicate_false] at hl;cases hl) hleft
 ·by_cases hF:F.contains i=true
  ·exact(hpure i (by simpa using hF)).slot2 h3 hi (hFA' i (by simpa using hF))
  ·have:=zfD hop i om om;rwa [if_neg hF] at this
 ·refine zk9 h3 h5 h2 h1 h6 (zpV Ts) hQ hFA' hpure (fun u w'' hx hT hdd=> ?_) F (fun _ h=>h) L a' w' inv hdf hall hall;have:=hend u w'' hx (zoe fun j _ hj=>hT j om) hdd;simpa using this
end

def Stab.msg (m:Msg):Stab:=⟨fun v W=> ∃D K,v=.agg (Lm m D K)∧za3 W D K m.recs,fun _ _ _ hx ⟨D,K,e,h⟩=>⟨D,K,e,h.mono hx⟩⟩
def Stab.recv (w:World) (n:Nod) (a:Msg) (ok:Bool) (er:Int):Stab:=⟨fun x W=> ∃D K,x=.tuple #[.agg (Ln n D K),.agg (La a),ok,er]∧LogW w W D n.log.length K n.log,fun _ _ _ hx ⟨D,K,e,h⟩=>⟨D,K,e,h.mono hx⟩⟩
def Stab.nod (w:World) (n:Nod):Stab:=⟨fun x W=> ∃D K,x=.agg (Ln n D K)∧LogW w W D n.log.length K n.log,fun _ _ _ hx ⟨D,K,e,h⟩=>⟨D,K,e,h.mono hx⟩⟩
def Stab.box (n:Nat) (cs:List Value) (T:TypeId):Stab:=⟨fun x W=> ∃g,x=.pointer (some ⟨g,0,none⟩)∧n≤g∧BoxAt W g cs T,fun _ _ _ hx ⟨g,e,hg,h⟩=>⟨g,e,hg,h.mono hx⟩⟩
theorem LogIn.logw {w w1 X W:World}{D:Option Addr}{N K:Nat}{l:List Rec}(h:LogIn w1 X W D N K l)(hn:l.length=N)(hx:Ext w1 W)(he:∀r∈l,AcnAt w r.act):LogW w W D N K l:=by
 subst hn;rcases h with h|⟨h,-⟩
 ·exact⟨h.sl.mono hx,rfl,h.le,h.cap,he⟩
 ·exact LogW.own h he
def GotV (w:World) (n:Nod) (a:Msg) (ok:Bool) (er:Int) (e:Ending) (w':World):Prop:=∃D K,e=.returned (.tuple #[.agg (Ln n D K),.agg (La a),ok,er])∧Ext w w'∧LogIn w w w' D n.log.length K n.log
theorem zbn (n:Nod)(A:Option Addr)(c:Nat)(m:Msg)(B:Option Addr)(d:Nat)(w:World)(hs:za3 w A c n.log)(hm:za3 w B d m.recs)(n1:Nod)(a1:Msg)(ok:Bool)(er:Int)(hv:recvV n m=(n1,a1,ok,er)):
  Calls prog 105 #[.agg (Ln n A c),.agg (Lm m B d)] w (GotV w n1 a1 ok er):=by
 have:=zeH n A c m B d w hs hm;rw[hv] at this;exact this

def zGx (ops:Array Oper):Nat→Nat→Nat→Bool
 |0,i,c=>zdI .any ops i c
 |n+1,i,c=>zdI .any ops i c||(List.range ops.size).any fun j=>zdI .any ops i j && zGx ops n j c
theorem zGu {ops:Array Oper}{L:Array Bool}(h:∀i j,L.getD i false=true→zdI .any ops i j=true→L.getD j false=true):∀(n i c:Nat),L.getD i false=true→zGx ops n i c=true→L.getD c false=true
 |0,i,c,hi,hr=>h i c hi hr
 |n+1,i,c,hi,hr=>by
  unfold zGx at hr;rw[Bool.or_eq_true] at hr;rcases hr with hr|hr
  ·exact h i c hi hr
  ·obtain⟨j,-,hr⟩:=List.any_eq_true.1 hr;rw[Bool.and_eq_true] at hr;exact zGu h n j c (h i j hi hr.1) hr.2
theorem zGL {ops:Array Oper}{L:Array Bool}{n i c:Nat}(h:∀i j,L.getD i false=true→zdI .any ops i j=true→L.getD j false=true)(hw:∀j,zdI .any ops i j=true→L.getD j false=true)(hr:zGx ops n i c=true):L.getD c false=true:=by
 cases n with
 |zero=>exact hw c hr
 |succ n=>
  unfold zGx at hr;rw[Bool.or_eq_true] at hr;rcases hr with hr|hr
  ·exact hw c hr
  ·obtain⟨j,-,hr⟩:=List.any_eq_true.1 hr;rw[Bool.and_eq_true] at hr;exact zGu h n j c (hw j hr.1) hr.2
def tailD (ops:Array Oper) (k:Nat) (F:List Nat):Bool:=(List.range ops.size).all fun i=>decide (i<k)||((List.range k).all fun c=>F.contains c||zGx ops 6 i c)||(List.range i).any fun j=>decide (k≤j) && zdI .any ops i j
def slotsD (ops:Array Oper) (k:Nat) (F:List Nat) (m:Nat):Bool:=
 Region.noSelect ops && decide (k≤ops.size) && headB ops k m && tailD ops k F && freeB ops k F && Region.seqB .any ops (ops.size - k) k (zdb ops k)
section
variable {P:Program} {ops:Array Oper} {Q:Exit→Act→World→Prop}
section
variable {k:Nat} {F Al:List Nat} {T:Nat→Value→World→Prop} {a0:Act} {w0:World}
theorem zGS (hB:headB ops k a0.tmps.size=true) (hT:tailD ops k F=true) (hks:k≤ops.size) (hst:∀i v w w',Ext w w'→T i v w→T i v w') (hAl:∀j,Al.contains j=true→∀v w,T j v w→zzB w v) (hop:∀i,i<k→zoV P ops Q k T Al a0 w0 i)
  (hend:∀L a w,SInvS ops k T a0 w0 L a w→Diff ops Al k L a→(∀i,i<k→F.contains i=false→L.getD i false=true)→wpAny P .any ops Q (leftN ops.size L) L a w):
  ∀(f:Nat) (L:Array Bool) (a:Act) (w:World),SInvS ops k T a0 w0 L a w→Diff ops Al k L a→leftN ops.size L=f→wpAny P .any ops Q f L a w:=by
 intro f
 induction f with
 |zero=>
  intro L a w inv hdf hf;rw[←hf];refine hend L a w inv hdf fun i hi _=> ?_;cases hl:L.getD i false with
  |true=>rfl
  |false=>have:=zpI (n:=ops.size) (i:=i) om hl;omega
 |succ f ih=>
  intro L a w inv hdf hf;by_cases hall:∀i,i<k→F.contains i=false→L.getD i false=true
  ·rw[←hf];exact hend L a w inv hdf hall
  ·have hall':∀i,i<k→Region.ready .any ops L=[]→L.getD i false=true:=by
    intro i
    induction i using Nat.strongRecOn with
    |_ i ihi=>
     intro hi hr;cases hl:L.getD i false with
     |true=>rfl
     |false=>obtain⟨o,d,ho,-,-,-,-,hed⟩:=zbS hB hi;have hm:i∈Region.ready .any ops L:=mem_ready.2 ⟨getD_in (by rw[inv.1.size];omega) hl,o,ho,fun e he hb=>ihi e.on (hed e he hb) (by have:=hed e he hb;omega) hr⟩;rw[hr] at hm;cases hm
   refine⟨fun hr=>absurd (fun i hi _=>hall' i hi hr) hall,fun i hi=> ?_⟩;obtain⟨hun,o,ho,hdeps⟩:=mem_ready.1 hi;have his:i<ops.size:=(Array.getElem?_eq_some_iff.1 ho).1;have hw:∀j,zdI .any ops i j=true→L.getD j false=true:=fun j hj=>by
    obtain⟨o',e,ho',he,hb,rfl⟩:=zd5 hj;rw[ho] at ho';obtain rfl:o=o':=by injection ho'
    exact hdeps e he hb
   have hik:i<k:=by
    rcases Nat.lt_or_ge i k with h|h
    ·exact h
    ·exfalso;have h1:=List.all_eq_true.1 hT i (List.mem_range.2 his);simp only[Bool.or_eq_true,decide_eq_true_eq] at h1;rcases h1 with(h1|h1)|h1
     ·omega
     ·refine hall fun c hc hF=> ?_;have h2:=List.all_eq_true.1 h1 c (List.mem_range.2 hc);rw[hF,Bool.false_or] at h2;exact zGL inv.2 hw h2
     ·obtain⟨j,hj,h2⟩:=List.any_eq_true.1 h1;simp only[Bool.and_eq_true,decide_eq_true_eq] at h2;have h3:=hw j h2.2;rw[inv.1.tail j h2.1] at h3;cases h3
   have hact:=inv.1.act hB;have hg:=hop i hik (heldU ops a) w inv.1.ext (fun j hj=>by
    have hlj:=hw j hj;obtain⟨o',e,ho',he,hb,rfl⟩:=zd5 hj;obtain⟨o2,-,ho2,-,-,-,-,hed⟩:=zbS hB hik;rw[ho'] at ho2;obtain rfl:o'=o2:=by injection ho2
    exact inv.1.at_ hB (by have:=hed e he hb;omega) hlj)
   rw[←hact] at hg;refine wpOp_mono (fun a' w' h=> ?_) hg;obtain⟨v,rfl,hx,hv,hfr⟩:=h;refine ih _ _ _ (inv.next hB hst hik hx hv hw) (hdf.next hB inv.1 hik (fun hal j hj hjk hne hlj he=> ?_)) ?_
   ·obtain⟨g,e1,h1⟩:=hfr hal;obtain⟨g',e2,h2⟩:=hAl j hj _ _ (inv.1.at_ hB hjk hlj);rw[e1,e2] at he;injection he with he;injection he with he;injection he with he;omega
   have:=zgw (n:=ops.size) (i:=i) (L:=L) his (by rw[inv.1.size];exact his) (getD_both hun);omega
end
theorem zGr {id:Nat} {a:Act} {w:World} {l:List Oper} (k:Nat) (F Al:List Nat) (Ts:List Stab) {A:(Nat→Value)→Act} (hA:∀u,zc0 (l.take k) u 0 a=A u) (hm:P.follows .mixedOrders=true) (hB:slotsD l.toArray k F a.tmps.size=true) (hFA:F.all (fun i=> !Al.contains i)=true)
  (hQ:∀c t t' ds w,Q (.panic c) ⟨t,ds⟩ w→Q (.panic c) ⟨t',ds⟩ w) (hAl:∀j,Al.contains j=true→∀v w,prop Ts j v w→zzB w v)
  (hop:allOf (fun i=>if F.contains i=true then PureA P l.toArray (prop Ts) A w.drew i else SlotB P l.toArray Q (prop Ts) Al A w.drew i) k 0)
  (hend:∀u w',Ext w.drew w'→allOf (fun i=>prop Ts i (u i) w') k 0→(∀i j,i<k→j<k→Al.contains i=true→Al.contains j=true→i≠j→u i≠u j)→wpList P l.toArray Q (l.drop k) (A u) w'):(Code.region id l.toArray true).wp P Q a w:=by
 obtain rfl:A=fun u=>zc0 (l.take k) u 0 a:=funext fun u=>(hA u).symm;simp only[slotsD,Bool.and_eq_true,decide_eq_true_eq] at hB;obtain⟨⟨⟨⟨⟨h1,h2⟩,h3⟩,h4⟩,h5⟩,h6⟩:=hB;have hFA':∀i,i∈F→Al.contains i=false:=fun i hi=>by have:=List.all_eq_true.1 hFA i hi;simpa using this
 have hpure:∀i,i∈F→zef P l.toArray k (prop Ts) a w.drew i:=fun i hi=>by
  have hik:i<k:=by have:=List.all_eq_true.1 h5 i hi;simp only[Bool.and_eq_true,decide_eq_true_eq] at this;exact this.1.1
  have:=zfD hop i om om;rwa [if_pos (by simpa using hi)] at this
 refine wp_region_any hm ?_;have hleft:leftN l.toArray.size (Array.replicate l.toArray.size false)=l.toArray.size:=by have:=zfx (n:=l.toArray.size) (k:=0) (L:=Array.replicate l.toArray.size false) (Nat.zero_le _) (fun i hi=>by omega) (fun i _=>getD_replicate_false _ _);simpa using this
 refine zGS (F:=F) (Al:=Al) h3 h4 h2 (zpV Ts) hAl (fun i hi=> ?_) (fun L a' w' inv hdf hall=> ?_) l.toArray.size _ a w.drew ⟨⟨by simp,Ext.refl _,rfl,rfl,fun i _=>getD_replicate_false _ _,fun _ _=>rfl,fun i d _ _ hl=>by rw[getD_replicate_false] at hl;cases hl⟩,fun i j hl=>by rw[getD_replicate_false] at hl;cases hl⟩ (fun p q _ _ _ _ _ hl _=>by rw[getD_replicate_false] at hl;cases hl) hleft
 ·by_cases hF:F.contains i=true
  ·exact(hpure i (by simpa using hF)).slot2 h3 hi (hFA' i (by simpa using hF))
  ·have:=zfD hop i om om;rwa [if_neg hF] at this
 ·refine zk9 h3 h5 h2 h1 h6 (zpV Ts) hQ hFA' hpure (fun u w'' hx hT hdd=> ?_) F (fun _ h=>h) L a' w' inv hdf hall hall;have:=hend u w'' hx (zoe fun j _ hj=>hT j om) hdd;simpa using this
end

section
variable {P:Program} {ops:Array Oper} {Q:Exit→Act→World→Prop} {T:World→Prop}
def stepA (ops:Array Oper) (a:Act) (i:Nat) (v:Value):Act:=match ops[i]? with
 |some o=>a.put o.dst v
 |none=>a
def stepY (P:Program) (ops:Array Oper) (T:World→Prop) (a:Act) (i:Nat) (v:Value):Prop:=match ops[i]? with
 |some o=>YieldsIf P ops T o v a
 |none=>True
def zHr (ops:Array Oper):Array Bool→Nat→Nat→Bool
 |_,_,0=>true
 |L,i,n+1=>Region.free .any ops L i && (Region.ready .any ops L).contains i && zHr ops (L.setIfInBounds i true) (i+1) n
def zHq:Array Bool→Nat→Nat→Array Bool
 |L,_,0=>L
 |L,i,n+1=>zHq (L.setIfInBounds i true) (i+1) n
def zHs (ops:Array Oper) (a:Act) (i:Nat):List Value→Act
 |[]=>a
 |v::r=>zHs ops (stepA ops a i v) (i+1) r
def zHt (P:Program) (ops:Array Oper) (T:World→Prop) (a:Act) (i:Nat):List Value→Prop
 |[]=>True
 |v::r=>stepY P ops T a i v∧zHt P ops T (stepA ops a i v) (i+1) r
theorem zHn (hs:Region.noSelect ops=true)(hQ:∀c t t' ds w,Q (.panic c) ⟨t,ds⟩ w→Q (.panic c) ⟨t',ds⟩ w){w:World}(hS:T w):∀(vs:List Value) (i f:Nat) (L:Array Bool) (a:Act),zHr ops L i vs.length=true→zHt P ops T a i vs→ShutL .any ops L→
  (ShutL .any ops (zHq L i vs.length)→wpAnyL P .any ops Q (fun _=>T) f (zHq L i vs.length) (zHs ops a i vs) w)→wpAnyL P .any ops Q (fun _=>T) (f+vs.length) L a w
 |[],i,f,L,a,_,_,hcl,h=>h hcl
 |v::r,i,f,L,a,hB,hY,hcl,h=>by
  simp only[List.length_cons,zHr,Bool.and_eq_true] at hB;obtain⟨⟨hf,hr⟩,hB⟩:=hB;obtain⟨hy,hY⟩:=hY;obtain⟨_,oi,hoi,_⟩:=mem_ready.1 (show i∈Region.ready .any ops L by simpa using hr);have e:stepA ops a i v=a.put oi.dst v:=by unfold stepA;rw[hoi]
  unfold stepY at hy;rw[hoi] at hy;rw[List.length_cons,←Nat.add_assoc];refine za1 hoi hs hf hr (fun c a w h=> ?_) (fun _ _ _ _ h=>h) (fun _ _ h=>h) (fun _ _ h=>h) hy hcl hS (fun hcl _=> ?_)
  ·obtain⟨t,ds⟩:=a;generalize oi.dst=dd at h;cases dd with
   |none=>exact h
   |some d=>exact hQ c _ t ds w h
  ·rw[←e];exact zHn hs hQ hS r (i+1) f _ _ hB hY hcl h
end
section
variable {P:Program} {Q:Exit→Act→World→Prop}
def pairB (ops:Array Oper) (m:Nat):Bool:=
 let L:=zHq (Array.replicate ops.size false) 0 m
 Region.noSelect ops && zHr ops (Array.replicate ops.size false) 0 m && decide (ops.size=m+4) && (Region.ready .any ops L==[m,m+1]) && (Region.ready .any ops (L.setIfInBounds m true)==[m+1]) && (Region.ready .any ops (L.setIfInBounds (m+1) true)==[m]) &&
 (Region.ready .any ops ((L.setIfInBounds m true).setIfInBounds (m+1) true)==[m+2]) && (Region.ready .any ops (((L.setIfInBounds m true).setIfInBounds (m+1) true).setIfInBounds (m+2) true)==[m+3]) &&
 (Region.ready .any ops ((((L.setIfInBounds m true).setIfInBounds (m+1) true).setIfInBounds (m+2) true).setIfInBounds (m+3) true)==[])
theorem put_comm (a:Act){d e:Nat}(h:d≠e)(u v:Value):(a.put (some d) u).put (some e) v=(a.put (some e) v).put (some d) u:=by obtain⟨t,ds⟩:=a;show(⟨(t.setIfInBounds d u).setIfInBounds e v,ds⟩:Act)=⟨(t.setIfInBounds e v).setIfInBounds d u,ds⟩;rw[Array.setIfInBounds_comm _ _ h]
theorem wp_region_pair {id:Nat} {a:Act} {w:World} {l:List Oper} (vs:List Value) {ty:TypeId} {d1 d2 e1 e2:Nat} {zs c1 c2:List Value} {A:Nat→Nat→Act} {t0 t1 t2 t3:TypeId} {p0 p1 p2 p3:String} {f0 f1 f2 f3:Array Edge}
  (hm:P.follows .mixedOrders=true) (hB:pairB l.toArray vs.length=true)
  (h0:l.toArray[vs.length]?=some ⟨some d1,.alloc ty,t0,p0,f0,none⟩) (h1:l.toArray[vs.length+1]?=some ⟨some d2,.alloc ty,t1,p1,f1,none⟩)
  (h2:l.toArray[vs.length+2]?=some ⟨none,.store ty (.tmp d1) (.tmp e1),t2,p2,f2,none⟩) (h3:l.toArray[vs.length+3]?=some ⟨none,.store ty (.tmp d2) (.tmp e2),t3,p3,f3,none⟩) (hd:d1≠d2)
  (hz:∀(ev:Operand→Value) (o:Oper) (w:World),o.op=.alloc ty→(execOp ev o).run P w=.ok (.value (.pointer (some ⟨w.heap.size,0,none⟩))) (w.alloc (.cells zs.toArray ty)))
  (hA:∀g1 g2,((zHs l.toArray a 0 vs).put (some d1) (.pointer (some ⟨g1,0,none⟩))).put (some d2) (.pointer (some ⟨g2,0,none⟩))=A g1 g2)
  (hx1:∀g1 g2,(A g1 g2).eval (.tmp d1)=.pointer (some ⟨g1,0,none⟩)) (hx2:∀g1 g2,(A g1 g2).eval (.tmp d2)=.pointer (some ⟨g2,0,none⟩))
  (hy1:∀g1 g2,(A g1 g2).eval (.tmp e1)=.agg c1.toArray) (hy2:∀g1 g2,(A g1 g2).eval (.tmp e2)=.agg c2.toArray)
  (hl1:zs.length=c1.length) (hl2:zs.length=c2.length) (h44:zs.length<44) (hi:(P.info? ty).map (·.size)=some zs.length) (ho1:∀u∈c1,u.oneCell'=true) (ho2:∀u∈c2,u.oneCell'=true)
  (hQ:∀c t t' ds w,Q (.panic c) ⟨t,ds⟩ w→Q (.panic c) ⟨t',ds⟩ w)
  (hY:zHt P l.toArray (fun w9=>Ext w w9) a 0 vs)
  (hend:∀(W:World) (g1 g2:Nat),Ext w W→w.heap.size≤g1→w.heap.size≤g2→g1≠g2→BoxAt W g1 c1 ty→BoxAt W g2 c2 ty→Q .normal (A g1 g2) W):(Code.region id l.toArray true).wp P Q a w:=by
 unfold pairB at hB;simp only[Bool.and_eq_true,beq_iff_eq,decide_eq_true_eq] at hB;obtain⟨⟨⟨⟨⟨⟨⟨⟨b0,b1⟩,b2⟩,b3⟩,b4⟩,b5⟩,b6⟩,b7⟩,b8⟩:=hB;generalize hLL:zHq (Array.replicate l.toArray.size false) 0 vs.length=L at b3 b4 b5 b6 b7 b8;have alloc:∀{o:Oper} {d:Nat} {a:Act} {W:World} {K:Act→World→Prop},o.op=.alloc ty→o.dst=some d→K (a.put (some d) (.pointer (some ⟨W.heap.size,0,none⟩))) (W.alloc (.cells zs.toArray ty))→Oper.wp P o a W K Q:=fun{o d a W K} h1 h2 h=>by unfold Oper.wp;rw[hz _ _ _ h1];show Oper.upon _ _ _ _ _ _;simp only[Oper.upon,h2];exact h
 have fin:∀(W:World) (g1 g2:Nat) (L2:Array Bool) (a2:Act),L2=(L.setIfInBounds vs.length true).setIfInBounds (vs.length+1) true→a2=A g1 g2→ShutL .any l.toArray L2→Ext w W→w.heap.size≤g1→w.heap.size≤g2→g1≠g2→BoxAt W g1 zs ty→BoxAt W g2 zs ty→wpAnyL P .any l.toArray Q (fun _ w9=>Ext w w9) 2 L2 a2 W:=by intro W g1 g2 L2 a2 e1 e2 hcl hx hg1 hg2 hne k1 k2;subst e1 e2;refine za9 b6 h2 rfl hcl (fun K hK=> ?_);refine zqQ ty (.tmp d1) _ rfl k1 (hx1 g1 g2) c1 (hy1 g1 g2) hl1 h44 (by rw[←hl1];exact hi) ho1 fun W1 t1 s1=> ?_;refine hK _ _ (t1.ext hx hg1) fun hcl _=> ?_;refine za9 b7 h3 rfl hcl (fun K hK=> ?_);refine zqQ ty (.tmp d2) _ rfl (k2.turn t1 (Ne.symm hne)) (hx2 g1 g2) c2 (hy2 g1 g2) hl2 h44 (by rw[←hl2];exact hi) ho2 fun W2 t2 s2=> ?_;refine hK _ _ (t2.ext (t1.ext hx hg1) hg2) fun hcl _=> ?_;exact zas b8 (hend W2 g1 g2 (t2.ext (t1.ext hx hg1) hg2) hg1 hg2 hne (s1.turn t2 hne) s2) _
 refine zaw (S:=fun _ w9=>Ext w w9) hm ((Ext.refl w).drew) (fun hcl hS=> ?_);have hsz:l.toArray.size=4+vs.length:=by omega
 rw[show(l.toArray.size:Nat)=4+vs.length from hsz];rw[←hsz];rw[show wpAnyL P .any l.toArray Q (fun _ w9=>Ext w w9) l.toArray.size=wpAnyL P .any l.toArray Q (fun _ w9=>Ext w w9) (4+vs.length) by rw[hsz]];refine zHn b0 hQ hS vs 0 4 _ a b1 hY hcl (fun hcl=> ?_);rw[hLL] at hcl ⊢
 refine zdE b3 h0 h1 rfl rfl hcl (fun K hK=> ?_) (fun K hK=> ?_)
 ·refine alloc rfl rfl (hK _ _ (hS.alloc _) fun hcl _=> ?_);refine za9 b4 h1 rfl hcl (fun K hK=>alloc rfl rfl (hK _ _ ((hS.alloc _).alloc _) fun hcl hx=> ?_));refine fin _ w.drew.heap.size (w.drew.alloc (.cells zs.toArray ty)).heap.size _ _ rfl (hA _ _) hcl hx (Nat.le_refl _) (by have:=(hS.alloc (.cells zs.toArray ty)).size;exact this) (by simp) ((BoxAt.new rfl zs ty).alloc _) (BoxAt.new rfl zs ty)
 ·refine alloc rfl rfl (hK _ _ (hS.alloc _) fun hcl _=> ?_);refine za9 b5 h0 rfl hcl (fun K hK=>alloc rfl rfl (hK _ _ ((hS.alloc _).alloc _) fun hcl hx=> ?_));refine fin _ (w.drew.alloc (.cells zs.toArray ty)).heap.size w.drew.heap.size _ _ (Array.setIfInBounds_comm _ _ om) ((put_comm _ (Ne.symm hd) _ _).trans (hA _ _)) hcl hx (by have:=(hS.alloc (.cells zs.toArray ty)).size;exact this) (Nat.le_refl _) (by simp) (BoxAt.new rfl zs ty) ((BoxAt.new rfl zs ty).alloc _)
end
