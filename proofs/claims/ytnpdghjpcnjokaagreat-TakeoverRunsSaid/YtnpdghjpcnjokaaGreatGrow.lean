import Derived.Test.YtnpdghjpcnjokaaGreatRows
import Derived.ProofKit
import Derived.OpenShut
import Derived.Carry
import Derived.ChangeSame
import Derived.Lib.SmallJoins
import Derived.Deep.Fields
import Derived.Deep.Slices
import Derived.Test.YtnpdghjpcnjokaaGreatGtim
set_option maxRecDepth 100000
namespace Go.Proofs.YtnpdghjpcnjokaaGreat
open Go.ChangeShapes Go.WideShapes Go.ChangeAt Go.RowKit Go.Joins Go.Deep

theorem own:ownKnob Tryz.prog.godebug=none:=by kernel_rfl
theorem laid:laidOutB Tryz.prog=true:=by kernel_rfl

section
variable {H:Type} {enc:TypeId×Value→H} {P:Program}
theorem zqJ (hl:laidOutB P=true){W W':World}(hb:Ext W W')(sp:Nat→Bool):∀(ts:List TypeId) (_:∀t∈ts,P.readableRec t=true∧t<P.types.size) (vs:List Value) (ds:List (DataW H)) (ps:List MemPlace),
  DataW.TrodAll enc P W 0 (fun _=>true) true ts vs ds ps→(∀x∈ps,x.block<W.heap.size)→(∀x∈ps,sp x.block=true)→DataW.TrodAll enc P W' 0 sp true ts vs ds ps
 |[],_,vs,ds,ps,h,_,_=>by obtain⟨rfl,rfl,rfl⟩:=trodAll_nil h;exact trodAll_mk0
 |t::ts,hr,vs,ds,ps,h,hlt,hsp=>by
  obtain⟨v,vs',d,ds',p,q,rfl,rfl,rfl,h0,h1⟩:=trodAll_cons h
  exact trodAll_cons_mk (WideElems.Trod_stays hl (hr t (by simp)).1 (hr t (by simp)).2 h0 (fun x hx=>hb.same (hlt x (by simp[hx]))) (fun x hx=>hsp x (by simp[hx])))
   (zqJ hl hb sp ts (fun x hx=>hr x (by simp[hx])) vs' ds' q h1 (fun x hx=>hlt x (by simp[hx])) (fun x hx=>hsp x (by simp[hx])))

theorem zaL {f:Func} {s:ChangeSpec} {apart fresh handsOn again:Bool} {W W':World} {args:Array Value} {v:Value} {ds gs:List (DataW H)} {before:List MemPlace}
  (hl:laidOutB P=true) (hr0:(f.params.toList.all fun t=>P.readableRec t && decide (t<P.types.size))=true)
  (hW:DataW.Whole enc P f.params.toList s.vars apart W args.toList ds gs before) (hv:s.vars=[])
  (hs:∀(l:List (DataW H)),l.length=ds.length→(s.fn H l).args=l∧(s.fn H l).vars=[])
  (hres:∀(b:Nat) (sp:Nat→Bool) (hd:Bool),DataW.TrodAll enc P W' b sp hd f.resultTypes.toList (v.resultList f.resultTypes.size) (s.fn H (ds++gs)).results [])
  (hx:Ext W W')
  (hok:∀(j:Nat) (t:TypeId) (r:Value),f.resultTypes[j]?=some t→(v.resultList f.resultTypes.size)[j]?=some r→Value.okWide P W' .any 0 t r):
  s.post enc P f apart fresh handsOn again W args v W':=by
 have hr:∀t∈f.params.toList,P.readableRec t=true∧t<P.types.size:=fun t ht=>by have:=List.all_eq_true.1 hr0 t ht;simpa using this
 have hW0:=hW;have hlt:∀p∈before,p.block<W.heap.size:=fun p hp=>hW.lt p hp;obtain⟨p,q,hA,hV,rfl,hz,hn⟩:=hW;rw[hv] at hV;obtain⟨rfl,rfl⟩:=trodVars_none hV;rw[List.append_nil] at *
 have hA':∀sp:Nat→Bool,(∀x∈p,sp x.block=true)→DataW.TrodAll enc P W' 0 sp true f.params.toList args.toList (s.fn H ds).args p:=fun sp hsp=>by rw[(hs ds rfl).1];exact zqJ hl hx sp _ hr _ _ _ hA hlt hsp
 have hV':∀sp:Nat→Bool,DataW.TrodVars enc P W' sp s.vars (s.fn H ds).vars []:=fun sp=>by rw[hv,(hs ds rfl).2];rfl
 have hold:∀x∈p,(fun b=>decide (b<W.heap.size)) x.block=true:=fun x hp=>by simpa using hlt x hp
 refine⟨ds,[],p,[],p,[],hW0,by rw[List.append_nil];exact hres _ _ _,by rw[List.append_nil];exact hA' _ hold,by rw[List.append_nil];exact hV' _,World.keptBut_mono (fun x hp=>⟨hp,?_⟩) (hx.frame (·∈p)),fun _=> ?_⟩
 ·exact Or.inr (by simpa using hp)
 ·refine⟨hok,_,_,([]++p)++[],⟨[]++p,[],trodAll_append (hA' _ (fun _ _=>rfl)) (hres _ _ _),hV' _,rfl,?_,?_⟩,?_⟩
  ·intro b off hp;have hin:MemPlace.cell b off∈p:=by simpa using hp
   rw[hx.frozen (hlt _ hin)];exact hz b off hin
  ·intro ha;simpa using hn ha
  ·intro x hp _;simpa using hp

variable {w:World} {base:Nat} {spare:Nat→Bool} {held:Bool}
def zDG (P:Program) (fs:Array Field):Bool:=(List.range fs.size).all fun i=>match fs[i]? with
 |some f=>(match P.underlying f.type with|some (.int .i64)=>true|_=>false)
 |none=>false
end
open Go.ChangeShapes Go.WideShapes Go.ChangeAt Go.RowKit Go.Joins Go.Deep

section
variable {H:Type} {enc:TypeId×Value→H} {P:Program} {w:World} {base:Nat} {spare:Nat→Bool} {held:Bool}

def ziF (P:Program):Nat→TypeId→List TypeId→Bool
 |0,_,_=>false
 |n+1,t,ts=>match P.underlying t with
  |some (.struct fs)=>ts.length==P.cellsOf t && fs.toList.all (fun f=>decide (f.offset+P.cellsOf f.type≤ts.length) && ziF P n f.type ((ts.drop f.offset).take (P.cellsOf f.type))) && (List.range ts.length).all fun j=>fs.toList.any fun f=>decide (f.offset≤j) && decide (j<f.offset+P.cellsOf f.type)
  |_=>ts==[t] && P.cellsOf t==1

theorem zfS:∀(n:Nat) (t:TypeId) (ts:List TypeId) (fuel:Nat) (cs:List Value) (x:DataW H×List MemPlace),ziF P n t ts=true→cs.length=P.cellsOf t→DataW.trod enc P w base spare held fuel t cs=some x→
  cs.length=ts.length∧∀(j:Nat) (T:TypeId),ts[j]?=some T→∃(c:Value) (m:Nat) (y:DataW H×List MemPlace),cs[j]?=some c∧DataW.trod enc P w base spare held m T [c]=some y
 |0,_,_,_,_,_,h,_,_=>by simp[ziF] at h
 |n+1,t,ts,fuel,cs,x,h,hl,hx=>by
  unfold ziF at h;split at h
  ·rename_i fs hs;simp only[Bool.and_eq_true,beq_iff_eq] at h;obtain⟨⟨h1,h2⟩,h3⟩:=h;obtain⟨xs,m,_,_,_,hxl,hg⟩:=DataW.trod_struct hs hx;refine⟨by omega,fun j T hj=> ?_⟩;have hjl:j<ts.length:=(List.getElem?_eq_some_iff.1 hj).1;have h4:=List.all_eq_true.1 h3 j (List.mem_range.2 hjl);obtain⟨f,hf,h5⟩:=List.any_eq_true.1 h4;simp only[Bool.and_eq_true,decide_eq_true_eq] at h5;have h6:=List.all_eq_true.1 h2 f hf;simp only[Bool.and_eq_true,decide_eq_true_eq] at h6;obtain⟨i,hi⟩:=List.getElem?_of_mem hf;have hi':fs[i]?=some f:=by simpa using hi
   have hlt:i<fs.size:=(Array.getElem?_eq_some_iff.1 hi').1;have h7:=hg i f hi';rw[List.getElem?_eq_getElem om] at h7;have hlen:((cs.drop f.offset).take (P.cellsOf f.type)).length=P.cellsOf f.type:=by rw[List.length_take,List.length_drop];omega
   obtain⟨_,h10⟩:=zfS n _ _ m _ _ h6.2 hlen h7;obtain⟨c,m',y,hc,hy⟩:=h10 (j - f.offset) T (by rw[List.getElem?_take,if_pos om,List.getElem?_drop,show f.offset+(j - f.offset)=j by omega];exact hj)
   refine⟨c,m',y,?_,hy⟩;rw[List.getElem?_take,if_pos om,List.getElem?_drop,show f.offset+(j - f.offset)=j by omega] at hc;exact hc
  ·simp only[Bool.and_eq_true,beq_iff_eq] at h;obtain⟨rfl,h2⟩:=h;refine⟨by simp;omega,fun j T hj=> ?_⟩
   match cs,(by omega:cs.length=1) with
   |[c],_=>
    match j with
    |0=>simp at hj;subst hj;exact⟨c,fuel,x,rfl,hx⟩
    |j+1=>simp at hj

theorem addr_add {a:Addr}{n:Nat}(h:a.spot=none):a.add n=⟨a.block,a.off+n,none⟩:=by
 obtain⟨b,o,s⟩:=a;simp only at h;subst h;unfold Addr.add;split
 ·subst_vars;rfl
 ·rfl

theorem zbT {t e:TypeId} {fuel n:Nat} {cs:List Value} {x:DataW H×List MemPlace} {ts:List TypeId} (ht:P.underlying t=some (.slice e)) (hl:ziF P n e ts=true) (hc:P.cellsOf e=ts.length) (hpos:0<ts.length)
  (h:DataW.trod enc P w base spare held fuel t cs=some x):
  ∃(A:Option Addr) (len cap:Nat),cs=[.slice A len cap]∧len≤cap∧cap≤maxLen∧∀i,i<len→∃(b o:Nat) (row:List Value),A=some ⟨b,o,none⟩∧row.length=ts.length∧
   (∀(j:Nat) (v:Value),row[j]?=some v→w.cell? ⟨b,o+i * ts.length+j,none⟩=some v)∧∀(j:Nat) (T:TypeId),ts[j]?=some T→∃(c:Value) (m:Nat) (y:DataW H×List MemPlace),row[j]?=some c∧DataW.trod enc P w base spare held m T [c]=some y:=by
 rcases open_slice ht h with⟨rfl,_⟩|⟨a,len,cap,m,n',D,Pl,rfl,_,h1,h2,hm,_,hi⟩
 ·exact⟨none,0,0,rfl,Nat.le_refl _,by unfold maxLen;omega,fun i h=>by omega⟩
 ·refine⟨some a,len,cap,rfl,h1,h2,fun i hil=> ?_⟩;have him:∀k,k<len→k<m:=fun k hk=>by rw[hm];split<;>omega
  have hsp:a.spot=none:=by obtain⟨cs0,hc0,_⟩:=hi 0 (him 0 om);obtain⟨_,hcl,hat⟩:=World.cells?_some hc0;have h3:=hat 0 om;rw[List.getElem?_eq_getElem om] at h3;have h4:=World.cell?_spot h3;simpa [Addr.add] using h4
  obtain⟨cs',hcs,htr⟩:=hi i (him i hil);obtain⟨_,hcl,hat⟩:=World.cells?_some hcs;obtain⟨h5,h6⟩:=zfS n e ts n' cs' _ hl hcl htr;refine⟨a.block,a.off,cs',?_,by omega,fun j v hj=> ?_,h6⟩
  ·obtain⟨b,o,s⟩:=a;simp only at hsp;rw[hsp]
  ·have hjl:j<cs'.length:=(List.getElem?_eq_some_iff.1 hj).1;have h7:=hat j om;rw[hj,addr_add hsp,addr_add rfl,hc] at h7;exact h7

theorem zcY {α:Type}(f:α→List Value){A:Option Addr}{len size:Nat}(h:∀i,i<len→∃(m:α) (b o:Nat),A=some ⟨b,o,none⟩∧(f m).length=size∧∀j v,(f m)[j]?=some v→w.cell? ⟨b,o+i * size+j,none⟩=some v):
  ∃l:List α,l.length=len∧Sl w A size (l.map f):=by
 have h1:∀i:Fin len,∃(m:α),∃(b o:Nat),A=some ⟨b,o,none⟩∧(f m).length=size∧∀j v,(f m)[j]?=some v→w.cell? ⟨b,o+i * size+j,none⟩=some v:=fun i=>h i i.isLt;obtain⟨g,hg⟩:=Classical.axiomOfChoice h1;refine⟨List.ofFn g,by simp,⟨fun i row hr=> ?_⟩⟩;simp only[List.getElem?_map,List.getElem?_ofFn] at hr;split at hr
 ·rename_i hi;simp at hr;subst hr;obtain⟨b,o,h2,h3,h4⟩:=hg ⟨i,hi⟩;exact⟨h3,b,o,h2,h4⟩
 ·simp at hr

theorem zad {t:TypeId}{m:Nat}{c:Value}{y:DataW H×List MemPlace}(ht:P.underlying t=some (.int .i64))(h:DataW.trod enc P w base spare held m t [c]=some y):∃z:Int,c=.int .i64 z∧(Lit.int .i64 z).wf=true:=by obtain⟨z,hz,_,hw⟩:=DataW.trod_int ht h;injection hz with hz;exact⟨z,hz,hw⟩
theorem zbH {t:TypeId}{m:Nat}{c:Value}{y:DataW H×List MemPlace}(ht:P.underlying t=some .string)(h:DataW.trod enc P w base spare held m t [c]=some y):∃s:ByteArray,c=.string s∧s.size≤maxLen:=by obtain⟨z,hz,_,hw⟩:=DataW.trod_string ht h;injection hz with hz;exact⟨z,hz,hw⟩
theorem zdv {t:TypeId}{m:Nat}{c:Value}{y:DataW H×List MemPlace}(ht:P.underlying t=some .bool)(h:DataW.trod enc P w base spare held m t [c]=some y):∃b:Bool,c=.bool b:=by obtain⟨z,hz,_⟩:=DataW.trod_bool ht h;injection hz with hz;exact⟨z,hz⟩
theorem zaY {l:List Value}{n:Nat}(k:List Value)(h:l.length=n)(hk:k.length=n)(hh:∀j,j<n→l[j]?=k[j]?):l=k:=by
 apply List.ext_getElem?;intro j;rcases Nat.lt_or_ge j n with hj|hj
 ·exact hh j hj
 ·rw[List.getElem?_eq_none om,List.getElem?_eq_none om]
end

section
variable {H:Type} {enc:TypeId×Value→H} {w:World} {base:Nat} {spare:Nat→Bool} {held:Bool} {r:Reach} {b0:Nat} {v:Value} {d:DataW H} {p:List MemPlace}

theorem ziL {m:Nat}{c:Value}{y:DataW H×List MemPlace}(h:DataW.trod enc Tryz.prog w base spare held m 79 [c]=some y):
  ∃(A:Option Addr) (k:Nat) (l:List Move),c=.slice A l.length k∧l.length≤k∧k≤maxLen∧Sl w A 5 (l.map mv):=by
 obtain⟨A,len,cap,hc,h1,h2,h3⟩:=zbT (n:=5) (ts:=[3,3,3,3,3]) Tryz.underlying79 kr kr dk h;injection hc with hc;subst hc;obtain⟨l,rfl,hs⟩:=zcY (w:=w) (A:=A) (len:=len) (size:=5) mv (fun i hi=>by
  obtain⟨b,o,row,hA,hl,hcell,hg⟩:=h3 i hi;obtain⟨c0,m0,y0,e0,g0⟩:=hg 0 _ rfl;obtain⟨c1,m1,y1,e1,g1⟩:=hg 1 _ rfl;obtain⟨c2,m2,y2,e2,g2⟩:=hg 2 _ rfl;obtain⟨c3,m3,y3,e3,g3⟩:=hg 3 _ rfl;obtain⟨c4,m4,y4,e4,g4⟩:=hg 4 _ rfl;obtain⟨z0,rfl,_⟩:=zad Tryz.underlying3 g0;obtain⟨z1,rfl,_⟩:=zad Tryz.underlying3 g1;obtain⟨z2,rfl,_⟩:=zad Tryz.underlying3 g2;obtain⟨z3,rfl,_⟩:=zad Tryz.underlying3 g3;obtain⟨z4,rfl,_⟩:=zad Tryz.underlying3 g4;have hrow:=zaY (mv ⟨⟨z0,z1⟩,⟨z2,z3⟩,z4⟩) hl rfl (fun j hj=>by
   match j,hj with
   |0,_=>exact e0
   |1,_=>exact e1
   |2,_=>exact e2
   |3,_=>exact e3
   |4,_=>exact e4)
  subst hrow;exact⟨_,b,o,hA,rfl,hcell⟩)
 exact⟨A,cap,l,rfl,h1,h2,hs⟩

theorem zi3 {m:Nat}{c:Value}{y:DataW H×List MemPlace}(h:DataW.trod enc Tryz.prog w base spare held m 80 [c]=some y):
  ∃(A:Option Addr) (k:Nat) (l:List Timing),c=.slice A l.length k∧l.length≤k∧k≤maxLen∧Sl w A 6 (l.map tmg):=by
 obtain⟨A,len,cap,hc,h1,h2,h3⟩:=zbT (n:=5) (ts:=[3,3,3,3,3,3]) Tryz.underlying80 kr kr dk h;injection hc with hc;subst hc;obtain⟨l,rfl,hs⟩:=zcY (w:=w) (A:=A) (len:=len) (size:=6) tmg (fun i hi=>by
  obtain⟨b,o,row,hA,hl,hcell,hg⟩:=h3 i hi;obtain⟨c0,m0,y0,e0,g0⟩:=hg 0 _ rfl;obtain⟨c1,m1,y1,e1,g1⟩:=hg 1 _ rfl;obtain⟨c2,m2,y2,e2,g2⟩:=hg 2 _ rfl;obtain⟨c3,m3,y3,e3,g3⟩:=hg 3 _ rfl;obtain⟨c4,m4,y4,e4,g4⟩:=hg 4 _ rfl;obtain⟨c5,m5,y5,e5,g5⟩:=hg 5 _ rfl;obtain⟨z0,rfl,_⟩:=zad Tryz.underlying3 g0;obtain⟨z1,rfl,_⟩:=zad Tryz.underlying3 g1;obtain⟨z2,rfl,_⟩:=zad Tryz.underlying3 g2;obtain⟨z3,rfl,_⟩:=zad Tryz.underlying3 g3;obtain⟨z4,rfl,_⟩:=zad Tryz.underlying3 g4;obtain⟨z5,rfl,_⟩:=zad Tryz.underlying3 g5;have hrow:=zaY (tmg ⟨z0,z1,z2,z3,z4,z5⟩) hl rfl (fun j hj=>by
   match j,hj with
   |0,_=>exact e0
   |1,_=>exact e1
   |2,_=>exact e2
   |3,_=>exact e3
   |4,_=>exact e4
   |5,_=>exact e5)
  subst hrow;exact⟨_,b,o,hA,rfl,hcell⟩)
 exact⟨A,cap,l,rfl,h1,h2,hs⟩

end
open Go.ChangeShapes Go.WideShapes Go.ChangeAt Go.RowKit Go.Joins Go.Deep
section
variable {H:Type} {enc:TypeId×Value→H} {w:World} {base:Nat} {spare:Nat→Bool} {held:Bool} {r:Reach} {b0:Nat} {v:Value} {d:DataW H} {p:List MemPlace}

theorem zi1 {m:Nat}{c:Value}{y:DataW H×List MemPlace}(h:DataW.trod enc Tryz.prog w base spare held m 77 [c]=some y):
  ∃(A:Option Addr) (k:Nat) (l:List Entry),c=.slice A l.length k∧l.length≤k∧k≤maxLen∧Sl w A 4 (l.map en):=by
 obtain⟨A,len,cap,hc,h1,h2,h3⟩:=zbT (n:=5) (ts:=[3,3,3,3]) Tryz.underlying77 kr kr dk h;injection hc with hc;subst hc;obtain⟨l,rfl,hs⟩:=zcY (w:=w) (A:=A) (len:=len) (size:=4) en (fun i hi=>by
  obtain⟨b,o,row,hA,hl,hcell,hg⟩:=h3 i hi;obtain⟨c0,m0,y0,e0,g0⟩:=hg 0 _ rfl;obtain⟨c1,m1,y1,e1,g1⟩:=hg 1 _ rfl;obtain⟨c2,m2,y2,e2,g2⟩:=hg 2 _ rfl;obtain⟨c3,m3,y3,e3,g3⟩:=hg 3 _ rfl;obtain⟨z0,rfl,_⟩:=zad Tryz.underlying3 g0;obtain⟨z1,rfl,_⟩:=zad Tryz.underlying3 g1;obtain⟨z2,rfl,_⟩:=zad Tryz.underlying3 g2;obtain⟨z3,rfl,_⟩:=zad Tryz.underlying3 g3;have hrow:=zaY (en ⟨⟨z0,z1⟩,⟨z2,z3⟩⟩) hl rfl (fun j hj=>by
   match j,hj with
   |0,_=>exact e0
   |1,_=>exact e1
   |2,_=>exact e2
   |3,_=>exact e3)
  subst hrow;exact⟨_,b,o,hA,rfl,hcell⟩)
 exact⟨A,cap,l,rfl,h1,h2,hs⟩
theorem zjR {m:Nat}{c:Value}{y:DataW H×List MemPlace}(h:DataW.trod enc Tryz.prog w base spare held m 78 [c]=some y):
  ∃(A:Option Addr) (k:Nat) (l:List Param),c=.slice A l.length k∧l.length≤k∧k≤maxLen∧Sl w A 2 (l.map prm):=by
 obtain⟨A,len,cap,hc,h1,h2,h3⟩:=zbT (n:=5) (ts:=[3,3]) Tryz.underlying78 kr kr dk h;injection hc with hc;subst hc;obtain⟨l,rfl,hs⟩:=zcY (w:=w) (A:=A) (len:=len) (size:=2) prm (fun i hi=>by
  obtain⟨b,o,row,hA,hl,hcell,hg⟩:=h3 i hi;obtain⟨c0,m0,y0,e0,g0⟩:=hg 0 _ rfl;obtain⟨c1,m1,y1,e1,g1⟩:=hg 1 _ rfl;obtain⟨z0,rfl,_⟩:=zad Tryz.underlying3 g0;obtain⟨z1,rfl,_⟩:=zad Tryz.underlying3 g1;have hrow:=zaY (prm ⟨z0,z1⟩) hl rfl (fun j hj=>by
   match j,hj with
   |0,_=>exact e0
   |1,_=>exact e1)
  subst hrow;exact⟨_,b,o,hA,rfl,hcell⟩)
 exact⟨A,cap,l,rfl,h1,h2,hs⟩

end
