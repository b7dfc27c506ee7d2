import Derived.Test.YtnpdghjpcnjokaaGreatGrpr
import Derived.Test.YtnpdghjpcnjokaaGreatGwka
set_option maxHeartbeats 1600000
set_option maxRecDepth 100000
set_option linter.all false
namespace Go.Proofs.YtnpdghjpcnjokaaGreat
open Go.ChangeShapes Go.WideShapes Go.ChangeAt Go.RowKit Go.Joins Go.Deep
section
variable {H:Type} {enc:TypeId×Value→H} {w:World} {base:Nat} {spare:Nat→Bool} {held:Bool} {r:Reach} {b0:Nat} {v:Value} {d:DataW H} {p:List MemPlace}
end
open Go.ChangeShapes Go.WideShapes Go.ChangeAt Go.RowKit Go.Joins Go.Deep
section
variable {H:Type} {enc:TypeId×Value→H} {P:Program} {w:World} {base:Nat} {spare:Nat→Bool} {held:Bool}
end
section
variable {H:Type} {enc:TypeId×Value→H} {w:World} {base:Nat} {spare:Nat→Bool} {held:Bool}
end
open Go.ChangeShapes Go.WideShapes Go.ChangeAt Go.RowKit Go.Joins Go.Deep

theorem zzI:acnT.length=44:=rfl
theorem bytes_E: Tryz.prog.bytesOf 101 =576:=by kernel_rfl
section
variable {H:Type} {enc:TypeId×Value→H} {w:World} {base:Nat} {spare:Nat→Bool} {held:Bool} {r:Reach} {b0:Nat} {v:Value} {d:DataW H} {p:List MemPlace}
theorem evt_of {row:List Value}(hl:row.length=48)(hg:∀(j:Nat) (T:TypeId),(3 :: 3 :: 3 ::(acnT++[3]))[j]?=some T→∃(c:Value) (m:Nat) (y:DataW H×List MemPlace),row[j]?=some c∧DataW.trod enc Tryz.prog w base spare held m T [c]=some y):
  ∃x:Evt,row=evtR x∧AcnAt w x.act:=by
 match row,hl,hg with
 |a::b::c::rest,hl,hg=>
  have hlr:rest.length=45:=by simpa using hl
  obtain⟨c0,m0,y0,e0,g0⟩:=hg 0 _ rfl;obtain⟨c1,m1,y1,e1,g1⟩:=hg 1 _ rfl;obtain⟨c2,m2,y2,e2,g2⟩:=hg 2 _ rfl;obtain⟨c3,m3,y3,e3,g3⟩:=hg 47 3 rfl;obtain⟨z0,rfl,-⟩:=zad Tryz.underlying3 g0;obtain⟨z1,rfl,-⟩:=zad Tryz.underlying3 g1;obtain⟨z2,rfl,-⟩:=zad Tryz.underlying3 g2;obtain⟨z3,rfl,-⟩:=zad Tryz.underlying3 g3;obtain rfl:a=.int .i64 z0:=by simpa using e0
  obtain rfl:b=.int .i64 z1:=by simpa using e1
  obtain rfl:c=.int .i64 z2:=by simpa using e2
  obtain⟨q,hq,hat⟩:=zuW (row:=rest.take 44) (by rw[List.length_take];omega) (fun j T hT=>by
   have hj:j<44:=by have:=(List.getElem?_eq_some_iff.1 hT).1;rwa [zzI] at this
   obtain⟨c,m,y,e,g⟩:=hg (j+3) T (by show(acnT++[3])[j]?=some T;rw[List.getElem?_append_left (by rw[zzI];exact hj)];exact hT);exact⟨c,m,y,by rw[List.getElem?_take_of_lt hj];exact e,g⟩)
  refine⟨⟨z0,z1,z2,q,z3⟩,?_,hat⟩;have h44:rest[44]?=some (.int .i64 z3):=e3;obtain⟨h45,he⟩:=List.getElem?_eq_some_iff.1 h44;have hr:rest=acnR q++[.int .i64 z3]:=by rw[←hq,←he,←List.take_succ_eq_append_getElem h45,List.take_of_length_le om]
  rw[hr];rfl
theorem zfR (hv:Value.okWide Tryz.prog w r b0 31 v)(h:DataW.Trod enc Tryz.prog w base spare held 31 v d p):
  ∃(A:Option Addr) (k:Nat) (l:List Evt),v=.slice A l.length k∧zbR w A k l:=by
 obtain⟨a,len,cap,rfl⟩:=okWide_slice Tryz.underlying31 hv;obtain⟨fuel,hf⟩:=h;obtain⟨A,len',cap',hc,h1,h2,h3⟩:=zbT (n:=6) (ts:=3 :: 3 :: 3 ::(acnT++[3])) Tryz.underlying31 kr kr dk hf;have hv2:Value.slice a len cap=.slice A len' cap':=by simpa [Value.cells] using hc
 injection hv2 with e1 e2 e3;subst e1 e2 e3;obtain⟨l,rfl,hs,ha⟩:=ziT (w:=w) (A:=a) (len:=len) (size:=48) (fun x:Evt=>AcnAt w x.act) evtR (fun i hi=>by obtain⟨b,o,row,hA,hl,hcell,hg⟩:=h3 i hi;obtain⟨m,rfl,hm⟩:=evt_of hl hg;exact⟨m,b,o,hm,hA,rfl,hcell⟩)
 exact⟨a,cap,l,rfl,hs,h1,h2,ha⟩
theorem zhQ {n:Nat}{A:Option Addr}{c:Nat}(h:DataW.Trod enc Tryz.prog w base spare held 31 (.slice A n c) d p)(hr:∀x∈d.weights Tryz.prog 31,x≤reachBytes):n * 576≤140737488355328:=by obtain⟨fuel,hf⟩:=h;have:=zgc Tryz.underlying31 (A:=A) (len:=n) (cap:=c) (y:=(d,p)) hf hr;rw[bytes_E] at this;exact Nat.le_trans this dk
end
open Go.ChangeShapes Go.WideShapes Go.ChangeAt Go.RowKit Go.Joins Go.Deep

section
variable {H:Type} {enc:TypeId×Value→H} {P:Program} {w:World} {base:Nat} {spare:Nat→Bool} {held:Bool} {r:Reach} {b0:Nat}
theorem ziu {e:TypeId}:∀{ds:List (DataW H)} {j:Nat} {d:DataW H},ds[j]?=some d→∀n∈d.weights P e,n∈DataW.weightsAll P e ds
 |[],j,d,h,_,_=>by simp at h
 |x::xs,0,d,h,n,hn=>by
  obtain rfl:x=d:=by simpa using h
  simp only[DataW.weightsAll,List.mem_append];exact Or.inl hn
 |x::xs,j+1,d,h,n,hn=>by simp only[DataW.weightsAll,List.mem_append];exact Or.inr (ziu (ds:=xs) (j:=j) (by simpa using h) n hn)
theorem zmP {t e:TypeId}{n:Nat}(hu:P.underlying t=some (.array n e)){cs:Array Value}{d:DataW H}{p:List MemPlace}(h:DataW.Trod enc P w base spare held t (.agg cs) d p){j:Nat}(hj:j<n):
  ∃(m:Nat) (y:DataW H×List MemPlace),DataW.trod enc P w base spare held m e ((cs.toList.drop (j * P.cellsOf e)).take (P.cellsOf e))=some y∧∀x∈y.1.weights P e,x∈d.weights P t:=by
 obtain⟨fuel,h⟩:=h;have hc:(Value.agg cs).cells.toList=cs.toList:=rfl;rw[hc] at h;obtain⟨xs,m,-,hx,-,hl,hg⟩:=DataW.trod_array hu h;have hy:xs[j]?=some (xs[j]' om):=List.getElem?_eq_getElem om;refine⟨m,xs[j]' om,by rw[hg j hj,hy],fun x hx2=> ?_⟩;have:d=.agg (xs.map (·.1)):=by injection hx
 subst this;simp only[DataW.weights,hu];exact ziu (j:=j) (by rw[List.getElem?_map,hy];rfl) x hx2
end
section
variable {H:Type} {enc:TypeId×Value→H} {w:World} {base:Nat} {spare:Nat→Bool} {held:Bool} {r:Reach} {b0:Nat} {v:Value} {d:DataW H} {p:List MemPlace}
theorem zph: Tryz.prog.cellsOf 24 =6:=by kernel_rfl
end
open Go.ChangeShapes Go.WideShapes Go.ChangeAt Go.RowKit Go.Joins Go.Deep

section
variable {H:Type} {enc:TypeId×Value→H} {P:Program} {w:World} {base:Nat} {spare:Nat→Bool} {held:Bool}
theorem open_rowsW {t e:TypeId} {fuel n:Nat} {cs:List Value} {x:DataW H×List MemPlace} {ts:List TypeId} (ht:P.underlying t=some (.slice e)) (hl:ziF P n e ts=true) (hc:P.cellsOf e=ts.length) (hpos:0<ts.length)
  (h:DataW.trod enc P w base spare held fuel t cs=some x):
  ∃(A:Option Addr) (len cap:Nat),cs=[.slice A len cap]∧len≤cap∧cap≤maxLen∧∀i,i<len→∃(b o:Nat) (row:List Value) (m:Nat) (y:DataW H×List MemPlace),A=some ⟨b,o,none⟩∧row.length=ts.length∧
   (∀(j:Nat) (v:Value),row[j]?=some v→w.cell? ⟨b,o+i * ts.length+j,none⟩=some v)∧(∀(j:Nat) (T:TypeId),ts[j]?=some T→∃(c:Value) (m:Nat) (y:DataW H×List MemPlace),row[j]?=some c∧DataW.trod enc P w base spare held m T [c]=some y)∧
   DataW.trod enc P w base spare held m e row=some y∧∀z∈y.1.weights P e,z∈x.1.weights P t:=by
 rcases open_slice ht h with⟨rfl,_⟩|⟨a,len,cap,m,n',D,Pl,rfl,_,h1,h2,hm,hx,hi⟩
 ·exact⟨none,0,0,rfl,Nat.le_refl _,by unfold maxLen;omega,fun i h=>by omega⟩
 ·refine⟨some a,len,cap,rfl,h1,h2,fun i hil=> ?_⟩;have him:∀k,k<len→k<m:=fun k hk=>by rw[hm];split<;>omega
  have hsp:a.spot=none:=by obtain⟨cs0,hc0,_⟩:=hi 0 (him 0 om);obtain⟨_,hcl,hat⟩:=World.cells?_some hc0;have h3:=hat 0 om;rw[List.getElem?_eq_getElem om] at h3;have h4:=World.cell?_spot h3;simpa [Addr.add] using h4
  obtain⟨cs',hcs,htr⟩:=hi i (him i hil);obtain⟨_,hcl,hat⟩:=World.cells?_some hcs;obtain⟨h5,h6⟩:=zfS n e ts n' cs' _ hl hcl htr;refine⟨a.block,a.off,cs',n',(D i,Pl i),?_,by omega,fun j v hj=> ?_,h6,htr,fun z hz=> ?_⟩
  ·obtain⟨b,o,s⟩:=a;simp only at hsp;rw[hsp]
  ·have hjl:j<cs'.length:=(List.getElem?_eq_some_iff.1 hj).1;have h7:=hat j om;rw[hj,addr_add hsp,addr_add rfl,hc] at h7;exact h7
  ·rw[hx];simp only[DataW.weights,ht];refine List.mem_cons_of_mem _ (List.mem_append.2 (.inl (ziu (j:=i) (d:=D i) ?_ z hz)));rw[List.getElem?_map,List.getElem?_range hil];rfl
end
theorem cells_Sta: Tryz.prog.cellsOf 26 =8:=by kernel_rfl
theorem cells_Sta2: Tryz.prog.cellsOf 27 =16:=by kernel_rfl
theorem cells_Msg: Tryz.prog.cellsOf 113 =6:=by kernel_rfl
theorem cells_Wld: Tryz.prog.cellsOf 30 =21:=by kernel_rfl
theorem cells_Ls: Tryz.prog.cellsOf 28 =1:=by kernel_rfl
theorem cells_I: Tryz.prog.cellsOf 3 =1:=by kernel_rfl
theorem cells_Bo: Tryz.prog.cellsOf 4 =1:=by kernel_rfl
theorem bytes_L: Tryz.prog.bytesOf 115 =80:=by kernel_rfl
section
variable {H:Type} {enc:TypeId×Value→H} {w:World} {base:Nat} {spare:Nat→Bool} {held:Bool} {r:Reach} {b0:Nat} {v:Value} {d:DataW H} {p:List MemPlace}
theorem sta_of {row:List Value}(hl:row.length=8)(hg:∀(j:Nat) (T:TypeId),[3,3,4,22,3,3,4,3][j]?=some T→∃(c:Value) (m:Nat) (y:DataW H×List MemPlace),row[j]?=some c∧DataW.trod enc Tryz.prog w base spare held m T [c]=some y):
  ∃(s:Sta) (A:Option Addr) (c:Nat),row=(Ls s A c)∧za3 w A c s.node.log:=by
 obtain⟨c0,m0,y0,e0,g0⟩:=hg 0 _ rfl;obtain⟨c1,m1,y1,e1,g1⟩:=hg 1 _ rfl;obtain⟨c2,m2,y2,e2,g2⟩:=hg 2 _ rfl;obtain⟨c3,m3,y3,e3,g3⟩:=hg 3 _ rfl;obtain⟨c4,m4,y4,e4,g4⟩:=hg 4 _ rfl;obtain⟨c5,m5,y5,e5,g5⟩:=hg 5 _ rfl;obtain⟨c6,m6,y6,e6,g6⟩:=hg 6 _ rfl;obtain⟨c7,m7,y7,e7,g7⟩:=hg 7 _ rfl;obtain⟨z0,rfl,-⟩:=zad Tryz.underlying3 g0;obtain⟨z1,rfl,-⟩:=zad Tryz.underlying3 g1;obtain⟨z2,rfl⟩:=zdv Tryz.underlying4 g2;obtain⟨A,c,l,rfl,hs⟩:=zvL g3;obtain⟨z4,rfl,-⟩:=zad Tryz.underlying3 g4;obtain⟨z5,rfl,-⟩:=zad Tryz.underlying3 g5;obtain⟨z6,rfl⟩:=zdv Tryz.underlying4 g6;obtain⟨z7,rfl,-⟩:=zad Tryz.underlying3 g7;refine⟨⟨⟨z0,z1,z2,l,z4,z5⟩,z6,z7⟩,A,c,?_,hs⟩;exact zaY [z0,z1,z2,.slice A l.length c,z4,z5,z6,z7] hl rfl (fun j hj=>by
  match j,hj with
  |0,_=>exact e0
  |1,_=>exact e1
  |2,_=>exact e2
  |3,_=>exact e3
  |4,_=>exact e4
  |5,_=>exact e5
  |6,_=>exact e6
  |7,_=>exact e7)
theorem ltr_of {row:List Value}(hl:row.length=8)(hg:∀(j:Nat) (T:TypeId),[3,3,3,3,3,3,22,3][j]?=some T→∃(c:Value) (m:Nat) (y:DataW H×List MemPlace),row[j]?=some c∧DataW.trod enc Tryz.prog w base spare held m T [c]=some y):
  ∃(x:Ltr) (A:Option Addr) (c:Nat),row=(Ll x A c)∧za3 w A c x.msg.recs:=by
 obtain⟨c0,m0,y0,e0,g0⟩:=hg 0 _ rfl;obtain⟨c1,m1,y1,e1,g1⟩:=hg 1 _ rfl;obtain⟨c2,m2,y2,e2,g2⟩:=hg 2 _ rfl;obtain⟨c3,m3,y3,e3,g3⟩:=hg 3 _ rfl;obtain⟨c4,m4,y4,e4,g4⟩:=hg 4 _ rfl;obtain⟨c5,m5,y5,e5,g5⟩:=hg 5 _ rfl;obtain⟨c6,m6,y6,e6,g6⟩:=hg 6 _ rfl;obtain⟨c7,m7,y7,e7,g7⟩:=hg 7 _ rfl;obtain⟨z0,rfl,-⟩:=zad Tryz.underlying3 g0;obtain⟨z1,rfl,-⟩:=zad Tryz.underlying3 g1;obtain⟨z2,rfl,-⟩:=zad Tryz.underlying3 g2;obtain⟨z3,rfl,-⟩:=zad Tryz.underlying3 g3;obtain⟨z4,rfl,-⟩:=zad Tryz.underlying3 g4;obtain⟨z5,rfl,-⟩:=zad Tryz.underlying3 g5;obtain⟨A,c,l,rfl,hs⟩:=zvL g6;obtain⟨z7,rfl,-⟩:=zad Tryz.underlying3 g7;refine⟨⟨z0,z1,⟨z2,z3,z4,z5,l,z7⟩⟩,A,c,?_,hs⟩;exact zaY [z0,z1,z2,z3,z4,z5,.slice A l.length c,z7] hl rfl (fun j hj=>by
  match j,hj with
  |0,_=>exact e0
  |1,_=>exact e1
  |2,_=>exact e2
  |3,_=>exact e3
  |4,_=>exact e4
  |5,_=>exact e5
  |6,_=>exact e6
  |7,_=>exact e7)
theorem sta_reach {s:Sta}{A:Option Addr}{c m:Nat}{y:DataW H×List MemPlace}(h:DataW.trod enc Tryz.prog w base spare held m 26 (Ls s A c)=some y)(hr:∀x∈y.1.weights Tryz.prog 26,x≤reachBytes):s.node.log.length * 552≤140737488355328:=by obtain⟨m',y',hy,hx⟩:=zkK Tryz.underlying26 (cs:=(Ls s A c)) (d:=y.1) (p:=y.2) ⟨m,h⟩ (j:=0) rfl;rw[zph] at hy;exact zd2 (n:=s.node) (A:=A) (c:=c) ⟨m',hy⟩ (fun x h=>hr x (hx x h))
theorem ltr_reach {x:Ltr}{A:Option Addr}{c m:Nat}{y:DataW H×List MemPlace}(h:DataW.trod enc Tryz.prog w base spare held m 115 (Ll x A c)=some y)(hr:∀z∈y.1.weights Tryz.prog 115,z≤reachBytes):x.msg.recs.length * 552≤140737488355328:=by obtain⟨m',y',hy,hx⟩:=zkK Tryz.underlying115 (cs:=(Ll x A c)) (d:=y.1) (p:=y.2) ⟨m,h⟩ (j:=2) rfl;rw[cells_Msg] at hy;exact zfl (n:=x.msg) (A:=A) (c:=c) ⟨m',hy⟩ (fun z h=>hr z (hx z h))
theorem open_mail {m:Nat}{c:Value}{y:DataW H×List MemPlace}(h:DataW.trod enc Tryz.prog w base spare held m 28 [c]=some y):
  ∃(M:Option Addr) (k:Nat) (xs:List (Ltr×Option Addr×Nat)),c=.slice M xs.length k∧zrG w M k xs∧((∀z∈y.1.weights Tryz.prog 28,z≤reachBytes)→xs.length * 80≤140737488355328∧∀x∈xs,x.1.msg.recs.length * 552≤140737488355328):=by
 obtain⟨A,len,cap,hc,h1,h2,h3⟩:=open_rowsW (n:=6) (ts:=[3,3,3,3,3,3,22,3]) Tryz.underlying28 kr kr dk h;injection hc with hc;subst hc;obtain⟨xs,rfl,hs,ha⟩:=ziT (w:=w) (A:=A) (len:=len) (size:=8) (fun x:Ltr×Option Addr×Nat=>za3 w x.2.1 x.2.2 x.1.msg.recs∧((∀z∈y.1.weights Tryz.prog 28,z≤reachBytes)→x.1.msg.recs.length * 552≤140737488355328)) ltrR (fun i hi=>by obtain⟨b,o,row,m',y',hA,hl,hcell,hg,htr,hw⟩:=h3 i hi;obtain⟨x,D,K,rfl,hm⟩:=ltr_of hl hg;exact⟨(x,D,K),b,o,⟨hm,fun hr=>ltr_reach htr (fun z hz=>hr z (hw z hz))⟩,hA,rfl,hcell⟩)
 refine⟨A,cap,xs,rfl,⟨hs,h1,h2,fun x hx=>(ha x hx).1⟩,fun hr=>⟨?_,fun x hx=>(ha x hx).2 hr⟩⟩;have:=zgc Tryz.underlying28 (A:=A) (len:=xs.length) (cap:=cap) h hr;rw[bytes_L] at this;exact Nat.le_trans this dk
theorem open_world (hv:Value.okWide Tryz.prog w r b0 30 v)(h:DataW.Trod enc Tryz.prog w base spare held 30 v d p):
  ∃(u:Wld) (A:Option Addr) (a:Nat) (B:Option Addr) (b:Nat) (M:Option Addr) (k:Nat) (xs:List (Ltr×Option Addr×Nat)),v=.agg (Lw u A a B b M k)∧WldAt w u A a B b M k xs∧
   ((∀x∈d.weights Tryz.prog 30,x≤reachBytes)→u.a.node.log.length * 552≤140737488355328∧u.b.node.log.length * 552≤140737488355328∧u.mail.length * 80≤140737488355328∧∀x∈xs,x.1.msg.recs.length * 552≤140737488355328):=by
 obtain⟨cs,rfl,hsz⟩:=okWide_struct Tryz.underlying30 hv;rw[cells_Wld] at hsz;obtain⟨l,rfl⟩:∃l:List Value,cs=l.toArray:=⟨cs.toList,by simp⟩
 have hlen:l.length=21:=by simpa using hsz
 clear hsz hv
 match l,hlen,h with
 |[c0,c1,c2,c3,c4,c5,c6,c7,c8,c9,c10,c11,c12,c13,c14,c15,c16,c17,c18,c19,c20],_,h=>
  obtain⟨m0,y0,h0,g0⟩:=zkK Tryz.underlying30 h (j:=0) rfl;obtain⟨m1,y1,h1,g1⟩:=zkK Tryz.underlying30 h (j:=1) rfl;obtain⟨m2,y2,h2,g2⟩:=zkK Tryz.underlying30 h (j:=2) rfl;obtain⟨m3,y3,h3,g3⟩:=zkK Tryz.underlying30 h (j:=3) rfl;obtain⟨m4,y4,h4,g4⟩:=zkK Tryz.underlying30 h (j:=4) rfl;obtain⟨m5,y5,h5,g5⟩:=zkK Tryz.underlying30 h (j:=5) rfl;rw[cells_I] at h0 h1 h2;rw[cells_Bo] at h3;rw[cells_Sta2] at h4;rw[cells_Ls] at h5;obtain⟨z0,rfl,-⟩:=zad (c:=c0) Tryz.underlying3 h0;obtain⟨z1,rfl,-⟩:=zad (c:=c1) Tryz.underlying3 h1;obtain⟨z2,rfl,-⟩:=zad (c:=c2) Tryz.underlying3 h2;obtain⟨z3,rfl⟩:=zdv (c:=c3) Tryz.underlying4 h3;obtain⟨M,k,xs,rfl,hm,hmr⟩:=open_mail (c:=c20) h5;obtain⟨n0,u0,k0,f0⟩:=zmP Tryz.underlying27 (cs:=#[c4,c5,c6,c7,c8,c9,c10,c11,c12,c13,c14,c15,c16,c17,c18,c19]) (d:=y4.1) (p:=y4.2) ⟨m4,h4⟩ (j:=0) dk;obtain⟨n1,u1,k1,f1⟩:=zmP Tryz.underlying27 (cs:=#[c4,c5,c6,c7,c8,c9,c10,c11,c12,c13,c14,c15,c16,c17,c18,c19]) (d:=y4.1) (p:=y4.2) ⟨m4,h4⟩ (j:=1) dk;rw[cells_Sta] at k0 k1;replace k0:DataW.trod enc Tryz.prog w base spare held n0 26 [c4,c5,c6,c7,c8,c9,c10,c11]=some u0:=k0;replace k1:DataW.trod enc Tryz.prog w base spare held n1 26 [c12,c13,c14,c15,c16,c17,c18,c19]=some u1:=k1;obtain⟨l0,q0⟩:=zfS 6 _ [3,3,4,22,3,3,4,3] n0 _ u0 kr (by rw[cells_Sta];rfl) k0;obtain⟨l1,q1⟩:=zfS 6 _ [3,3,4,22,3,3,4,3] n1 _ u1 kr (by rw[cells_Sta];rfl) k1;obtain⟨sa,A,a,e0,r0⟩:=sta_of l0 q0;obtain⟨sb,B,b,e1,r1⟩:=sta_of l1 q1;have w0:(∀x∈u0.1.weights Tryz.prog 26,x≤reachBytes)→sa.node.log.length * 552≤140737488355328:=sta_reach (by rw[e0] at k0;exact k0);have w1:(∀x∈u1.1.weights Tryz.prog 26,x≤reachBytes)→sb.node.log.length * 552≤140737488355328:=sta_reach (by rw[e1] at k1;exact k1);clear k0 k1 l0 l1 q0 q1 h0 h1 h2 h3 h4 h5 h;simp only[List.cons.injEq,and_true] at e0 e1;obtain⟨rfl,rfl,rfl,rfl,rfl,rfl,rfl,rfl⟩:=e0;obtain⟨rfl,rfl,rfl,rfl,rfl,rfl,rfl,rfl⟩:=e1;refine⟨⟨z0,z1,z2,z3,sa,sb,xs.map (·.1)⟩,A,a,B,b,M,k,xs,?_,⟨r0,r1,hm,rfl⟩,fun hr=>⟨w0 fun x hx=>hr x (g4 x (f0 x hx)),w1 fun x hx=>hr x (g4 x (f1 x hx)),?_,(hmr fun x hx=>hr x (g5 x hx)).2⟩⟩
  ·simp only[List.length_map]
  ·have:=(hmr fun x hx=>hr x (g5 x hx)).1;simpa using this
end
