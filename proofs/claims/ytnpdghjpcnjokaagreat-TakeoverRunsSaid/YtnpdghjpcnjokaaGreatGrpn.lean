import Derived.Test.YtnpdghjpcnjokaaGreatGrpc
import Derived.Test.YtnpdghjpcnjokaaGreatGidl
set_option maxHeartbeats 6400000
set_option maxRecDepth 100000
namespace Go.Proofs.YtnpdghjpcnjokaaGreat
open Go.RowKit Go.Proofs.Tryz

attribute [go_sem] ziQ
def buildQ (ps:Array (Nat×Value)):Sem Value:=Instr.buildSlice 38 1 ps
@[go_sem ↓ high] theorem buildQ_at (ps : Array (Nat × Value)) : Instr.buildSlice 38 1 ps = buildQ ps:=rfl
@[go_sem] theorem buildQ_run (w : World) (cs : Array Value) (h : cs.size = 45) : (buildQ #[(0,.agg cs)]).run prog w = .ok (.slice (some ⟨w.heap.size,0,none⟩) 1 1) (w.alloc (.cells cs 187)) :=
 zdn w _ _ cs 45 underlying38 kr kr h dk dk
def buildR (ps:Array (Nat×Value)):Sem Value:=Instr.buildSlice 22 1 ps
@[go_sem ↓ high] theorem buildR_at (ps : Array (Nat × Value)) : Instr.buildSlice 22 1 ps = buildR ps:=rfl
@[go_sem] theorem buildR_run (w : World) (cs : Array Value) (h : cs.size = 45) : (buildR #[(0,.agg cs)]).run prog w = .ok (.slice (some ⟨w.heap.size,0,none⟩) 1 1) (w.alloc (.cells cs 180)) :=
 zdn w _ _ cs 45 underlying22 kr kr h dk dk
theorem zDC:zbz prog 187 45 552=true:=by kernel_rfl
@[go_sem] theorem nil_Q (A : Option Addr) (n c n' c' : Nat) (w : World) : (binOp .eql 38 (.slice A n c) (.slice none n' c')).run prog w = .ok (.bool A.isNone) w:=Lib.run_eql_slice_nil w _ _ A n c n' c' underlying38
def RetQ (w0:World) (n:Nat) (l:List Rec) (e:Ending) (w':World):Prop:=∃A k,e=.returned (.slice A n k)∧Ext w0 w'∧Own w0 w' 187 45 A n k (l.map recR)
theorem zCj {l:List Rec}{k:Nat}{m:Rec}(h:l[k]?=some m):(l.take k).map recR++[recR m]=(l.take (k+1)).map recR:=by obtain⟨h1,h2⟩:=List.getElem?_eq_some_iff.1 h;rw[List.take_succ_eq_append_getElem h1,h2,List.map_append];rfl
theorem zgK (r:Rec):∀x∈[recR r],∀u∈x,u.oneCell'=true:=by intro x hx;simp at hx;subst hx;exact zcS r
theorem zcs (A:Option Addr)(c:Nat)(l:List Rec)(w:World)(hs:za3 w A c l)(hn:l.length * 552≤140737488355328):Calls prog 80 #[.slice A l.length c] w (RetQ w l.length l):=by
 have HS:=zh hs;clear hs;go_enter func80,ntmps80;go_wp2;go_loopw [3,8] (fun v i wr=> ∃(k:Nat) (D:Option Addr) (K:Nat),k≤l.length∧i=.int .i64 k∧v=.slice D k K∧Ext w wr∧Hid (Own w wr 187 45 D k K ((l.take k).map recR))) (fun _ i _=>l.length - (intOf i).toNat)
 case atStart => exact ⟨0,none,0,by omega,rfl,rfl,Ext.refl _,zh (Own.nil _)⟩
 case round =>
  obtain⟨k,D,K,hk,rfl,rfl,hx,HO⟩:=hrel;obtain⟨y0,rfl⟩:=hx.get;clear hx;by_cases hlt:k<l.length
  ·obtain⟨m,hm⟩:∃m,l[k]?=some m:=⟨_,List.getElem?_eq_getElem hlt⟩
   obtain⟨b,o,rfl,hrec,-⟩:=HS.out.get hm;have hb0:(0:Int)≤(k:Int):=by omega
   have hb1:(k:Int)<(l.length:Int):=by omega
   have hr1:=hrec.row;have HT:=zh (zCj hm);clear hrec hm
   go_wp2_with (first
    |(refine za7 rfl 180 (.tmp 5) (.tmp 11) rfl rfl sg (recR m) rfl rfl kr (zcS m) ?_)
    |(at_builtin;refine za6 (w0:=w) rfl _ _ 38 38 rfl 187 187 45 552 underlying38 underlying38 zDC dk ex D k K ((l.take k).map recR) rfl (HO.out.mono ex) _ 1 1 [recR m] rfl (Sl.alloc' sg (by simp) (by simp[ziQ])) rfl (zgK m) (by unfold maxLen;omega) om (k+1) rfl ((l.take (k+1)).map recR) HT.out ?_;intro D2 K2 w2 hx2 hown hg hA;have HO2:=zh hown;obtain⟨y2,rfl⟩:=hx2.get;clear hown hx2 hg hA))
   go_light;exact⟨⟨k+1,D2,K2,by omega,by go_num,rfl,ex,HO2⟩,by simp[intOf];omega⟩
  ·have hkl:k=l.length:=by omega
   have HL:=zh (show l.take k=l by rw[hkl,List.take_length]);have HK:=zh hkl;clear hkl;go_wp2;go_ret;have:=HO.out;rw[HL.out] at this;rw[HK.out] at this ⊢
   exact⟨D,K,rfl,ex,this⟩
def RetOf (w0:World) (n:Nod) (e:Ending) (w':World):Prop:=∃A c,e=.returned (.agg (Ln n A c))∧Ext w0 w'∧Own w0 w' 187 45 A n.log.length c (n.log.map recR)
theorem zbA (n:Nod)(A:Option Addr)(c:Nat)(w:World)(hs:za3 w A c n.log)(hn:n.log.length * 552≤140737488355328):Calls prog 41 #[.agg (Ln n A c)] w (RetOf w n):=by
 have HS:=zh hs;clear hs;go_enter func41,ntmps41;go_wp2
 go_region_held3 (fun w'=>w'.cell? ⟨w.heap.size,0,none⟩=some (.int .i64 n.id)∧w'.cell? ⟨w.heap.size,1,none⟩=some (.int .i64 n.term)∧w'.cell? ⟨w.heap.size,2,none⟩=some (.bool n.speaks)∧w'.cell? ⟨w.heap.size,3,none⟩=some (.slice A n.log.length c)∧w'.cell? ⟨w.heap.size,4,none⟩=some (.int .i64 n.acked)∧w'.cell? ⟨w.heap.size,5,none⟩=some (.int .i64 n.next)) ((refine⟨?_,?_,?_,?_,?_,?_⟩<;>simp[go_sem]))
  ((go_at_call 80;refine(zcs A c n.log _ (HS.out.mono ex) hn).mono ?_;rintro e w' ⟨D,n',rfl,hx,hown⟩;have HO:=zh hown;obtain⟨yc,rfl⟩:=hx.get;clear hx hown))
 all_goals
  go_wp2_with fail;refine bodyPost_ret (v:=.agg (Ln n D n')) (by simp[results,results41,go_sem]) rfl ?_;exact⟨D,n',rfl,ex,Own.older (Own.shift HO.out sg) ex⟩
def RetSaid (w0:World) (m:Msg) (e:Ending) (w':World):Prop:=∃A c,e=.returned (.agg (Lm m A c))∧Ext w0 w'∧Own w0 w' 187 45 A m.recs.length c (m.recs.map recR)
theorem ziI (m:Msg)(A:Option Addr)(c:Nat)(w:World)(hs:za3 w A c m.recs)(hn:m.recs.length * 552≤140737488355328):Calls prog 42 #[.agg (Lm m A c)] w (RetSaid w m):=by
 have HS:=zh hs;clear hs;go_enter func42,ntmps42;go_wp2
 go_region_held3 (fun w'=>w'.cell? ⟨w.heap.size,0,none⟩=some (.int .i64 m.kind)∧w'.cell? ⟨w.heap.size,1,none⟩=some (.int .i64 m.term)∧w'.cell? ⟨w.heap.size,2,none⟩=some (.int .i64 m.at_)∧w'.cell? ⟨w.heap.size,3,none⟩=some (.int .i64 m.before)∧w'.cell? ⟨w.heap.size,4,none⟩=some (.slice A m.recs.length c)∧w'.cell? ⟨w.heap.size,5,none⟩=some (.int .i64 m.acked)) ((refine⟨?_,?_,?_,?_,?_,?_⟩<;>simp[go_sem]))
  ((go_at_call 80;refine(zcs A c m.recs _ (HS.out.mono ex) hn).mono ?_;rintro e w' ⟨D,n',rfl,hx,hown⟩;have HO:=zh hown;obtain⟨yc,rfl⟩:=hx.get;clear hx hown))
 all_goals
  go_wp2_with fail;refine bodyPost_ret (v:=.agg (Lm m D n')) (by simp[results,results42,go_sem]) rfl ?_;exact⟨D,n',rfl,ex,Own.older (Own.shift HO.out sg) ex⟩
def FewR (w:World) (l:List Rec) (e:Ending) (w':World):Prop:=(∃b:Bool,e=.returned (.bool b)∧(b=true→l.length≤511))∧Ext w w'
theorem zct (A:Option Addr)(c n:Nat)(l:List Rec)(hn:l.length=n)(w:World)(hs:za3 w A c l):Calls prog 75 #[.slice A n c] w (FewR w l):=by
 subst hn;have hl:=hs.len;have HS:=zh hs;clear hs;by_cases h60:60<l.length
 ·by_cases h256:256<l.length
  ·go_enter func75,ntmps75;go_wp2;go_ret;exact⟨⟨_,rfl,fun h=>by have:=of_decide_eq_true h;omega⟩,ex⟩
  ·go_enter func75,ntmps75;go_wp2;go_ret;exact⟨⟨false,rfl,fun h=>by cases h⟩,ex⟩
 ·have HB:=zh (show l.length≤511 by omega);go_enter func75,ntmps75;go_wp2;go_loopw [3] (fun i wr=> ∃k:Nat,k≤l.length∧i=.int .i64 k∧Ext w wr) (fun i _=>l.length - (intOf i).toNat)
  case atStart => exact ⟨0,by omega,rfl,Ext.refl _⟩
  case round =>
   obtain⟨k,hk,rfl,hx⟩:=hrel;obtain⟨y0,rfl⟩:=hx.get;clear hx;by_cases hlt:k<l.length
   ·obtain⟨m,hm⟩:∃m,l[k]?=some m:=⟨_,List.getElem?_eq_getElem hlt⟩
    obtain⟨b,o,rfl,hrec,-⟩:=HS.out.get hm;have hb0:(0:Int)≤(k:Int):=by omega
    have hb1:(k:Int)<(l.length:Int):=by omega
    have hr1:=hrec.act;clear hrec hm;go_wp2_with (go_at_call 76;refine(zen m.act _).mono ?_;rintro e w' ⟨⟨fb,rfl⟩,hx⟩;obtain⟨y2,rfl⟩:=hx.get;clear hx;cases fb)
    ·go_ret;exact⟨⟨false,rfl,fun h=>by cases h⟩,ex⟩
    ·go_light;exact⟨⟨k+1,by omega,by go_num,ex⟩,by simp[intOf];omega⟩
   ·go_wp2;go_ret;exact⟨⟨true,rfl,fun _=>HB.out⟩,ex⟩

def nodR (x:Nod×Option Addr×Nat):List Value:=[x.1.id,x.1.term,x.1.speaks,.slice x.2.1 x.1.log.length x.2.2,x.1.acked,x.1.next]
def FewNs (w:World) (xs:List (Nod×Option Addr×Nat)) (e:Ending) (w':World):Prop:=(∃b:Bool,e=.returned (.bool b)∧(b=true→∀x∈xs,x.1.log.length≤511))∧Ext w w'

def buildN (ps:Array (Nat×Value)):Sem Value:=Instr.buildSlice 183 1 ps
@[go_sem ↓ high] theorem buildN_at (ps : Array (Nat × Value)) : Instr.buildSlice 183 1 ps = buildN ps:=rfl
@[go_sem] theorem buildN_run (w : World) (cs : Array Value) (h : cs.size = 6) : (buildN #[(0,.agg cs)]).run prog w = .ok (.slice (some ⟨w.heap.size,0,none⟩) 1 1) (w.alloc (.cells cs 24)) :=
 zdn w _ _ cs 6 underlying183 kr kr h dk dk

theorem zd9 (id term:Int)(w:World)(h1:1≤id)(h2:id≤2)(h3:0≤term):Calls prog 82 #[id,term] w fun e w'=>e=.returned (.bool (ownB id term))∧w=w':=by
 by_cases h:1≤term
 ·have hz:(term % 2==id % 2)=ownB id term:=by unfold ownB;rw[Bool.eq_iff_iff,beq_iff_eq,decide_eq_true_eq];omega
  have HZ:=zh hz;clear hz;go_enter func82,ntmps82;go_wp2;go_ret;exact⟨ret_b HZ.out,rfl⟩
 ·have HV:=zh (show false=ownB id term from(decide_eq_false om).symm);go_enter func82,ntmps82;go_wp2;go_ret;exact⟨ret_b HV.out,rfl⟩
def lowAt (low:Int) (l:List Rec) (k:Nat):Int:=match prv l k with|some r=>r.term|none=>low
theorem zgx {low:Int}{l:List Rec}{k:Nat}{r:Rec}(h:l[k]?=some r):lowAt low l (k+1)=r.term:=by unfold lowAt;rw[zbk,h]
theorem ztY {low high:Int}{l:List Rec}{k:Nat}{r:Rec}(h:za5 r.term 1 high=true)(he:acnE r.act=0)(hl:r.term<lowAt low l k):recS low high (prv l k) r=9:=by
 have h1:=za8 h;unfold recS;rw[if_neg om,if_neg (by simpa using he)];unfold lowAt at hl;cases hp:prv l k with
 |none=>rw[hp] at hl;simp only at hl ⊢;rw[if_pos hl]
 |some p=>rw[hp] at hl;simp only at hl ⊢;rw[if_pos (.inl hl)]
theorem zmo {low high:Int}{l:List Rec}{k:Nat}{p r:Rec}(h:za5 r.term 1 high=true)(he:acnE r.act=0)(hp:prv l k=some p)(hl:r.act.at_<p.act.at_):recS low high (prv l k) r=9:=by have h1:=za8 h;unfold recS;rw[if_neg om,if_neg (by simpa using he),hp];simp only;rw[if_pos (.inr hl)]
theorem zmp {low high:Int}{l:List Rec}{k:Nat}{r:Rec}(h:za5 r.term 1 high=true)(he:acnE r.act=0)(hp:prv l k=none)(hl:¬r.term<lowAt low l k):recS low high (prv l k) r=0:=by have h1:=za8 h;unfold lowAt at hl;rw[hp] at hl;unfold recS;rw[if_neg om,if_neg (by simpa using he),hp];simp only at hl ⊢;rw[if_neg hl]
theorem zq5 {low high:Int}{l:List Rec}{k:Nat}{p r:Rec}(h:za5 r.term 1 high=true)(he:acnE r.act=0)(hp:prv l k=some p)(hl:¬r.term<lowAt low l k)(ha:¬r.act.at_<p.act.at_):recS low high (prv l k) r=0:=by have h1:=za8 h;unfold lowAt at hl;rw[hp] at hl;unfold recS;rw[if_neg om,if_neg (by simpa using he),hp];simp only at hl ⊢;rw[if_neg om]
theorem zaM (A:Option Addr)(c:Nat)(l:List Rec)(low high:Int)(w:World)(hs:za3 w A c l):
  Calls prog 83 #[.slice A l.length c,low,high] w fun e w'=>e=.returned (.int .i64 (recsE low high l))∧Ext w w':=by
 have hl:=hs.len;have HS:=zh hs;have HM:=zh (show recsE low high l=scan (recS low high) none l from rfl);clear hs;go_enter func83,ntmps83;go_wp2;go_loopw [1,7] (fun lo i wr=> ∃k:Nat,k≤l.length∧i=.int .i64 k∧lo=.int .i64 (lowAt low l k)∧Ext w wr∧Hid (recsE low high l=scan (recS low high) (prv l k) (l.drop k))) (fun _ i _=>l.length - (intOf i).toNat)
 case atStart => exact ⟨0,by omega,rfl,rfl,Ext.refl _,HM⟩
 case round =>
  obtain⟨k,hk,rfl,rfl,hx,HE⟩:=hrel;obtain⟨q,hq⟩:∃q,lowAt low l k=q:=⟨_,rfl⟩
  have HQ:=zh hq;rw[hq];clear hq HM;obtain⟨y0,rfl⟩:=hx.get;clear hx;by_cases hlt:k<l.length
  ·obtain⟨m,hm⟩:∃m,l[k]?=some m:=⟨_,List.getElem?_eq_getElem hlt⟩
   obtain⟨b,o,rfl,hrec,hat⟩:=HS.out.get hm;have HE2:=zh (HE.out.trans (zcu (recS low high) l k m hm));have hb0:(0:Int)≤(k:Int):=by omega
   have hb1:(k:Int)<(l.length:Int):=by omega
   have hr1:=hrec.act;have hr2:=hrec.term;have hr3:=hrec.at_;have HA:=zh hat;have HMM:=zh hm;clear HE hrec hat;cases hwi:za5 m.term 1 high with
   |false=>
    have HV:=zh (show(2:Int)=recsE low high l by rw[HE2.out,ztZ hwi];rfl);have hor:=zaF hwi;clear hwi hm;by_cases h1:m.term<1
    ·go_wp2;go_ret;exact⟨ret_i HV.out,ex⟩
    ·have h2:high<m.term:=by omega
     clear hor;go_wp2;go_ret;exact⟨ret_i HV.out,ex⟩
   |true=>
    have HW:=zh hwi;have i1:=(za8 hwi).1;have i2:=(za8 hwi).2;clear hwi;by_cases he:acnE m.act=0
    ·have hz:(acnE m.act !=0)=false:=by simpa using he
     have HZ:=zh he;clear he;by_cases hlo:m.term<q
     ·have hd:decide (m.term<q)=true:=decide_eq_true hlo;have HV:=zh (show(9:Int)=recsE low high l by rw[HE2.out,ztY (low:=low) (l:=l) (k:=k) HW.out HZ.out (by rw[HQ.out];exact hlo)];rfl);clear hm hlo;go_wp2_with (go_at_call 87;refine zzg (zaj m.act _ (HA.out.mono ex)) fun y=>?_);(refine zcL kr kr ?_;(repeat(go_big_quiet_step (fail)));refine wqN fun y=>?_);go_wp2;go_ret;exact⟨ret_i HV.out,ex⟩
     ·have hd:decide (m.term<q)=false:=decide_eq_false hlo;by_cases hk0:0<k
      ·have hd0:decide (0<k)=true:=decide_eq_true hk0;obtain⟨p,hp⟩:∃p,l[k - 1]?=some p:=⟨_,List.getElem?_eq_getElem om⟩
       obtain⟨b',o',hA,hrp,-⟩:=HS.out.get hp;injection hA with hA;injection hA with e1 e2;subst e1 e2;have hp3:=hrp.at_;have HP:=zh (show prv l k=some p by unfold prv;rw[if_neg om,hp]);have hi1:(0:Int)≤(k:Int) - 1:=by omega
       have hi2:(k:Int) - 1<(l.length:Int):=by omega
       have hi3:((k:Int) - 1).toNat=k - 1:=by omega
       have hwk:IntKind.i64.wrap ((k:Int) - 1)=(k:Int) - 1:=IntWalk.i64_in _ om;clear hm hp hrp;by_cases hea:m.act.at_<p.act.at_
       ·have hda:decide (m.act.at_<p.act.at_)=true:=decide_eq_true hea;have HV:=zh (show(9:Int)=recsE low high l by rw[HE2.out,zmo HW.out HZ.out HP.out hea];rfl);clear hea;go_wp2_with (go_at_call 87;refine zzg (zaj m.act _ (HA.out.mono ex)) fun y=>?_);(refine zcL kr kr ?_;(repeat(go_big_quiet_step (fail)));refine wqN fun y=>?_);go_wp2;go_ret;exact⟨ret_i HV.out,ex⟩
       ·have hda:decide (m.act.at_<p.act.at_)=false:=decide_eq_false hea;have HV:=zh (show recS low high (prv l k) m=0 from zq5 (low:=low) HW.out HZ.out HP.out (by rw[HQ.out];exact hlo) hea);clear hea;go_wp2_with (go_at_call 87;refine zzg (zaj m.act _ (HA.out.mono ex)) fun y=>?_);(refine zcL kr kr ?_;(repeat(go_big_quiet_step (fail)));refine wqN fun y=>?_);go_wp2;go_light;refine⟨⟨k+1,by omega,by go_num,by rw[zgx HMM.out],ex,zh ?_⟩,by simp[intOf];omega⟩;have hS:=HE2.out;rw[HV.out] at hS;rw[hS];rfl
      ·obtain rfl:k=0:=by omega
       have HV:=zh (show recS low high (prv l 0) m=0 from zmp (low:=low) HW.out HZ.out rfl (by rw[HQ.out];exact hlo));simp only[Nat.zero_mul,Nat.add_zero] at hr1 hr2 hr3;clear hm hk0;go_wp2_with (go_at_call 87;refine zzg (zaj m.act _ (HA.out.mono ex)) fun y=>?_);(refine zcL kr kr ?_;(repeat(go_big_quiet_step (fail)));refine wqN fun y=>?_);go_wp2;go_light;refine⟨⟨1,by omega,rfl,by rw[zgx HMM.out],ex,zh ?_⟩,by simp[intOf];omega⟩;have hS:=HE2.out;rw[HV.out] at hS;rw[hS];rfl
    ·have hz:(acnE m.act !=0)=true:=by simpa using he
     have HV:=zh (show acnE m.act=recsE low high l by rw[HE2.out,ztX HW.out he,if_pos he]);clear he hm;go_wp2_with (go_at_call 87;refine zzg (zaj m.act _ (HA.out.mono ex)) fun y=>?_);go_ret;exact⟨ret_i HV.out,ex⟩
  ·have HV:=zh (HE.out.trans (zbX (recS low high) l k _ om));go_wp2;go_ret;exact⟨ret_i HV.out.symm,ex⟩

theorem zif (n:Nod)(A:Option Addr)(c:Nat)(w:World)(hs:za3 w A c n.log)(h1:za5 n.id 1 2=true)(h2:za5 n.term 0 1048576=true)(h3:¬(n.speaks=true∧ownB n.id n.term=false))(b:Bool)(hb:n.speaks=b)(ho:b=true→ownB n.id n.term=true):
  Calls prog 49 #[.agg #[n.id,n.term,b,.slice A n.log.length c,n.acked,n.next]] w fun e w'=>e=.returned (.int .i64 (nodE n))∧Ext w w':=by
 have hl:=hs.len;have HS:=zh hs;have H1:=zh h1;have H2:=zh h2;have H3:=zh h3;have HB:=zh hb;have HO:=zh ho;have i1:=(za8 h1).1;have i2:=(za8 h1).2;have i3:=(za8 h2).1;have i4:=(za8 h2).2;clear hs h1 h2 h3 hb ho;by_cases h4:256<n.log.length
 ·have HR:=zh (zAd H1.out H2.out H3.out h4);cases b with
  |false=>go_enter func49,ntmps49;go_wp2;go_ret;exact⟨ret_i HR.out.symm,ex⟩
  |true=>go_enter func49,ntmps49;go_wp2_with (go_at_call 82;refine(zd9 _ _ _ i1 i2 i3).mono ?_;rintro e w' ⟨he,rfl⟩;rw[HO.out rfl] at he;subst he);go_ret;exact⟨ret_i HR.out.symm,ex⟩
 ·by_cases h5:recsE 1 n.term n.log=0
  ·have HZ:=zh h5;have hz:(recsE 1 n.term n.log !=0)=false:=by simpa using h5
   clear h5;obtain⟨v,hv⟩:∃v,(if n.speaks=true then(n.log.length:Int) else 0)=v:=⟨_,rfl⟩
   have HV:=zh hv;have hvb:v=if b=true then(n.log.length:Int) else 0:=by rw[←hv,HB.out]
   clear hv;by_cases h6:0≤n.acked∧n.acked≤n.log.length∧0≤n.next∧n.next≤n.log.length
   ·obtain⟨q1,q2,q3,q4⟩:=h6;by_cases h7:b=false∧n.next≠0
    ·obtain⟨rfl,h7⟩:=h7;have hz7:(n.next !=0)=true:=by simpa using h7
     have HR:=zh (zmY H1.out H2.out H3.out h4 HZ.out HV.out (.inr (decide_eq_false (by simp at hvb;omega))));clear h7 hvb;go_enter func49,ntmps49;go_wp2_with (go_at_call 83;refine zzg (zaM A c n.log 1 n.term _ (HS.out.mono ex)) fun y=>?_);go_ret;exact⟨ret_i HR.out.symm,ex⟩
    ·have HR:=zh (zAf H1.out H2.out H3.out h4 HZ.out HV.out (decide_eq_true ⟨q1,q2⟩) (decide_eq_true (by
      cases b with
      |false=>
       have:n.next=0:=by
        by_cases hc:n.next=0
        ·exact hc
        ·exact absurd ⟨rfl,hc⟩ h7
       simp at hvb;omega
      |true=>simp at hvb;omega)))
     clear hvb;cases b with
     |false=>
      have hz7:(n.next !=0)=false:=by
       by_cases hc:n.next=0
       ·simpa using hc
       ·exact absurd ⟨rfl,hc⟩ h7
      clear h7;go_enter func49,ntmps49;go_wp2_with (go_at_call 83;refine zzg (zaM A c n.log 1 n.term _ (HS.out.mono ex)) fun y=>?_);go_ret;exact⟨ret_i HR.out.symm,ex⟩
     |true=>clear h7;go_enter func49,ntmps49;go_wp2_with (first|(go_at_call 83;refine zzg (zaM A c n.log 1 n.term _ (HS.out.mono ex)) fun y=>?_)|(go_at_call 82;refine(zd9 _ _ _ i1 i2 i3).mono ?_;rintro e w' ⟨he,rfl⟩;rw[HO.out rfl] at he;subst he));go_ret;exact⟨ret_i HR.out.symm,ex⟩
   ·have HR:=zh (zmY H1.out H2.out H3.out h4 HZ.out HV.out (by
     by_cases hc:0≤n.acked∧n.acked≤n.log.length
     ·refine .inr (decide_eq_false fun hd=>h6 ⟨hc.1,hc.2,hd.1,?_⟩);have:=hd.2;cases b<;>simp at hvb<;>omega
     ·exact .inl (decide_eq_false hc)))
    clear hvb;have hcase:n.acked<0∨(0≤n.acked∧(n.log.length:Int)<n.acked)∨(0≤n.acked∧n.acked≤n.log.length∧n.next<0)∨(0≤n.acked∧n.acked≤n.log.length∧0≤n.next∧(n.log.length:Int)<n.next):=by omega
    clear h6;cases b with
    |false=>
     rcases hcase with q|⟨q,q2⟩|⟨q,q2,q3⟩|⟨q,q2,q3,q4⟩
     all_goals
      go_enter func49,ntmps49;go_wp2_with (go_at_call 83;refine zzg (zaM A c n.log 1 n.term _ (HS.out.mono ex)) fun y=>?_);go_ret;exact⟨ret_i HR.out.symm,ex⟩
    |true=>
     rcases hcase with q|⟨q,q2⟩|⟨q,q2,q3⟩|⟨q,q2,q3,q4⟩
     all_goals
      go_enter func49,ntmps49;go_wp2_with (first|(go_at_call 83;refine zzg (zaM A c n.log 1 n.term _ (HS.out.mono ex)) fun y=>?_)|(go_at_call 82;refine(zd9 _ _ _ i1 i2 i3).mono ?_;rintro e w' ⟨he,rfl⟩;rw[HO.out rfl] at he;subst he));go_ret;exact⟨ret_i HR.out.symm,ex⟩
  ·have hz:(recsE 1 n.term n.log !=0)=true:=by simpa using h5
   have HR:=zh (zAe H1.out H2.out H3.out h4 h5);clear h5;cases b with
   |false=>go_enter func49,ntmps49;go_wp2_with (go_at_call 83;refine zzg (zaM A c n.log 1 n.term _ (HS.out.mono ex)) fun y=>?_);go_ret;exact⟨ret_i HR.out.symm,ex⟩
   |true=>go_enter func49,ntmps49;go_wp2_with (first|(go_at_call 83;refine zzg (zaM A c n.log 1 n.term _ (HS.out.mono ex)) fun y=>?_)|(go_at_call 82;refine(zd9 _ _ _ i1 i2 i3).mono ?_;rintro e w' ⟨he,rfl⟩;rw[HO.out rfl] at he;subst he));go_ret;exact⟨ret_i HR.out.symm,ex⟩
theorem zay (n:Nod)(A:Option Addr)(c:Nat)(w:World)(hs:za3 w A c n.log):Calls prog 49 #[.agg (Ln n A c)] w fun e w'=>e=.returned (.int .i64 (nodE n))∧Ext w w':=by
 have hl:=hs.len;by_cases h12:za5 n.id 1 2=true∧za5 n.term 0 1048576=true
 ·obtain⟨h1,h2⟩:=h12;by_cases h3:n.speaks=true∧ownB n.id n.term=false
  ·have HR:=zh (zE2 h1 h2 h3.1 h3.2);have i1:=(za8 h1).1;have i2:=(za8 h1).2;have i3:=(za8 h2).1;have i4:=(za8 h2).2;have HO:=zh h3.2;rw[h3.1];clear h1 h2 h3 hs;go_enter func49,ntmps49;go_wp2_with (go_at_call 82;refine(zd9 _ _ _ i1 i2 i3).mono ?_;rintro e w' ⟨he,rfl⟩;rw[HO.out] at he;subst he);go_ret;exact⟨ret_i HR.out.symm,ex⟩
  ·exact zif n A c w hs h1 h2 h3 n.speaks rfl (fun hb=>by
    cases ho:ownB n.id n.term
    ·exact absurd ⟨hb,ho⟩ h3
    ·rfl)
 ·have hE:nodE n=2:=by
   cases h1:za5 n.id 1 2 with
   |false=>exact zE0 h1
   |true=>
    cases h2:za5 n.term 0 1048576 with
    |false=>exact zE1 h2
    |true=>exact absurd ⟨h1,h2⟩ h12
  have HR:=zh hE;have hcase:n.id<1∨(1≤n.id∧2<n.id)∨(1≤n.id∧n.id≤2∧n.term<0)∨(1≤n.id∧n.id≤2∧0≤n.term∧1048576<n.term):=by
   by_cases hc:1≤n.id∧n.id≤2
   ·have:¬(0≤n.term∧n.term≤1048576):=fun h=>h12 ⟨decide_eq_true hc,decide_eq_true h⟩;omega
   ·omega
  clear h12 hE hs;rcases hcase with q|⟨q,q2⟩|⟨q,q2,q3⟩|⟨q,q2,q3,q4⟩
  all_goals
   go_enter func49,ntmps49;go_wp2;go_ret;exact⟨ret_i HR.out.symm,ex⟩

def BeforeOk (m:Msg):Prop:=(m.at_=0∧m.before=0)∨(0<m.at_∧1≤m.before∧m.before≤m.term)
theorem zCY {m:Msg}(h0:0≤m.at_)(h:za5 m.before (zfO m) (mostB m)=true):BeforeOk m:=by
 have:=za8 h;unfold zfO mostB at this;by_cases hp:0<m.at_
 ·rw[if_pos hp,if_pos hp] at this;exact .inr ⟨hp,this.1,this.2⟩
 ·rw[if_neg hp,if_neg hp] at this;exact .inl ⟨by omega,by omega⟩
theorem zCX {m:Msg}(h0:0≤m.at_)(h:za5 m.before (zfO m) (mostB m)=false):(m.at_=0∧m.before≠0)∨(0<m.at_∧m.before<1)∨(0<m.at_∧1≤m.before∧m.term<m.before):=by
 have:=zaF h;unfold zfO mostB at this;by_cases hp:0<m.at_
 ·rw[if_pos hp,if_pos hp] at this;omega
 ·rw[if_neg hp,if_neg hp] at this;exact .inl ⟨by omega,by omega⟩
theorem zq2 (m:Msg)(A:Option Addr)(c:Nat)(w:World)(hs:za3 w A c m.recs)(hw:za5 m.before (zfO m) (mostB m)=true)(z0:Bool)(hz0:(m.at_==0)=z0)(zb:z0=true→(m.before !=0)=false)(zp:z0=false→0<m.at_∧1≤m.before∧m.before≤m.term)(zn:z0=true→m.at_≤0):
  Calls prog 84 #[.agg (Lm m A c)] w fun e w'=>e=.returned (.int .i64 (appE m))∧Ext w w':=by
 have hl:=hs.len;have HS:=zh hs;have HW:=zh hw;clear hs hw;by_cases h2:16<m.recs.length
 ·have HR:=zh (appE_b HW.out h2);cases z0 with
  |true=>have z1:=zb rfl;have z2:=zn rfl;clear zb zp zn;go_enter func84,ntmps84;go_wp2;go_ret;exact⟨ret_i HR.out.symm,ex⟩
  |false=>obtain⟨p1,p2,p3⟩:=zp rfl;clear zb zp zn;go_enter func84,ntmps84;go_wp2;go_ret;exact⟨ret_i HR.out.symm,ex⟩
 ·by_cases h3:recsE m.before m.term m.recs=0
  ·have hz:(recsE m.before m.term m.recs !=0)=false:=by simpa using h3
   have HR:=zh (appE_d HW.out h2 h3);clear h3;have hcase:m.acked<0∨(0≤m.acked∧256<m.acked)∨(0≤m.acked∧m.acked≤256):=by omega
   cases z0 with
   |true=>
    have z1:=zb rfl;have z2:=zn rfl;clear zb zp zn;rcases hcase with q|⟨q,q2⟩|⟨q,q2⟩
    ·have HV:=zh (HR.out.trans (if_neg (by rw[show za5 m.acked 0 256=false from decide_eq_false om];simp)));go_enter func84,ntmps84;go_wp2_with (go_at_call 83;refine zzg (zaM A c m.recs m.before m.term _ (HS.out.mono ex)) fun y=>?_);go_ret;exact⟨ret_i HV.out.symm,ex⟩
    ·have HV:=zh (HR.out.trans (if_neg (by rw[show za5 m.acked 0 256=false from decide_eq_false om];simp)));go_enter func84,ntmps84;go_wp2_with (go_at_call 83;refine zzg (zaM A c m.recs m.before m.term _ (HS.out.mono ex)) fun y=>?_);go_ret;exact⟨ret_i HV.out.symm,ex⟩
    ·have HV:=zh (HR.out.trans (if_pos (show za5 m.acked 0 256=true from decide_eq_true ⟨q,q2⟩)));go_enter func84,ntmps84;go_wp2_with (go_at_call 83;refine zzg (zaM A c m.recs m.before m.term _ (HS.out.mono ex)) fun y=>?_);go_ret;exact⟨ret_i HV.out.symm,ex⟩
   |false=>
    obtain⟨p1,p2,p3⟩:=zp rfl;clear zb zp zn;rcases hcase with q|⟨q,q2⟩|⟨q,q2⟩
    ·have HV:=zh (HR.out.trans (if_neg (by rw[show za5 m.acked 0 256=false from decide_eq_false om];simp)));go_enter func84,ntmps84;go_wp2_with (go_at_call 83;refine zzg (zaM A c m.recs m.before m.term _ (HS.out.mono ex)) fun y=>?_);go_ret;exact⟨ret_i HV.out.symm,ex⟩
    ·have HV:=zh (HR.out.trans (if_neg (by rw[show za5 m.acked 0 256=false from decide_eq_false om];simp)));go_enter func84,ntmps84;go_wp2_with (go_at_call 83;refine zzg (zaM A c m.recs m.before m.term _ (HS.out.mono ex)) fun y=>?_);go_ret;exact⟨ret_i HV.out.symm,ex⟩
    ·have HV:=zh (HR.out.trans (if_pos (show za5 m.acked 0 256=true from decide_eq_true ⟨q,q2⟩)));go_enter func84,ntmps84;go_wp2_with (go_at_call 83;refine zzg (zaM A c m.recs m.before m.term _ (HS.out.mono ex)) fun y=>?_);go_ret;exact⟨ret_i HV.out.symm,ex⟩
  ·have hz:(recsE m.before m.term m.recs !=0)=true:=by simpa using h3
   have HR:=zh (appE_c HW.out h2 h3);clear h3;cases z0 with
   |true=>have z1:=zb rfl;have z2:=zn rfl;clear zb zp zn;go_enter func84,ntmps84;go_wp2_with (go_at_call 83;refine zzg (zaM A c m.recs m.before m.term _ (HS.out.mono ex)) fun y=>?_);go_ret;exact⟨ret_i HR.out.symm,ex⟩
   |false=>obtain⟨p1,p2,p3⟩:=zp rfl;clear zb zp zn;go_enter func84,ntmps84;go_wp2_with (go_at_call 83;refine zzg (zaM A c m.recs m.before m.term _ (HS.out.mono ex)) fun y=>?_);go_ret;exact⟨ret_i HR.out.symm,ex⟩
theorem zwb (m:Msg)(A:Option Addr)(c:Nat)(w:World)(hs:za3 w A c m.recs)(h0:0≤m.at_):Calls prog 84 #[.agg (Lm m A c)] w fun e w'=>e=.returned (.int .i64 (appE m))∧Ext w w':=by
 cases hw:za5 m.before (zfO m) (mostB m) with
 |false=>
  have HR:=zh (appE_a hw);have hl:=hs.len;have hno:=zCX h0 hw;clear hw hs;rcases hno with⟨q,q2⟩|⟨q,q2⟩|⟨q,q2,q3⟩
  ·have z1:(m.at_==0)=true:=by simpa using q
   have z2:(m.before !=0)=true:=by simpa using q2
   have z3:m.at_≤0:=by omega
   clear q q2;go_enter func84,ntmps84;go_wp2;go_ret;exact⟨ret_i HR.out.symm,ex⟩
  ·have z1:(m.at_==0)=false:=by rw[beq_eq_false_iff_ne];omega
   go_enter func84,ntmps84;go_wp2;go_ret;exact⟨ret_i HR.out.symm,ex⟩
  ·have z1:(m.at_==0)=false:=by rw[beq_eq_false_iff_ne];omega
   go_enter func84,ntmps84;go_wp2;go_ret;exact⟨ret_i HR.out.symm,ex⟩
 |true=>
  have hok:=zCY h0 hw;refine zq2 m A c w hs hw _ rfl (fun h=> ?_) (fun h=> ?_) (fun h=> ?_)
  ·have h:=eq_of_beq h;rcases hok with⟨a,b⟩|⟨a,_⟩
   ·simpa using b
   ·omega
  ·have h:m.at_≠0:=by simpa using h
   rcases hok with⟨a,b⟩|h1
   ·exact absurd a h
   ·exact h1
  ·have h:=eq_of_beq h;omega
theorem zw5 (k:Int)(m:Msg)(hk:m.kind=k)(A:Option Addr)(c:Nat)(w:World)(hs:za3 w A c m.recs)(h1:za5 k 0 2=true)(h2:za5 m.term 1 1048576=true)(h3:za5 m.at_ 0 256=true):
  Calls prog 50 #[.agg #[k,m.term,m.at_,m.before,.slice A m.recs.length c,m.acked]] w fun e w'=>e=.returned (.int .i64 (msgE m))∧Ext w w':=by
 have hl:=hs.len;have HS:=zh hs;have HE:=zh (msgE_c (by rw[hk];exact h1) h2 h3);have i1:=(za8 h1).1;have i2:=(za8 h1).2;have i3:=(za8 h2).1;have i4:=(za8 h2).2;have i5:=(za8 h3).1;have i6:=(za8 h3).2;clear h1 h2 h3 hs;by_cases h0:k=0
 ·subst h0;have HV:=zh (show msgE m=appE m by rw[HE.out,if_pos hk]);have HC:=zh (fun(w:World) (h:za3 w A c m.recs)=>zwb m A c w h i5);rw[hk] at HC;clear hk i1 i2;go_enter func50,ntmps50;go_wp2_with (go_at_call 84;refine zzg (HC.out _ (HS.out.mono ex)) fun y=>?_);go_ret;exact⟨ret_i HV.out.symm,ex⟩
 ·have hz0:(k==0)=false:=by simpa using h0
  have HV:=zh (show msgE m=ansE m by rw[HE.out,if_neg (by rw[hk];exact h0)]);have yes:m.before=0→¬0<m.recs.length→m.acked=0→0=msgE m:=fun h1 h2 h3=>by
   rw[HV.out];unfold ansE;rw[if_neg];rintro(h|h|h)
   ·exact h h1
   ·exact h (List.eq_nil_of_length_eq_zero om)
   ·exact h h3
  have no:(m.before≠0∨0<m.recs.length∨m.acked≠0)→3=msgE m:=fun h=>by
   rw[HV.out];unfold ansE;rw[if_pos];rcases h with h|h|h
   ·exact .inl h
   ·exact .inr (.inl fun hn=>by rw[hn] at h;simp at h)
   ·exact .inr (.inr h)
  clear h0 hk;by_cases h1:m.before=0
  ·have hz:(m.before !=0)=false:=by simpa using h1
   by_cases h2:0<m.recs.length
   ·have HV:=zh (no (.inr (.inl h2)));clear yes no h1;go_enter func50,ntmps50;go_wp2;go_ret;exact⟨ret_i HV.out,ex⟩
   ·by_cases h3:m.acked=0
    ·have hz3:(m.acked !=0)=false:=by simpa using h3
     have HV:=zh (yes h1 h2 h3);clear yes no h1 h3;go_enter func50,ntmps50;go_wp2;go_ret;exact⟨ret_i HV.out,ex⟩
    ·have hz3:(m.acked !=0)=true:=by simpa using h3
     have HV:=zh (no (.inr (.inr h3)));clear yes no h1 h3;go_enter func50,ntmps50;go_wp2;go_ret;exact⟨ret_i HV.out,ex⟩
  ·have hz:(m.before !=0)=true:=by simpa using h1
   have HV:=zh (no (.inl h1));clear yes no h1;go_enter func50,ntmps50;go_wp2;go_ret;exact⟨ret_i HV.out,ex⟩
theorem zdR (m:Msg)(A:Option Addr)(c:Nat)(w:World)(hs:za3 w A c m.recs):Calls prog 50 #[.agg (Lm m A c)] w fun e w'=>e=.returned (.int .i64 (msgE m))∧Ext w w':=by
 have hl:=hs.len;cases h1:za5 m.kind 0 2 with
 |false=>
  have HR:=zh (msgE_a h1);have hor:=zaF h1;clear h1 hs;by_cases hc:m.kind<0
  ·clear hor;go_enter func50,ntmps50;go_wp2;go_ret;exact⟨ret_i HR.out.symm,ex⟩
  ·have h2:2<m.kind:=by omega
   clear hor;go_enter func50,ntmps50;go_wp2;go_ret;exact⟨ret_i HR.out.symm,ex⟩
 |true=>
  by_cases h23:za5 m.term 1 1048576=true∧za5 m.at_ 0 256=true
  ·exact zw5 m.kind m rfl A c w hs h1 h23.1 h23.2
  ·have HR:=zh (zDX (m:=m) h1 (by
    cases h2:za5 m.term 1 1048576 with
    |false=>exact .inl rfl
    |true=>
     cases h3:za5 m.at_ 0 256 with
     |false=>exact .inr rfl
     |true=>exact absurd ⟨h2,h3⟩ h23))
   have i1:=(za8 h1).1;have i2:=(za8 h1).2;have hcase:m.term<1∨(1≤m.term∧1048576<m.term)∨(1≤m.term∧m.term≤1048576∧m.at_<0)∨(1≤m.term∧m.term≤1048576∧0≤m.at_∧256<m.at_):=by
    by_cases hc:1≤m.term∧m.term≤1048576
    ·have:¬(0≤m.at_∧m.at_≤256):=fun h=>h23 ⟨decide_eq_true hc,decide_eq_true h⟩;omega
    ·omega
   clear h1 h23 hs;rcases hcase with q|⟨q,q2⟩|⟨q,q2,q3⟩|⟨q,q2,q3,q4⟩
   all_goals
    go_enter func50,ntmps50;go_wp2;go_ret;exact⟨ret_i HR.out.symm,ex⟩
