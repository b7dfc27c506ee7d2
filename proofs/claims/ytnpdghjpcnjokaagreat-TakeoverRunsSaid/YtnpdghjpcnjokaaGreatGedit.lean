import Derived.Test.YtnpdghjpcnjokaaGreatGlev
import Derived.Test.YtnpdghjpcnjokaaGreatGset
set_option maxHeartbeats 6400000
set_option maxRecDepth 100000
namespace Go.Proofs.YtnpdghjpcnjokaaGreat
open Go.RowKit Tryz

def eqF (f g:Fix):Bool:=decide (f=g)
@[go_sem high] theorem eqIn_fix (w : World) (a b d e f a' b' d' e' f' : Int) (c g c' g' : ByteArray) : (Op.equalIn 10000 95 (.agg #[a,b,.string c,d,e,f,.string g]) (.agg #[a',b',.string c',d',e',f',.string g'])).run prog w = .ok (eqF ⟨a,b,c,d,e,f,g⟩ ⟨a',b',c',d',e',f',g'⟩) w:=by
 have hS:prog.underlying 95 =some (.struct (prog.fieldsOf 95)):=by kernel_rfl
 have hp:prog.stoodInHeld 95 =false:=by kernel_rfl
 rw[show(10000:Nat)=9999+1 from rfl,run_equalIn_agg w 9999 95 _ _ hS hp];simp only[Program.fieldsOf,underlying95];go_simp;unfold eqF;simp only[Fix.mk.injEq];have hc:(c.toList=c'.toList)=(c=c'):=propext ⟨zdL,fun h=>by rw[h]⟩;have hg:(g.toList=g'.toList)=(g=g'):=propext ⟨zdL,fun h=>by rw[h]⟩;simp only[hc,hg];by_cases h1:a=a'
 ·by_cases h2:b=b'
  ·by_cases h3:c=c'
   ·by_cases h4:d=d'
    ·by_cases h5:e=e'
     ·by_cases h6:f=f'
      ·by_cases h7:g=g'<;>simp[h1,h2,h3,h4,h5,h6,h7]
      ·simp[h1,h2,h3,h4,h5,h6]
     ·simp[h1,h2,h3,h4,h5]
    ·simp[h1,h2,h3,h4]
   ·simp[h1,h2,h3]
  ·simp[h1,h2]
 ·simp[h1]
@[go_sem] theorem guard_fix (w : World) (op : BinOp) (x y : Operand) (xs ys : Array Value) : (eqGuard op 95 x y (.agg xs) (.agg ys)).run prog w = .ok () w:=run_eqGuard_agg w op _ x y xs ys kr

def zeroP (e:Edit):Bool:=decide (e.pn=0∧(e.hues.l.length:Int)=0)
def zeroG (e:Edit):Bool:=decide (e.gn=0∧(e.chans.l.length:Int)=0)
def zeroS (s:Sub):Bool:=decide (s.number=0∧s.prio=0∧s.inh=false∧(s.gains.l.length:Int)=0)
def zeroX (x:Eff):Bool:=decide (x.number=0∧x.attr=0∧(x.wave.l.length:Int)=0∧x.period=0∧x.spread=0∧x.size=0)
def noFix:Fix:=⟨0,0,⟨#[]⟩,0,0,0,⟨#[]⟩⟩

theorem zrS (e:Edit)(w:World):Calls prog 231 #[.agg (editR e).toArray] w fun r w'=>r=.returned (.bool (e.number==0))∧Ext w w':=by
 go_enter func231,ntmps231;go_wp2
 all_goals
  go_ret;refine⟨ret_b ?_,ex⟩
  first|rfl|(simp[*];done)|grind
theorem zrT (e:Edit)(w:World):Calls prog 232 #[.agg (editR e).toArray] w fun r w'=>r=.returned (.bool (e.ch==0))∧Ext w w':=by
 go_enter func232,ntmps232;go_wp2
 all_goals
  go_ret;refine⟨ret_b ?_,ex⟩
  first|rfl|(simp[*];done)|grind
theorem zrU (e:Edit)(w:World):Calls prog 233 #[.agg (editR e).toArray] w fun r w'=>r=.returned (.bool (e.prio==0))∧Ext w w':=by
 go_enter func233,ntmps233;go_wp2
 all_goals
  go_ret;refine⟨ret_b ?_,ex⟩
  first|rfl|(simp[*];done)|grind
theorem zrV (e:Edit)(w:World):Calls prog 234 #[.agg (editR e).toArray] w fun r w'=>r=.returned (.bool (e.key.toList.isEmpty))∧Ext w w':=by
 go_enter func234,ntmps234;go_wp2
 all_goals
  go_ret;refine⟨ret_b ?_,ex⟩
  first|rfl|(simp[*];done)|grind
theorem zrX (e:Edit)(w:World):Calls prog 236 #[.agg (editR e).toArray] w fun r w'=>r=.returned (.bool (zeroP e))∧Ext w w':=by
 go_enter func236,ntmps236;go_wp2
 all_goals
  go_ret;refine⟨ret_b ?_,ex⟩
  first|rfl|(simp[zeroP, *];done)|grind [zeroP]
theorem zrY (e:Edit)(w:World):Calls prog 237 #[.agg (editR e).toArray] w fun r w'=>r=.returned (.bool (zeroG e))∧Ext w w':=by
 go_enter func237,ntmps237;go_wp2
 all_goals
  go_ret;refine⟨ret_b ?_,ex⟩
  first|rfl|(simp[zeroG, *];done)|grind [zeroG]
theorem zrZ (e:Edit)(w:World):Calls prog 238 #[.agg (editR e).toArray] w fun r w'=>r=.returned (.bool (zeroS e.sub))∧Ext w w':=by
 go_enter func238,ntmps238;go_wp2
 all_goals
  go_ret;refine⟨ret_b ?_,ex⟩
  first|rfl|(simp[zeroS, *];done)|grind [zeroS]
theorem zpr (e:Edit)(w:World):Calls prog 239 #[.agg (editR e).toArray] w fun r w'=>r=.returned (.bool (zeroX e.eff))∧Ext w w':=by
 go_enter func239,ntmps239;go_wp2
 all_goals
  go_ret;refine⟨ret_b ?_,ex⟩
  first|rfl|(simp[zeroX, *];done)|grind [zeroX]

theorem zrW (e:Edit)(w:World)(he:zeT w e):Calls prog 235 #[.agg (editR e).toArray] w fun r w'=>r=.returned (.bool (decide (e.cue=zai)))∧Ext w w':=by have HE:=zh he.cue;clear he;go_enter func235,ntmps235;go_wp2_with (go_at_call 166;refine zzg (zt7 e.cue e.cA e.ck e.cB e.cm zai none 0 none 0 _ (HE.out.mono ex) ⟨Sl.nil _ _ _,Sl.nil _ _ _,by decide,by decide,by decide,by decide,by decide,by decide,by decide⟩) fun y=>?_);go_ret;exact⟨rfl,ex⟩
theorem zps (e:Edit)(w:World):Calls prog 240 #[.agg (editR e).toArray] w fun r w'=>r=.returned (.bool (decide (e.fix=noFix)))∧Ext w w':=by go_enter func240,ntmps240;go_wp2;go_ret;exact⟨rfl,ex⟩

def zcU (w:World) (b:Nat):Nat→List Int→Prop
 |_,[]=>True
 |o,x::r=>w.cell? ⟨b,o,none⟩=some (.int .i64 x)∧zcU w b (o+1) r
theorem zcU.get {w:World}{b:Nat}:∀{l:List Int} {o:Nat},zcU w b o l→∀j v,l[j]?=some v→w.cell? ⟨b,o+j,none⟩=some (.int .i64 v)
 |[],_,_,j,v,h=>by simp at h
 |x::r,o,hc,0,v,h=>by simp at h;subst h;exact hc.1
 |x::r,o,hc,j+1,v,h=>by have:=hc.2.get j v (by simpa using h);rwa [show o+1+j=o+(j+1) by omega] at this
theorem zcU.sl {w:World}{b:Nat}{l:List Int}(h:zcU w b 0 l):Sl w (some ⟨b,0,none⟩) 1 (l.map intR):=
 ⟨fun i row hr=>by
  rw[List.getElem?_map] at hr;cases hx:l[i]? with
  |none=>rw[hx] at hr;cases hr
  |some v=>
   rw[hx] at hr;simp at hr;subst hr;refine⟨rfl,b,0,rfl,fun j u hu=> ?_⟩
   match j with
   |0=>simp[intR] at hu;subst hu;have:=h.get i v hx;simpa using this
   |j+1=>simp[intR] at hu⟩
def useK:List (List Int):=[[0,1,2,4,6,8,10,12],[12],[2],[1,13],[0],[3],[5],[7],[9],[11]]
def useF:List Nat:=[231,232,233,234,235,236,237,238,239,240]
def useZ (e:Edit):List Bool:=[e.number==0,e.ch==0,e.prio==0,e.key.toList.isEmpty,decide (e.cue=zai),zeroP e,zeroG e,zeroS e.sub,zeroX e.eff,decide (e.fix=noFix)]
def zaq (e:Edit) (i:Nat):Bool:=!decide (e.kind∈useK.getD i []) && !(useZ e).getD i true
def editE (e:Edit):Int:=if e.kind<0∨13<e.kind then 1 else if(List.range 10).any (zaq e) then 3 else 0
def zzG (w:World) (b:Nat):Prop:=∃A:Nat→Option Addr,∀i ks f,useK[i]?=some ks→useF[i]?=some f→w.cell? ⟨b,i * 2,none⟩=some (.slice (A i) ks.length ks.length)∧w.cell? ⟨b,i * 2+1,none⟩=some (.func (Fn.func f) #[] #[])∧Sl w (A i) 1 (ks.map intR)
theorem zBb (A:Option Addr)(n c:Nat)(w:World):Calls prog 230 #[.slice A n c] w fun e w'=>e=.returned (.slice A n c)∧w=w':=by go_enter func230,ntmps230;go_wp2;go_ret;exact⟨rfl,rfl⟩
theorem zDb (w:World):Calls prog 200 #[] w fun e w'=> ∃b,e=.returned (.slice (some ⟨b,0,none⟩) 10 10)∧Ext w w'∧zzG w' b:=by
 go_enter func200,ntmps200;go_wp2_with (go_at_call 230;refine(zBb _ _ _ _).mono ?_;rintro e w' ⟨rfl,rfl⟩);go_ret;refine⟨_,rfl,ex,fun i=>some ⟨w.heap.size+i,0,none⟩,fun i ks f h1 h2=> ?_⟩
 match i with
 |0=>simp[useK,useF] at h1 h2;subst h1 h2;exact⟨by simp[go_sem],by simp[go_sem],zcU.sl (by simp[zcU,go_sem])⟩
 |1=>simp[useK,useF] at h1 h2;subst h1 h2;exact⟨by simp[go_sem],by simp[go_sem],zcU.sl (by simp[zcU,go_sem])⟩
 |2=>simp[useK,useF] at h1 h2;subst h1 h2;exact⟨by simp[go_sem],by simp[go_sem],zcU.sl (by simp[zcU,go_sem])⟩
 |3=>simp[useK,useF] at h1 h2;subst h1 h2;exact⟨by simp[go_sem],by simp[go_sem],zcU.sl (by simp[zcU,go_sem])⟩
 |4=>simp[useK,useF] at h1 h2;subst h1 h2;exact⟨by simp[go_sem],by simp[go_sem],zcU.sl (by simp[zcU,go_sem])⟩
 |5=>simp[useK,useF] at h1 h2;subst h1 h2;exact⟨by simp[go_sem],by simp[go_sem],zcU.sl (by simp[zcU,go_sem])⟩
 |6=>simp[useK,useF] at h1 h2;subst h1 h2;exact⟨by simp[go_sem],by simp[go_sem],zcU.sl (by simp[zcU,go_sem])⟩
 |7=>simp[useK,useF] at h1 h2;subst h1 h2;exact⟨by simp[go_sem],by simp[go_sem],zcU.sl (by simp[zcU,go_sem])⟩
 |8=>simp[useK,useF] at h1 h2;subst h1 h2;exact⟨by simp[go_sem],by simp[go_sem],zcU.sl (by simp[zcU,go_sem])⟩
 |9=>simp[useK,useF] at h1 h2;subst h1 h2;exact⟨by simp[go_sem],by simp[go_sem],zcU.sl (by simp[zcU,go_sem])⟩
 |i+10=>simp[useK] at h1

theorem zaP {e:Edit}{k:Nat}(h:∀i,i<k→zaq e i=false)(hk:zaq e k=false):∀i,i<k+1→zaq e i=false:=fun i hi=>by
 rcases Nat.lt_or_ge i k with h1|h1
 ·exact h i h1
 ·have:i=k:=by omega
  subst this;exact hk
theorem zdM {e:Edit}{k:Nat}(h1:¬(e.kind<0∨13<e.kind))(hk:k<10)(h:zaq e k=true):editE e=3:=by unfold editE;rw[if_neg h1,if_pos (List.any_eq_true.2 ⟨k,List.mem_range.2 hk,h⟩)]
theorem zB9 {e:Edit}(h1:¬(e.kind<0∨13<e.kind))(h:∀i,i<10→zaq e i=false):editE e=0:=by
 unfold editE;rw[if_neg h1,if_neg (fun hh=>by obtain⟨i,hi,hb⟩:=List.any_eq_true.1 hh;rw[h i (List.mem_range.1 hi)] at hb;cases hb)]

theorem zBa (e:Edit)(w:World)(he:zeT w e):Calls prog 164 #[.agg (editR e).toArray] w fun r w'=>r=.returned (.int .i64 (editE e))∧Ext w w':=by
 have HE:=zh he;clear he;by_cases hk:e.kind<0∨13<e.kind
 ·have HV:=zh (show editE e=1 by unfold editE;rw[if_pos hk]);rcases(by omega:e.kind<0∨(0≤e.kind∧13<e.kind)) with h|⟨h,h'⟩
  all_goals
   clear hk;go_enter func164,ntmps164;go_wp2;go_ret;exact⟨ret_i HV.out.symm,ex⟩
 ·have HK:=zh hk;have h0:0≤e.kind:=by omega
  have h13:e.kind≤13:=by omega
  clear hk;go_enter func164,ntmps164;go_wp2_with (go_at_call 200;refine(zDb _).mono ?_;rintro r w1 ⟨b,rfl,hx,hu⟩;have HU:=zh hu;have HX:=zh hx;have c0:w1.cell? ⟨w.heap.size,0,none⟩=some (.int .i64 e.kind):=hx.cell sg;have HR:=zh (za4 (zag w rfl (editR e) 97) hx);clear hx hu);have hxw:Ext w w1:=Ext.trans ex HX.out;go_loopw [15] (fun i wr=> ∃k:Nat,k≤10∧i=.int .i64 k∧Ext w1 wr∧Hid (∀i,i<k→zaq e i=false)) (fun i _=>10 - (intOf i).toNat)
  case atStart => exact ⟨0,by omega,rfl,Ext.refl _,zh (fun i hi => absurd hi om)⟩
  case round =>
   obtain⟨k,hk,rfl,hx,HB⟩:=hrel;obtain⟨y,rfl⟩:=hx.get;clear hx;obtain⟨A,hA⟩:=HU.out
   match k,hk with
   |0,_=>
    obtain⟨u0,u1,hsl⟩:=hA 0 _ _ rfl rfl;have HSl:=zh hsl;clear hA hsl;simp only[List.length_cons,List.length_nil] at u0;by_cases hc:e.kind∈([0,1,2,4,6,8,10,12]:List Int)
    ·have HC:=zh (decide_eq_true hc);have HN:=zh (show zaq e 0=false by unfold zaq;rw[show useK.getD 0 []=[0,1,2,4,6,8,10,12] from rfl,HC.out];rfl);clear hc;go_wp2_with (go_at_call 199;refine(zaD _ 8 [0,1,2,4,6,8,10,12] e.kind _ (HSl.out.mono ex) dk).mono ?_;rintro r w' ⟨rfl,rfl⟩;rw[HC.out]);go_light;exact⟨⟨1,by omega,by rfl,ex,zh (zaP HB.out HN.out)⟩,by simp[intOf]⟩
    ·have HC:=zh (decide_eq_false hc);clear hc;cases hz:(useZ e).getD 0 true
     ·have HN:=zh (show zaq e 0=true by unfold zaq;rw[show useK.getD 0 []=[0,1,2,4,6,8,10,12] from rfl,HC.out,hz];rfl);have HZ:=zh hz;clear hz
      go_wp2_with (first
       |(go_at_call 199;refine(zaD _ 8 [0,1,2,4,6,8,10,12] e.kind _ (HSl.out.mono ex) dk).mono ?_;rintro r w' ⟨rfl,rfl⟩;rw[HC.out])
       |(refine wpList_load_row rfl 97 _ rfl w.heap.size 0 rfl (editR e) _ (za4 HR.out ex) underlying97 rfl kr ?_)
       |(go_at_call 231;refine(zrS e _).mono ?_;rintro r w' ⟨he,hx⟩;rw[show(e.number==0)=false from HZ.out] at he;subst he;obtain⟨y2,rfl⟩:=hx.get;clear hx))
      go_ret;exact⟨ret_i (zdM HK.out dk HN.out).symm,ex⟩
     ·have HN:=zh (show zaq e 0=false by unfold zaq;rw[hz];simp);have HZ:=zh hz;clear hz
      go_wp2_with (first
       |(go_at_call 199;refine(zaD _ 8 [0,1,2,4,6,8,10,12] e.kind _ (HSl.out.mono ex) dk).mono ?_;rintro r w' ⟨rfl,rfl⟩;rw[HC.out])
       |(refine wpList_load_row rfl 97 _ rfl w.heap.size 0 rfl (editR e) _ (za4 HR.out ex) underlying97 rfl kr ?_)
       |(go_at_call 231;refine(zrS e _).mono ?_;rintro r w' ⟨he,hx⟩;rw[show(e.number==0)=true from HZ.out] at he;subst he;obtain⟨y2,rfl⟩:=hx.get;clear hx))
      go_light;exact⟨⟨1,by omega,by rfl,ex,zh (zaP HB.out HN.out)⟩,by simp[intOf]⟩
   |1,_=>
    obtain⟨u0,u1,hsl⟩:=hA 1 _ _ rfl rfl;have HSl:=zh hsl;clear hA hsl;simp only[List.length_cons,List.length_nil] at u0;by_cases hc:e.kind∈([12]:List Int)
    ·have HC:=zh (decide_eq_true hc);have HN:=zh (show zaq e 1=false by unfold zaq;rw[show useK.getD 1 []=[12] from rfl,HC.out];rfl);clear hc;go_wp2_with (go_at_call 199;refine(zaD _ 1 [12] e.kind _ (HSl.out.mono ex) dk).mono ?_;rintro r w' ⟨rfl,rfl⟩;rw[HC.out]);go_light;exact⟨⟨2,by omega,by rfl,ex,zh (zaP HB.out HN.out)⟩,by simp[intOf]⟩
    ·have HC:=zh (decide_eq_false hc);clear hc;cases hz:(useZ e).getD 1 true
     ·have HN:=zh (show zaq e 1=true by unfold zaq;rw[show useK.getD 1 []=[12] from rfl,HC.out,hz];rfl);have HZ:=zh hz;clear hz
      go_wp2_with (first
       |(go_at_call 199;refine(zaD _ 1 [12] e.kind _ (HSl.out.mono ex) dk).mono ?_;rintro r w' ⟨rfl,rfl⟩;rw[HC.out])
       |(refine wpList_load_row rfl 97 _ rfl w.heap.size 0 rfl (editR e) _ (za4 HR.out ex) underlying97 rfl kr ?_)
       |(go_at_call 232;refine(zrT e _).mono ?_;rintro r w' ⟨he,hx⟩;rw[show(e.ch==0)=false from HZ.out] at he;subst he;obtain⟨y2,rfl⟩:=hx.get;clear hx))
      go_ret;exact⟨ret_i (zdM HK.out dk HN.out).symm,ex⟩
     ·have HN:=zh (show zaq e 1=false by unfold zaq;rw[hz];simp);have HZ:=zh hz;clear hz
      go_wp2_with (first
       |(go_at_call 199;refine(zaD _ 1 [12] e.kind _ (HSl.out.mono ex) dk).mono ?_;rintro r w' ⟨rfl,rfl⟩;rw[HC.out])
       |(refine wpList_load_row rfl 97 _ rfl w.heap.size 0 rfl (editR e) _ (za4 HR.out ex) underlying97 rfl kr ?_)
       |(go_at_call 232;refine(zrT e _).mono ?_;rintro r w' ⟨he,hx⟩;rw[show(e.ch==0)=true from HZ.out] at he;subst he;obtain⟨y2,rfl⟩:=hx.get;clear hx))
      go_light;exact⟨⟨2,by omega,by rfl,ex,zh (zaP HB.out HN.out)⟩,by simp[intOf]⟩
   |2,_=>
    obtain⟨u0,u1,hsl⟩:=hA 2 _ _ rfl rfl;have HSl:=zh hsl;clear hA hsl;simp only[List.length_cons,List.length_nil] at u0;by_cases hc:e.kind∈([2]:List Int)
    ·have HC:=zh (decide_eq_true hc);have HN:=zh (show zaq e 2=false by unfold zaq;rw[show useK.getD 2 []=[2] from rfl,HC.out];rfl);clear hc;go_wp2_with (go_at_call 199;refine(zaD _ 1 [2] e.kind _ (HSl.out.mono ex) dk).mono ?_;rintro r w' ⟨rfl,rfl⟩;rw[HC.out]);go_light;exact⟨⟨3,by omega,by rfl,ex,zh (zaP HB.out HN.out)⟩,by simp[intOf]⟩
    ·have HC:=zh (decide_eq_false hc);clear hc;cases hz:(useZ e).getD 2 true
     ·have HN:=zh (show zaq e 2=true by unfold zaq;rw[show useK.getD 2 []=[2] from rfl,HC.out,hz];rfl);have HZ:=zh hz;clear hz
      go_wp2_with (first
       |(go_at_call 199;refine(zaD _ 1 [2] e.kind _ (HSl.out.mono ex) dk).mono ?_;rintro r w' ⟨rfl,rfl⟩;rw[HC.out])
       |(refine wpList_load_row rfl 97 _ rfl w.heap.size 0 rfl (editR e) _ (za4 HR.out ex) underlying97 rfl kr ?_)
       |(go_at_call 233;refine(zrU e _).mono ?_;rintro r w' ⟨he,hx⟩;rw[show(e.prio==0)=false from HZ.out] at he;subst he;obtain⟨y2,rfl⟩:=hx.get;clear hx))
      go_ret;exact⟨ret_i (zdM HK.out dk HN.out).symm,ex⟩
     ·have HN:=zh (show zaq e 2=false by unfold zaq;rw[hz];simp);have HZ:=zh hz;clear hz
      go_wp2_with (first
       |(go_at_call 199;refine(zaD _ 1 [2] e.kind _ (HSl.out.mono ex) dk).mono ?_;rintro r w' ⟨rfl,rfl⟩;rw[HC.out])
       |(refine wpList_load_row rfl 97 _ rfl w.heap.size 0 rfl (editR e) _ (za4 HR.out ex) underlying97 rfl kr ?_)
       |(go_at_call 233;refine(zrU e _).mono ?_;rintro r w' ⟨he,hx⟩;rw[show(e.prio==0)=true from HZ.out] at he;subst he;obtain⟨y2,rfl⟩:=hx.get;clear hx))
      go_light;exact⟨⟨3,by omega,by rfl,ex,zh (zaP HB.out HN.out)⟩,by simp[intOf]⟩
   |3,_=>
    obtain⟨u0,u1,hsl⟩:=hA 3 _ _ rfl rfl;have HSl:=zh hsl;clear hA hsl;simp only[List.length_cons,List.length_nil] at u0;by_cases hc:e.kind∈([1,13]:List Int)
    ·have HC:=zh (decide_eq_true hc);have HN:=zh (show zaq e 3=false by unfold zaq;rw[show useK.getD 3 []=[1,13] from rfl,HC.out];rfl);clear hc;go_wp2_with (go_at_call 199;refine(zaD _ 2 [1,13] e.kind _ (HSl.out.mono ex) dk).mono ?_;rintro r w' ⟨rfl,rfl⟩;rw[HC.out]);go_light;exact⟨⟨4,by omega,by rfl,ex,zh (zaP HB.out HN.out)⟩,by simp[intOf]⟩
    ·have HC:=zh (decide_eq_false hc);clear hc;cases hz:(useZ e).getD 3 true
     ·have HN:=zh (show zaq e 3=true by unfold zaq;rw[show useK.getD 3 []=[1,13] from rfl,HC.out,hz];rfl);have HZ:=zh hz;clear hz
      go_wp2_with (first
       |(go_at_call 199;refine(zaD _ 2 [1,13] e.kind _ (HSl.out.mono ex) dk).mono ?_;rintro r w' ⟨rfl,rfl⟩;rw[HC.out])
       |(refine wpList_load_row rfl 97 _ rfl w.heap.size 0 rfl (editR e) _ (za4 HR.out ex) underlying97 rfl kr ?_)
       |(go_at_call 234;refine(zrV e _).mono ?_;rintro r w' ⟨he,hx⟩;rw[show e.key.toList.isEmpty=false from HZ.out] at he;subst he;obtain⟨y2,rfl⟩:=hx.get;clear hx))
      go_ret;exact⟨ret_i (zdM HK.out dk HN.out).symm,ex⟩
     ·have HN:=zh (show zaq e 3=false by unfold zaq;rw[hz];simp);have HZ:=zh hz;clear hz
      go_wp2_with (first
       |(go_at_call 199;refine(zaD _ 2 [1,13] e.kind _ (HSl.out.mono ex) dk).mono ?_;rintro r w' ⟨rfl,rfl⟩;rw[HC.out])
       |(refine wpList_load_row rfl 97 _ rfl w.heap.size 0 rfl (editR e) _ (za4 HR.out ex) underlying97 rfl kr ?_)
       |(go_at_call 234;refine(zrV e _).mono ?_;rintro r w' ⟨he,hx⟩;rw[show e.key.toList.isEmpty=true from HZ.out] at he;subst he;obtain⟨y2,rfl⟩:=hx.get;clear hx))
      go_light;exact⟨⟨4,by omega,by rfl,ex,zh (zaP HB.out HN.out)⟩,by simp[intOf]⟩
   |4,_=>
    obtain⟨u0,u1,hsl⟩:=hA 4 _ _ rfl rfl;have HSl:=zh hsl;clear hA hsl;simp only[List.length_cons,List.length_nil] at u0;by_cases hc:e.kind∈([0]:List Int)
    ·have HC:=zh (decide_eq_true hc);have HN:=zh (show zaq e 4=false by unfold zaq;rw[show useK.getD 4 []=[0] from rfl,HC.out];rfl);clear hc;go_wp2_with (go_at_call 199;refine(zaD _ 1 [0] e.kind _ (HSl.out.mono ex) dk).mono ?_;rintro r w' ⟨rfl,rfl⟩;rw[HC.out]);go_light;exact⟨⟨5,by omega,by rfl,ex,zh (zaP HB.out HN.out)⟩,by simp[intOf]⟩
    ·have HC:=zh (decide_eq_false hc);clear hc;cases hz:(useZ e).getD 4 true
     ·have HN:=zh (show zaq e 4=true by unfold zaq;rw[show useK.getD 4 []=[0] from rfl,HC.out,hz];rfl);have HZ:=zh hz;clear hz
      go_wp2_with (first
       |(go_at_call 199;refine(zaD _ 1 [0] e.kind _ (HSl.out.mono ex) dk).mono ?_;rintro r w' ⟨rfl,rfl⟩;rw[HC.out])
       |(refine wpList_load_row rfl 97 _ rfl w.heap.size 0 rfl (editR e) _ (za4 HR.out ex) underlying97 rfl kr ?_)
       |(go_at_call 235;refine(zrW e _ (HE.out.mono (by repeat(first|exact Ext.refl _|assumption|apply Ext.xt|apply Ext.alloc|apply Ext.drew|apply Ext.drewN|refine Ext.trans ?_ (by assumption))))).mono ?_;rintro r w' ⟨he,hx⟩;rw[show decide (e.cue=zai)=false from HZ.out] at he;subst he;obtain⟨y2,rfl⟩:=hx.get;clear hx))
      go_ret;exact⟨ret_i (zdM HK.out dk HN.out).symm,ex⟩
     ·have HN:=zh (show zaq e 4=false by unfold zaq;rw[hz];simp);have HZ:=zh hz;clear hz
      go_wp2_with (first
       |(go_at_call 199;refine(zaD _ 1 [0] e.kind _ (HSl.out.mono ex) dk).mono ?_;rintro r w' ⟨rfl,rfl⟩;rw[HC.out])
       |(refine wpList_load_row rfl 97 _ rfl w.heap.size 0 rfl (editR e) _ (za4 HR.out ex) underlying97 rfl kr ?_)
       |(go_at_call 235;refine(zrW e _ (HE.out.mono (by repeat(first|exact Ext.refl _|assumption|apply Ext.xt|apply Ext.alloc|apply Ext.drew|apply Ext.drewN|refine Ext.trans ?_ (by assumption))))).mono ?_;rintro r w' ⟨he,hx⟩;rw[show decide (e.cue=zai)=true from HZ.out] at he;subst he;obtain⟨y2,rfl⟩:=hx.get;clear hx))
      go_light;exact⟨⟨5,by omega,by rfl,ex,zh (zaP HB.out HN.out)⟩,by simp[intOf]⟩
   |5,_=>
    obtain⟨u0,u1,hsl⟩:=hA 5 _ _ rfl rfl;have HSl:=zh hsl;clear hA hsl;simp only[List.length_cons,List.length_nil] at u0;by_cases hc:e.kind∈([3]:List Int)
    ·have HC:=zh (decide_eq_true hc);have HN:=zh (show zaq e 5=false by unfold zaq;rw[show useK.getD 5 []=[3] from rfl,HC.out];rfl);clear hc;go_wp2_with (go_at_call 199;refine(zaD _ 1 [3] e.kind _ (HSl.out.mono ex) dk).mono ?_;rintro r w' ⟨rfl,rfl⟩;rw[HC.out]);go_light;exact⟨⟨6,by omega,by rfl,ex,zh (zaP HB.out HN.out)⟩,by simp[intOf]⟩
    ·have HC:=zh (decide_eq_false hc);clear hc;cases hz:(useZ e).getD 5 true
     ·have HN:=zh (show zaq e 5=true by unfold zaq;rw[show useK.getD 5 []=[3] from rfl,HC.out,hz];rfl);have HZ:=zh hz;clear hz
      go_wp2_with (first
       |(go_at_call 199;refine(zaD _ 1 [3] e.kind _ (HSl.out.mono ex) dk).mono ?_;rintro r w' ⟨rfl,rfl⟩;rw[HC.out])
       |(refine wpList_load_row rfl 97 _ rfl w.heap.size 0 rfl (editR e) _ (za4 HR.out ex) underlying97 rfl kr ?_)
       |(go_at_call 236;refine(zrX e _).mono ?_;rintro r w' ⟨he,hx⟩;rw[show zeroP e=false from HZ.out] at he;subst he;obtain⟨y2,rfl⟩:=hx.get;clear hx))
      go_ret;exact⟨ret_i (zdM HK.out dk HN.out).symm,ex⟩
     ·have HN:=zh (show zaq e 5=false by unfold zaq;rw[hz];simp);have HZ:=zh hz;clear hz
      go_wp2_with (first
       |(go_at_call 199;refine(zaD _ 1 [3] e.kind _ (HSl.out.mono ex) dk).mono ?_;rintro r w' ⟨rfl,rfl⟩;rw[HC.out])
       |(refine wpList_load_row rfl 97 _ rfl w.heap.size 0 rfl (editR e) _ (za4 HR.out ex) underlying97 rfl kr ?_)
       |(go_at_call 236;refine(zrX e _).mono ?_;rintro r w' ⟨he,hx⟩;rw[show zeroP e=true from HZ.out] at he;subst he;obtain⟨y2,rfl⟩:=hx.get;clear hx))
      go_light;exact⟨⟨6,by omega,by rfl,ex,zh (zaP HB.out HN.out)⟩,by simp[intOf]⟩
   |6,_=>
    obtain⟨u0,u1,hsl⟩:=hA 6 _ _ rfl rfl;have HSl:=zh hsl;clear hA hsl;simp only[List.length_cons,List.length_nil] at u0;by_cases hc:e.kind∈([5]:List Int)
    ·have HC:=zh (decide_eq_true hc);have HN:=zh (show zaq e 6=false by unfold zaq;rw[show useK.getD 6 []=[5] from rfl,HC.out];rfl);clear hc;go_wp2_with (go_at_call 199;refine(zaD _ 1 [5] e.kind _ (HSl.out.mono ex) dk).mono ?_;rintro r w' ⟨rfl,rfl⟩;rw[HC.out]);go_light;exact⟨⟨7,by omega,by rfl,ex,zh (zaP HB.out HN.out)⟩,by simp[intOf]⟩
    ·have HC:=zh (decide_eq_false hc);clear hc;cases hz:(useZ e).getD 6 true
     ·have HN:=zh (show zaq e 6=true by unfold zaq;rw[show useK.getD 6 []=[5] from rfl,HC.out,hz];rfl);have HZ:=zh hz;clear hz
      go_wp2_with (first
       |(go_at_call 199;refine(zaD _ 1 [5] e.kind _ (HSl.out.mono ex) dk).mono ?_;rintro r w' ⟨rfl,rfl⟩;rw[HC.out])
       |(refine wpList_load_row rfl 97 _ rfl w.heap.size 0 rfl (editR e) _ (za4 HR.out ex) underlying97 rfl kr ?_)
       |(go_at_call 237;refine(zrY e _).mono ?_;rintro r w' ⟨he,hx⟩;rw[show zeroG e=false from HZ.out] at he;subst he;obtain⟨y2,rfl⟩:=hx.get;clear hx))
      go_ret;exact⟨ret_i (zdM HK.out dk HN.out).symm,ex⟩
     ·have HN:=zh (show zaq e 6=false by unfold zaq;rw[hz];simp);have HZ:=zh hz;clear hz
      go_wp2_with (first
       |(go_at_call 199;refine(zaD _ 1 [5] e.kind _ (HSl.out.mono ex) dk).mono ?_;rintro r w' ⟨rfl,rfl⟩;rw[HC.out])
       |(refine wpList_load_row rfl 97 _ rfl w.heap.size 0 rfl (editR e) _ (za4 HR.out ex) underlying97 rfl kr ?_)
       |(go_at_call 237;refine(zrY e _).mono ?_;rintro r w' ⟨he,hx⟩;rw[show zeroG e=true from HZ.out] at he;subst he;obtain⟨y2,rfl⟩:=hx.get;clear hx))
      go_light;exact⟨⟨7,by omega,by rfl,ex,zh (zaP HB.out HN.out)⟩,by simp[intOf]⟩
   |7,_=>
    obtain⟨u0,u1,hsl⟩:=hA 7 _ _ rfl rfl;have HSl:=zh hsl;clear hA hsl;simp only[List.length_cons,List.length_nil] at u0;by_cases hc:e.kind∈([7]:List Int)
    ·have HC:=zh (decide_eq_true hc);have HN:=zh (show zaq e 7=false by unfold zaq;rw[show useK.getD 7 []=[7] from rfl,HC.out];rfl);clear hc;go_wp2_with (go_at_call 199;refine(zaD _ 1 [7] e.kind _ (HSl.out.mono ex) dk).mono ?_;rintro r w' ⟨rfl,rfl⟩;rw[HC.out]);go_light;exact⟨⟨8,by omega,by rfl,ex,zh (zaP HB.out HN.out)⟩,by simp[intOf]⟩
    ·have HC:=zh (decide_eq_false hc);clear hc;cases hz:(useZ e).getD 7 true
     ·have HN:=zh (show zaq e 7=true by unfold zaq;rw[show useK.getD 7 []=[7] from rfl,HC.out,hz];rfl);have HZ:=zh hz;clear hz
      go_wp2_with (first
       |(go_at_call 199;refine(zaD _ 1 [7] e.kind _ (HSl.out.mono ex) dk).mono ?_;rintro r w' ⟨rfl,rfl⟩;rw[HC.out])
       |(refine wpList_load_row rfl 97 _ rfl w.heap.size 0 rfl (editR e) _ (za4 HR.out ex) underlying97 rfl kr ?_)
       |(go_at_call 238;refine(zrZ e _).mono ?_;rintro r w' ⟨he,hx⟩;rw[show zeroS e.sub=false from HZ.out] at he;subst he;obtain⟨y2,rfl⟩:=hx.get;clear hx))
      go_ret;exact⟨ret_i (zdM HK.out dk HN.out).symm,ex⟩
     ·have HN:=zh (show zaq e 7=false by unfold zaq;rw[hz];simp);have HZ:=zh hz;clear hz
      go_wp2_with (first
       |(go_at_call 199;refine(zaD _ 1 [7] e.kind _ (HSl.out.mono ex) dk).mono ?_;rintro r w' ⟨rfl,rfl⟩;rw[HC.out])
       |(refine wpList_load_row rfl 97 _ rfl w.heap.size 0 rfl (editR e) _ (za4 HR.out ex) underlying97 rfl kr ?_)
       |(go_at_call 238;refine(zrZ e _).mono ?_;rintro r w' ⟨he,hx⟩;rw[show zeroS e.sub=true from HZ.out] at he;subst he;obtain⟨y2,rfl⟩:=hx.get;clear hx))
      go_light;exact⟨⟨8,by omega,by rfl,ex,zh (zaP HB.out HN.out)⟩,by simp[intOf]⟩
   |8,_=>
    obtain⟨u0,u1,hsl⟩:=hA 8 _ _ rfl rfl;have HSl:=zh hsl;clear hA hsl;simp only[List.length_cons,List.length_nil] at u0;by_cases hc:e.kind∈([9]:List Int)
    ·have HC:=zh (decide_eq_true hc);have HN:=zh (show zaq e 8=false by unfold zaq;rw[show useK.getD 8 []=[9] from rfl,HC.out];rfl);clear hc;go_wp2_with (go_at_call 199;refine(zaD _ 1 [9] e.kind _ (HSl.out.mono ex) dk).mono ?_;rintro r w' ⟨rfl,rfl⟩;rw[HC.out]);go_light;exact⟨⟨9,by omega,by rfl,ex,zh (zaP HB.out HN.out)⟩,by simp[intOf]⟩
    ·have HC:=zh (decide_eq_false hc);clear hc;cases hz:(useZ e).getD 8 true
     ·have HN:=zh (show zaq e 8=true by unfold zaq;rw[show useK.getD 8 []=[9] from rfl,HC.out,hz];rfl);have HZ:=zh hz;clear hz
      go_wp2_with (first
       |(go_at_call 199;refine(zaD _ 1 [9] e.kind _ (HSl.out.mono ex) dk).mono ?_;rintro r w' ⟨rfl,rfl⟩;rw[HC.out])
       |(refine wpList_load_row rfl 97 _ rfl w.heap.size 0 rfl (editR e) _ (za4 HR.out ex) underlying97 rfl kr ?_)
       |(go_at_call 239;refine(zpr e _).mono ?_;rintro r w' ⟨he,hx⟩;rw[show zeroX e.eff=false from HZ.out] at he;subst he;obtain⟨y2,rfl⟩:=hx.get;clear hx))
      go_ret;exact⟨ret_i (zdM HK.out dk HN.out).symm,ex⟩
     ·have HN:=zh (show zaq e 8=false by unfold zaq;rw[hz];simp);have HZ:=zh hz;clear hz
      go_wp2_with (first
       |(go_at_call 199;refine(zaD _ 1 [9] e.kind _ (HSl.out.mono ex) dk).mono ?_;rintro r w' ⟨rfl,rfl⟩;rw[HC.out])
       |(refine wpList_load_row rfl 97 _ rfl w.heap.size 0 rfl (editR e) _ (za4 HR.out ex) underlying97 rfl kr ?_)
       |(go_at_call 239;refine(zpr e _).mono ?_;rintro r w' ⟨he,hx⟩;rw[show zeroX e.eff=true from HZ.out] at he;subst he;obtain⟨y2,rfl⟩:=hx.get;clear hx))
      go_light;exact⟨⟨9,by omega,by rfl,ex,zh (zaP HB.out HN.out)⟩,by simp[intOf]⟩
   |9,_=>
    obtain⟨u0,u1,hsl⟩:=hA 9 _ _ rfl rfl;have HSl:=zh hsl;clear hA hsl;simp only[List.length_cons,List.length_nil] at u0;by_cases hc:e.kind∈([11]:List Int)
    ·have HC:=zh (decide_eq_true hc);have HN:=zh (show zaq e 9=false by unfold zaq;rw[show useK.getD 9 []=[11] from rfl,HC.out];rfl);clear hc;go_wp2_with (go_at_call 199;refine(zaD _ 1 [11] e.kind _ (HSl.out.mono ex) dk).mono ?_;rintro r w' ⟨rfl,rfl⟩;rw[HC.out]);go_light;exact⟨⟨10,by omega,by rfl,ex,zh (zaP HB.out HN.out)⟩,by simp[intOf]⟩
    ·have HC:=zh (decide_eq_false hc);clear hc;cases hz:(useZ e).getD 9 true
     ·have HN:=zh (show zaq e 9=true by unfold zaq;rw[show useK.getD 9 []=[11] from rfl,HC.out,hz];rfl);have HZ:=zh hz;clear hz
      go_wp2_with (first
       |(go_at_call 199;refine(zaD _ 1 [11] e.kind _ (HSl.out.mono ex) dk).mono ?_;rintro r w' ⟨rfl,rfl⟩;rw[HC.out])
       |(refine wpList_load_row rfl 97 _ rfl w.heap.size 0 rfl (editR e) _ (za4 HR.out ex) underlying97 rfl kr ?_)
       |(go_at_call 240;refine(zps e _).mono ?_;rintro r w' ⟨he,hx⟩;rw[show decide (e.fix=noFix)=false from HZ.out] at he;subst he;obtain⟨y2,rfl⟩:=hx.get;clear hx))
      go_ret;exact⟨ret_i (zdM HK.out dk HN.out).symm,ex⟩
     ·have HN:=zh (show zaq e 9=false by unfold zaq;rw[hz];simp);have HZ:=zh hz;clear hz
      go_wp2_with (first
       |(go_at_call 199;refine(zaD _ 1 [11] e.kind _ (HSl.out.mono ex) dk).mono ?_;rintro r w' ⟨rfl,rfl⟩;rw[HC.out])
       |(refine wpList_load_row rfl 97 _ rfl w.heap.size 0 rfl (editR e) _ (za4 HR.out ex) underlying97 rfl kr ?_)
       |(go_at_call 240;refine(zps e _).mono ?_;rintro r w' ⟨he,hx⟩;rw[show decide (e.fix=noFix)=true from HZ.out] at he;subst he;obtain⟨y2,rfl⟩:=hx.get;clear hx))
      go_light;exact⟨⟨10,by omega,by rfl,ex,zh (zaP HB.out HN.out)⟩,by simp[intOf]⟩
   |10,_=>clear hA;have HV:=zh (zB9 HK.out HB.out);go_wp2;go_ret;exact⟨ret_i HV.out.symm,ex⟩
   |k+11,hk=>omega
