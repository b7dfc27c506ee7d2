import Derived.Test.YtnpdghjpcnjokaaGreatGtkp
import Derived.Test.YtnpdghjpcnjokaaGreatGstay
set_option maxHeartbeats 6400000
set_option maxRecDepth 100000
set_option linter.all false
namespace Go.Proofs.YtnpdghjpcnjokaaGreat
open Go.RowKit Go.Proofs.Tryz

theorem zCe (a lo hi:Int)(w:World):Calls prog 33 #[a,lo,hi] w fun e w'=>e=.returned (.bool (za5 a lo hi))∧w=w':=by
 by_cases h1:lo≤a
 ·by_cases h2:a≤hi
  ·have HV:=zh (show true=za5 a lo hi from(decide_eq_true ⟨h1,h2⟩).symm);go_enter func33,ntmps33;go_wp2;go_ret;exact⟨ret_b HV.out,rfl⟩
  ·have HV:=zh (show false=za5 a lo hi from(decide_eq_false om).symm);go_enter func33,ntmps33;go_wp2;go_ret;exact⟨ret_b HV.out,rfl⟩
 ·have HV:=zh (show false=za5 a lo hi from(decide_eq_false om).symm);go_enter func33,ntmps33;go_wp2;go_ret;exact⟨ret_b HV.out,rfl⟩

theorem zGv {x:Ltr}(h:za5 x.dst 1 2=false∨za5 x.at_ 0 1048576=false):ltrE x=2:=by unfold ltrE;rw[if_pos];rcases h with h|h<;>have:=zaF h<;>omega
theorem ltrE_b {x:Ltr}(h1:za5 x.dst 1 2=true)(h2:za5 x.at_ 0 1048576=true):ltrE x=msgE x.msg:=by have:=za8 h1;have:=za8 h2;unfold ltrE;rw[if_neg om]
theorem zCc (x:Ltr)(A:Option Addr)(c:Nat)(w:World)(hs:za3 w A c x.msg.recs):Calls prog 48 #[.agg (Ll x A c)] w fun e w'=>e=.returned (.int .i64 (ltrE x))∧Ext w w':=by
 have hl:=hs.len;cases h1:za5 x.dst 1 2 with
 |false=>have HR:=zh (zGv (.inl h1));have H1:=zh h1;clear h1 hs;go_enter func48,ntmps48;go_wp2_with (go_at_call 33;refine(zCe _ _ _ _).mono ?_;rintro e w' ⟨he,rfl⟩;simp only[H1.out] at he;subst he);go_ret;exact⟨ret_i HR.out.symm,ex⟩
 |true=>
  cases h2:za5 x.at_ 0 1048576 with
  |false=>have HR:=zh (zGv (.inr h2));have H1:=zh h1;have H2:=zh h2;clear h1 h2 hs;go_enter func48,ntmps48;go_wp2_with (go_at_call 33;refine(zCe _ _ _ _).mono ?_;rintro e w' ⟨he,rfl⟩;simp only[H1.out,H2.out] at he;subst he);go_ret;exact⟨ret_i HR.out.symm,ex⟩
  |true=>
   have HR:=zh (ltrE_b h1 h2);have H1:=zh h1;have H2:=zh h2;have HS:=zh hs;clear h1 h2 hs;go_enter func48,ntmps48
   go_wp2_with (first
    |(go_at_call 33;refine(zCe _ _ _ _).mono ?_;rintro e w' ⟨he,rfl⟩;simp only[H1.out,H2.out] at he;subst he)
    |(go_at_call 81;refine zzg (zeo x.msg A c _ (HS.out.mono ex)) fun y=>?_))
   go_ret;exact⟨ret_i HR.out.symm,ex⟩
theorem zsq (i:Int)(x:Ltr)(A:Option Addr)(c:Nat)(w:World)(hs:za3 w A c x.msg.recs):Calls prog 47 #[i,.agg (Ll x A c)] w fun e w'=>e=.returned (.int .i64 (ltrE x))∧Ext w w':=by have hl:=hs.len;have HS:=zh hs;clear hs;go_enter func47,ntmps47;go_wp2_with (go_at_call 48;refine zzg (zCc x A c _ (HS.out.mono ex)) fun y=>?_);go_ret;exact⟨rfl,ex⟩

theorem staE_a {id:Int}{s:Sta}(h:nodE s.node≠0):staE id s=nodE s.node:=by unfold staE;rw[if_pos h]
theorem staE_b {id:Int}{s:Sta}(h:nodE s.node=0)(h2:s.node.id≠id):staE id s=11:=by unfold staE;rw[if_neg (by simpa using h),if_pos h2]
theorem staE_c {id:Int}{s:Sta}(h:nodE s.node=0)(h2:s.node.id=id)(b:Bool)(h3:za5 s.quiet 0 1048576=b):staE id s=if b=true then 0 else 2:=by
 unfold staE;rw[if_neg (by simpa using h),if_neg (by simpa using h2)];subst h3;cases h4:za5 s.quiet 0 1048576
 ·have:=zaF h4;rw[if_pos om];rfl
 ·have:=za8 h4;rw[if_neg om];rfl
theorem zzk (s:Sta)(id:Int)(A:Option Addr)(c:Nat)(w:World)(hs:za3 w A c s.node.log):Calls prog 45 #[.agg (Ls s A c),id] w fun e w'=>e=.returned (.int .i64 (staE id s))∧Ext w w':=by
 have hl:=hs.len;have HS:=zh hs;clear hs;by_cases h1:nodE s.node=0
 ·have hz:(nodE s.node !=0)=false:=by simpa using h1
  by_cases h2:s.node.id=id
  ·have hd:(s.node.id !=id)=false:=by simpa using h2
   cases h3:za5 s.quiet 0 1048576 with
   |false=>
    have HR:=zh (staE_c h1 h2 _ h3);have H3:=zh h3;clear h1 h2 h3;go_enter func45,ntmps45
    go_wp2_with (first
     |(go_at_call 78;refine zzg (zaA s.node A c _ (HS.out.mono ex)) fun y=>?_)
     |(go_at_call 33;refine(zCe _ _ _ _).mono ?_;rintro e w' ⟨he,rfl⟩;simp only[H3.out] at he;subst he))
    go_ret;exact⟨ret_i HR.out.symm,ex⟩
   |true=>
    have HR:=zh (staE_c h1 h2 _ h3);have H3:=zh h3;clear h1 h2 h3;go_enter func45,ntmps45
    go_wp2_with (first
     |(go_at_call 78;refine zzg (zaA s.node A c _ (HS.out.mono ex)) fun y=>?_)
     |(go_at_call 33;refine(zCe _ _ _ _).mono ?_;rintro e w' ⟨he,rfl⟩;simp only[H3.out] at he;subst he))
    go_ret;exact⟨ret_i HR.out.symm,ex⟩
  ·have hd:(s.node.id !=id)=true:=by simpa using h2
   have HR:=zh (staE_b h1 h2);clear h1 h2;go_enter func45,ntmps45;go_wp2_with (go_at_call 78;refine zzg (zaA s.node A c _ (HS.out.mono ex)) fun y=>?_);go_ret;exact⟨ret_i HR.out.symm,ex⟩
 ·have hz:(nodE s.node !=0)=true:=by simpa using h1
  have HR:=zh (staE_a (id:=id) h1);clear h1;go_enter func45,ntmps45;go_wp2_with (go_at_call 78;refine zzg (zaA s.node A c _ (HS.out.mono ex)) fun y=>?_);go_ret;exact⟨ret_i HR.out.symm,ex⟩
theorem zsp (i:Int)(j:Int)(hj:i+1=j)(h0:0≤i)(h1:i≤1)(s:Sta)(A:Option Addr)(c:Nat)(w:World)(hs:za3 w A c s.node.log):Calls prog 44 #[i,.agg (Ls s A c)] w fun e w'=>e=.returned (.int .i64 (staE j s))∧Ext w w':=by subst hj;have hl:=hs.len;have HS:=zh hs;clear hs;go_enter func44,ntmps44;go_wp2_with (go_at_call 45;refine zzg (zzk s (i+1) A c _ (HS.out.mono ex)) fun y=>?_);go_ret;exact⟨rfl,ex⟩

def staR (x:Sta×Option Addr×Nat):List Value:=[x.1.node.id,x.1.node.term,x.1.node.speaks,.slice x.2.1 x.1.node.log.length x.2.2,x.1.node.acked,x.1.node.next,x.1.up,x.1.quiet]
def ltrR (x:Ltr×Option Addr×Nat):List Value:=[x.1.dst,x.1.at_,x.1.msg.kind,x.1.msg.term,x.1.msg.at_,x.1.msg.before,.slice x.2.1 x.1.msg.recs.length x.2.2,x.1.msg.acked]
theorem Sl.row8 {w:World}{A:Option Addr}{rows:List (List Value)}{i:Nat}{v0 v1 v2 v3 v4 v5 v6 v7:Value}(h:Sl w A 8 rows)(hr:rows[i]?=some [v0,v1,v2,v3,v4,v5,v6,v7]):
  ∃b o,A=some ⟨b,o,none⟩∧w.cell? ⟨b,o+i * 8,none⟩=some v0∧w.cell? ⟨b,o+i * 8+1,none⟩=some v1∧w.cell? ⟨b,o+i * 8+2,none⟩=some v2∧w.cell? ⟨b,o+i * 8+3,none⟩=some v3∧w.cell? ⟨b,o+i * 8+4,none⟩=some v4∧w.cell? ⟨b,o+i * 8+5,none⟩=some v5∧w.cell? ⟨b,o+i * 8+6,none⟩=some v6∧w.cell? ⟨b,o+i * 8+7,none⟩=some v7:=by
 obtain⟨_,b,o,hA,hc⟩:=h.at_ i _ hr;exact⟨b,o,hA,hc 0 _ rfl,hc 1 _ rfl,hc 2 _ rfl,hc 3 _ rfl,hc 4 _ rfl,hc 5 _ rfl,hc 6 _ rfl,hc 7 _ rfl⟩
theorem Sl.inbox {W W':World}{cs:Array Value}{T:TypeId}{b o:Nat}{r1 r2:List Value}(hb:W.heap.size=b)(hx:Ext (W.alloc (.cells cs T)) W')(h1:r1.length=8)(h2:r2.length=8)(hc:(cs.toList.drop o).take 16=r1++r2):Sl W' (some ⟨b,o,none⟩) 8 [r1,r2]:=by
 subst hb;have key:∀j v,(r1++r2)[j]?=some v→W'.cell? ⟨W.heap.size,o+j,none⟩=some v:=fun j v hv=>by
  refine hx.cell ?_;have hj:j<16:=by have:=(List.getElem?_eq_some_iff.1 hv).1;rw[List.length_append] at this;omega
  rw[←hc,List.getElem?_take,if_pos hj,List.getElem?_drop] at hv;rw[cell_of_row _ _ _ cs T (0,0) (heap_alloc_new W _)];simpa using hv
 refine⟨fun i row hr=> ?_⟩
 match i,hr with
 |0,hr=>
  have e:r1=row:=by simpa using hr
  subst e;refine⟨h1,_,_,rfl,fun j v hv=> ?_⟩;have hj:=(List.getElem?_eq_some_iff.1 hv).1;rw[Nat.zero_mul,Nat.add_zero];exact key j v (by rw[List.getElem?_append_left hj];exact hv)
 |1,hr=>
  have e:r2=row:=by simpa using hr
  subst e;refine⟨h2,_,_,rfl,fun j v hv=> ?_⟩;rw[Nat.add_assoc];exact key _ v (by rw[List.getElem?_append_right om,show 1 * 8+j - r1.length=j by omega];exact hv)
 |n+2,hr=>simp at hr
noncomputable def stasE:Int→List Sta→Int
 |_,[]=>0
 |i,s::l=>if staE i s≠0 then staE i s else stasE (i+1) l
theorem stasE_at (l:List Sta)(k:Nat)(x:Sta)(i:Int)(h:l[k]?=some x):stasE i (l.drop k)=if staE i x≠0 then staE i x else stasE (i+1) (l.drop (k+1)):=by obtain⟨hk,hx⟩:=List.getElem?_eq_some_iff.1 h;rw[List.drop_eq_getElem_cons hk,hx];rfl
theorem zFi (l:List Sta)(k:Nat)(i:Int)(h:l.length≤k):stasE i (l.drop k)=0:=by rw[List.drop_eq_nil_of_le h];rfl
theorem zFp (A:Option Addr)(c:Nat)(xs:List (Sta×Option Addr×Nat))(w:World)(hs:Sl w A 8 (xs.map staR))(hx1:xs.length≤2)(hr:∀x∈xs,za3 w x.2.1 x.2.2 x.1.node.log):
  Calls prog 43 #[.slice A xs.length c,.func (Fn.func 44) #[] #[]] w fun e w'=>e=.returned (.int .i64 (stasE 1 (xs.map (·.1))))∧Ext w w':=by
 have HS:=zh hs;have HR:=zh hr;have HM:=zh (show stasE 1 (xs.map (·.1))=stasE ((0:Nat)+1:Int) ((xs.map (·.1)).drop 0) from rfl);clear hs hr;go_enter func43,ntmps43;go_wp2;go_loopw [10] (fun i wr=> ∃k:Nat,k≤xs.length∧i=.int .i64 k∧Ext w wr∧Hid (stasE 1 (xs.map (·.1))=stasE ((k:Int)+1) ((xs.map (·.1)).drop k))) (fun i _=>xs.length - (intOf i).toNat)
 case atStart => exact ⟨0,by omega,rfl,Ext.refl _,HM⟩
 case round =>
  obtain⟨k,hk,rfl,hx,HE⟩:=hrel;obtain⟨y0,rfl⟩:=hx.get;clear hx HM;by_cases hlt:k<xs.length
  ·obtain⟨x,hx⟩:∃x,xs[k]?=some x:=⟨_,List.getElem?_eq_getElem hlt⟩
   have HL:=zh (HR.out x (List.mem_of_getElem? hx));have HE2:=zh (HE.out.trans (stasE_at (xs.map (·.1)) k x.1 _ (by rw[List.getElem?_map,hx];rfl)));obtain⟨b,o,rfl,c0,c1,c2,c3,c4,c5,c6,c7⟩:=HS.out.row8 (i:=k) (by rw[List.getElem?_map,hx];rfl);have hb0:(0:Int)≤(k:Int):=by omega
   have hb2:(k:Int)<(xs.length:Int):=by omega
   clear hx HE;by_cases he:staE ((k:Int)+1) x.1=0
   ·have hz:(staE ((k:Int)+1) x.1 !=0)=false:=by simpa using he
    have HF:=zh (show stasE 1 (xs.map (·.1))=stasE (((k+1:Nat):Int)+1) ((xs.map (·.1)).drop (k+1)) by rw[HE2.out,if_neg (by simpa using he)];rfl);clear he;go_wp2_with (go_at_call 44;refine zzg (zsp (k:Int) _ rfl om om x.1 x.2.1 x.2.2 _ (HL.out.mono ex)) fun y=>?_);go_light;exact⟨⟨k+1,by omega,by go_num,ex,HF⟩,by simp[intOf];omega⟩
   ·have hz:(staE ((k:Int)+1) x.1 !=0)=true:=by simpa using he
    have HV:=zh (show staE ((k:Int)+1) x.1=stasE 1 (xs.map (·.1)) by rw[HE2.out,if_pos he]);clear he;go_wp2_with (go_at_call 44;refine zzg (zsp (k:Int) _ rfl om om x.1 x.2.1 x.2.2 _ (HL.out.mono ex)) fun y=>?_);go_ret;exact⟨ret_i HV.out,ex⟩
  ·have HV:=zh (HE.out.trans (zFi (xs.map (·.1)) k _ (by simp;omega)));go_wp2;go_ret;exact⟨ret_i HV.out.symm,ex⟩
noncomputable def ltrsE (l:List Ltr):Int:=scan (fun _ x=>ltrE x) none l
theorem zFo (A:Option Addr)(c:Nat)(xs:List (Ltr×Option Addr×Nat))(w:World)(hs:Sl w A 8 (xs.map ltrR))(hx1:xs.length≤maxLen)(hr:∀x∈xs,za3 w x.2.1 x.2.2 x.1.msg.recs):
  Calls prog 46 #[.slice A xs.length c,.func (Fn.func 47) #[] #[]] w fun e w'=>e=.returned (.int .i64 (ltrsE (xs.map (·.1))))∧Ext w w':=by
 have HS:=zh hs;have HR:=zh hr;unfold maxLen at hx1;have HM:=zh (show ltrsE (xs.map (·.1))=scan (fun _ x=>ltrE x) none (xs.map (·.1)) from rfl);clear hs hr;go_enter func46,ntmps46;go_wp2;go_loopw [10] (fun i wr=> ∃k:Nat,k≤xs.length∧i=.int .i64 k∧Ext w wr∧Hid (ltrsE (xs.map (·.1))=scan (fun _ x=>ltrE x) (prv (xs.map (·.1)) k) ((xs.map (·.1)).drop k))) (fun i _=>xs.length - (intOf i).toNat)
 case atStart => exact ⟨0,by omega,rfl,Ext.refl _,HM⟩
 case round =>
  obtain⟨k,hk,rfl,hx,HE⟩:=hrel;obtain⟨y0,rfl⟩:=hx.get;clear hx HM;by_cases hlt:k<xs.length
  ·obtain⟨x,hx⟩:∃x,xs[k]?=some x:=⟨_,List.getElem?_eq_getElem hlt⟩
   have HL:=zh (HR.out x (List.mem_of_getElem? hx));have HE2:=zh (HE.out.trans (zcu (fun _ x=>ltrE x) (xs.map (·.1)) k x.1 (by rw[List.getElem?_map,hx];rfl)));obtain⟨b,o,rfl,c0,c1,c2,c3,c4,c5,c6,c7⟩:=HS.out.row8 (i:=k) (by rw[List.getElem?_map,hx];rfl);have hb0:(0:Int)≤(k:Int):=by omega
   have hb2:(k:Int)<(xs.length:Int):=by omega
   clear hx HE;by_cases he:ltrE x.1=0
   ·have hz:(ltrE x.1 !=0)=false:=by simpa using he
    have HF:=zh (show ltrsE (xs.map (·.1))=scan (fun _ x=>ltrE x) (prv (xs.map (·.1)) (k+1)) ((xs.map (·.1)).drop (k+1)) by rw[HE2.out,if_neg (by simpa using he)]);clear he;go_wp2_with (go_at_call 47;refine zzg (zsq (k:Int) x.1 x.2.1 x.2.2 _ (HL.out.mono ex)) fun y=>?_);go_light;exact⟨⟨k+1,by omega,by go_num,ex,HF⟩,by simp[intOf];omega⟩
   ·have hz:(ltrE x.1 !=0)=true:=by simpa using he
    have HV:=zh (show ltrE x.1=ltrsE (xs.map (·.1)) by rw[HE2.out,if_pos he]);clear he;go_wp2_with (go_at_call 47;refine zzg (zsq (k:Int) x.1 x.2.1 x.2.2 _ (HL.out.mono ex)) fun y=>?_);go_ret;exact⟨ret_i HV.out,ex⟩
  ·have HV:=zh (HE.out.trans (zbX (fun _ x=>ltrE x) (xs.map (·.1)) k _ (by simp;omega)));go_wp2;go_ret;exact⟨ret_i HV.out.symm,ex⟩
structure zrG (W : World) (M : Option Addr) (k : Nat) (xs : List (Ltr × Option Addr × Nat)) : Prop where
 sl:Sl W M 8 (xs.map ltrR)
 le:xs.length≤k
 cap:k≤maxLen
 el:∀x∈xs,za3 W x.2.1 x.2.2 x.1.msg.recs
theorem zrG.mono {W W':World}{M:Option Addr}{k:Nat}{xs:List (Ltr×Option Addr×Nat)}(h:zrG W M k xs)(hx:Ext W W'):zrG W' M k xs:=⟨h.sl.mono hx,h.le,h.cap,fun x hm=>(h.el x hm).mono hx⟩
theorem zrG.nil (W:World):zrG W none 0 []:=⟨Sl.nil _ _ _,Nat.le_refl _,Nat.zero_le _,by simp⟩
structure WldAt (W : World) (w : Wld) (A : Option Addr) (c : Nat) (B : Option Addr) (d : Nat) (M : Option Addr) (k : Nat) (xs : List (Ltr × Option Addr × Nat)) : Prop where
 a:za3 W A c w.a.node.log
 b:za3 W B d w.b.node.log
 mail:zrG W M k xs
 is:xs.map (·.1)=w.mail
section
variable {w:Wld} {W W':World} {A B M:Option Addr} {c d k:Nat} {xs:List (Ltr×Option Addr×Nat)}
theorem WldAt.mono (h:WldAt W w A c B d M k xs)(hx:Ext W W'):WldAt W' w A c B d M k xs:=⟨h.a.mono hx,h.b.mono hx,h.mail.mono hx,h.is⟩
theorem WldAt.len (h:WldAt W w A c B d M k xs):xs.length=w.mail.length:=by rw[←h.is,List.length_map]
theorem zFK (h:za5 w.now 0 1048576=false∨za5 w.limit 1 16=false∨za5 w.delay 1 8=false):wldE w=2:=by unfold wldE;rw[if_pos];rcases h with h|h|h<;>have:=zaF h<;>omega
theorem wldE_b (h1:za5 w.now 0 1048576=true)(h2:za5 w.limit 1 16=true)(h3:za5 w.delay 1 8=true):
  wldE w=if stasE 1 [w.a,w.b]≠0 then stasE 1 [w.a,w.b] else if 256<w.mail.length then 5 else ltrsE w.mail:=by
 have:=za8 h1;have:=za8 h2;have:=za8 h3;unfold wldE;rw[if_neg om];have e:stasE 1 [w.a,w.b]=if staE 1 w.a≠0 then staE 1 w.a else staE 2 w.b:=by
  show(if staE 1 w.a≠0 then staE 1 w.a else if staE (1+1) w.b≠0 then staE (1+1) w.b else 0)=_;rw[show(1:Int)+1=2 from rfl];by_cases h:staE 1 w.a≠0
  ·rw[if_pos h,if_pos h]
  ·rw[if_neg h,if_neg h];by_cases h:staE 2 w.b=0
   ·rw[h];rfl
   ·rw[if_pos h]
 rw[e];by_cases h:staE 1 w.a=0
 ·rw[if_neg (by simpa using h),if_neg (show ¬(staE 1 w.a≠0) by simpa using h)];rfl
 ·rw[if_pos h,if_pos h,if_pos h]
theorem zeq (h:WldAt W w A c B d M k xs):Calls prog 14 #[.agg (Lw w A c B d M k)] W fun e w'=>e=.returned (.int .i64 (wldE w))∧Ext W w':=by
 have hl:=h.mail.cap;have hl2:=h.mail.le;have hlm:xs.length=w.mail.length:=h.len;have hml:w.mail.length≤9223372036854775807:=by unfold maxLen at hl;omega
 have hla:=h.a.len;have hlb:=h.b.len;cases h1:za5 w.now 0 1048576 with
 |false=>have HR:=zh (zFK (.inl h1));have H1:=zh h1;clear h1 h hl hl2 hlm;go_enter func14,ntmps14;go_wp2_with (go_at_call 33;refine(zCe _ _ _ _).mono ?_;rintro e w' ⟨he,rfl⟩;simp only[H1.out] at he;subst he);go_ret;exact⟨ret_i HR.out.symm,ex⟩
 |true=>
  cases h2:za5 w.limit 1 16 with
  |false=>have HR:=zh (zFK (.inr (.inl h2)));have H1:=zh h1;have H2:=zh h2;clear h1 h2 h hl hl2 hlm;go_enter func14,ntmps14;go_wp2_with (go_at_call 33;refine(zCe _ _ _ _).mono ?_;rintro e w' ⟨he,rfl⟩;simp only[H1.out,H2.out] at he;subst he);go_ret;exact⟨ret_i HR.out.symm,ex⟩
  |true=>
   cases h3:za5 w.delay 1 8 with
   |false=>have HR:=zh (zFK (.inr (.inr h3)));have H1:=zh h1;have H2:=zh h2;have H3:=zh h3;clear h1 h2 h3 h hl hl2 hlm;go_enter func14,ntmps14;go_wp2_with (go_at_call 33;refine(zCe _ _ _ _).mono ?_;rintro e w' ⟨he,rfl⟩;simp only[H1.out,H2.out,H3.out] at he;subst he);go_ret;exact⟨ret_i HR.out.symm,ex⟩
   |true=>
    have HR:=zh (wldE_b h1 h2 h3);have H1:=zh h1;have H2:=zh h2;have H3:=zh h3;have HW:=Lib.hid h;have HXL:=zh hlm;have HIS:=zh h.is;have hxm:xs.length≤maxLen:=by omega
    have HXM:=zh hxm;obtain⟨e1,he1⟩:∃e1,stasE 1 [w.a,w.b]=e1:=⟨_,rfl⟩
    obtain⟨e2,he2⟩:∃e2,ltrsE w.mail=e2:=⟨_,rfl⟩
    rw[he1,he2] at HR;have HC1:=zh (fun(W':World) (X:Option Addr) (hx:Ext W W') (hs:Sl W' X 8 ([(w.a,A,c),(w.b,B,d)].map staR))=>(by
     have:=zFp X 2 [(w.a,A,c),(w.b,B,d)] W' hs (by simp) (fun x hm=>by
      simp only[List.mem_cons,List.not_mem_nil,or_false] at hm;rcases hm with rfl|rfl
      ·exact h.a.mono hx
      ·exact h.b.mono hx)
     rw[show([(w.a,A,c),(w.b,B,d)].map (·.1))=[w.a,w.b] from rfl,he1] at this;exact this:Calls prog 43 #[.slice X 2 2,.func (Fn.func 44) #[] #[]] W' fun e w'=>e=.returned (.int .i64 e1)∧Ext W' w'))
    have HC2:=zh (fun(W':World) (hx:Ext W W')=>(by have:=zFo M k xs W' (h.mail.sl.mono hx) hxm (fun x hm=>(h.mail.el x hm).mono hx);rw[h.is,he2,hlm] at this;exact this:Calls prog 46 #[.slice M w.mail.length k,.func (Fn.func 47) #[] #[]] W' fun e w'=>e=.returned (.int .i64 e2)∧Ext W' w'))
    clear h1 h2 h3 h hl hl2 hlm he1 he2 hxm;by_cases hz:e1=0
    ·have hz1:(e1 !=0)=false:=by simpa using hz
     by_cases h4:256<w.mail.length
     ·have HV:=zh (HR.out.trans (by rw[if_neg (by simpa using hz),if_pos h4]));clear hz;have hd:decide ((256:Int)<(w.mail.length:Int))=true:=decide_eq_true om;go_enter func14,ntmps14
      go_wp2_with (first
       |(go_at_call 33;refine(zCe _ _ _ _).mono ?_;rintro e w' ⟨he,rfl⟩;simp only[H1.out,H2.out,H3.out] at he;subst he)
       |(go_at_call 43;refine zzg (HC1.out _ _ ex (Sl.inbox rfl ex rfl rfl rfl)) fun y=>?_))
      go_ret;exact⟨ret_i HV.out.symm,ex⟩
     ·have HV:=zh (HR.out.trans (by rw[if_neg (by simpa using hz),if_neg h4]));clear hz;have hd:decide ((256:Int)<(w.mail.length:Int))=false:=decide_eq_false om;go_enter func14,ntmps14
      go_wp2_with (first
       |(go_at_call 33;refine(zCe _ _ _ _).mono ?_;rintro e w' ⟨he,rfl⟩;simp only[H1.out,H2.out,H3.out] at he;subst he)
       |(go_at_call 43;refine zzg (HC1.out _ _ ex (Sl.inbox rfl ex rfl rfl rfl)) fun y=>?_)
       |(go_at_call 46;refine zzg (HC2.out _ ex) fun y=>?_))
      go_ret;exact⟨ret_i HV.out.symm,ex⟩
    ·have hz1:(e1 !=0)=true:=by simpa using hz
     have HV:=zh (HR.out.trans (by rw[if_pos hz]));clear hz;go_enter func14,ntmps14
     go_wp2_with (first
      |(go_at_call 33;refine(zCe _ _ _ _).mono ?_;rintro e w' ⟨he,rfl⟩;simp only[H1.out,H2.out,H3.out] at he;subst he)
      |(go_at_call 43;refine zzg (HC1.out _ _ ex (Sl.inbox rfl ex rfl rfl rfl)) fun y=>?_))
     go_ret;exact⟨ret_i HV.out.symm,ex⟩
end

def loadW (v:Value):Sem Value:=Instr.loadAt 30 v
def loadW' (v:Value):Sem Value:=Instr.loadAt 30 v
@[go_sem ↓ high] theorem loadW_at (v : Value) : Instr.loadAt 30 v = loadW v:=rfl
@[go_sem] theorem loadW_run (w : World) (b o : Nat) : (loadW (.pointer (some ⟨b,o,none⟩))).run prog w = match rowQ w b o 21 with | some cs => .ok (.agg cs.toArray) w | none => (loadW' (.pointer (some ⟨b,o,none⟩))).run prog w:=by
 split
 ·rename_i cs h;obtain⟨h1,h2⟩:=zfr h;exact run_loadAt_mid w b o _ cs _ h1 underlying30 rfl (by rw[h2];kernel_rfl)
 ·rfl
@[go_sem] theorem rowQ_newW (w : World) (b : Nat) (v0 v1 v2 v3 v4 v5 v6 v7 v8 v9 v10 v11 v12 v13 v14 v15 v16 v17 v18 v19 v20 : Value) (T : TypeId) (h : w.heap.size = b) : rowQ (w.alloc (.cells #[v0,v1,v2,v3,v4,v5,v6,v7,v8,v9,v10,v11,v12,v13,v14,v15,v16,v17,v18,v19,v20] T)) b 0 21 = some [v0,v1,v2,v3,v4,v5,v6,v7,v8,v9,v10,v11,v12,v13,v14,v15,v16,v17,v18,v19,v20]:=zcg (zag w h [v0,v1,v2,v3,v4,v5,v6,v7,v8,v9,v10,v11,v12,v13,v14,v15,v16,v17,v18,v19,v20] T) rfl
@[go_sem] theorem index_S0 (w : World) (a0 a1 a2 a3 a4 a5 a6 a7 b0 b1 b2 b3 b4 b5 b6 b7 : Value) : (Instr.index 27 (.agg #[a0,a1,a2,a3,a4,a5,a6,a7,b0,b1,b2,b3,b4,b5,b6,b7]) (.int .i64 0)).run prog w = .ok (.agg #[a0,a1,a2,a3,a4,a5,a6,a7]) w:=by kernel_rfl
@[go_sem] theorem index_S1 (w : World) (a0 a1 a2 a3 a4 a5 a6 a7 b0 b1 b2 b3 b4 b5 b6 b7 : Value) : (Instr.index 27 (.agg #[a0,a1,a2,a3,a4,a5,a6,a7,b0,b1,b2,b3,b4,b5,b6,b7]) (.int .i64 1)).run prog w = .ok (.agg #[b0,b1,b2,b3,b4,b5,b6,b7]) w:=by kernel_rfl
def spokA (w:Wld):Int:=if w.a.up=true∧w.a.node.speaks=true then 1 else 0
section
variable {w:Wld} {W:World} {g:Nat} {A B M:Option Addr} {c d k:Nat}
theorem zqq (h:w.b.up=false∨w.b.node.speaks=false):zc6 w=spokA w:=by
 unfold zc6 spokA;rw[if_neg];rintro⟨h1,h2,-⟩;rcases h with h|h
 ·rw[h1] at h;cases h
 ·rw[h2] at h;cases h
theorem zC6 (h1:w.b.up=true)(h2:w.b.node.speaks=true)(h:spokA w=0):zc6 w=2:=by unfold zc6;refine if_pos ⟨h1,h2,fun h3=> ?_⟩;unfold spokA at h;rw[if_pos h3] at h;cases h
theorem zzb (h1:w.b.up=true)(h2:w.b.node.speaks=true)(h:spokA w=1):zc6 w=if w.a.node.term<w.b.node.term then 2 else 1:=by
 have h3:w.a.up=true∧w.a.node.speaks=true:=by
  unfold spokA at h;split at h
  ·assumption
  ·cases h
 unfold zc6;by_cases ht:w.a.node.term<w.b.node.term
 ·rw[if_pos ⟨h1,h2,fun _=>ht⟩,if_pos ht]
 ·rw[if_neg (fun h=>ht (h.2.2 h3)),if_pos h3,if_neg ht]
theorem zqz (hb:BoxAt W g (Lw w A c B d M k) 30):
  Calls prog 39 #[.pointer (some ⟨g,0,none⟩)] W fun e w'=>e=.returned (.int .i64 (zc6 w))∧Ext W w':=by
 refine hb.cB fun c0 c1 c2 c3 c4 c5 c6 c7 c8 c9 c10 c11 c12 c13 c14 c15 c16 c17 c18 c19 c20=>?_;clear hb;obtain⟨v,hv⟩:∃v,zc6 w=v:=⟨_,rfl⟩
 obtain⟨v1,hv1⟩:∃v1,spokA w=v1:=⟨_,rfl⟩
 have HV:=zh hv;have HV1:=zh hv1;rw[hv];clear hv hv1;obtain⟨au,hau⟩:∃x,w.a.up=x:=⟨_,rfl⟩
 obtain⟨as_,has⟩:∃x,w.a.node.speaks=x:=⟨_,rfl⟩
 obtain⟨bu,hbu⟩:∃x,w.b.up=x:=⟨_,rfl⟩
 obtain⟨bs,hbs⟩:∃x,w.b.node.speaks=x:=⟨_,rfl⟩
 rw[hau] at c10;rw[has] at c6;rw[hbu] at c18;rw[hbs] at c14;have H1:=zh hau;have H2:=zh has;have H3:=zh hbu;have H4:=zh hbs;clear hau has hbu hbs;go_enter func39,ntmps39;go_wp2;go_loopw [10,3] (fun i b wr=>Ext W wr∧((i=.int .i64 0∧b=.int .i64 0)∨(i=.int .i64 1∧b=.int .i64 v1)∨(i=.int .i64 2∧b=.int .i64 v))) (fun i _ _=>2 - (intOf i).toNat)
 case atStart => exact ⟨Ext.refl _,.inl ⟨rfl,rfl⟩⟩
 case round =>
  obtain⟨hx,hrel⟩:=hrel;obtain⟨y0,rfl⟩:=hx.get;clear hx;rcases hrel with⟨rfl,rfl⟩|⟨rfl,rfl⟩|⟨rfl,rfl⟩
  ·cases au with
   |false=>have HS:=zh (show v1=0 by rw[←HV1.out];unfold spokA;rw[if_neg];rintro⟨h,-⟩;rw[H1.out] at h;cases h);go_wp2;(refine zcL kr kr ?_;(repeat(go_big_quiet_step (fail)));refine wqN fun y=>?_);go_wp2;go_light;exact⟨⟨ex,.inr (.inl ⟨rfl,by rw[HS.out]⟩)⟩,by simp[intOf]⟩
   |true=>
    cases as_ with
    |false=>have HS:=zh (show v1=0 by rw[←HV1.out];unfold spokA;rw[if_neg];rintro⟨-,h⟩;rw[H2.out] at h;cases h);go_wp2;(refine zcL kr kr ?_;(repeat(go_big_quiet_step (fail)));refine wqN fun y=>?_);go_wp2;go_light;exact⟨⟨ex,.inr (.inl ⟨rfl,by rw[HS.out]⟩)⟩,by simp[intOf]⟩
    |true=>have HS:=zh (show v1=1 by rw[←HV1.out];unfold spokA;rw[if_pos ⟨H1.out,H2.out⟩]);go_wp2;(refine zcL kr kr ?_;(repeat(go_big_quiet_step (fail)));refine wqN fun y=>?_);go_wp2;go_light;exact⟨⟨ex,.inr (.inl ⟨rfl,by rw[HS.out]⟩)⟩,by simp[intOf]⟩
  ·cases bu with
   |false=>have HS:=zh (show v=v1 by rw[←HV.out,←HV1.out];exact zqq (.inl H3.out));go_wp2;(refine zcL kr kr ?_;(repeat(go_big_quiet_step (fail)));refine wqN fun y=>?_);go_wp2;go_light;exact⟨⟨ex,.inr (.inr ⟨rfl,by rw[HS.out]⟩)⟩,by simp[intOf]⟩
   |true=>
    cases bs with
    |false=>have HS:=zh (show v=v1 by rw[←HV.out,←HV1.out];exact zqq (.inr H4.out));go_wp2;(refine zcL kr kr ?_;(repeat(go_big_quiet_step (fail)));refine wqN fun y=>?_);go_wp2;go_light;exact⟨⟨ex,.inr (.inr ⟨rfl,by rw[HS.out]⟩)⟩,by simp[intOf]⟩
    |true=>
     have h01:v1=0∨v1=1:=by rw[←HV1.out];unfold spokA;split<;>first|exact .inl rfl|exact .inr rfl
     rcases h01 with rfl|rfl
     ·have HS:=zh (show v=2 by rw[←HV.out];exact zC6 H3.out H4.out HV1.out);go_wp2;(refine zcL kr kr ?_;(repeat(go_big_quiet_step (fail)));refine wqN fun y=>?_);go_wp2;go_light;exact⟨⟨ex,.inr (.inr ⟨rfl,by rw[HS.out]⟩)⟩,by simp[intOf]⟩
     ·have HS:=zh (show v=if w.a.node.term<w.b.node.term then 2 else 1 from by rw[←HV.out];exact zzb H3.out H4.out HV1.out);by_cases ht:w.a.node.term<w.b.node.term
      ·have hd:decide (w.a.node.term<w.b.node.term)=true:=decide_eq_true ht;go_wp2;(refine zcL kr kr ?_;(repeat(go_big_quiet_step (fail)));refine wqN fun y=>?_);go_wp2;go_light;exact⟨⟨ex,.inr (.inr ⟨rfl,by rw[HS.out,if_pos ht]⟩)⟩,by simp[intOf]⟩
      ·have hd:decide (w.a.node.term<w.b.node.term)=false:=decide_eq_false ht;go_wp2;(refine zcL kr kr ?_;(repeat(go_big_quiet_step (fail)));refine wqN fun y=>?_);go_wp2;go_light;exact⟨⟨ex,.inr (.inr ⟨rfl,by rw[HS.out,if_neg om]⟩)⟩,by simp[intOf]⟩
  ·go_wp2;go_ret;exact⟨rfl,ex⟩
end
section
variable {w:Wld} {W:World} {A B M:Option Addr} {c d k:Nat} {xs:List (Ltr×Option Addr×Nat)}
theorem zqt (h:WldAt W w A c B d M k xs):Calls prog 11 #[.agg (Lw w A c B d M k)] W fun e w'=>e=.returned (.tuple #[.int .i64 (zeP w).1,.int .i64 (zeP w).2])∧Ext W w':=by
 have hla:=h.a.len;have hlb:=h.b.len;have hl:=h.mail.cap;have hl2:=h.mail.le;have hlm:=h.len;have hml:w.mail.length≤9223372036854775807:=by unfold maxLen at hl;omega
 have HW:=Lib.hid h;clear h hl hl2 hlm;by_cases he:wldE w=0
 ·have hz:(wldE w !=0)=false:=by simpa using he
  have HV:=zh (show zeP w=(zc6 w,0) by unfold zeP;rw[if_neg (by simpa using he)]);rw[HV.out];clear he;go_enter func11,ntmps11
  go_wp2_with (first
   |(go_at_call 14;refine zzg (zeq (HW.out.mono ex)) fun y=>?_)
   |(go_at_call 39;refine zzg (zqz (w:=w) (A:=A) (B:=B) (c:=c) (d:=d) (M:=M) (k:=k) bxA) fun y=>?_))
  go_ret2;exact⟨rfl,ex⟩
 ·have hz:(wldE w !=0)=true:=by simpa using he
  have HV:=zh (show zeP w=(0,wldE w) by unfold zeP;rw[if_pos he]);rw[HV.out];clear he;go_enter func11,ntmps11;go_wp2_with (go_at_call 14;refine zzg (zeq (HW.out.mono ex)) fun y=>?_);go_ret2;exact⟨rfl,ex⟩
end

def zzE (W:World) (v:Wld×Int) (e:Ending) (W':World):Prop:=∃A a B b M k,e=.returned (.tuple #[.agg (Lw v.1 A a B b M k),v.2])∧Ext W W'∧a≤maxLen∧b≤maxLen∧k≤maxLen
theorem zDZ {l d:Int}(h:za5 l 1 16=false∨za5 d 1 8=false):newW l d=(wld0,2):=by unfold newW;rw[if_pos];rcases h with h|h<;>have:=zaF h<;>omega
theorem newW_yes {l d:Int}(h1:za5 l 1 16=true)(h2:za5 d 1 8=true):newW l d=(⟨0,l,d,false,⟨⟨1,1,true,[],0,0⟩,true,0⟩,⟨⟨2,0,false,[],0,0⟩,true,0⟩,[]⟩,0):=by have:=za8 h1;have:=za8 h2;unfold newW;rw[if_neg om]
theorem cells_one (l:List Value)(h:l.all (·.oneCell')=true):∀u∈l,u.oneCell'=true:=fun u hu=>List.all_eq_true.1 h u hu
theorem zf1 {fn:Func}{tmps:Array Value}{w:World}{i j b:Nat}{cells:List Value}{v:Value}(hf:fn.results=#[.cell i 30,.tmp j])(ht:tmps.getD i undef=.pointer (some ⟨b,0,none⟩))(hv:tmps.getD j undef=v)(hr:w.rangeAt b 0 cells)(hc:cells.length=21):(results fn tmps).run prog w=.ok (.tuple #[.agg cells.toArray,v]) w:=by
 have hl:=run_loadVar_mid w b 0 30 cells _ hr underlying30 rfl (by rw[hc];kernel_rfl);have ha:(asAddr (tmps.getD i undef)).run prog w=.ok ⟨b,0,none⟩ w:=by rw[ht];rfl
 unfold results;rw[hf];simp only[List.mapM_toArray,List.mapM_cons,List.mapM_nil,Sem.run_bind,Sem.run_map,Sem.run_pure,bind_pure_comp,ha,hl,hv,Result.andThen];rfl
theorem BoxAt.range {W:World}{b:Nat}{cs:List Value}{T:TypeId}(h:BoxAt W b cs T):W.rangeAt b 0 cs:=fun j v hj=>by rw[Nat.zero_add];exact h.cell hj
def nod1:Nod:=⟨1,0,false,[],0,0⟩
def nod2:Nod:=⟨2,0,false,[],0,0⟩
theorem zs8 {i:Int}(h1:1≤i)(h2:i≤2):nodE ⟨i,0,false,[],0,0⟩=0:=
 (zal _).2 ⟨h1,h2,Int.le_refl _,by show(0:Int)≤1048576;omega,(fun h=>by cases h),Nat.zero_le _,zbY.nil _ _,Int.le_refl _,Int.le_refl _,Int.le_refl _,Int.le_refl _,fun _=>rfl⟩
theorem zyt:leadV nod1 1=(⟨1,1,true,[],0,0⟩,0):=by unfold leadV;rw[if_neg (by have:=zs8 (i:=1) om om;simpa [nod1] using this),if_neg om,if_neg dk,if_neg dk];rfl
theorem zck (i:Int)(h1:1≤i)(h2:i≤2)(w:World):Calls prog 34 #[i] w fun e w'=> ∃D K,e=.returned (.tuple #[.agg #[i,zI,.bool false,.slice D 0 K,zI,zI],zI])∧Ext w w'∧K≤maxLen:=by have h:=zyW i w;rw[ztx (by unfold za5;exact decide_eq_true ⟨h1,h2⟩)] at h;exact h.mono fun _ _ ⟨D,K,he,hx,hr⟩=>⟨D,K,he,hx,hr.cap⟩
theorem zq8 (D:Option Addr)(K:Nat)(hK:K≤maxLen)(w:World):Calls prog 35 #[.agg #[.int .i64 1,zI,.bool false,.slice D 0 K,zI,zI],.int .i64 1] w fun e w'=> ∃D K,e=.returned (.tuple #[.agg #[.int .i64 1,.int .i64 1,.bool true,.slice D 0 K,zI,zI],zI])∧Ext w w'∧K≤maxLen:=by have h:=zdz nod1 D K 1 w ⟨Sl.nil _ _ _,Nat.zero_le _,hK,by simp[nod1]⟩;rw[zyt] at h;exact h.mono fun _ _ ⟨D,K,he,hx,hr⟩=>⟨D,K,he,hx,hr.cap⟩
theorem zFk (l d:Int)(W:World)(h1:za5 l 1 16=false):Calls prog 9 #[l,d] W (zzE W (newW l d)):=by have HV:=zh (zDZ (d:=d) (.inl h1));have H1:=zh h1;clear h1;go_enter func9,ntmps9;go_wp2_with (first|(go_at_call 33;refine(zCe _ _ _ _).mono ?_;rintro e w' ⟨he,rfl⟩;simp only[H1.out] at he;subst he)|(refine zah rfl 30 _ rfl [] rfl Zw kr ?_)|(refine za7 rfl 30 (.tmp 4) (.tmp 20) rfl rfl sg Zw rfl rfl kr (cells_one _ rfl) ?_));refine bodyPost_ret (v:=.tuple #[.agg Zw,.int .i64 2]) (zf1 (i:=4) (j:=5) (by simp[results9]) rfl rfl (zag _ rfl Zw _) rfl) rfl ?_;rw[HV.out];exact⟨none,0,none,0,none,0,rfl,ex,Nat.zero_le _,Nat.zero_le _,Nat.zero_le _⟩
theorem zFl (l d:Int)(W:World)(h1:za5 l 1 16=true)(h2:za5 d 1 8=false):Calls prog 9 #[l,d] W (zzE W (newW l d)):=by have HV:=zh (zDZ (l:=l) (.inr h2));have H1:=zh h1;have H2:=zh h2;clear h1 h2;go_enter func9,ntmps9;go_wp2_with (first|(go_at_call 33;refine(zCe _ _ _ _).mono ?_;rintro e w' ⟨he,rfl⟩;simp only[H1.out,H2.out] at he;subst he)|(refine zah rfl 30 _ rfl [] rfl Zw kr ?_)|(refine za7 rfl 30 (.tmp 4) (.tmp 20) rfl rfl sg Zw rfl rfl kr (cells_one _ rfl) ?_));refine bodyPost_ret (v:=.tuple #[.agg Zw,.int .i64 2]) (zf1 (i:=4) (j:=5) (by simp[results9]) rfl rfl (zag _ rfl Zw _) rfl) rfl ?_;rw[HV.out];exact⟨none,0,none,0,none,0,rfl,ex,Nat.zero_le _,Nat.zero_le _,Nat.zero_le _⟩
theorem zFm (l d:Int)(W:World)(h1:za5 l 1 16=true)(h2:za5 d 1 8=true):Calls prog 9 #[l,d] W (zzE W (newW l d)):=by
 have HV:=zh (newW_yes h1 h2);have H1:=zh h1;have H2:=zh h2;clear h1 h2;go_enter func9,ntmps9;go_wp2_with (first|(go_at_call 33;refine(zCe _ _ _ _).mono ?_;rintro e w' ⟨he,rfl⟩;simp only[H1.out,H2.out] at he;subst he)|(refine zah rfl 30 _ rfl [(1,.int .i64 l),(2,.int .i64 d)] rfl #[zI,l,d,.bool false,zI,zI,.bool false,.slice none 0 0,zI,zI,.bool false,zI,zI,zI,.bool false,.slice none 0 0,zI,zI,.bool false,zI,.slice none 0 0] kr ?_)|(refine za7 rfl 30 (.tmp 6) (.tmp 23) rfl rfl sg [zI,l,d,.bool false,zI,zI,.bool false,.slice none 0 0,zI,zI,.bool false,zI,zI,zI,.bool false,.slice none 0 0,zI,zI,.bool false,zI,.slice none 0 0] rfl rfl kr (cells_one _ rfl) ?_));go_loopw [24] (fun i wr=>Ext W wr∧BoxAt wr W.heap.size Zw 30 ∧((i=.int .i64 0∧BoxAt wr (W.heap.size+1) [zI,l,d,.bool false,zI,zI,.bool false,.slice none 0 0,zI,zI,.bool false,zI,zI,zI,.bool false,.slice none 0 0,zI,zI,.bool false,zI,.slice none 0 0] 30)∨(i=.int .i64 1∧∃D K,K≤maxLen∧BoxAt wr (W.heap.size+1) [zI,l,d,.bool false,.int .i64 1,zI,.bool false,.slice D 0 K,zI,zI,.bool true,zI,zI,zI,.bool false,.slice none 0 0,zI,zI,.bool false,zI,.slice none 0 0] 30)∨(i=.int .i64 2∧∃D K E J,K≤maxLen∧J≤maxLen∧BoxAt wr (W.heap.size+1) [zI,l,d,.bool false,.int .i64 1,zI,.bool false,.slice D 0 K,zI,zI,.bool true,zI,.int .i64 2,zI,.bool false,.slice E 0 J,zI,zI,.bool true,zI,.slice none 0 0] 30))) (fun i _=>2 - (intOf i).toNat)
 case atStart => exact ⟨ex,by repeat (first | exact BoxAt.new (by first | rfl | (simp [go_sem];done) | (simp [go_sem];omega)) _ _ | apply BoxAt.xt | apply BoxAt.drew | apply BoxAt.drewN | apply BoxAt.alloc),.inl ⟨rfl,by repeat (first | exact BoxAt.new (by first | rfl | (simp [go_sem];done) | (simp [go_sem];omega)) _ _ | apply BoxAt.xt | apply BoxAt.drew | apply BoxAt.drewN | apply BoxAt.alloc)⟩⟩
 case round =>
  obtain⟨hx,hb0,hrel⟩:=hrel;rename_i wr;rcases hrel with⟨rfl,hb⟩|⟨rfl,D,K,hK,hb⟩|⟨rfl,D,K,E,J,hK,hJ,hb⟩
  ·have hsz:W.heap.size+2≤wr.heap.size:=by have:=hb.lt;omega
   go_wp2_with (first
    |(go_at_call 34;refine(zck 1 om om _).mono ?_;rintro e w' ⟨D,K,rfl,hx1,hK⟩;obtain⟨ya,rfl⟩:=hx1.get;clear hx1)
    |(refine zab rfl 26 (.tmp 41) (.tmp 39) rfl (hb.mono ex) 4 rfl [.int .i64 1,zI,.bool false,.slice D 0 K,zI,zI,.bool true,zI] rfl (show 12≤21 by decide) (show 21<44 by decide) kr (cells_one _ rfl) [zI,l,d,.bool false,.int .i64 1,zI,.bool false,.slice D 0 K,zI,zI,.bool true,zI,zI,zI,.bool false,.slice none 0 0,zI,zI,.bool false,zI,.slice none 0 0] rfl ?_;intro W1 ht1 hb1))
   go_light;exact⟨⟨ht1.ext (hx.trans ex) om,(hb0.mono ex).turn ht1 om,.inr (.inl ⟨rfl,D,K,hK,hb1⟩)⟩,by simp[intOf]⟩
  ·have hsz:W.heap.size+2≤wr.heap.size:=by have:=hb.lt;omega
   go_wp2_with (first
    |(go_at_call 34;refine(zck 2 om om _).mono ?_;rintro e w' ⟨E,J,rfl,hx1,hJ⟩;obtain⟨ya,rfl⟩:=hx1.get;clear hx1)
    |(refine zab rfl 26 (.tmp 41) (.tmp 39) rfl (hb.mono ex) 12 rfl [.int .i64 2,zI,.bool false,.slice E 0 J,zI,zI,.bool true,zI] rfl (show 20≤21 by decide) (show 21<44 by decide) kr (cells_one _ rfl) [zI,l,d,.bool false,.int .i64 1,zI,.bool false,.slice D 0 K,zI,zI,.bool true,zI,.int .i64 2,zI,.bool false,.slice E 0 J,zI,zI,.bool true,zI,.slice none 0 0] rfl ?_;intro W1 ht1 hb1))
   go_light;exact⟨⟨ht1.ext (hx.trans ex) om,(hb0.mono ex).turn ht1 om,.inr (.inr ⟨rfl,D,K,E,J,hK,hJ,hb1⟩)⟩,by simp[intOf]⟩
  ·have hsz:W.heap.size+2≤wr.heap.size:=by have:=hb.lt;omega
   refine hb.cB fun c0 c1 c2 c3 c4 c5 c6 c7 c8 c9 c10 c11 c12 c13 c14 c15 c16 c17 c18 c19 c20=>?_
   go_wp2_with (first
    |(go_at_call 35;refine(zq8 D K hK _).mono ?_;rintro e w' ⟨F,L,rfl,hx1,hL⟩;obtain⟨ya,rfl⟩:=hx1.get;clear hx1)
    |(refine zab rfl 24 (.tmp 58) (.tmp 55) rfl (hb.mono ex) 4 rfl [.int .i64 1,.int .i64 1,.bool true,.slice F 0 L,zI,zI] rfl (show 10≤21 by decide) (show 21<44 by decide) kr (cells_one _ rfl) [zI,l,d,.bool false,.int .i64 1,.int .i64 1,.bool true,.slice F 0 L,zI,zI,.bool true,zI,.int .i64 2,zI,.bool false,.slice E 0 J,zI,zI,.bool true,zI,.slice none 0 0] rfl ?_;intro W1 ht1 hb1;have hrw:=hb1.row (n:=21) rfl)
    |(refine za2 rfl 30 (.tmp 4) (.tmp 59) rfl ((hb0.mono ex).turn ht1 om) rfl [zI,l,d,.bool false,.int .i64 1,.int .i64 1,.bool true,.slice F 0 L,zI,zI,.bool true,zI,.int .i64 2,zI,.bool false,.slice E 0 J,zI,zI,.bool true,zI,.slice none 0 0] rfl rfl (show 21<44 by decide) kr (cells_one _ rfl) ?_;intro W2 ht2 hb2))
   refine bodyPost_ret (v:=.tuple #[.agg #[zI,l,d,.bool false,.int .i64 1,.int .i64 1,.bool true,.slice F 0 L,zI,zI,.bool true,zI,.int .i64 2,zI,.bool false,.slice E 0 J,zI,zI,.bool true,zI,.slice none 0 0],zI]) (zf1 (i:=4) (j:=5) (by simp[results9]) rfl rfl hb2.range rfl) rfl ?_;rw[HV.out];exact⟨F,L,E,J,none,0,rfl,ht2.ext (ht1.ext (hx.trans ex) om) om,hL,hJ,Nat.zero_le _⟩
theorem zFj (l d:Int)(W:World):Calls prog 9 #[l,d] W (zzE W (newW l d)):=by
 cases h1:za5 l 1 16 with
 |false=>exact zFk l d W h1
 |true=>
  cases h2:za5 d 1 8 with
  |false=>exact zFl l d W h1 h2
  |true=>exact zFm l d W h1 h2
