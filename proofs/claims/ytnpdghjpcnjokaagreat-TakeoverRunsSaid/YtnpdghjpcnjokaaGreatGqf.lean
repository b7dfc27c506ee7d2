import Derived.Test.YtnpdghjpcnjokaaGreatGrv
import Derived.Test.YtnpdghjpcnjokaaGreatGrqe
set_option maxHeartbeats 6400000
set_option maxRecDepth 100000
set_option linter.all false
namespace Go.Proofs.YtnpdghjpcnjokaaGreat
open Go.RowKit Go.Proofs.Tryz

def loadWQ (v:Value):Sem Value:=Instr.loadAt 46 v
def loadWQ' (v:Value):Sem Value:=Instr.loadAt 46 v
@[go_sem ↓ high] theorem loadWQ_at (v : Value) : Instr.loadAt 46 v = loadWQ v:=rfl
@[go_sem] theorem loadWQ_run (w : World) (b o : Nat) : (loadWQ (.pointer (some ⟨b,o,none⟩))).run prog w = match rowQ w b o 21 with | some cs => .ok (.agg cs.toArray) w | none => (loadWQ' (.pointer (some ⟨b,o,none⟩))).run prog w:=by
 split
 ·rename_i cs h;obtain⟨h1,h2⟩:=zfr h;exact run_loadAt_mid w b o _ cs _ h1 underlying46 rfl (by rw[h2];kernel_rfl)
 ·rfl

section
variable {w:Wld} {W W':World} {A B M:Option Addr} {c d k:Nat} {xs:List (Ltr×Option Addr×Nat)}
theorem wldE_c (h1:za5 w.now 0 1048576=true)(h2:za5 w.limit 1 16=true)(h3:za5 w.delay 1 8=true):
  wldE w=if staE 1 w.a≠0 then staE 1 w.a else if staE 2 w.b≠0 then staE 2 w.b else if 256<w.mail.length then 5 else ltrsE w.mail:=by
 have:=za8 h1;have:=za8 h2;have:=za8 h3;unfold wldE;rw[if_neg om];rfl
theorem staE_n {s:Sta}{i:Int}(h:nodE s.node≠0):staE i s=nodE s.node:=by unfold staE;rw[if_pos h]
theorem staE_i {s:Sta}{i:Int}(h:nodE s.node=0)(h1:s.node.id≠i):staE i s=11:=by unfold staE;rw[if_neg (by simpa using h),if_pos h1]
theorem staE_q {s:Sta}{i:Int}(h:nodE s.node=0)(h1:s.node.id=i)(h2:za5 s.quiet 0 1048576=false):staE i s=2:=by have:=zaF h2;unfold staE;rw[if_neg (by simpa using h),if_neg (by simpa using h1),if_pos om]
theorem staE_o {s:Sta}{i:Int}(h:nodE s.node=0)(h1:s.node.id=i)(h2:za5 s.quiet 0 1048576=true):staE i s=0:=by have:=za8 h2;unfold staE;rw[if_neg (by simpa using h),if_neg (by simpa using h1),if_neg om]
theorem zHp (h:WldAt W w A c B d M k xs):Calls prog 15 #[.agg (Lw w A c B d M k)] W fun e W'=>e=.returned (.int .i64 (wldE w))∧Ext W W':=by
 have hl:=h.mail.cap;have hl2:=h.mail.le;have hlm:xs.length=w.mail.length:=h.len;have hml:w.mail.length≤9223372036854775807:=by unfold maxLen at hl;omega
 have hla:=h.a.len;have hlb:=h.b.len;have HRA:=zh h.a;have HRB:=zh h.b;have HSL:=zh h.mail.sl;have HEL:=zh h.mail.el;have HIS:=zh h.is;have HLM:=zh hlm;clear h hl hl2 hlm;cases h1:za5 w.now 0 1048576 with
 |false=>have HR:=zh (zFK (.inl h1));have H1:=zh h1;clear h1;go_enter func15,ntmps15;go_wp2_with (go_at_call 36;refine(zbp _ _ _ _).mono ?_;rintro e w' ⟨he,rfl⟩;simp only[H1.out] at he;subst he);go_ret;exact⟨ret_i HR.out.symm,ex⟩
 |true=>
  cases h2:za5 w.limit 1 16 with
  |false=>have HR:=zh (zFK (.inr (.inl h2)));have H1:=zh h1;have H2:=zh h2;clear h1 h2;go_enter func15,ntmps15;go_wp2_with (go_at_call 36;refine(zbp _ _ _ _).mono ?_;rintro e w' ⟨he,rfl⟩;simp only[H1.out,H2.out] at he;subst he);go_ret;exact⟨ret_i HR.out.symm,ex⟩
  |true=>
   cases h3:za5 w.delay 1 8 with
   |false=>have HR:=zh (zFK (.inr (.inr h3)));have H1:=zh h1;have H2:=zh h2;have H3:=zh h3;clear h1 h2 h3;go_enter func15,ntmps15;go_wp2_with (go_at_call 36;refine(zbp _ _ _ _).mono ?_;rintro e w' ⟨he,rfl⟩;simp only[H1.out,H2.out,H3.out] at he;subst he);go_ret;exact⟨ret_i HR.out.symm,ex⟩
   |true=>
    have HR:=zh (wldE_c h1 h2 h3);have H1:=zh h1;have H2:=zh h2;have H3:=zh h3;clear h1 h2 h3;go_enter func15,ntmps15;go_wp2_with (go_at_call 36;refine(zbp _ _ _ _).mono ?_;rintro e w' ⟨he,rfl⟩;simp only[H1.out,H2.out,H3.out] at he;subst he);go_loopw [3] (fun i wr=> ∃V,V=wr∧Ext (W.alloc (.cells (Lw w A c B d M k) 46)) V∧(i=.int .i64 0∨(i=.int .i64 1∧Hid (staE 1 w.a=0))∨(i=.int .i64 2∧Hid (staE 1 w.a=0)∧Hid (staE 2 w.b=0)))) (fun i _=>2 - (intOf i).toNat)
    case atStart => exact ⟨_,rfl,ex,.inl rfl⟩
    case round =>
     obtain⟨V,rfl,hx,hrel⟩:=hrel;obtain⟨y0,rfl⟩:=hx.get;clear hx;rcases hrel with rfl|⟨rfl,HS1⟩|⟨rfl,HS1,HS2⟩
     ·by_cases hn:nodE w.a.node=0
      ·have hz:(nodE w.a.node !=0)=false:=by simpa using hn
       by_cases hi:w.a.node.id=1
       ·have hzi:(w.a.node.id !=1)=false:=by simpa using hi
        cases hq:za5 w.a.quiet 0 1048576
        ·have HSE:=zh (staE_q hn hi hq);have HV:=zh (show wldE w=2 by rw[HR.out];rw[if_pos (by rw[HSE.out];simp),HSE.out]);have HQ:=zh hq;clear hn hi hq;go_wp2_with (first|(go_at_call 49;refine zzg (zay w.a.node A c _ (HRA.out.mono ex)) fun y=>?_)|(go_at_call 36;refine(zbp _ _ _ _).mono ?_;rintro e w' ⟨he,rfl⟩;simp only[HQ.out] at he;subst he));go_ret;exact⟨ret_i HV.out.symm,ex⟩
        ·have HSE:=zh (staE_o hn hi hq);have HQ:=zh hq;clear hn hi hq;go_wp2_with (first|(go_at_call 49;refine zzg (zay w.a.node A c _ (HRA.out.mono ex)) fun y=>?_)|(go_at_call 36;refine(zbp _ _ _ _).mono ?_;rintro e w' ⟨he,rfl⟩;simp only[HQ.out] at he;subst he));go_light;exact⟨⟨_,rfl,ex,.inr (.inl ⟨rfl,HSE⟩)⟩,by simp[intOf]⟩
       ·have hzi:(w.a.node.id !=1)=true:=by simpa using hi
        have HSE:=zh (staE_i hn hi);have HV:=zh (show wldE w=11 by rw[HR.out];rw[if_pos (by rw[HSE.out];simp),HSE.out]);clear hn hi;go_wp2_with (go_at_call 49;refine zzg (zay w.a.node A c _ (HRA.out.mono ex)) fun y=>?_);go_ret;exact⟨ret_i HV.out.symm,ex⟩
      ·have hz:(nodE w.a.node !=0)=true:=by simpa using hn
       have HSE:=zh (staE_n (i:=1) hn);have HN:=zh hn;have HV:=zh (show wldE w=nodE w.a.node by rw[HR.out];rw[if_pos (by rw[HSE.out];exact HN.out),HSE.out]);clear hn;go_wp2_with (go_at_call 49;refine zzg (zay w.a.node A c _ (HRA.out.mono ex)) fun y=>?_);go_ret;exact⟨ret_i HV.out.symm,ex⟩
     ·by_cases hn:nodE w.b.node=0
      ·have hz:(nodE w.b.node !=0)=false:=by simpa using hn
       by_cases hi:w.b.node.id=2
       ·have hzi:(w.b.node.id !=2)=false:=by simpa using hi
        cases hq:za5 w.b.quiet 0 1048576
        ·have HSE:=zh (staE_q hn hi hq);have HV:=zh (show wldE w=2 by rw[HR.out];rw[HS1.out,if_neg (by simp)];rw[if_pos (by rw[HSE.out];simp),HSE.out]);have HQ:=zh hq;clear hn hi hq;go_wp2_with (first|(go_at_call 49;refine zzg (zay w.b.node B d _ (HRB.out.mono ex)) fun y=>?_)|(go_at_call 36;refine(zbp _ _ _ _).mono ?_;rintro e w' ⟨he,rfl⟩;simp only[HQ.out] at he;subst he));go_ret;exact⟨ret_i HV.out.symm,ex⟩
        ·have HSE:=zh (staE_o hn hi hq);have HQ:=zh hq;clear hn hi hq;go_wp2_with (first|(go_at_call 49;refine zzg (zay w.b.node B d _ (HRB.out.mono ex)) fun y=>?_)|(go_at_call 36;refine(zbp _ _ _ _).mono ?_;rintro e w' ⟨he,rfl⟩;simp only[HQ.out] at he;subst he));go_light;exact⟨⟨_,rfl,ex,.inr (.inr ⟨rfl,HS1,HSE⟩)⟩,by simp[intOf]⟩
       ·have hzi:(w.b.node.id !=2)=true:=by simpa using hi
        have HSE:=zh (staE_i hn hi);have HV:=zh (show wldE w=11 by rw[HR.out];rw[HS1.out,if_neg (by simp)];rw[if_pos (by rw[HSE.out];simp),HSE.out]);clear hn hi;go_wp2_with (go_at_call 49;refine zzg (zay w.b.node B d _ (HRB.out.mono ex)) fun y=>?_);go_ret;exact⟨ret_i HV.out.symm,ex⟩
      ·have hz:(nodE w.b.node !=0)=true:=by simpa using hn
       have HSE:=zh (staE_n (i:=2) hn);have HN:=zh hn;have HV:=zh (show wldE w=nodE w.b.node by rw[HR.out];rw[HS1.out,if_neg (by simp)];rw[if_pos (by rw[HSE.out];exact HN.out),HSE.out]);clear hn;go_wp2_with (go_at_call 49;refine zzg (zay w.b.node B d _ (HRB.out.mono ex)) fun y=>?_);go_ret;exact⟨ret_i HV.out.symm,ex⟩
     ·by_cases h4:256<w.mail.length
      ·have hd:decide ((256:Int)<(w.mail.length:Int))=true:=decide_eq_true om;have HV:=zh (show wldE w=5 by rw[HR.out,HS1.out,if_neg (by simp),HS2.out,if_neg (by simp),if_pos h4]);clear h4;go_wp2;go_ret;exact⟨ret_i HV.out.symm,ex⟩
      ·have hd:decide ((256:Int)<(w.mail.length:Int))=false:=decide_eq_false om;have HM:=zh (show wldE w=scan (fun _ x=>ltrE x) (prv (xs.map (·.1)) 0) ((xs.map (·.1)).drop 0) by rw[HR.out,HS1.out,if_neg (by simp),HS2.out,if_neg (by simp),if_neg h4,←HIS.out];rfl);clear h4;go_wp2;go_loopw [6] (fun i wr=> ∃j:Nat,j≤w.mail.length∧i=.int .i64 j∧Ext (W.alloc (.cells (Lw w A c B d M k) 46)) wr∧Hid (wldE w=scan (fun _ x=>ltrE x) (prv (xs.map (·.1)) j) ((xs.map (·.1)).drop j))) (fun i _=>w.mail.length - (intOf i).toNat)
       case atStart => exact ⟨0,by omega,rfl,ex,HM⟩
       case round =>
        obtain⟨j,hj,rfl,hx,HE⟩:=hrel;obtain⟨y1,rfl⟩:=hx.get;clear hx HM;by_cases hlt:j<w.mail.length
        ·obtain⟨x,hx⟩:∃x,xs[j]?=some x:=⟨_,List.getElem?_eq_getElem (by rw[HLM.out];exact hlt)⟩
         have HL:=zh (HEL.out x (List.mem_of_getElem? hx));have hxl:=HL.out.len;have HE2:=zh (HE.out.trans (zcu (fun _ x=>ltrE x) (xs.map (·.1)) j x.1 (by rw[List.getElem?_map,hx];rfl)));obtain⟨b,o,rfl,c0,c1,c2,c3,c4,c5,c6,c7⟩:=HSL.out.row8 (i:=j) (by rw[List.getElem?_map,hx];rfl);have hb0:(0:Int)≤(j:Int):=by omega
         have hb2:(j:Int)<(w.mail.length:Int):=by omega
         clear hx HE;cases g1:za5 x.1.dst 1 2
         ·have G1:=zh g1;have HV:=zh (show 2=wldE w by rw[HE2.out,if_pos (by rw[zGv (.inl G1.out)];simp),zGv (.inl G1.out)]);clear g1;go_wp2_with (go_at_call 36;refine(zbp _ _ _ _).mono ?_;rintro e w' ⟨he,rfl⟩;simp only[G1.out] at he;subst he);go_ret;exact⟨ret_i HV.out,ex⟩
         ·have G1:=zh g1;cases g2:za5 x.1.at_ 0 1048576
          ·have G2:=zh g2;have HV:=zh (show 2=wldE w by rw[HE2.out,if_pos (by rw[zGv (.inr G2.out)];simp),zGv (.inr G2.out)]);clear g1 g2;go_wp2_with (go_at_call 36;refine(zbp _ _ _ _).mono ?_;rintro e w' ⟨he,rfl⟩;simp only[G1.out,G2.out] at he;subst he);go_ret;exact⟨ret_i HV.out,ex⟩
          ·have G2:=zh g2;have HLE:=zh (ltrE_b g1 g2);clear g1 g2;by_cases he:msgE x.1.msg=0
           ·have hz:(msgE x.1.msg !=0)=false:=by simpa using he
            have HF:=zh (show wldE w=scan (fun _ x=>ltrE x) (prv (xs.map (·.1)) (j+1)) ((xs.map (·.1)).drop (j+1)) by rw[HE2.out,if_neg (by rw[HLE.out];simpa using he)]);clear he;go_wp2_with (first|(go_at_call 36;refine(zbp _ _ _ _).mono ?_;rintro e w' ⟨he,rfl⟩;simp only[G1.out,G2.out] at he;subst he)|(go_at_call 50;refine zzg (zdR x.1.msg x.2.1 x.2.2 _ (HL.out.mono ex)) fun y=>?_));go_light;exact⟨⟨j+1,by omega,by go_num,ex,HF⟩,by simp[intOf];omega⟩
           ·have hz:(msgE x.1.msg !=0)=true:=by simpa using he
            have HV:=zh (show msgE x.1.msg=wldE w by rw[HE2.out,if_pos (by rw[HLE.out];exact he),HLE.out]);clear he;go_wp2_with (first|(go_at_call 36;refine(zbp _ _ _ _).mono ?_;rintro e w' ⟨he,rfl⟩;simp only[G1.out,G2.out] at he;subst he)|(go_at_call 50;refine zzg (zdR x.1.msg x.2.1 x.2.2 _ (HL.out.mono ex)) fun y=>?_));go_ret;exact⟨ret_i HV.out,ex⟩
        ·have HV:=zh (HE.out.trans (zbX (fun _ x=>ltrE x) (xs.map (·.1)) j _ (by rw[List.length_map,HLM.out];omega)));go_wp2;go_ret;exact⟨ret_i HV.out.symm,ex⟩
end

section
variable {w:Wld} {W W':World} {A B M:Option Addr} {c d k:Nat} {xs:List (Ltr×Option Addr×Nat)}
theorem zHo (h:WldAt W w A c B d M k xs):Calls prog 40 #[.agg (Lw w A c B d M k)] W fun e W'=>e=.returned (.int .i64 (zc6 w))∧Ext W W':=by
 have hla:=h.a.len;have hlb:=h.b.len;have hml:w.mail.length≤9223372036854775807:=by have h1:=h.mail.le;have h2:=h.mail.cap;rw[h.len] at h1;unfold maxLen at h2;omega
 clear h;obtain⟨v,hv⟩:∃v,zc6 w=v:=⟨_,rfl⟩
 have HV:=zh hv;rw[hv];clear hv;by_cases hlt:w.a.node.term<w.b.node.term
 all_goals
  have HT:=zh hlt;cases ha:w.a.up
  all_goals
   cases hb:w.b.up
   all_goals
    cases ha2:w.a.node.speaks
    all_goals
     cases hb2:w.b.node.speaks
     all_goals
      have HZ:=zh (And.intro (And.intro ha hb) (And.intro ha2 hb2));clear ha hb ha2 hb2;go_enter func40,ntmps40;go_wp2;refine wp_loop_rounds 3 ?_;rw[rounds_succ];go_wp2;(refine zcL kr kr ?_;(repeat(go_big_quiet_step (fail)));refine wqN fun y=>?_);go_wp2;rw[rounds_succ];go_wp2;(refine zcL kr kr ?_;(repeat(go_big_quiet_step (fail)));refine wqN fun y=>?_);go_wp2;rw[rounds_succ];go_wp2;go_ret;refine⟨ret_i ?_,ex⟩;rw[←HV.out];unfold zc6;have hz:=HZ.out;have ht:=HT.out;simp[hz.1.1,hz.1.2,hz.2.1,hz.2.2,ht]
end
theorem results_W5 {fn:Func}{tmps:Array Value}{w:World}{i j b:Nat}{cells:List Value}{v:Value}(hf:fn.results=#[.cell i 46,.tmp j])(ht:tmps.getD i undef=.pointer (some ⟨b,0,none⟩))(hv:tmps.getD j undef=v)(hr:w.rangeAt b 0 cells)(hc:cells.length=21):(results fn tmps).run prog w=.ok (.tuple #[.agg cells.toArray,v]) w:=by
 have hl:=run_loadVar_mid w b 0 46 cells _ hr underlying46 rfl (by rw[hc];kernel_rfl);have ha:(asAddr (tmps.getD i undef)).run prog w=.ok ⟨b,0,none⟩ w:=by rw[ht];rfl
 unfold results;rw[hf];simp only[List.mapM_toArray,List.mapM_cons,List.mapM_nil,Sem.run_bind,Sem.run_map,Sem.run_pure,bind_pure_comp,ha,hl,hv,Result.andThen];rfl
section
variable {w:Wld} {W W':World} {A B M:Option Addr} {c d k:Nat} {xs:List (Ltr×Option Addr×Nat)}
def FewW (W:World) (w:Wld) (e:Ending) (W':World):Prop:=(∃b:Bool,e=.returned (.bool b)∧(b=true→w.mail.length≤1000))∧Ext W W'
theorem r55_Few (h:WldAt W w A c B d M k xs):Calls prog 30 #[.agg (Lw w A c B d M k)] W (FewW W w):=by
 have hla:=h.a.len;have hlb:=h.b.len;have hml:w.mail.length≤9223372036854775807:=by have h1:=h.mail.le;have h2:=h.mail.cap;rw[h.len] at h1;unfold maxLen at h2;omega
 have HRA:=zh h.a;have HRB:=zh h.b;have HSL:=zh h.mail.sl;have HEL:=zh h.mail.el;have HLM:=zh h.len;clear h;go_enter func30,ntmps30;go_wp2;go_loopw [3] (fun i wr=> ∃V,V=wr∧Ext (W.alloc (.cells (Lw w A c B d M k) 46)) V∧(i=.int .i64 0∨i=.int .i64 1∨i=.int .i64 2)) (fun i _=>2 - (intOf i).toNat)
 case atStart => exact ⟨_,rfl,ex,.inl rfl⟩
 case round =>
  obtain⟨V,rfl,hx,hrel⟩:=hrel;obtain⟨y0,rfl⟩:=hx.get;clear hx;rcases hrel with rfl|rfl|rfl
  ·by_cases h20:20<w.a.node.log.length
   ·have hd:decide ((20:Int)<(w.a.node.log.length:Int))=true:=decide_eq_true om;go_wp2;go_ret;exact⟨⟨false,rfl,fun h=>by cases h⟩,ex⟩
   ·have hd:decide ((20:Int)<(w.a.node.log.length:Int))=false:=decide_eq_false om;go_wp2_with (go_at_call 75;refine(zct A c _ w.a.node.log rfl _ (HRA.out.mono ex)).mono ?_;rintro e w' ⟨⟨bb,rfl,hbb⟩,hx⟩;clear hbb;obtain⟨yd,rfl⟩:=hx.get;clear hx)
    ·go_ret;exact⟨⟨false,rfl,fun h=>by cases h⟩,ex⟩
    ·go_light;exact⟨⟨_,rfl,ex,.inr (.inl rfl)⟩,by simp[intOf]⟩
  ·by_cases h20:20<w.b.node.log.length
   ·have hd:decide ((20:Int)<(w.b.node.log.length:Int))=true:=decide_eq_true om;go_wp2;go_ret;exact⟨⟨false,rfl,fun h=>by cases h⟩,ex⟩
   ·have hd:decide ((20:Int)<(w.b.node.log.length:Int))=false:=decide_eq_false om;go_wp2_with (go_at_call 75;refine(zct B d _ w.b.node.log rfl _ (HRB.out.mono ex)).mono ?_;rintro e w' ⟨⟨bb,rfl,hbb⟩,hx⟩;clear hbb;obtain⟨yd,rfl⟩:=hx.get;clear hx)
    ·go_ret;exact⟨⟨false,rfl,fun h=>by cases h⟩,ex⟩
    ·go_light;exact⟨⟨_,rfl,ex,.inr (.inr rfl)⟩,by simp[intOf]⟩
  ·go_wp2;go_loopw [4] (fun i wr=> ∃j:Nat,j≤w.mail.length∧j≤20∧i=.int .i64 j∧Ext (W.alloc (.cells (Lw w A c B d M k) 46)) wr) (fun i _=>20 - (intOf i).toNat)
   case atStart => exact ⟨0,by omega,by omega,rfl,ex⟩
   case round =>
    obtain⟨j,hj,hj2,rfl,hx⟩:=hrel;obtain⟨y1,rfl⟩:=hx.get;clear hx;by_cases hlt:j<w.mail.length∧j<20
    ·obtain⟨hlt,hlt2⟩:=hlt;obtain⟨x,hx⟩:∃x,xs[j]?=some x:=⟨_,List.getElem?_eq_getElem (by rw[HLM.out];exact hlt)⟩
     have HL:=zh (HEL.out x (List.mem_of_getElem? hx));have hxl:=HL.out.len;obtain⟨b,o,rfl,c0,c1,c2,c3,c4,c5,c6,c7⟩:=HSL.out.row8 (i:=j) (by rw[List.getElem?_map,hx];rfl);have hb0:(0:Int)≤(j:Int):=by omega
     have hb2:(j:Int)<(w.mail.length:Int):=by omega
     have hb3:decide ((j:Int)<20)=true:=decide_eq_true om;clear hx;go_wp2_with (go_at_call 75;refine(zct x.2.1 x.2.2 _ x.1.msg.recs rfl _ (HL.out.mono ex)).mono ?_;rintro e w' ⟨⟨bb,rfl,hbb⟩,hx⟩;clear hbb;obtain⟨yd,rfl⟩:=hx.get;clear hx)
     ·go_ret;exact⟨⟨false,rfl,fun h=>by cases h⟩,ex⟩
     ·go_light;exact⟨⟨j+1,by omega,by omega,by go_num,ex⟩,by simp[intOf];omega⟩
    ·have hm0:(0:Int)≤(w.mail.length:Int):=by omega
     by_cases hq:w.mail.length≤20
     ·have hd1:decide ((w.mail.length:Int)≤20)=true:=decide_eq_true om;by_cases hlt3:j<w.mail.length
      ·exfalso;omega
      ·have hd2:decide ((j:Int)<(w.mail.length:Int))=false:=decide_eq_false om;go_wp2;go_ret;exact⟨⟨true,rfl,fun _=>by omega⟩,ex⟩
     ·have hd1:decide ((w.mail.length:Int)≤20)=false:=decide_eq_false om;have hd2:decide ((j:Int)<(w.mail.length:Int))=true:=decide_eq_true om;have hd3:decide ((j:Int)<20)=false:=decide_eq_false om;by_cases hq2:256<w.mail.length
      ·have hd4:decide ((256:Int)<(w.mail.length:Int))=true:=decide_eq_true om;by_cases hq3:w.mail.length<1000
       ·have hd5:decide ((w.mail.length:Int)<1000)=true:=decide_eq_true om;go_wp2;go_ret;exact⟨⟨true,rfl,fun _=>by omega⟩,ex⟩
       ·have hd5:decide ((w.mail.length:Int)<1000)=false:=decide_eq_false om;go_wp2;go_ret;exact⟨⟨false,rfl,fun h=>by cases h⟩,ex⟩
      ·have hd4:decide ((256:Int)<(w.mail.length:Int))=false:=decide_eq_false om;go_wp2;go_ret;exact⟨⟨false,rfl,fun h=>by cases h⟩,ex⟩
end

def buildL (ps:Array (Nat×Value)):Sem Value:=Instr.buildSlice 44 1 ps
@[go_sem ↓ high] theorem buildL_at (ps : Array (Nat × Value)) : Instr.buildSlice 44 1 ps = buildL ps:=rfl
@[go_sem] theorem buildL_run (w : World) (cs : Array Value) (h : cs.size = 8) : (buildL #[(0,.agg cs)]).run prog w = .ok (.slice (some ⟨w.heap.size,0,none⟩) 1 1) (w.alloc (.cells cs 120)) :=
 zdn w _ _ cs 8 underlying44 kr kr h dk dk
theorem info_L5:zbz prog 120 8 80=true:=by kernel_rfl
theorem zero_L5:zgg prog 120 =true:=by kernel_rfl
def RetOfW (W:World) (w:Wld) (e:Ending) (W':World):Prop:=∃A a B b M m xs,e=.returned (.agg (Lw w A a B b M m))∧Ext W W'∧WldAt W' w A a B b M m xs
def Stab.sta (w:World) (s:Sta):Stab:=⟨fun x W=> ∃D K,x=.agg (Ls s D K)∧LogW w W D s.node.log.length K s.node.log,fun _ _ _ hx ⟨D,K,e,h⟩=>⟨D,K,e,h.mono hx⟩⟩
def Stab.msgw (w:World) (m:Msg):Stab:=⟨fun x W=> ∃D K,x=.agg (Lm m D K)∧LogW w W D m.recs.length K m.recs,fun _ _ _ hx ⟨D,K,e,h⟩=>⟨D,K,e,h.mono hx⟩⟩
def Stab.ltr (w:World) (x:Ltr):Stab:=⟨fun v W=> ∃D K,v=.agg (Ll x D K)∧LogW w W D x.msg.recs.length K x.msg.recs,fun _ _ _ hx ⟨D,K,e,h⟩=>⟨D,K,e,h.mono hx⟩⟩
def Stab.one (w:World) (x:Ltr):Stab:=⟨fun v W=> ∃g D K,v=.slice (some ⟨g,0,none⟩) 1 1∧Sl W (some ⟨g,0,none⟩) 8 [ltrR (x,D,K)]∧LogW w W D x.msg.recs.length K x.msg.recs,fun _ _ _ hx ⟨g,D,K,e,h1,h2⟩=>⟨g,D,K,e,h1.mono hx,h2.mono hx⟩⟩
structure MailL (w0 X W : World) (M : Option Addr) (m n : Nat) (l : List Ltr) (xs : List (Ltr × Option Addr × Nat)) : Prop where
 own:OwnM X W 120 8 M n m (xs.map ltrR)
 room:M=none∨m≠0
 is:xs.map (·.1)=l
 el:∀x∈xs,LogW w0 W x.2.1 x.1.msg.recs.length x.2.2 x.1.msg.recs
section
variable {w0 X W V:World} {M:Option Addr} {m n:Nat} {l:List Ltr} {xs:List (Ltr×Option Addr×Nat)}
theorem MailL.mono (h:MailL w0 X W M m n l xs)(hx:Ext W V):MailL w0 X V M m n l xs:=⟨h.own.mono hx,h.room,h.is,fun x hm=>(h.el x hm).mono hx⟩
theorem MailL.ne {cs:List Value}{g:Nat}(h:MailL w0 X W M m n l xs)(hb:BoxAt W g cs 46):∀p,M=some p→p.block≠g:=fun p hp e=>by
 rcases h.own.own.at_ with h0|⟨k,cur,h1,h2,h3,h4⟩
 ·rcases h.room with hr|hr
  ·rw[hr] at hp;cases hp
  ·exact hr h0
 ·rw[h1] at hp;injection hp with hp;subst hp;have e:k=g:=e;subst e;unfold BoxAt at hb;rw[h3] at hb;injection hb with hb;injection hb with e1 e2;cases e2
theorem MailL.more {V':World} {g:Nat} {cs:List Value} (h:MailL w0 X W M m n l xs) (_hb:BoxAt W g cs 46) (hs:Stay 120 46 W V) (_hg:W.grownBy V (M.map (·.block))) {M':Option Addr} {m':Nat} {y:Ltr} {D:Option Addr} {K:Nat}
  (ho:OwnM X V 120 8 M' (n+1) m' (xs.map ltrR++[ltrR (y,D,K)])) (hk:m'≠0) (hl:LogW w0 W D y.msg.recs.length K y.msg.recs) (hbV:BoxAt V g cs 46) (ht:Turn g V V'):MailL w0 X V' M' m' (n+1) (l++[y]) (xs++[(y,D,K)]):=by
 have e1:xs.map ltrR++[ltrR (y,D,K)]=(xs++[(y,D,K)]).map ltrR:=by rw[List.map_append];rfl
 rw[e1] at ho;have hb0:MailL w0 X V M' m' (n+1) (l++[y]) (xs++[(y,D,K)]):=⟨ho,.inr hk,by rw[List.map_append];exact congrArg (·++[y]) h.is,fun z hz=>by
  rcases List.mem_append.1 hz with hz|hz
  ·exact hs.logw (h.el z hz)
  ·simp only[List.mem_singleton] at hz;subst hz;exact hs.logw hl⟩
 exact⟨hb0.own.turn ht (hb0.ne hbV),hb0.room,hb0.is,fun z hz=>(hb0.el z hz).turn ht⟩
theorem MailL.box {cs:List Value}{g:Nat}(h:MailL w0 X W M m n l xs)(hb:BoxAt W g cs 46)(hg:W.grownBy V (M.map (·.block))):BoxAt V g cs 46:=by
 unfold BoxAt;rw[hg.block g hb.lt ?_]
 ·exact hb
 ·intro e;cases M with
  |none=>cases e
  |some p=>simp only[Option.map_some,Option.some.injEq] at e;exact h.ne hb p rfl e.symm
theorem MailL.turn {g:Nat}{cs:List Value}(h:MailL w0 X W M m n l xs)(hb:BoxAt W g cs 46)(ht:Turn g W V):MailL w0 X V M m n l xs:=⟨h.own.turn ht (h.ne hb),h.room,h.is,fun x hm=>(h.el x hm).turn ht⟩
theorem MailL.at_ (h:MailL w0 X W M m n l xs)(hx:Ext w0 V)(hy:Ext W V):zrG V M m xs:=
 ⟨(h.own.own.sl).mono hy,by rw[show xs.length=n by have:=h.own.own.len;rwa [List.length_map] at this];exact h.own.own.le,h.own.own.cap,fun x hm=>⟨((h.el x hm).sl).mono hy,(h.el x hm).le,(h.el x hm).cap,fun r hr=>((h.el x hm).el r hr).mono hx⟩⟩
end
theorem results_one {fn:Func}{tmps:Array Value}{w:World}{i b:Nat}{cells:List Value}(hf:fn.results=#[.cell i 46])(ht:tmps.getD i undef=.pointer (some ⟨b,0,none⟩))(hr:w.rangeAt b 0 cells)(hc:cells.length=21):(results fn tmps).run prog w=.ok (.agg cells.toArray) w:=by
 have hl:=run_loadVar_mid w b 0 46 cells _ hr underlying46 rfl (by rw[hc];kernel_rfl);have ha:(asAddr (tmps.getD i undef)).run prog w=.ok ⟨b,0,none⟩ w:=by rw[ht];rfl
 unfold results;rw[hf];simp only[List.mapM_toArray,List.mapM_cons,List.mapM_nil,Sem.run_bind,Sem.run_map,Sem.run_pure,bind_pure_comp,ha,hl,Result.andThen];rfl
theorem take_snocL {l:List Ltr}{k:Nat}{m:Ltr}(h:l[k]?=some m):l.take k++[m]=l.take (k+1):=by obtain⟨h1,h2⟩:=List.getElem?_eq_some_iff.1 h;rw[List.take_succ_eq_append_getElem h1,h2]
section
variable {w:Wld} {W W':World} {A B M:Option Addr} {c d k:Nat} {xs:List (Ltr×Option Addr×Nat)}
theorem l55_of (h:WldAt W w A c B d M k xs)(hna:w.a.node.log.length * 552≤140737488355328)(hnb:w.b.node.log.length * 552≤140737488355328)(hnm:w.mail.length * 80≤140737488355328)(hnl:∀x∈xs,x.1.msg.recs.length * 552≤140737488355328):
  Calls prog 13 #[.agg (Lw w A c B d M k)] W (RetOfW W w):=by
 have hla:=h.a.len;have hlb:=h.b.len;have hlm:xs.length=w.mail.length:=h.len;have hml:w.mail.length≤9223372036854775807:=by have h1:=h.mail.le;have h2:=h.mail.cap;rw[h.len] at h1;unfold maxLen at h2;omega
 have HRA:=zh h.a;have HRB:=zh h.b;have HSL:=zh h.mail.sl;have HEL:=zh h.mail.el;have HIS:=zh h.is;have HNL:=zh hnl;clear h hnl;go_enter func13,ntmps13;go_wp2_with (first|(refine zah rfl 46 _ rfl [(0,.int .i64 w.now),(1,.int .i64 w.limit),(2,.int .i64 w.delay),(3,.bool w.cut)] rfl #[w.now,w.limit,w.delay,w.cut,zI,zI,.bool false,.slice none 0 0,zI,zI,.bool false,zI,zI,zI,.bool false,.slice none 0 0,zI,zI,.bool false,zI,.slice none 0 0] kr ?_)|(refine za7 rfl 46 (.tmp 3) (.tmp 16) rfl rfl sg [w.now,w.limit,w.delay,w.cut,zI,zI,.bool false,.slice none 0 0,zI,zI,.bool false,zI,zI,zI,.bool false,.slice none 0 0,zI,zI,.bool false,zI,.slice none 0 0] rfl rfl kr (cells_one _ rfl) ?_));go_loopw [19] (fun i wr=>Ext ((W.alloc (.cells (Lw w A c B d M k) 30)).alloc (.cells Zw 46)) wr∧((i=.int .i64 0∧BoxAt wr (W.heap.size+2) [w.now,w.limit,w.delay,w.cut,zI,zI,.bool false,.slice none 0 0,zI,zI,.bool false,zI,zI,zI,.bool false,.slice none 0 0,zI,zI,.bool false,zI,.slice none 0 0] 46)∨(i=.int .i64 1∧∃D K,LogW W wr D w.a.node.log.length K w.a.node.log∧BoxAt wr (W.heap.size+2) [w.now,w.limit,w.delay,w.cut,w.a.node.id,w.a.node.term,w.a.node.speaks,.slice D w.a.node.log.length K,w.a.node.acked,w.a.node.next,w.a.up,w.a.quiet,zI,zI,.bool false,.slice none 0 0,zI,zI,.bool false,zI,.slice none 0 0] 46)∨(i=.int .i64 2∧∃D K E J,LogW W wr D w.a.node.log.length K w.a.node.log∧LogW W wr E w.b.node.log.length J w.b.node.log∧BoxAt wr (W.heap.size+2) [w.now,w.limit,w.delay,w.cut,w.a.node.id,w.a.node.term,w.a.node.speaks,.slice D w.a.node.log.length K,w.a.node.acked,w.a.node.next,w.a.up,w.a.quiet,w.b.node.id,w.b.node.term,w.b.node.speaks,.slice E w.b.node.log.length J,w.b.node.acked,w.b.node.next,w.b.up,w.b.quiet,.slice none 0 0] 46))) (fun i _=>2 - (intOf i).toNat)
 case atStart => exact ⟨ex,.inl ⟨rfl,by repeat (first | exact BoxAt.new (by first | rfl | (simp [go_sem];done) | (simp [go_sem];omega)) _ _ | apply BoxAt.xt | apply BoxAt.drew | apply BoxAt.drewN | apply BoxAt.alloc)⟩⟩
 case round =>
  obtain⟨hx,hrel⟩:=hrel;rename_i wr;have hsz:W.heap.size+2≤wr.heap.size:=by have:=hx.size;simp at this;omega
  have cw:=(BoxAt.new rfl (Lw w A c B d M k) 30 :BoxAt (W.alloc _) W.heap.size _ _).mono ((Ext.alloc (Ext.refl _) _).trans hx);have hW:Ext W wr:=(Ext.alloc (Ext.alloc (Ext.refl _) _) _).trans hx;rcases hrel with⟨rfl,hb⟩|⟨rfl,D,K,ql,hb⟩|⟨rfl,D,K,E,J,ql,qm,hb⟩
  ·go_wp2_with (refine za7 rfl 26 (.tmp 5) (.tmp 22) rfl rfl sg (Ls w.a A c) rfl rfl kr (cells_one _ rfl) ?_);refine zaG (fun W9 hW9=> ?_);have x9:Ext wr W9:=by rw[hW9];exact ex
   have b9:BoxAt W9 wr.heap.size (Ls w.a A c) 26:=by rw[hW9];exact bxA
   have HB:=zh (hb.mono x9);have hsz9:=x9.size;have hxx:=hx.trans x9;have hWW:=hW.trans x9;clear hW9 hx hb x9 cw hW;refine b9.cA fun c0 c1 c2 c3 c4 c5 c6 c7=>?_;clear b9;refine zrD 10 [] [Stab.is (.int .i64 0),Stab.is (.pointer (some ⟨wr.heap.size,0,none⟩)),Stab.is (.agg (Ln w.a.node A c)),Stab.nod W w.a.node,Stab.is (.pointer (some ⟨wr.heap.size,6,none⟩)),Stab.is (.bool w.a.up),Stab.is (.pointer (some ⟨wr.heap.size,7,none⟩)),Stab.is (.int .i64 w.a.quiet),Stab.sta W w.a,Stab.is (.pointer (some ⟨(W.heap.size+2),4,none⟩))] (fun u=>by(simp only[zc0,List.take_succ_cons,List.take_zero,Act.put,Nat.zero_add,Nat.reduceAdd]);(try simp only[lsT,lsS,lsZ]);exact rfl) kr kr (fun _ _ _ _ _ h=>h) ?_ ?_
   ·refine⟨?_,?_,?_,?_,?_,?_,?_,?_,?_,?_,trivial⟩
    ·refine sla fun u y9 hd=>?_;refine za0 rfl rfl rfl ?_;intro K9 hK;go_simp;exact hK _ _ rfl ex rfl
    ·refine sla fun u y9 hd=>?_;refine za0 rfl rfl rfl ?_;intro K9 hK;go_simp;exact hK _ _ rfl ex rfl
    ·refine sla fun u y9 hd=>?_;have e1:u 1=.pointer (some ⟨wr.heap.size,0,none⟩):=hd 1 kr;simp only[e1];refine za0 rfl rfl rfl ?_;intro K9 hK;go_simp;exact hK _ _ rfl ex rfl
    ·refine sla fun u y9 hd=>?_;have e2:u 2=.agg (Ln w.a.node A c):=hd 2 kr;simp only[e2];refine za0 rfl rfl rfl ?_;intro K9 hK;go_simp;go_at_call 41;refine(zbA w.a.node A c _ (HRA.out.mono (hWW.trans ex)) hna).mono ?_;rintro e w' ⟨D9,K9,rfl,hx,hown⟩;exact hK _ _ rfl hx ⟨D9,K9,rfl,LogW.own hown HRA.out.el⟩
    ·refine sla fun u y9 hd=>?_;refine za0 rfl rfl rfl ?_;intro K9 hK;go_simp;exact hK _ _ rfl ex rfl
    ·refine sla fun u y9 hd=>?_;have e4:u 4=.pointer (some ⟨wr.heap.size,6,none⟩):=hd 4 kr;simp only[e4];refine za0 rfl rfl rfl ?_;intro K9 hK;go_simp;exact hK _ _ rfl ex rfl
    ·refine sla fun u y9 hd=>?_;refine za0 rfl rfl rfl ?_;intro K9 hK;go_simp;exact hK _ _ rfl ex rfl
    ·refine sla fun u y9 hd=>?_;have e6:u 6=.pointer (some ⟨wr.heap.size,7,none⟩):=hd 6 kr;simp only[e6];refine za0 rfl rfl rfl ?_;intro K9 hK;go_simp;exact hK _ _ rfl ex rfl
    ·refine sla fun u y9 hd=>?_;obtain⟨D3,K3,e3,h3⟩:=hd 3 kr;have e5:u 5=.bool w.a.up:=hd 5 kr;have e7:u 7=.int .i64 w.a.quiet:=hd 7 kr;simp only[e3,e5,e7];refine za0 rfl rfl rfl ?_;intro K9 hK;go_simp;exact hK _ _ rfl ex ⟨D3,K3,rfl,h3⟩
    ·refine sla fun u y9 hd=>?_;refine za0 rfl rfl rfl ?_;intro K9 hK;go_simp;exact hK _ _ rfl ex rfl
   ·intro u w2 hx2 hT;obtain⟨t0,t1,t2,t3,t4,t5,t6,t7,t8,t9,-⟩:=hT;obtain⟨y9,rfl⟩:=hx2.get;clear hx2;have e0:u 0=.int .i64 0:=t0;obtain⟨D8,K8,e8,h8⟩:=t8;have e9:u 9=.pointer (some ⟨(W.heap.size+2),4,none⟩):=t9;simp only[e0,e8,e9];clear e0 e8 e9 t0 t1 t2 t3 t4 t5 t6 t7 t9;simp only[List.drop_succ_cons,List.drop_zero];have hxy:Ext W9 (xt W9.drew y9):=ex;go_wp2_with (refine zab rfl 42 (.tmp 33) (.tmp 31) rfl (HB.out.mono hxy) 4 rfl (Ls w.a D8 K8) rfl (show 12≤21 by decide) (show 21<44 by decide) kr (cells_one _ rfl) [w.now,w.limit,w.delay,w.cut,w.a.node.id,w.a.node.term,w.a.node.speaks,.slice D8 w.a.node.log.length K8,w.a.node.acked,w.a.node.next,w.a.up,w.a.quiet,zI,zI,.bool false,.slice none 0 0,zI,zI,.bool false,zI,.slice none 0 0] rfl ?_;intro V1 ht1 hb1);go_light;exact⟨⟨ht1.ext (hxx.trans hxy) (by simp),.inr (.inl ⟨rfl,D8,K8,h8.turn ht1,hb1⟩)⟩,by simp[intOf]⟩
  ·go_wp2_with (refine za7 rfl 26 (.tmp 5) (.tmp 22) rfl rfl sg (Ls w.b B d) rfl rfl kr (cells_one _ rfl) ?_);refine zaG (fun W9 hW9=> ?_);have x9:Ext wr W9:=by rw[hW9];exact ex
   have b9:BoxAt W9 wr.heap.size (Ls w.b B d) 26:=by rw[hW9];exact bxA
   have HB:=zh (hb.mono x9);have HQ:=zh (ql.mono x9);have hsz9:=x9.size;have hxx:=hx.trans x9;have hWW:=hW.trans x9;clear hW9 hx hb x9 cw hW ql;refine b9.cA fun c0 c1 c2 c3 c4 c5 c6 c7=>?_;clear b9;refine zrD 10 [] [Stab.is (.int .i64 1),Stab.is (.pointer (some ⟨wr.heap.size,0,none⟩)),Stab.is (.agg (Ln w.b.node B d)),Stab.nod W w.b.node,Stab.is (.pointer (some ⟨wr.heap.size,6,none⟩)),Stab.is (.bool w.b.up),Stab.is (.pointer (some ⟨wr.heap.size,7,none⟩)),Stab.is (.int .i64 w.b.quiet),Stab.sta W w.b,Stab.is (.pointer (some ⟨(W.heap.size+2),4,none⟩))] (fun u=>by(simp only[zc0,List.take_succ_cons,List.take_zero,Act.put,Nat.zero_add,Nat.reduceAdd]);(try simp only[lsT,lsS,lsZ]);exact rfl) kr kr (fun _ _ _ _ _ h=>h) ?_ ?_
   ·refine⟨?_,?_,?_,?_,?_,?_,?_,?_,?_,?_,trivial⟩
    ·refine sla fun u y9 hd=>?_;refine za0 rfl rfl rfl ?_;intro K9 hK;go_simp;exact hK _ _ rfl ex rfl
    ·refine sla fun u y9 hd=>?_;refine za0 rfl rfl rfl ?_;intro K9 hK;go_simp;exact hK _ _ rfl ex rfl
    ·refine sla fun u y9 hd=>?_;have e1:u 1=.pointer (some ⟨wr.heap.size,0,none⟩):=hd 1 kr;simp only[e1];refine za0 rfl rfl rfl ?_;intro K9 hK;go_simp;exact hK _ _ rfl ex rfl
    ·refine sla fun u y9 hd=>?_;have e2:u 2=.agg (Ln w.b.node B d):=hd 2 kr;simp only[e2];refine za0 rfl rfl rfl ?_;intro K9 hK;go_simp;go_at_call 41;refine(zbA w.b.node B d _ (HRB.out.mono (hWW.trans ex)) hnb).mono ?_;rintro e w' ⟨D9,K9,rfl,hx,hown⟩;exact hK _ _ rfl hx ⟨D9,K9,rfl,LogW.own hown HRB.out.el⟩
    ·refine sla fun u y9 hd=>?_;refine za0 rfl rfl rfl ?_;intro K9 hK;go_simp;exact hK _ _ rfl ex rfl
    ·refine sla fun u y9 hd=>?_;have e4:u 4=.pointer (some ⟨wr.heap.size,6,none⟩):=hd 4 kr;simp only[e4];refine za0 rfl rfl rfl ?_;intro K9 hK;go_simp;exact hK _ _ rfl ex rfl
    ·refine sla fun u y9 hd=>?_;refine za0 rfl rfl rfl ?_;intro K9 hK;go_simp;exact hK _ _ rfl ex rfl
    ·refine sla fun u y9 hd=>?_;have e6:u 6=.pointer (some ⟨wr.heap.size,7,none⟩):=hd 6 kr;simp only[e6];refine za0 rfl rfl rfl ?_;intro K9 hK;go_simp;exact hK _ _ rfl ex rfl
    ·refine sla fun u y9 hd=>?_;obtain⟨D3,K3,e3,h3⟩:=hd 3 kr;have e5:u 5=.bool w.b.up:=hd 5 kr;have e7:u 7=.int .i64 w.b.quiet:=hd 7 kr;simp only[e3,e5,e7];refine za0 rfl rfl rfl ?_;intro K9 hK;go_simp;exact hK _ _ rfl ex ⟨D3,K3,rfl,h3⟩
    ·refine sla fun u y9 hd=>?_;refine za0 rfl rfl rfl ?_;intro K9 hK;go_simp;exact hK _ _ rfl ex rfl
   ·intro u w2 hx2 hT;obtain⟨t0,t1,t2,t3,t4,t5,t6,t7,t8,t9,-⟩:=hT;obtain⟨y9,rfl⟩:=hx2.get;clear hx2;have e0:u 0=.int .i64 1:=t0;obtain⟨D8,K8,e8,h8⟩:=t8;have e9:u 9=.pointer (some ⟨(W.heap.size+2),4,none⟩):=t9;simp only[e0,e8,e9];clear e0 e8 e9 t0 t1 t2 t3 t4 t5 t6 t7 t9;simp only[List.drop_succ_cons,List.drop_zero];have hxy:Ext W9 (xt W9.drew y9):=ex;go_wp2_with (refine zab rfl 42 (.tmp 33) (.tmp 31) rfl (HB.out.mono hxy) 12 rfl (Ls w.b D8 K8) rfl (show 20≤21 by decide) (show 21<44 by decide) kr (cells_one _ rfl) [w.now,w.limit,w.delay,w.cut,w.a.node.id,w.a.node.term,w.a.node.speaks,.slice D w.a.node.log.length K,w.a.node.acked,w.a.node.next,w.a.up,w.a.quiet,w.b.node.id,w.b.node.term,w.b.node.speaks,.slice D8 w.b.node.log.length K8,w.b.node.acked,w.b.node.next,w.b.up,w.b.quiet,.slice none 0 0] rfl ?_;intro V1 ht1 hb1);go_light;exact⟨⟨ht1.ext (hxx.trans hxy) (by simp),.inr (.inr ⟨rfl,D,K,D8,K8,(HQ.out.mono hxy).turn ht1,h8.turn ht1,hb1⟩)⟩,by simp[intOf]⟩
  ·clear hsz;refine cw.cB fun c0 c1 c2 c3 c4 c5 c6 c7 c8 c9 c10 c11 c12 c13 c14 c15 c16 c17 c18 c19 c20=>?_;go_wp2_with fail;refine zaG (fun W9 hW9=> ?_);have x9:Ext wr W9:=by rw[hW9];exact ex
   have HB:=zh (hb.mono x9);have HQ:=zh (ql.mono x9);have HP:=zh (qm.mono x9);have hxx:=hx.trans x9;have hWW:=hW.trans x9;clear hW9 hx hb x9 cw hW ql qm c0 c1 c2 c3 c4 c5 c6 c7 c8 c9 c10 c11 c12 c13 c14 c15 c16 c17 c18 c19 c20;go_loopw [38] (fun i wr=> ∃(j:Nat) (M5:Option Addr) (m5:Nat) (xs5:List (Ltr×Option Addr×Nat)),j≤w.mail.length∧i=.int .i64 j∧Ext ((W.alloc (.cells (Lw w A c B d M k) 30)).alloc (.cells Zw 46)) wr∧Hid (BoxAt wr (W.heap.size+2) [w.now,w.limit,w.delay,w.cut,w.a.node.id,w.a.node.term,w.a.node.speaks,.slice D w.a.node.log.length K,w.a.node.acked,w.a.node.next,w.a.up,w.a.quiet,w.b.node.id,w.b.node.term,w.b.node.speaks,.slice E w.b.node.log.length J,w.b.node.acked,w.b.node.next,w.b.up,w.b.quiet,.slice M5 j m5] 46)∧Hid (LogW W wr D w.a.node.log.length K w.a.node.log)∧Hid (LogW W wr E w.b.node.log.length J w.b.node.log)∧Hid (MailL W ((W.alloc (.cells (Lw w A c B d M k) 30)).alloc (.cells Zw 46)) wr M5 m5 j (w.mail.take j) xs5)) (fun i _=>w.mail.length - (intOf i).toNat)
   case atStart => exact ⟨0,none,0,[],by omega,rfl,hxx.trans ex,zh (HB.out.mono ex),zh (HQ.out.mono ex),zh (HP.out.mono ex),zh ⟨OwnM.nil _ _ _ _,.inl rfl,rfl,by simp⟩⟩
   case round =>
    clear HB HQ HP hxx hWW;obtain⟨j,M5,m5,xs5,hj,rfl,hx,HB,HQ,HP,HM⟩:=hrel;rename_i wr;have hsz:W.heap.size+2≤wr.heap.size:=by have:=hx.size;simp at this;omega
    have hW:Ext W wr:=(Ext.alloc (Ext.alloc (Ext.refl _) _) _).trans hx;by_cases hlt:j<w.mail.length
    ·obtain⟨x,hxj⟩:∃x,xs[j]?=some x:=⟨_,List.getElem?_eq_getElem om⟩
     have HL:=zh (HEL.out x (List.mem_of_getElem? hxj));have hnx:=HNL.out x (List.mem_of_getElem? hxj);have HT:=zh (take_snocL (l:=w.mail) (k:=j) (m:=x.1) (by rw[←HIS.out,List.getElem?_map,hxj];rfl));obtain⟨b,o,rfl,e0,e1,e2,e3,e4,e5,e6,e7⟩:=(HSL.out.mono hW).row8 (i:=j) (by rw[List.getElem?_map,hxj];rfl);have hb0:(0:Int)≤(j:Int):=by omega
     have hb2:(j:Int)<(w.mail.length:Int):=by omega
     clear hxj;go_wp2_with (refine za7 rfl 115 (.tmp 7) (.tmp 41) rfl rfl sg [x.1.dst,x.1.at_,x.1.msg.kind,x.1.msg.term,x.1.msg.at_,x.1.msg.before,.slice x.2.1 x.1.msg.recs.length x.2.2,x.1.msg.acked] rfl rfl kr (cells_one _ rfl) ?_);refine zaG (fun W9 hW9=> ?_);have x9:Ext wr W9:=by rw[hW9];exact ex
     have b9:BoxAt W9 wr.heap.size [x.1.dst,x.1.at_,x.1.msg.kind,x.1.msg.term,x.1.msg.at_,x.1.msg.before,.slice x.2.1 x.1.msg.recs.length x.2.2,x.1.msg.acked] 115:=by rw[hW9];exact bxA
     have hb9:=HB.out.mono x9;have HQ9:=zh (HQ.out.mono x9);have HP9:=zh (HP.out.mono x9);have HM9:=zh (HM.out.mono x9);have hxx:=hx.trans x9;have hWW:=hW.trans x9;clear hW9 hx x9 hW HB HQ HP HM e0 e1 e2 e3 e4 e5 e6 e7;have c20:=hb9.c 20 rfl;refine b9.cA fun d0 d1 d2 d3 d4 d5 d6 d7=>?_;have HB9:=zh hb9;clear b9 hb9;refine zGr 11 [] [] [Stab.is (.pointer (some ⟨(W.heap.size+2),20,none⟩)),Stab.is (.slice M5 j m5),Stab.is (.pointer (some ⟨wr.heap.size,0,none⟩)),Stab.is (.int .i64 x.1.dst),Stab.is (.pointer (some ⟨wr.heap.size,1,none⟩)),Stab.is (.int .i64 x.1.at_),Stab.is (.pointer (some ⟨wr.heap.size,2,none⟩)),Stab.is (.agg #[x.1.msg.kind,x.1.msg.term,x.1.msg.at_,x.1.msg.before,.slice x.2.1 x.1.msg.recs.length x.2.2,x.1.msg.acked]),Stab.msgw W x.1.msg,Stab.ltr W x.1,Stab.one W x.1] (fun u=>by(simp only[zc0,List.take_succ_cons,List.take_zero,Act.put,Nat.zero_add,Nat.reduceAdd]);(try simp only[lsT,lsS,lsZ]);exact rfl) kr kr kr (fun _ _ _ _ _ h=>h) ?_ ?_ ?_
     ·intro j9 hj9;cases hj9
     ·refine⟨?_,?_,?_,?_,?_,?_,?_,?_,?_,?_,?_,trivial⟩
      ·refine slb fun u y9 hd=>?_;refine slr rfl rfl rfl rfl ?_;intro K9 hK;go_simp;exact hK _ _ rfl ex rfl
      ·refine slb fun u y9 hd=>?_;have e0:u 0=.pointer (some ⟨(W.heap.size+2),20,none⟩):=hd 0 kr;simp only[e0];refine slr rfl rfl rfl rfl ?_;intro K9 hK;go_simp;exact hK _ _ rfl ex rfl
      ·refine slb fun u y9 hd=>?_;refine slr rfl rfl rfl rfl ?_;intro K9 hK;go_simp;exact hK _ _ rfl ex rfl
      ·refine slb fun u y9 hd=>?_;have e2:u 2=.pointer (some ⟨wr.heap.size,0,none⟩):=hd 2 kr;simp only[e2];refine slr rfl rfl rfl rfl ?_;intro K9 hK;go_simp;exact hK _ _ rfl ex rfl
      ·refine slb fun u y9 hd=>?_;refine slr rfl rfl rfl rfl ?_;intro K9 hK;go_simp;exact hK _ _ rfl ex rfl
      ·refine slb fun u y9 hd=>?_;have e4:u 4=.pointer (some ⟨wr.heap.size,1,none⟩):=hd 4 kr;simp only[e4];refine slr rfl rfl rfl rfl ?_;intro K9 hK;go_simp;exact hK _ _ rfl ex rfl
      ·refine slb fun u y9 hd=>?_;refine slr rfl rfl rfl rfl ?_;intro K9 hK;go_simp;exact hK _ _ rfl ex rfl
      ·refine slb fun u y9 hd=>?_;have e6:u 6=.pointer (some ⟨wr.heap.size,2,none⟩):=hd 6 kr;simp only[e6];refine slr rfl rfl rfl rfl ?_;intro K9 hK;go_simp;exact hK _ _ rfl ex rfl
      ·refine slb fun u y9 hd=>?_;have e7:u 7=.agg #[x.1.msg.kind,x.1.msg.term,x.1.msg.at_,x.1.msg.before,.slice x.2.1 x.1.msg.recs.length x.2.2,x.1.msg.acked]:=hd 7 kr;simp only[e7];refine slr rfl rfl rfl rfl ?_;intro K9 hK;go_simp;go_at_call 42;refine(ziI x.1.msg x.2.1 x.2.2 _ (HL.out.mono (hWW.trans ex)) hnx).mono ?_;rintro e w' ⟨D9,K9,rfl,hx,hown⟩;exact hK _ _ rfl hx ⟨D9,K9,rfl,LogW.own hown HL.out.el⟩
      ·refine slb fun u y9 hd=>?_;have e3:u 3=.int .i64 x.1.dst:=hd 3 kr;have e5:u 5=.int .i64 x.1.at_:=hd 5 kr;obtain⟨D8,K8,e8,h8⟩:=hd 8 kr;simp only[e3,e5,e8];refine slr rfl rfl rfl rfl ?_;intro K9 hK;go_simp;exact hK _ _ rfl ex ⟨D8,K8,rfl,h8⟩
      ·refine slb fun u y9 hd=>?_;obtain⟨Dx,Kx,e9,h9⟩:=hd 9 kr;simp only[e9];refine slr rfl rfl rfl rfl ?_;intro K9 hK;go_simp;exact hK _ _ rfl ex ⟨_,Dx,Kx,rfl,Sl.alloc' sg (by simp[ltrR]) (by simp[ltrR]),h9.mono ex⟩
     ·intro u w2 hx2 hT hdd;obtain⟨t0,t1,t2,t3,t4,t5,t6,t7,t8,t9,t10,-⟩:=hT;obtain⟨y9,rfl⟩:=hx2.get;clear hx2;have e1:u 1=.slice M5 j m5:=t1;obtain⟨g10,D10,K10,e10,s10,h10⟩:=t10;clear hdd;simp only[e1,e10];clear e1 e10 t0 t1 t2 t3 t4 t5 t6 t7 t8 t9;simp only[List.drop_succ_cons,List.drop_zero];have hxy:Ext W9 (xt W9.drew y9):=ex;go_wp2_with (first
      |(at_builtin;refine zAH (w0:=((W.alloc (.cells (Lw w A c B d (some ⟨b,o,none⟩) k) 30)).alloc (.cells Zw 46))) rfl 46 _ _ 44 44 rfl 120 120 8 80 underlying44 underlying44 info_L5 zero_L5 dk (hxx.trans hxy) M5 j m5 (xs5.map ltrR) rfl ((HM9.out.own).mono hxy) HM9.out.room (zgy _) _ 1 1 [ltrR (x.1,D10,K10)] rfl s10 rfl dk (zon [(x.1,D10,K10)]) (zgy [(x.1,D10,K10)]) (by unfold maxLen;omega) om (j+1) rfl _ rfl ?_;intro M6 m6 V5 hx5 hown5 hk5 hs5 hgr5 hA5;have hg9:=(HM9.out.mono hxy).box (HB9.out.mono hxy) hgr5)
      |(refine zae rfl 44 (.tmp 54) (.tmp 53) rfl hg9 20 rfl (.slice M6 (j+1) m6) rfl (show 20<21 by decide) (show 21<44 by decide) kr rfl [w.now,w.limit,w.delay,w.cut,w.a.node.id,w.a.node.term,w.a.node.speaks,.slice D w.a.node.log.length K,w.a.node.acked,w.a.node.next,w.a.up,w.a.quiet,w.b.node.id,w.b.node.term,w.b.node.speaks,.slice E w.b.node.log.length J,w.b.node.acked,w.b.node.next,w.b.up,w.b.quiet,.slice M6 (j+1) m6] rfl ?_;intro V6 ht6 hb6))
      go_light;refine⟨⟨j+1,M6,m6,xs5++[(x.1,D10,K10)],by omega,by go_num,ht6.ext hx5 (by simp),zh hb6,zh ((hs5.logw (HQ9.out.mono hxy)).turn ht6),zh ((hs5.logw (HP9.out.mono hxy)).turn ht6),zh ?_⟩,by simp[intOf];omega⟩;have:=(HM9.out.mono hxy).more (HB9.out.mono hxy) hs5 hgr5 hown5 hk5 h10 hg9 ht6;rwa [HT.out] at this
    ·have hjl:j=w.mail.length:=by omega
     have HT:=zh (show w.mail.take j=w.mail by rw[hjl,List.take_length]);have hbr:BoxAt wr (W.heap.size+1) Zw 46:=(BoxAt.new (by simp) _ _:BoxAt (World.alloc _ _) (W.heap.size+1) _ _).mono hx;have hb9:=HB.out;rw[hjl] at hb9;have HJ:=zh hjl;have hrw:=hb9.row (n:=21) rfl;clear hjl;go_wp2_with (refine za2 rfl 46 (.tmp 2) (.tmp 56) rfl (hbr.mono ex) rfl (Lw w D K E J M5 m5) rfl rfl (show 21<44 by decide) kr (cells_one _ rfl) ?_;intro V2 ht2 hb2);refine bodyPost_ret (v:=.agg (Lw w D K E J M5 m5)) (results_one (i:=2) (by simp[results13]) rfl hb2.range rfl) rfl ?_;have hV:Ext W V2:=ht2.ext (hW.trans ex) (by simp);have hm1:=(HM.out.mono (show Ext wr _ from ex)).turn (hbr.mono ex) ht2;exact⟨D,K,E,J,M5,m5,xs5,rfl,hV,⟨((HQ.out.mono ex).turn ht2).recs hV (Ext.refl _),((HP.out.mono ex).turn ht2).recs hV (Ext.refl _),hm1.at_ hV (Ext.refl _),by rw[hm1.is,HT.out]⟩⟩
theorem l55_few (h:WldAt W w A c B d M k xs)(hna:w.a.node.log.length * 552≤140737488355328)(hnb:w.b.node.log.length * 552≤140737488355328)(hnm:w.mail.length * 80≤140737488355328)(hnl:∀x∈xs,x.1.msg.recs.length * 552≤140737488355328)(D:Option Addr)(n:Nat)(l:List Evt)(hs:zbR W D n l)(hn:l.length * 576≤140737488355328):
  Calls prog 7 #[.agg (Lw w A c B d M k),.slice D l.length n] W fun e W'=>(∃b,e=.returned (.bool b))∧Ext W W':=by
 have HW:=Lib.hid h;have HS:=zh hs;clear h hs;go_enter func7,ntmps7;go_wp2_with fail;go_at_call 13;refine(l55_of (HW.out.mono ex) hna hnb hnm hnl).mono ?_;rintro e w' ⟨A1,a1,B1,b1,M1,m1,xs1,rfl,hx,ho⟩;have HO:=zh ho;obtain⟨y1,rfl⟩:=hx.get;clear hx ho;go_wp2_with fail;go_at_call 30;refine(r55_Few (HO.out.mono ex)).mono ?_;rintro e w' ⟨⟨b,rfl,hb⟩,hx⟩;clear hb;obtain⟨y2,rfl⟩:=hx.get;clear hx;cases b with
 |false=>go_wp2;go_ret;exact⟨⟨false,rfl⟩,ex⟩
 |true=>go_wp2_with fail;go_at_call 18;refine(zA9 D n l _ (HS.out.mono ex) hn).mono ?_;rintro e w' ⟨B2,k2,rfl,hx,ho⟩;have HO2:=zh (RetV.evts ho (fun x h=>(HS.out.el x h).mono ((show Ext W _ from ex).trans hx)));obtain⟨y3,rfl⟩:=hx.get;clear hx ho;go_wp2_with fail;go_at_call 31;refine(ztT B2 k2 l _ (HO2.out.mono ex)).mono ?_;rintro e w' ⟨⟨b,rfl,hb⟩,hx⟩;clear hb;obtain⟨y4,rfl⟩:=hx.get;clear hx;go_wp2;go_ret;exact⟨⟨b,rfl⟩,ex⟩
end
