import Derived.Test.YtnpdghjpcnjokaaGreatGcmp
import Derived.Test.YtnpdghjpcnjokaaGreatGwl
set_option maxHeartbeats 12800000
set_option maxRecDepth 100000
namespace Go.Proofs.YtnpdghjpcnjokaaGreat
open Go.RowKit Go.Proofs.Tryz

def c12 (a:Acn):Bool:=!tgB a.kind && decide (a.target≠0)
def c22 (a:Acn):Bool:=c12 a||(decide (a.kind≠1) && !a.cue.toList.isEmpty)
def c33 (a:Acn):Bool:=c22 a||(!lvB a.kind && decide (a.level≠0))
def i1B (a:Acn):Bool:=decide ((tgB a.kind=false∧a.target≠0)∨(a.kind≠1∧a.cue.toList.isEmpty=false)∨(lvB a.kind=false∧a.level≠0)∨(tmB a.kind=false∧a.time≠0))
theorem zDz (a:Acn):i1B a=(c33 a||(!tmB a.kind && decide (a.time≠0))):=by unfold i1B c33 c22 c12;rw[Bool.eq_iff_iff];simp only[decide_eq_true_eq,Bool.or_eq_true,Bool.and_eq_true,Bool.not_eq_true'];grind
def c53 (a:Acn):Bool:=decide (a.kind≠12) && !a.entries.l.isEmpty
def c64 (a:Acn):Bool:=c53 a||(decide (a.kind≠13) && !a.params.l.isEmpty)
def i2B (a:Acn):Bool:=decide ((a.kind≠12∧¬a.entries.l=[])∨(a.kind≠13∧¬a.params.l=[])∨(a.kind≠14∧¬a.chans.l=[]))
theorem zDA (a:Acn):i2B a=(c64 a||(decide (a.kind≠14) && !a.chans.l.isEmpty)):=by unfold i2B c64 c53;rw[Bool.eq_iff_iff];simp only[decide_eq_true_eq,Bool.or_eq_true,Bool.and_eq_true,Bool.not_eq_true',List.isEmpty_eq_false_iff];grind
theorem zi0 (s:Act)(h:s.tmps.size=84):∃f:Nat→Value,(∀i,i<84→s.tmps[i]?=some (f i))∧s={tmps:=#[f 0,f 1,f 2,f 3,f 4,f 5,f 6,f 7,f 8,f 9,f 10,f 11,f 12,f 13,f 14,f 15,f 16,f 17,f 18,f 19,f 20,f 21,f 22,f 23,f 24,f 25,f 26,f 27,f 28,f 29,f 30,f 31,f 32,f 33,f 34,f 35,f 36,f 37,f 38,f 39,f 40,f 41,f 42,f 43,f 44,f 45,f 46,f 47,f 48,f 49,f 50,f 51,f 52,f 53,f 54,f 55,f 56,f 57,f 58,f 59,f 60,f 61,f 62,f 63,f 64,f 65,f 66,f 67,f 68,f 69,f 70,f 71,f 72,f 73,f 74,f 75,f 76,f 77,f 78,f 79,f 80,f 81,f 82,f 83],defers:=s.defers}:=by
 refine⟨fun i=>s.tmps.getD i undef,fun i hi=> ?_,?_⟩
 ·rw[Array.getElem?_eq_getElem om];simp[Array.getD,h,hi]
 ·obtain⟨t,d⟩:=s;congr 1;refine Array.ext h fun i h1 h2=> ?_;have hi:i<84:=by simpa using h2
  have hg:∀j (hj:j<84),t.getD j undef=t[j]'(by rw[show t.size=84 from h];exact hj):=fun j hj=>by simp[Array.getD,show t.size=84 from h,hj]
  have H:∀j:Fin 84,t[(j:Nat)]'(by rw[show t.size=84 from h];exact j.isLt)=(#[t.getD 0 undef,t.getD 1 undef,t.getD 2 undef,t.getD 3 undef,t.getD 4 undef,t.getD 5 undef,t.getD 6 undef,t.getD 7 undef,t.getD 8 undef,t.getD 9 undef,t.getD 10 undef,t.getD 11 undef,t.getD 12 undef,t.getD 13 undef,t.getD 14 undef,t.getD 15 undef,t.getD 16 undef,t.getD 17 undef,t.getD 18 undef,t.getD 19 undef,t.getD 20 undef,t.getD 21 undef,t.getD 22 undef,t.getD 23 undef,t.getD 24 undef,t.getD 25 undef,t.getD 26 undef,t.getD 27 undef,t.getD 28 undef,t.getD 29 undef,t.getD 30 undef,t.getD 31 undef,t.getD 32 undef,t.getD 33 undef,t.getD 34 undef,t.getD 35 undef,t.getD 36 undef,t.getD 37 undef,t.getD 38 undef,t.getD 39 undef,t.getD 40 undef,t.getD 41 undef,t.getD 42 undef,t.getD 43 undef,t.getD 44 undef,t.getD 45 undef,t.getD 46 undef,t.getD 47 undef,t.getD 48 undef,t.getD 49 undef,t.getD 50 undef,t.getD 51 undef,t.getD 52 undef,t.getD 53 undef,t.getD 54 undef,t.getD 55 undef,t.getD 56 undef,t.getD 57 undef,t.getD 58 undef,t.getD 59 undef,t.getD 60 undef,t.getD 61 undef,t.getD 62 undef,t.getD 63 undef,t.getD 64 undef,t.getD 65 undef,t.getD 66 undef,t.getD 67 undef,t.getD 68 undef,t.getD 69 undef,t.getD 70 undef,t.getD 71 undef,t.getD 72 undef,t.getD 73 undef,t.getD 74 undef,t.getD 75 undef,t.getD 76 undef,t.getD 77 undef,t.getD 78 undef,t.getD 79 undef,t.getD 80 undef,t.getD 81 undef,t.getD 82 undef,t.getD 83 undef]:Array Value)[(j:Nat)]'(by simp):=by
   intro j;rw[←hg j j.isLt]
   match j with
   |⟨0,_⟩=>rfl
   |⟨1,_⟩=>rfl
   |⟨2,_⟩=>rfl
   |⟨3,_⟩=>rfl
   |⟨4,_⟩=>rfl
   |⟨5,_⟩=>rfl
   |⟨6,_⟩=>rfl
   |⟨7,_⟩=>rfl
   |⟨8,_⟩=>rfl
   |⟨9,_⟩=>rfl
   |⟨10,_⟩=>rfl
   |⟨11,_⟩=>rfl
   |⟨12,_⟩=>rfl
   |⟨13,_⟩=>rfl
   |⟨14,_⟩=>rfl
   |⟨15,_⟩=>rfl
   |⟨16,_⟩=>rfl
   |⟨17,_⟩=>rfl
   |⟨18,_⟩=>rfl
   |⟨19,_⟩=>rfl
   |⟨20,_⟩=>rfl
   |⟨21,_⟩=>rfl
   |⟨22,_⟩=>rfl
   |⟨23,_⟩=>rfl
   |⟨24,_⟩=>rfl
   |⟨25,_⟩=>rfl
   |⟨26,_⟩=>rfl
   |⟨27,_⟩=>rfl
   |⟨28,_⟩=>rfl
   |⟨29,_⟩=>rfl
   |⟨30,_⟩=>rfl
   |⟨31,_⟩=>rfl
   |⟨32,_⟩=>rfl
   |⟨33,_⟩=>rfl
   |⟨34,_⟩=>rfl
   |⟨35,_⟩=>rfl
   |⟨36,_⟩=>rfl
   |⟨37,_⟩=>rfl
   |⟨38,_⟩=>rfl
   |⟨39,_⟩=>rfl
   |⟨40,_⟩=>rfl
   |⟨41,_⟩=>rfl
   |⟨42,_⟩=>rfl
   |⟨43,_⟩=>rfl
   |⟨44,_⟩=>rfl
   |⟨45,_⟩=>rfl
   |⟨46,_⟩=>rfl
   |⟨47,_⟩=>rfl
   |⟨48,_⟩=>rfl
   |⟨49,_⟩=>rfl
   |⟨50,_⟩=>rfl
   |⟨51,_⟩=>rfl
   |⟨52,_⟩=>rfl
   |⟨53,_⟩=>rfl
   |⟨54,_⟩=>rfl
   |⟨55,_⟩=>rfl
   |⟨56,_⟩=>rfl
   |⟨57,_⟩=>rfl
   |⟨58,_⟩=>rfl
   |⟨59,_⟩=>rfl
   |⟨60,_⟩=>rfl
   |⟨61,_⟩=>rfl
   |⟨62,_⟩=>rfl
   |⟨63,_⟩=>rfl
   |⟨64,_⟩=>rfl
   |⟨65,_⟩=>rfl
   |⟨66,_⟩=>rfl
   |⟨67,_⟩=>rfl
   |⟨68,_⟩=>rfl
   |⟨69,_⟩=>rfl
   |⟨70,_⟩=>rfl
   |⟨71,_⟩=>rfl
   |⟨72,_⟩=>rfl
   |⟨73,_⟩=>rfl
   |⟨74,_⟩=>rfl
   |⟨75,_⟩=>rfl
   |⟨76,_⟩=>rfl
   |⟨77,_⟩=>rfl
   |⟨78,_⟩=>rfl
   |⟨79,_⟩=>rfl
   |⟨80,_⟩=>rfl
   |⟨81,_⟩=>rfl
   |⟨82,_⟩=>rfl
   |⟨83,_⟩=>rfl
   |⟨j+84,hj⟩=>exact absurd hj om
  exact H ⟨i,hi⟩
noncomputable def idleR (a:Acn):Bool:=!i1B a && !i2B a && (decide (a.kind=17)||sameE a.edit zdP)
theorem dec2 (k c:Int):((k==c)=true∧(k !=c)=false∧k=c)∨((k==c)=false∧(k !=c)=true∧¬k=c):=by by_cases h:k=c<;>simp[h]
theorem zpM {α:Type}(l:List α):(l=[]∧l.isEmpty=true∧¬0<l.length)∨(¬l=[]∧l.isEmpty=false∧0<l.length):=by cases l<;>simp
theorem ztR (a:Acn)(w:World)(ha:AcnAt w a):Calls prog 120 #[.agg (acnR a).toArray] w fun e w'=>e=.returned (.bool (idleR a))∧Ext w w':=by
 have HA:=zh ha;have HR:=zh (zag w rfl (acnR a) 99);clear ha;go_enter func120,ntmps120
 go_upto_region 1 with fail
 go_cut [43] (fun s wx=>s=.bool (i1B a)∧w.alloc (.cells (acnR a).toArray 99)=wx)
 case first =>
  refine zbf (l':=?l2) ?hl2 ?_
  case hl2 =>simp only[List.map_cons,List.map_nil,zf6];rfl
  obtain⟨R,hR⟩:∃R:Act→World→Prop,R=(fun s wx=>w.alloc (.cells (acnR a).toArray 99)=wx∧s.defers=[]∧s.tmps.size=84∧s.tmps[0]?=some (.agg (acnR a).toArray)∧s.tmps[1]?=some (.pointer (some ⟨w.heap.size,0,none⟩))∧s.tmps[2]?=some (.bool false)∧s.tmps[12]?=some (.bool (c12 a))):=⟨_,rfl⟩
  have HQ12:=zh hR;clear hR;refine zbL 10 R ?_ ?_
  ·simp only[List.take_succ_cons,List.take_zero];go_wp2_with (first|(go_at_call 170;refine(zcD _ _).mono ?_;rintro e w' ⟨rfl,rfl⟩)|(go_at_call 172;refine(zbJ _ _).mono ?_;rintro e w' ⟨rfl,rfl⟩)|(go_at_call 174;refine(zcR _ _).mono ?_;rintro e w' ⟨rfl,rfl⟩))
   all_goals
    refine⟨rfl,?_⟩;rw[HQ12.out];refine⟨rfl,rfl,rfl,rfl,rfl,rfl,?_⟩;simp only[List.getElem?_toArray,List.getElem?_cons_succ,List.getElem?_cons_zero];go_light;unfold c12;grind
  ·simp only[List.drop_succ_cons,List.drop_zero];rw[HQ12.out];rintro s _ ⟨rfl,hd,hz,q0,q1,q2,q12⟩;obtain⟨f,hf,hs⟩:=zi0 s hz;have e0:=Option.some.inj ((hf 0 om).symm.trans q0);have e1:=Option.some.inj ((hf 1 om).symm.trans q1);have e2:=Option.some.inj ((hf 2 om).symm.trans q2);have e12:=Option.some.inj ((hf 12 om).symm.trans q12);rw[hd,e0,e1,e2,e12] at hs;clear hf hz hd q0 q1 q2 q12 e0 e1 e2 e12;subst hs;obtain⟨R,hR⟩:∃R:Act→World→Prop,R=(fun s wx=>w.alloc (.cells (acnR a).toArray 99)=wx∧s.defers=[]∧s.tmps.size=84∧s.tmps[0]?=some (.agg (acnR a).toArray)∧s.tmps[1]?=some (.pointer (some ⟨w.heap.size,0,none⟩))∧s.tmps[2]?=some (.bool false)∧s.tmps[22]?=some (.bool (c22 a))):=⟨_,rfl⟩
   have HQ22:=zh hR;clear hR;refine zbL 10 R ?_ ?_
   ·simp only[List.take_succ_cons,List.take_zero];cases hb:c12 a
    all_goals
     go_wp2_with (first|(go_at_call 170;refine(zcD _ _).mono ?_;rintro e w' ⟨rfl,rfl⟩)|(go_at_call 172;refine(zbJ _ _).mono ?_;rintro e w' ⟨rfl,rfl⟩)|(go_at_call 174;refine(zcR _ _).mono ?_;rintro e w' ⟨rfl,rfl⟩))
     all_goals
      refine⟨rfl,?_⟩;rw[HQ22.out];refine⟨rfl,rfl,rfl,rfl,rfl,rfl,?_⟩;simp only[List.getElem?_toArray,List.getElem?_cons_succ,List.getElem?_cons_zero];go_light;unfold c22;grind
   ·simp only[List.drop_succ_cons,List.drop_zero];rw[HQ22.out];rintro s _ ⟨rfl,hd,hz,q0,q1,q2,q22⟩;obtain⟨f,hf,hs⟩:=zi0 s hz;have e0:=Option.some.inj ((hf 0 om).symm.trans q0);have e1:=Option.some.inj ((hf 1 om).symm.trans q1);have e2:=Option.some.inj ((hf 2 om).symm.trans q2);have e22:=Option.some.inj ((hf 22 om).symm.trans q22);rw[hd,e0,e1,e2,e22] at hs;clear hf hz hd q0 q1 q2 q22 e0 e1 e2 e22;subst hs;obtain⟨R,hR⟩:∃R:Act→World→Prop,R=(fun s wx=>w.alloc (.cells (acnR a).toArray 99)=wx∧s.defers=[]∧s.tmps.size=84∧s.tmps[0]?=some (.agg (acnR a).toArray)∧s.tmps[1]?=some (.pointer (some ⟨w.heap.size,0,none⟩))∧s.tmps[2]?=some (.bool false)∧s.tmps[33]?=some (.bool (c33 a))):=⟨_,rfl⟩
    have HQ33:=zh hR;clear hR;refine zbL 11 R ?_ ?_
    ·simp only[List.take_succ_cons,List.take_zero];cases hb:c22 a
     all_goals
      go_wp2_with (first|(go_at_call 170;refine(zcD _ _).mono ?_;rintro e w' ⟨rfl,rfl⟩)|(go_at_call 172;refine(zbJ _ _).mono ?_;rintro e w' ⟨rfl,rfl⟩)|(go_at_call 174;refine(zcR _ _).mono ?_;rintro e w' ⟨rfl,rfl⟩))
      all_goals
       refine⟨rfl,?_⟩;rw[HQ33.out];refine⟨rfl,rfl,rfl,rfl,rfl,rfl,?_⟩;simp only[List.getElem?_toArray,List.getElem?_cons_succ,List.getElem?_cons_zero];go_light;unfold c33;grind
    ·simp only[List.drop_succ_cons,List.drop_zero];rw[HQ33.out];rintro s _ ⟨rfl,hd,hz,q0,q1,q2,q33⟩;obtain⟨f,hf,hs⟩:=zi0 s hz;have e0:=Option.some.inj ((hf 0 om).symm.trans q0);have e1:=Option.some.inj ((hf 1 om).symm.trans q1);have e2:=Option.some.inj ((hf 2 om).symm.trans q2);have e33:=Option.some.inj ((hf 33 om).symm.trans q33);rw[hd,e0,e1,e2,e33] at hs;clear hf hz hd q0 q1 q2 q33 e0 e1 e2 e33;subst hs;have HI:=zh (zDz a);cases hb:c33 a
     all_goals
      go_wp2_with (first|(go_at_call 170;refine(zcD _ _).mono ?_;rintro e w' ⟨rfl,rfl⟩)|(go_at_call 172;refine(zbJ _ _).mono ?_;rintro e w' ⟨rfl,rfl⟩)|(go_at_call 174;refine(zcR _ _).mono ?_;rintro e w' ⟨rfl,rfl⟩))
      all_goals
       go_meet;refine⟨?_,rfl⟩;rw[HI.out,hb];go_light;grind
 case rest =>
  obtain⟨rfl,rfl⟩:=hcut;cases ht:i1B a
  ·have HT:=zh ht;clear ht
   go_upto_region 3 with fail
   go_cut [74] (fun s wx=>s=.bool (i2B a)∧w.alloc (.cells (acnR a).toArray 99)=wx)
   case first =>
    refine zbf (l':=?l3) ?hl3 ?_
    case hl3 =>simp only[List.map_cons,List.map_nil,zf6];rfl
    obtain⟨R,hR⟩:∃R:Act→World→Prop,R=(fun s wx=>w.alloc (.cells (acnR a).toArray 99)=wx∧s.defers=[]∧s.tmps.size=84∧s.tmps[0]?=some (.agg (acnR a).toArray)∧s.tmps[1]?=some (.pointer (some ⟨w.heap.size,0,none⟩))∧s.tmps[2]?=some (.bool false)∧s.tmps[43]?=some (.bool false)∧s.tmps[53]?=some (.bool (c53 a))):=⟨_,rfl⟩
    have HQ53:=zh hR;clear hR;refine zbL 10 R ?_ ?_
    ·simp only[List.take_succ_cons,List.take_zero];rcases zpM a.entries.l with⟨e1,e2,e3⟩|⟨e1,e2,e3⟩<;>rcases dec2 a.kind 12 with⟨k1,k2,k3⟩|⟨k1,k2,k3⟩
     all_goals
      have K3:=zh k3;have E2:=zh e2;clear k1 k3 e1 e2;go_wp2_with fail
      all_goals
       refine⟨rfl,?_⟩;rw[HQ53.out];refine⟨rfl,rfl,rfl,rfl,rfl,rfl,rfl,?_⟩;simp[c53,K3.out,E2.out]
    ·simp only[List.drop_succ_cons,List.drop_zero];rw[HQ53.out];rintro s _ ⟨rfl,hd,hz,q0,q1,q2,q43,q53⟩;obtain⟨f,hf,hs⟩:=zi0 s hz;have e0:=Option.some.inj ((hf 0 om).symm.trans q0);have e1:=Option.some.inj ((hf 1 om).symm.trans q1);have e2:=Option.some.inj ((hf 2 om).symm.trans q2);have e43:=Option.some.inj ((hf 43 om).symm.trans q43);have e53:=Option.some.inj ((hf 53 om).symm.trans q53);rw[hd,e0,e1,e2,e43,e53] at hs;clear hf hz hd q0 q1 q2 q43 q53 e0 e1 e2 e43 e53;subst hs;obtain⟨R,hR⟩:∃R:Act→World→Prop,R=(fun s wx=>w.alloc (.cells (acnR a).toArray 99)=wx∧s.defers=[]∧s.tmps.size=84∧s.tmps[0]?=some (.agg (acnR a).toArray)∧s.tmps[1]?=some (.pointer (some ⟨w.heap.size,0,none⟩))∧s.tmps[2]?=some (.bool false)∧s.tmps[43]?=some (.bool false)∧s.tmps[64]?=some (.bool (c64 a))):=⟨_,rfl⟩
     have HQ64:=zh hR;clear hR;refine zbL 11 R ?_ ?_
     ·simp only[List.take_succ_cons,List.take_zero];cases hb:c53 a
      ·rcases zpM a.params.l with⟨e1,e2,e3⟩|⟨e1,e2,e3⟩<;>rcases dec2 a.kind 13 with⟨k1,k2,k3⟩|⟨k1,k2,k3⟩
       all_goals
        have K3:=zh k3;have E2:=zh e2;clear k1 k3 e1 e2;go_wp2_with fail
        all_goals
         refine⟨rfl,?_⟩;rw[HQ64.out];refine⟨rfl,rfl,rfl,rfl,rfl,rfl,rfl,?_⟩;simp[c64,hb,K3.out,E2.out]
      ·go_wp2_with fail
       all_goals
        refine⟨rfl,?_⟩;rw[HQ64.out];refine⟨rfl,rfl,rfl,rfl,rfl,rfl,rfl,?_⟩;simp[c64,hb]
     ·simp only[List.drop_succ_cons,List.drop_zero];rw[HQ64.out];rintro s _ ⟨rfl,hd,hz,q0,q1,q2,q43,q64⟩;obtain⟨f,hf,hs⟩:=zi0 s hz;have e0:=Option.some.inj ((hf 0 om).symm.trans q0);have e1:=Option.some.inj ((hf 1 om).symm.trans q1);have e2:=Option.some.inj ((hf 2 om).symm.trans q2);have e43:=Option.some.inj ((hf 43 om).symm.trans q43);have e64:=Option.some.inj ((hf 64 om).symm.trans q64);rw[hd,e0,e1,e2,e43,e64] at hs;clear hf hz hd q0 q1 q2 q43 q64 e0 e1 e2 e43 e64;subst hs;have HI:=zh (zDA a);cases hb:c64 a
      ·rcases zpM a.chans.l with⟨e1,e2,e3⟩|⟨e1,e2,e3⟩<;>rcases dec2 a.kind 14 with⟨k1,k2,k3⟩|⟨k1,k2,k3⟩
       all_goals
        have K3:=zh k3;have E2:=zh e2;clear k1 k3 e1 e2;go_wp2_with fail
        all_goals
         go_meet;refine⟨?_,rfl⟩;rw[HI.out,hb];simp[K3.out,E2.out]
      ·go_wp2_with fail
       all_goals
        go_meet;refine⟨?_,rfl⟩;rw[HI.out,hb];simp
   case rest =>
    obtain⟨rfl,rfl⟩:=hcut;cases ht2:i2B a
    ·have HV:=zh (show idleR a=(decide (a.kind=17)||sameE a.edit zdP) by unfold idleR;rw[HT.out,ht2];rfl);clear ht2;rcases dec2 a.kind 17 with⟨k1,k2,k3⟩|⟨k1,k2,k3⟩
     all_goals
      have K3:=zh k3;clear k2 k3
      go_wp2_with (first
       |(refine wpList_load_row rfl 97 _ rfl w.heap.size 9 rfl (editR a.edit) _ (zbq HR.out rfl) underlying97 rfl kr ?_)
       |(refine zcI rfl 97 [] rfl [] rfl (editR zdP).toArray kr ?_)
       |(go_at_call 124;refine zzg (zib a.edit zdP _ (HA.out.edit.mono ex) (zhZ _)) fun y=>?_))
      go_ret;refine⟨ret_b ?_,ex⟩;rw[HV.out];simp[K3.out]
    ·have HV:=zh (show false=idleR a by unfold idleR;rw[ht2];simp);clear ht2;go_wp2;go_ret;exact⟨ret_b HV.out,ex⟩
  ·have HV:=zh (show false=idleR a by unfold idleR;rw[ht];simp);clear ht;go_wp2;go_ret;exact⟨ret_b HV.out,ex⟩

noncomputable def r33E (a:Acn):Int:=if a.kind<0∨19<a.kind then 1 else if inE a.at_ 0 10000000≠0 then 2 else if numsR a≠0 then numsR a else if zjl a≠0 then zjl a else if idleR a=true then 0 else 3
theorem zmm (a:Acn)(w:World)(ha:AcnAt w a):Calls prog 87 #[.agg (acnR a).toArray] w fun e w'=>e=.returned (.int .i64 (r33E a))∧Ext w w':=by
 have HA:=zh ha;have HR:=zh (zag w rfl (acnR a) 99);clear ha;go_enter func87,ntmps87
 go_wp2_with (first
  |(refine wpList_load_row rfl 99 _ rfl w.heap.size 0 rfl (acnR a) _ (za4 HR.out ex) underlying99 rfl kr ?_)
  |(go_at_call 118;refine zzg (zjW a _ HA.out.cue) fun y=>?_)
  |(go_at_call 119;refine zzg (zq0 a _ (HA.out.mono ex)) fun y=>?_)
  |(go_at_call 120;refine zzg (ztR a _ (HA.out.mono ex)) fun y=>?_))
 all_goals
  go_ret;refine⟨ret_i ?_,ex⟩;go_light;unfold r33E inE;grind

theorem useT {k:Int}(h0:0≤k)(h1:k<20):useB k 0=tgB k∧useB k 1=decide (k=1)∧useB k 2=lvB k∧useB k 3=tmB k∧useB k 4=decide (k=12)∧useB k 5=decide (k=13)∧useB k 6=decide (k=14)∧useB k 7=decide (k=17):=by
 rcases(by omega:k=0∨k=1∨k=2∨k=3∨k=4∨k=5∨k=6∨k=7∨k=8∨k=9∨k=10∨k=11∨k=12∨k=13∨k=14∨k=15∨k=16∨k=17∨k=18∨k=19) with rfl|rfl|rfl|rfl|rfl|rfl|rfl|rfl|rfl|rfl|rfl|rfl|rfl|rfl|rfl|rfl|rfl|rfl|rfl|rfl
 all_goals exact⟨by kernel_rfl,by kernel_rfl,by kernel_rfl,by kernel_rfl,by kernel_rfl,by kernel_rfl,by kernel_rfl,by kernel_rfl⟩
theorem zbF (u:Nat→Bool)(e:Nat→Int)(z:Nat→Bool)(n i:Nat)(b:Bool):chkS u e z (n+1) i b=if u i=true∧e i≠0 then e i else chkS u e z n (i+1) (b && (u i||z i)):=by
 rw[chkS];cases hu:u i
 ·simp
 ·by_cases he:e i=0<;>simp[he]
theorem zdu {c:Prop}[Decidable c]{x y z:Int}(h:c→x≠0):(if(if c then x else y)≠0 then(if c then x else y) else z)=if c then x else if y≠0 then y else z:=by
 by_cases hc:c
 ·simp[hc,h hc]
 ·simp[hc]
theorem zty (a:Acn):numsR a=if tgB a.kind=true∧inE a.target 1 1048576≠0 then inE a.target 1 1048576 else if a.kind=1∧numE a.cue≠0 then numE a.cue else if lvB a.kind=true∧zbo a.kind a.level≠0 then zbo a.kind a.level else if tmB a.kind=true∧inE a.time 0 10000000≠0 then inE a.time 0 10000000 else 0:=by
 have h1:(n1B a=true)=(tgB a.kind=true∧inE a.target 1 1048576≠0):=by simp[n1B]
 have h2:(n3B a=true)=(tmB a.kind=true∧inE a.time 0 10000000≠0):=by simp[n3B]
 unfold numsR;simp only[h1,h2];have e1:=zhV a.target 1 1048576;have e2:=zhV a.time 0 10000000;split
 ·omega
 ·split
  ·rfl
  ·split
   ·rfl
   ·split
    ·omega
    ·rfl
theorem zpJ (a:Acn):zjl a=if a.kind=12∧setE a.entries.l≠0 then setE a.entries.l else if a.kind=13∧parsE a.params.l≠0 then parsE a.params.l else if a.kind=14∧zb3 a.chans.l≠0 then zb3 a.chans.l else if a.kind=17∧editE a.edit≠0 then editE a.edit else 0:=by
 unfold zjl;by_cases h1:a.kind=12
 ·rw[h1];by_cases e:setE a.entries.l=0<;>simp[e]
 ·by_cases h2:a.kind=13
  ·rw[h2];by_cases e:parsE a.params.l=0<;>simp[e]
  ·by_cases h3:a.kind=14
   ·rw[h3];by_cases e:zb3 a.chans.l=0<;>simp[e]
   ·by_cases h4:a.kind=17
    ·rw[h4];by_cases e:editE a.edit=0<;>simp[e]
    ·simp[h1,h2,h3,h4]
theorem zpy {c:Prop}[Decidable c]{y z:Int}(h:c→y≠0):(if(if c then y else 0)≠0 then(if c then y else 0) else z)=if c then y else z:=by
 by_cases hc:c
 ·simp[hc,h hc]
 ·simp[hc]
theorem zDB (a:Acn):idleR a=(((((((((true && (tgB a.kind||(a.target==0))) && (decide (a.kind=1)||a.cue.toList.isEmpty)) && (lvB a.kind||(a.level==0))) && (tmB a.kind||(a.time==0))) && (decide (a.kind=12)||((a.entries.l.length:Int)==0))) && (decide (a.kind=13)||((a.params.l.length:Int)==0))) && (decide (a.kind=14)||((a.chans.l.length:Int)==0))) && (decide (a.kind=17)||sameE a.edit zdP))):=by
 have hz:∀{α:Type} (l:List α),((l.length:Int)==0)=decide (l=[]):=fun l=>by cases l<;>simp;omega
 have hi:∀n:Int,(n==0)=decide (n=0):=fun n=>by rw[Bool.eq_iff_iff];simp
 rw[Bool.eq_iff_iff];unfold idleR i1B i2B;simp only[hz,hi,Bool.and_eq_true,Bool.or_eq_true,Bool.not_eq_true',decide_eq_true_eq,decide_eq_false_iff_not,Bool.true_and,not_or,not_and,Decidable.not_not,Bool.not_eq_false];have c1:∀b:Bool,(b=false→a.target=0)↔(b=true∨a.target=0):=fun b=>by cases b<;>simp
 have c2:∀b:Bool,(b=false→a.level=0)↔(b=true∨a.level=0):=fun b=>by cases b<;>simp
 have c3:∀b:Bool,(b=false→a.time=0)↔(b=true∨a.time=0):=fun b=>by cases b<;>simp
 rw[c1,c2,c3];have d1:(¬a.kind=1→a.cue.toList.isEmpty=true)↔(a.kind=1∨a.cue.toList.isEmpty=true):=Decidable.or_iff_not_imp_left.symm;have d2:(¬a.kind=12→a.entries.l=[])↔(a.kind=12∨a.entries.l=[]):=Decidable.or_iff_not_imp_left.symm;have d3:(¬a.kind=13→a.params.l=[])↔(a.kind=13∨a.params.l=[]):=Decidable.or_iff_not_imp_left.symm;have d4:(¬a.kind=14→a.chans.l=[])↔(a.kind=14∨a.chans.l=[]):=Decidable.or_iff_not_imp_left.symm;simp only[ne_eq,d1,d2,d3,d4,and_assoc]
theorem ztO (a:Acn):r33E a=acnE a:=by
 unfold r33E acnE;by_cases hk:a.kind<0∨20≤a.kind
 ·rw[if_pos om,if_pos hk]
 ·rw[if_neg om,if_neg hk];by_cases ha:inE a.at_ 0 10000000≠0
  ·rw[if_pos ha,if_pos ha]
  ·rw[if_neg ha,if_neg ha];obtain⟨u0,u1,u2,u3,u4,u5,u6,u7⟩:=useT (k:=a.kind) om om;rw[zbF,zbF,zbF,zbF,zbF,zbF,zbF,zbF];simp only[u0,u1,u2,u3,u4,u5,u6,u7,zdG,zg6,List.getD_cons_zero,List.getD_cons_succ,decide_eq_true_eq];rw[zty,zpJ,zdu (fun h=>h.2),zdu (fun h=>h.2),zdu (fun h=>h.2),zpy (fun h=>h.2),zdu (fun h=>h.2),zdu (fun h=>h.2),zdu (fun h=>h.2),zpy (fun h=>h.2),←zDB];rfl

theorem zaj (a:Acn)(w:World)(ha:AcnAt w a):Calls prog 87 #[.agg (acnR a).toArray] w fun e w'=>e=.returned (.int .i64 (acnE a))∧Ext w w':=by rw[←ztO];exact zmm a w ha

theorem ztJ (b n c:Nat)(A:Option Addr)(w:World)(h:w.cell? ⟨b,1,none⟩=some (.slice A n c)):Calls prog 143 #[.slice (some ⟨b,0,none⟩) 1 1] w fun e w'=>e=.returned (.bool (decide (n≤512)))∧Ext w w':=by
 go_enter func143,ntmps143;go_wp2;go_loopw [3] (fun q wr=> ∃k:Nat,k≤1∧q=.int .i64 k∧Ext w wr∧Hid (k=1→n≤512)) (fun q _=>1 - (intOf q).toNat)
 case atStart => exact ⟨0,by omega,rfl,Ext.refl _,zh om⟩
 case round =>
  obtain⟨k,hk,rfl,hx,HE⟩:=hrel;obtain⟨y,rfl⟩:=hx.get;clear hx
  match k,hk with
  |0,_=>
   by_cases hn:512<n
   ·go_wp2;go_ret;exact⟨ret_b (decide_eq_false om).symm,ex⟩
   ·go_wp2;go_light;exact⟨⟨1,by omega,by rfl,ex,zh fun _=>by omega⟩,by simp[intOf]⟩
  |1,_=>have HV:=zh (HE.out rfl);go_wp2;go_ret;exact⟨ret_b (by have h:=HV.out;symm;simpa using h),ex⟩
  |k+2,hk=>exact absurd hk om
theorem ztI (b n c:Nat)(A:Option Addr)(w:World)(h:w.cell? ⟨b,1,none⟩=some (.slice A n c)):Calls prog 144 #[.slice (some ⟨b,0,none⟩) 1 1] w fun e w'=>e=.returned (.bool (decide (n≤40∨256<n)))∧Ext w w':=by
 go_enter func144,ntmps144;go_wp2;go_loopw [3] (fun q wr=> ∃k:Nat,k≤1∧q=.int .i64 k∧Ext w wr∧Hid (k=1→n≤40∨256<n)) (fun q _=>1 - (intOf q).toNat)
 case atStart => exact ⟨0,by omega,rfl,Ext.refl _,zh om⟩
 case round =>
  obtain⟨k,hk,rfl,hx,HE⟩:=hrel;obtain⟨y,rfl⟩:=hx.get;clear hx
  match k,hk with
  |0,_=>
   by_cases h1:40<n
   ·by_cases h2:n≤256
    ·go_wp2;go_ret;exact⟨ret_b (decide_eq_false om).symm,ex⟩
    ·go_wp2;go_light;exact⟨⟨1,by omega,by rfl,ex,zh fun _=>by omega⟩,by simp[intOf]⟩
   ·go_wp2;go_light;exact⟨⟨1,by omega,by rfl,ex,zh fun _=>by omega⟩,by simp[intOf]⟩
  |1,_=>have HV:=zh (HE.out rfl);go_wp2;go_ret;exact⟨ret_b (by have h:=HV.out;symm;simpa using h),ex⟩
  |k+2,hk=>exact absurd hk om
theorem ztL (b n c:Nat)(A:Option Addr)(w:World)(h:w.cell? ⟨b,3,none⟩=some (.slice A n c)):Calls prog 145 #[.slice (some ⟨b,0,none⟩) 1 1] w fun e w'=>e=.returned (.bool (decide (n≤30∨128<n)))∧Ext w w':=by
 go_enter func145,ntmps145;go_wp2;go_loopw [3] (fun q wr=> ∃k:Nat,k≤1∧q=.int .i64 k∧Ext w wr∧Hid (k=1→n≤30∨128<n)) (fun q _=>1 - (intOf q).toNat)
 case atStart => exact ⟨0,by omega,rfl,Ext.refl _,zh om⟩
 case round =>
  obtain⟨k,hk,rfl,hx,HE⟩:=hrel;obtain⟨y,rfl⟩:=hx.get;clear hx
  match k,hk with
  |0,_=>
   by_cases h1:30<n
   ·by_cases h2:n≤128
    ·go_wp2;go_ret;exact⟨ret_b (decide_eq_false om).symm,ex⟩
    ·go_wp2;go_light;exact⟨⟨1,by omega,by rfl,ex,zh fun _=>by omega⟩,by simp[intOf]⟩
   ·go_wp2;go_light;exact⟨⟨1,by omega,by rfl,ex,zh fun _=>by omega⟩,by simp[intOf]⟩
  |1,_=>have HV:=zh (HE.out rfl);go_wp2;go_ret;exact⟨ret_b (by have h:=HV.out;symm;simpa using h),ex⟩
  |k+2,hk=>exact absurd hk om
theorem ztN (b:Nat)(w:World):Calls prog 146 #[.slice (some ⟨b,0,none⟩) 1 1,.slice none 0 0] w fun e w'=>e=.returned (.bool true)∧Ext w w':=by go_enter func146,ntmps146;go_wp2;refine wp_loop_rounds 1 ?_;rw[rounds_succ];go_wp2;go_ret;exact⟨rfl,ex⟩
theorem zcQ (A:Option Addr)(n c:Nat)(w:World):Calls prog 107 #[.slice A n c] w fun e w'=>e=.returned (.bool (decide (n≤200∨4096<n)))∧w=w':=by
 go_enter func107,ntmps107;go_wp2
 all_goals
  go_ret;refine⟨ret_b ?_,rfl⟩;go_light;grind
def SomeB (w:World) (e:Ending) (w':World):Prop:=(∃b:Bool,e=.returned (.bool b))∧Ext w w'
theorem zfX (e:Edit)(w:World):Calls prog 108 #[.agg (editR e).toArray] w (SomeB w):=by
 go_enter func108,ntmps108
 go_upto_region 1 with fail
 refine zbf (l':=?l2) ?hl ?_
 case hl =>simp only[List.map_cons,List.map_nil,zf6];rfl
 go_wp2_with (first
  |(go_at_call 142;refine zzg (ze0 e.cue e.cA e.ck e.cB e.cm _) fun y=>?_)
  |(go_at_call 143;refine zzg (ztJ _ e.hues.l.length e.hues.cap e.hues.at_ _ sg) fun y=>?_)
  |(go_at_call 144;refine zzg (ztI _ e.chans.l.length e.chans.cap e.chans.at_ _ sg) fun y=>?_)
  |(go_at_call 145;refine zzg (ztL _ e.sub.gains.l.length e.sub.gains.cap e.sub.gains.at_ _ sg) fun y=>?_)
  |(go_at_call 146;refine zzg (ztN _ _) fun y=>?_))
 all_goals
  go_ret;exact⟨⟨_,rfl⟩,ex⟩
section
variable (a:Acn) (w:World)
theorem Few_1 (h1:40<a.cue.size):Calls prog 76 #[.agg (acnR a).toArray] w (SomeB w):=by go_enter func76,ntmps76;go_wp2;go_ret;exact⟨⟨_,rfl⟩,ex⟩
theorem Few_2 (h1:¬40<a.cue.size)(h2:decide (a.entries.l.length≤200∨4096<a.entries.l.length)=false):Calls prog 76 #[.agg (acnR a).toArray] w (SomeB w):=by have HE:=zh h2;clear h2;go_enter func76,ntmps76;go_wp2_with (go_at_call 107;refine(zcQ _ _ _ _).mono ?_;rintro e w' ⟨he,rfl⟩;rw[HE.out] at he;subst he);go_ret;exact⟨⟨_,rfl⟩,ex⟩
theorem Few_3 (h1:¬40<a.cue.size)(h2:decide (a.entries.l.length≤200∨4096<a.entries.l.length)=true)(h3:200<a.params.l.length)(h4:a.params.l.length≤4096):Calls prog 76 #[.agg (acnR a).toArray] w (SomeB w):=by have HE:=zh h2;clear h2;go_enter func76,ntmps76;go_wp2_with (go_at_call 107;refine(zcQ _ _ _ _).mono ?_;rintro e w' ⟨he,rfl⟩;rw[HE.out] at he;subst he);go_ret;exact⟨⟨_,rfl⟩,ex⟩
theorem Few_4 (h1:¬40<a.cue.size)(h2:decide (a.entries.l.length≤200∨4096<a.entries.l.length)=true)(h3:¬200<a.params.l.length):Calls prog 76 #[.agg (acnR a).toArray] w (SomeB w):=by
 have HE:=zh h2;have HR:=zh (zag w rfl (acnR a) 99);clear h2;by_cases h5:512<a.chans.l.length
 all_goals
  go_enter func76,ntmps76
  go_wp2_with (first
   |(refine wpList_load_row rfl 97 (.tmp 31) rfl w.heap.size 9 rfl (editR a.edit) _ (za4 (zbq HR.out rfl) ex) underlying97 rfl kr ?_)
   |(go_at_call 107;refine(zcQ _ _ _ _).mono ?_;rintro e w' ⟨he,rfl⟩;rw[HE.out] at he;subst he)
   |(go_at_call 108;refine(zfX a.edit _).mono ?_;rintro e w' ⟨⟨fe,rfl⟩,hx⟩;obtain⟨y,rfl⟩:=hx.get;clear hx))
  go_ret;exact⟨⟨_,rfl⟩,ex⟩
theorem Few_5 (h1:¬40<a.cue.size)(h2:decide (a.entries.l.length≤200∨4096<a.entries.l.length)=true)(h4:¬a.params.l.length≤4096):Calls prog 76 #[.agg (acnR a).toArray] w (SomeB w):=by
 have HE:=zh h2;have HR:=zh (zag w rfl (acnR a) 99);clear h2;by_cases h5:512<a.chans.l.length
 all_goals
  go_enter func76,ntmps76
  go_wp2_with (first
   |(refine wpList_load_row rfl 97 (.tmp 31) rfl w.heap.size 9 rfl (editR a.edit) _ (za4 (zbq HR.out rfl) ex) underlying97 rfl kr ?_)
   |(go_at_call 107;refine(zcQ _ _ _ _).mono ?_;rintro e w' ⟨he,rfl⟩;rw[HE.out] at he;subst he)
   |(go_at_call 108;refine(zfX a.edit _).mono ?_;rintro e w' ⟨⟨fe,rfl⟩,hx⟩;obtain⟨y,rfl⟩:=hx.get;clear hx))
  go_ret;exact⟨⟨_,rfl⟩,ex⟩
theorem zen:Calls prog 76 #[.agg (acnR a).toArray] w (SomeB w):=by
 by_cases h1:40<a.cue.size
 ·exact Few_1 a w h1
 ·cases h2:decide (a.entries.l.length≤200∨4096<a.entries.l.length)
  ·exact Few_2 a w h1 h2
  ·by_cases h3:200<a.params.l.length
   ·by_cases h4:a.params.l.length≤4096
    ·exact Few_3 a w h1 h2 h3 h4
    ·exact Few_5 a w h1 h2 h4
   ·exact Few_4 a w h1 h2 h3
end
def GoodB (w:World) (l:List Acn) (e:Ending) (w':World):Prop:=(∃b:Bool,e=.returned (.bool b)∧(b=true→l.length≤40∧logE l=0))∧Ext w w'
