import Derived.Test.YtnpdghjpcnjokaaGreatGacn
set_option maxHeartbeats 1600000
set_option maxRecDepth 100000
namespace Go.Proofs.YtnpdghjpcnjokaaGreat
open Go.RowKit Tryz

def zbW (e:Entry):Int:=if zak e.p≠0 then zak e.p else zev e.v
def zbG (q:Option Entry) (e:Entry):Int:=if zbW e≠0 then zbW e else match q with|some n=>if before n.p e.p then 0 else 9|none=>0
def zaE (l:List Entry):Int:=if 4096<l.length then 5 else scan zbG none l
theorem zcP (A:Option Addr)(c:Nat)(l:List Entry)(w:World)(hs:Sl w A 4 (l.map en))(hl:l.length≤maxLen):
  Calls prog 175 #[.slice A l.length c] w fun e w'=>e=.returned (.int .i64 (zaE l))∧Ext w w':=by
 unfold maxLen at hl;by_cases h128:4096<l.length
 ·go_enter func175,ntmps175;go_wp2;go_ret;exact⟨ret_i (by simp[zaE,h128]),Ext.refl _⟩
 have h0:(0:Int)≤l.length:=by omega
 have HM:Hid (zaE l=scan zbG none l):=zh (by unfold zaE;rw[if_neg h128]);go_enter func175,ntmps175;go_wp2;go_loopw [3] (fun i wr=> ∃k:Nat,k≤l.length∧i=.int .i64 k∧Ext w wr∧Hid (zaE l=scan zbG (prv l k) (l.drop k))) (fun i _=>l.length - (intOf i).toNat)
 case atStart => exact ⟨0,by omega,rfl,Ext.refl _,HM⟩
 case round =>
  obtain⟨k,hk,rfl,hx,HE⟩:=hrel;obtain⟨y,rfl⟩:=hx.get;clear hx HM;by_cases hlt:k<l.length
  ·obtain⟨m,hm⟩:∃m,l[k]?=some m:=⟨_,List.getElem?_eq_getElem hlt⟩
   obtain⟨b,o,rfl,hc0,hc1,hc2,hc3⟩:=hs.row4 (i:=k) (by rw[List.getElem?_map,hm];rfl);have HS:=zh (HE.out.trans (zcu zbG l k m hm));clear HE;by_cases hk0:0<k
   ·obtain⟨m',hm'⟩:∃m',l[k - 1]?=some m':=⟨_,List.getElem?_eq_getElem om⟩
    obtain⟨b',o',he,hp0,hp1,hp2,hp3⟩:=hs.row4 (i:=k - 1) (by rw[List.getElem?_map,hm'];rfl);injection he with he;injection he with hb ho;subst hb ho;have HP:Hid (prv l k=some m'):=zh (by unfold prv;rw[if_neg om,hm']);clear hm hm' hs hp2 hp3;go_wp2_with (first|(go_at_call 205;refine zzg (zaX m.p _) fun y=>?_)|(go_at_call 206;refine zzg (zfW m.v _) fun y=>?_))
    all_goals try(go_ret;go_light;refine⟨ret_i ?_,ex⟩;have hS:=HS.out;have hP:=HP.out;rw[hP] at hS;grind [zbG,zbW])
    (refine zcL kr kr ?_;(repeat(go_big_quiet_step ((go_at_call 207;exact Calls.grows (zeG m'.p m.p _)))));refine wqN fun y=>?_);go_wp2
    ·go_ret;go_light;have hS:=HS.out;have hP:=HP.out;refine⟨ret_i ?_,ex⟩;rw[hP] at hS;grind [zbG,zbW]
    ·go_light;have hS:=HS.out;have hP:=HP.out;refine⟨⟨k+1,by omega,by go_num,ex,zh ?_⟩,by simp[intOf];omega⟩;rw[hP] at hS;grind [zbG,zbW]
   ·have HP:Hid (prv l k=none):=zh (by unfold prv;rw[if_pos om]);obtain rfl:k=0:=by omega
    simp only[Nat.zero_mul,Nat.add_zero] at hc0 hc1 hc2 hc3;clear hm hs hk0;go_wp2_with (first|(go_at_call 205;refine zzg (zaX m.p _) fun y=>?_)|(go_at_call 206;refine zzg (zfW m.v _) fun y=>?_))
    all_goals try(go_ret;go_light;refine⟨ret_i ?_,ex⟩;have hS:=HS.out;have hP:=HP.out;rw[hP] at hS;grind [zbG,zbW])
    (refine zcL kr kr ?_;(repeat(go_big_quiet_step (fail)));refine wqN fun y=>?_);go_wp2;go_light;have hS:=HS.out;have hP:=HP.out;refine⟨⟨1,by omega,by rfl,ex,zh ?_⟩,by simp[intOf];omega⟩;rw[hP] at hS;grind [zbG,zbW]
  ·have HS:=zh (HE.out.trans (zbX zbG l k _ om));go_wp2;go_ret;rw[HS.out];exact⟨rfl,ex⟩

theorem zgC (p:Param)(w:World):Calls prog 222 #[.agg (prm p).toArray,.int .i64 1] w fun e w'=>e=.returned (.int .i64 (zak p))∧Ext w w':=by
 simp only[prm];go_enter func222,ntmps222;go_wp2
 all_goals
  go_ret;go_light;refine⟨ret_i ?_,ex⟩;grind [zak]
theorem zyB (p q:Param)(w:World)(hp:zak p=0)(hq:zak q=0):Calls prog 226 #[.agg (prm p).toArray,.agg (prm q).toArray] w fun e w'=>e=.returned (.int .i64 (cmpP p q))∧Ext w w':=by
 obtain⟨h1,h2,h3,h4⟩:=zcB hp;obtain⟨h5,h6,h7,h8⟩:=zcB hq;clear hp hq;simp only[prm];go_enter func226,ntmps226;go_wp2
 all_goals
  go_ret;go_light;refine⟨ret_i ?_,ex⟩;grind [cmpP]
theorem zi8 (x:Entry)(w:World):Calls prog 221 #[.agg (en x).toArray] w fun e w'=>e=.returned (.int .i64 (zbW x))∧Ext w w':=by
 simp only[en];go_enter func221,ntmps221;go_wp2_with (first|(go_at_call 222;refine zzg (zgC x.p _) fun y=>?_)|(go_at_call 223;refine zzg (zfV x.v _) fun y=>?_))
 all_goals
  go_ret;go_light;refine⟨ret_i ?_,ex⟩;grind [zbW]
theorem zvP (x z:Entry)(w:World)(hp:zak x.p=0)(hq:zak z.p=0):Calls prog 225 #[.agg (en x).toArray,.agg (en z).toArray] w fun e w'=>e=.returned (.int .i64 (cmpP x.p z.p))∧Ext w w':=by have HP:=zh hp;have HQ:=zh hq;clear hp hq;simp only[en];go_enter func225,ntmps225;go_wp2_with (go_at_call 226;refine zzg (zyB x.p z.p _ HP.out HQ.out) fun y=>?_);go_ret;exact⟨rfl,ex⟩

theorem pal_list (A:Option Addr)(c:Nat)(l:List Entry)(w:World)(hs:Sl w A 4 (l.map en))(hl:l.length≤maxLen):
  Calls prog 224 #[.slice A l.length c,.int .i64 4096,.func (Fn.func 221) #[] #[],.func (Fn.func 225) #[] #[]] w fun e w'=>e=.returned (.int .i64 (zaE l))∧Ext w w':=by
 unfold maxLen at hl;by_cases h128:4096<l.length
 ·go_enter func224,ntmps224;go_wp2;go_ret;exact⟨ret_i (by simp[zaE,h128]),Ext.refl _⟩
 have h0:(0:Int)≤l.length:=by omega
 have HM:Hid (zaE l=scan zbG none l):=zh (by unfold zaE;rw[if_neg h128]);go_enter func224,ntmps224;go_wp2;go_loopw [18] (fun i wr=> ∃k:Nat,k≤l.length∧i=.int .i64 k∧Ext w wr∧Hid (zaE l=scan zbG (prv l k) (l.drop k))∧Hid (∀m',prv l k=some m'→zak m'.p=0)) (fun i _=>l.length - (intOf i).toNat)
 case atStart => exact ⟨0,by omega,rfl,Ext.refl _,HM,zh (by intro m' h;simp [prv] at h)⟩
 case round =>
  obtain⟨k,hk,rfl,hx,HE,HQ⟩:=hrel;obtain⟨y,rfl⟩:=hx.get;clear hx HM;by_cases hlt:k<l.length
  ·obtain⟨m,hm⟩:∃m,l[k]?=some m:=⟨_,List.getElem?_eq_getElem hlt⟩
   have HMM:=zh hm;obtain⟨b,o,rfl,hc0,hc1,hc2,hc3⟩:=hs.row4 (i:=k) (by rw[List.getElem?_map,hm];rfl);have HS:=zh (HE.out.trans (zcu zbG l k m hm));have hb0:(0:Int)≤(k:Int):=by omega
   have hb1:(k:Int)<(l.length:Int):=by omega
   clear HE;by_cases he:zbW m=0
   ·have HI:=zh (show zak m.p=0 by unfold zbW at he;by_cases h:zak m.p=0;exact h;simp[h] at he);have he':(zbW m !=0)=false:=by simpa using he
    have HE1:=zh he;clear he;by_cases hk0:0<k
    ·obtain⟨m',hm'⟩:∃m',l[k - 1]?=some m':=⟨_,List.getElem?_eq_getElem om⟩
     obtain⟨b',o',he,hp0,hp1,hp2,hp3⟩:=hs.row4 (i:=k - 1) (by rw[List.getElem?_map,hm'];rfl);injection he with he;injection he with hb ho;subst hb ho;have hP:prv l k=some m':=by unfold prv;rw[if_neg om,hm']
     have HP:=zh hP;have HQ':=zh (HQ.out m' hP);have HB:=zh (zfE m'.p m.p);clear hm hm' hs hP HQ;go_wp2_with (go_at_call 221;refine zzg (zi8 m _) fun y=>?_);(refine zcL kr kr ?_;(repeat(go_big_quiet_step ((go_at_call 225;exact Calls.grows (zvP m' m _ HQ'.out HI.out)))));refine wqN fun y=>?_);go_wp2
     ·go_ret;go_light;refine⟨ret_i ?_,ex⟩;have hS:=HS.out;have hB:=HB.out;have h1:=HE1.out;rw[HP.out] at hS;grind [zbG]
     ·go_light;have hS:=HS.out;have hB:=HB.out;have h1:=HE1.out;refine⟨⟨k+1,by omega,by go_num,ex,zh ?_,zh ?_⟩,by simp[intOf];omega⟩
      ·rw[HP.out] at hS;grind [zbG]
      ·intro n hn;rw[zbk,HMM.out] at hn;injection hn with hn;subst hn;exact HI.out
    ·have HP:Hid (prv l k=none):=zh (by unfold prv;rw[if_pos om]);obtain rfl:k=0:=by omega
     simp only[Nat.zero_mul,Nat.add_zero] at hc0 hc1 hc2 hc3;clear hm hs hk0 HQ;go_wp2_with (go_at_call 221;refine zzg (zi8 m _) fun y=>?_);(refine zcL kr kr ?_;(repeat(go_big_quiet_step (fail)));refine wqN fun y=>?_);go_wp2;go_light;have hS:=HS.out;have h1:=HE1.out;refine⟨⟨1,by omega,by rfl,ex,zh ?_,zh ?_⟩,by simp[intOf];omega⟩
     ·rw[HP.out] at hS;grind [zbG]
     ·intro n hn;rw[zbk,HMM.out] at hn;injection hn with hn;subst hn;exact HI.out
   ·have he':(zbW m !=0)=true:=by simpa using he
    have HE1:=zh he;clear he hm hs;go_wp2_with (go_at_call 221;refine zzg (zi8 m _) fun y=>?_);go_ret;go_light;refine⟨ret_i ?_,ex⟩;have hS:=HS.out;have h1:=HE1.out;have h2:zbG (prv l k) m=zbW m:=by unfold zbG;rw[if_pos h1]
    rw[h2,if_pos h1] at hS;exact hS.symm
  ·have HS:=zh (HE.out.trans (zbX zbG l k _ om));go_wp2;go_ret;rw[HS.out];exact⟨rfl,ex⟩
theorem zcO (A:Option Addr)(c:Nat)(l:List Entry)(w:World)(hs:Sl w A 4 (l.map en))(hl:l.length≤maxLen):
  Calls prog 197 #[.slice A l.length c] w fun e w'=>e=.returned (.int .i64 (zaE l))∧Ext w w':=by
 go_enter func197,ntmps197;go_wp2_with (go_at_call 224;refine zzg (pal_list A c l _ hs hl) fun y=>?_);go_ret;exact⟨rfl,ex⟩

def inE (n low high:Int):Int:=if n<low∨high<n then 2 else 0
def zbo (k v:Int):Int:=if k=6∨k=15 then inE v 1 400 else if k=11 then inE v 0 1 else inE v 0 65535
def setE (l:List Entry):Int:=if l.length=0 then 12 else zaE l
def parE (q:Option Param) (p:Param):Int:=if zak p≠0 then zak p else match q with|some n=>if before n p then 0 else 9|none=>0
def parsE (l:List Param):Int:=if 4096<l.length then 5 else scan parE none l
def zg5:List Int→List Int→Int
 |_,[]=>0
 |pre,c::r=>if inE c 1 999≠0 then 2 else if c∈pre then 7 else zg5 (pre++[c]) r
def zb3 (l:List Int):Int:=if l.length=0 then 12 else if 256<l.length then 5 else zg5 [] l
def cmpI (a b:Int):Int:=if a<b then -1 else if b<a then 1 else 0
def cmpO (p q:Param):Int:=if cmpI p.ch q.ch≠0 then cmpI p.ch q.ch else cmpI p.attr q.attr
def orI (a b:Int):Int:=if a≠0 then a else b
def idxI (l:List Int) (v:Int):Int:=if v∈l then(l.idxOf v:Int) else -1
theorem zy4 (p q:Param):cmpO p q<0↔before p q=true:=by unfold cmpO cmpI before;simp only[decide_eq_true_eq];grind

theorem zmN (n low high:Int)(w:World):Calls prog 113 #[n,low,high] w fun e w'=>e=.returned (.int .i64 (inE n low high))∧w=w':=by
 go_enter func113,ntmps113;go_wp2
 all_goals
  go_ret;refine⟨ret_i ?_,rfl⟩;grind [inE]
theorem zy5 (a b:Int)(w:World):Calls prog 228 #[a,b] w fun e w'=>e=.returned (.int .i64 (cmpI a b))∧w=w':=by
 have hn:∀(x:Int) (w:World),Calls prog 248 #[x] w fun e w'=>e=.returned (.bool false)∧w=w':=fun x w=>by go_enter func248,ntmps248;go_wp2;go_ret;exact⟨rfl,rfl⟩
 have HN:=zh hn;clear hn;go_enter func228,ntmps228;go_wp2_with (go_at_call 248;refine(HN.out _ _).mono ?_;rintro e w' ⟨rfl,rfl⟩)
 all_goals
  go_ret;refine⟨ret_i ?_,rfl⟩;grind [cmpI]
theorem cmp_Or (A:Option Addr)(a b:Int)(w:World)(hs:Sl w A 1 [[a],[b]]):Calls prog 227 #[.slice A 2 2] w fun e w'=>e=.returned (.int .i64 (orI a b))∧Ext w w':=by
 obtain⟨b0,o0,hA0,hc0⟩:=hs.row1 (i:=0) rfl;obtain⟨b1,o1,hA1,hc1⟩:=hs.row1 (i:=1) rfl;subst hA0;injection hA1 with hA1;injection hA1 with hb1 ho1;subst hb1 ho1;simp only[Nat.add_zero] at hc0;clear hs;by_cases ha:a=0
 ·have hz:(a !=0)=false:=by simpa using ha
  have HA:=zh ha;by_cases hb:b=0
  ·have hz':(b !=0)=false:=by simpa using hb
   have HB:=zh hb;clear ha hb;go_enter func227,ntmps227;go_wp2;refine wp_loop_rounds 3 ?_;rw[rounds_succ];go_wp2;rw[rounds_succ];go_wp2;rw[rounds_succ];go_wp2;go_ret;exact⟨ret_i (by rw[HA.out,HB.out];rfl),ex⟩
  ·have hz':(b !=0)=true:=by simpa using hb
   clear ha hb;go_enter func227,ntmps227;go_wp2;refine wp_loop_rounds 3 ?_;rw[rounds_succ];go_wp2;rw[rounds_succ];go_wp2;go_ret;exact⟨ret_i (by rw[HA.out];rfl),ex⟩
 ·have hz:(a !=0)=true:=by simpa using ha
  have HA:=zh ha;clear ha;go_enter func227,ntmps227;go_wp2;refine wp_loop_rounds 3 ?_;rw[rounds_succ];go_wp2;go_ret;exact⟨ret_i (by unfold orI;rw[if_pos HA.out]),ex⟩
theorem zy2 (p q:Param)(w:World):Calls prog 198 #[.agg (prm p).toArray,.agg (prm q).toArray] w fun e w'=>e=.returned (.int .i64 (cmpO p q))∧Ext w w':=by simp only[prm];go_enter func198,ntmps198;go_wp2;(refine zrE 10 kr kr ?_;simp only[List.take_succ_cons,List.take_zero,List.drop_succ_cons,List.drop_zero];(repeat(go_big_quiet_step ((go_at_call 228;exact Calls.grows_same (zy5 _ _ _)))));refine wqN fun y=>?_);go_wp2_with (go_at_call 227;refine zzg (cmp_Or _ _ _ _ (Sl.alloc' sg rfl (by simp))) fun y=>?_);go_ret;exact⟨rfl,ex⟩

theorem zCw (A:Option Addr)(c:Nat)(l:List Int)(v:Int)(w:World)(hs:Sl w A 1 (l.map intR))(hl:l.length≤maxLen):
  Calls prog 229 #[.slice A l.length c,v] w fun e w'=>e=.returned (.int .i64 (idxI l v))∧w=w':=by
 unfold maxLen at hl;go_enter func229,ntmps229;go_wp2
 go_loop [8] (fun i=> ∃k:Nat,k≤l.length∧i=.int .i64 k∧Hid (∀x∈l.take k,x≠v)) (fun i=>l.length - (intOf i).toNat)
 case atStart => exact ⟨0,by omega,rfl,zh (by simp)⟩
 case round =>
  obtain⟨k,hk,rfl,HE⟩:=hrel;by_cases hlt:k<l.length
  ·obtain⟨m,hm⟩:∃m,l[k]?=some m:=⟨_,List.getElem?_eq_getElem hlt⟩
   have HM:=zh hm;obtain⟨b,o,rfl,hc0⟩:=hs.row1 (i:=k) (by rw[List.getElem?_map,hm];rfl);have hb0:(0:Int)≤(k:Int):=by omega
   have hb1:(k:Int)<(l.length:Int):=by omega
   clear hm hs;by_cases he:v=m
   ·have hz:(v==m)=true:=by simpa using he
    have HV:=zh (show idxI l v=(k:Int) by
     unfold idxI;have hx:l[k]?=some v:=by rw[he];exact HM.out
     rw[if_pos (List.mem_of_getElem? hx)];have h1:l.idxOf v=k:=by
      have hlk:=(List.getElem?_eq_some_iff.1 hx).2;have h2:l=l.take k++v::l.drop (k+1):=by
       conv=>lhs;rw[←List.take_append_drop k l]
       rw[List.drop_eq_getElem_cons hlt,hlk]
      rw[h2,List.idxOf_append,if_neg (fun h=>HE.out v h rfl)];simp;omega
     rw[h1])
    clear he;go_wp2;go_ret;rw[HV.out];exact⟨rfl,rfl⟩
   ·have hz:(v==m)=false:=by simpa using he
    have HK:=zh (show ∀x∈l.take (k+1),x≠v by
     intro x hx;obtain⟨h1,h2⟩:=List.getElem?_eq_some_iff.1 HM.out;rw[List.take_succ_eq_append_getElem h1,h2] at hx;rcases List.mem_append.1 hx with hx|hx
     ·exact HE.out x hx
     ·simp at hx;subst hx;exact fun e=>he e.symm)
    clear he;go_wp2;go_round
    case rel => exact ⟨k + 1,by omega,by go_num,HK⟩
    case measure => simp [intOf];omega
  ·have HV:=zh (show idxI l v= -1 by
    unfold idxI;rw[if_neg (fun h=>by have:=HE.out v (by rw[List.take_of_length_le om];exact h);exact this rfl)])
   go_wp2;go_ret;rw[HV.out];exact⟨rfl,rfl⟩
theorem zaD (A:Option Addr)(c:Nat)(l:List Int)(v:Int)(w:World)(hs:Sl w A 1 (l.map intR))(hl:l.length≤maxLen):
  Calls prog 199 #[.slice A l.length c,v] w fun e w'=>e=.returned (.bool (decide (v∈l)))∧w=w':=by
 by_cases hv:v∈l
 ·have H:=zh (decide_eq_true hv);have HI:=zh (show idxI l v=(l.idxOf v:Int) by unfold idxI;rw[if_pos hv]);clear hv;have h0:(0:Int)≤(l.idxOf v:Int):=by omega
  go_enter func199,ntmps199;go_wp2_with (go_at_call 229;refine(zCw A c l v _ hs hl).mono ?_;rintro e w' ⟨he,rfl⟩;rw[HI.out] at he;subst he);go_ret;rw[H.out];exact⟨rfl,rfl⟩
 ·have H:=zh (decide_eq_false hv);have HI:=zh (show idxI l v= -1 by unfold idxI;rw[if_neg hv]);clear hv;go_enter func199,ntmps199;go_wp2_with (go_at_call 229;refine(zCw A c l v _ hs hl).mono ?_;rintro e w' ⟨he,rfl⟩;rw[HI.out] at he;subst he);go_ret;rw[H.out];exact⟨rfl,rfl⟩

theorem zrN (a:Acn)(w:World):Calls prog 153 #[.agg (acnR a).toArray] w fun e w'=>e=.returned (.int .i64 (zbo a.kind a.level))∧Ext w w':=by
 go_enter func153,ntmps153;go_wp2_with (go_at_call 113;refine(zmN _ _ _ _).mono ?_;rintro e w' ⟨rfl,rfl⟩)
 all_goals
  go_ret;refine⟨ret_i ?_,ex⟩;grind [zbo]
theorem zCL (a:Acn)(w:World)(ha:AcnAt w a):Calls prog 157 #[.agg (acnR a).toArray] w fun e w'=>e=.returned (.int .i64 (setE a.entries.l))∧Ext w w':=by
 have HE:=zh ha.entries;clear ha;by_cases h0:a.entries.l.length=0
 ·have hz:((a.entries.l.length:Int)==0)=true:=by simp[h0]
  have HV:=zh (show setE a.entries.l=12 by unfold setE;rw[if_pos h0]);clear h0;go_enter func157,ntmps157;go_wp2;go_ret;exact⟨ret_i HV.out.symm,ex⟩
 ·have hz:((a.entries.l.length:Int)==0)=false:=by simp;intro h;exact h0 (by simp[h])
  have HV:=zh (show setE a.entries.l=zaE a.entries.l by unfold setE;rw[if_neg h0]);clear h0;go_enter func157,ntmps157;go_wp2_with (go_at_call 197;refine zzg (zcO a.entries.at_ a.entries.cap a.entries.l _ (HE.out.sl.mono ex) HE.out.len) fun y=>?_);go_ret;exact⟨ret_i HV.out.symm,ex⟩
theorem zCM (a:Acn)(w:World):Calls prog 149 #[.agg (acnR a).toArray] w fun e w'=>e=.returned (.bool (a.target==0))∧Ext w w':=by
 go_enter func149,ntmps149;go_wp2;go_ret;refine⟨ret_b ?_,ex⟩
 first|rfl|simp|grind
theorem zCN (a:Acn)(w:World):Calls prog 152 #[.agg (acnR a).toArray] w fun e w'=>e=.returned (.bool a.cue.toList.isEmpty)∧Ext w w':=by
 go_enter func152,ntmps152;go_wp2;go_ret;refine⟨ret_b ?_,ex⟩
 first|rfl|simp|grind
theorem zCO (a:Acn)(w:World):Calls prog 154 #[.agg (acnR a).toArray] w fun e w'=>e=.returned (.bool (a.level==0))∧Ext w w':=by
 go_enter func154,ntmps154;go_wp2;go_ret;refine⟨ret_b ?_,ex⟩
 first|rfl|simp|grind
theorem zCP (a:Acn)(w:World):Calls prog 156 #[.agg (acnR a).toArray] w fun e w'=>e=.returned (.bool (a.time==0))∧Ext w w':=by
 go_enter func156,ntmps156;go_wp2;go_ret;refine⟨ret_b ?_,ex⟩
 first|rfl|simp|grind
theorem zCQ (a:Acn)(w:World):Calls prog 158 #[.agg (acnR a).toArray] w fun e w'=>e=.returned (.bool ((a.entries.l.length:Int)==0))∧Ext w w':=by
 go_enter func158,ntmps158;go_wp2;go_ret;refine⟨ret_b ?_,ex⟩
 first|rfl|simp|grind
theorem zCR (a:Acn)(w:World):Calls prog 160 #[.agg (acnR a).toArray] w fun e w'=>e=.returned (.bool ((a.params.l.length:Int)==0))∧Ext w w':=by
 go_enter func160,ntmps160;go_wp2;go_ret;refine⟨ret_b ?_,ex⟩
 first|rfl|simp|grind
theorem zAV (a:Acn)(w:World):Calls prog 162 #[.agg (acnR a).toArray] w fun e w'=>e=.returned (.bool ((a.chans.l.length:Int)==0))∧Ext w w':=by
 go_enter func162,ntmps162;go_wp2;go_ret;refine⟨ret_b ?_,ex⟩
 first|rfl|simp|grind
theorem zrK (a:Acn)(w:World):Calls prog 148 #[.agg (acnR a).toArray] w fun e w'=>e=.returned (.int .i64 (inE a.target 1 1048576))∧Ext w w':=by go_enter func148,ntmps148;go_wp2_with (go_at_call 113;refine(zmN _ _ _ _).mono ?_;rintro e w' ⟨rfl,rfl⟩);go_ret;exact⟨rfl,ex⟩
theorem zrL (a:Acn)(w:World)(h:a.cue.size≤maxLen):Calls prog 150 #[.agg (acnR a).toArray] w fun e w'=>e=.returned (.int .i64 (numE a.cue))∧Ext w w':=by go_enter func150,ntmps150;go_wp2_with (go_at_call 151;refine zzg (zpN a.cue _ h) fun y=>?_);go_ret;exact⟨rfl,ex⟩
theorem zrM (a:Acn)(w:World):Calls prog 155 #[.agg (acnR a).toArray] w fun e w'=>e=.returned (.int .i64 (inE a.time 0 10000000))∧Ext w w':=by go_enter func155,ntmps155;go_wp2_with (go_at_call 113;refine(zmN _ _ _ _).mono ?_;rintro e w' ⟨rfl,rfl⟩);go_ret;exact⟨rfl,ex⟩

theorem Sl.front {w:World}{A:Option Addr}{size:Nat}{rows:List (List Value)}(h:Sl w A size rows)(k:Nat):Sl w A size (rows.take k):=
 ⟨fun i row hr=>by
  rw[List.getElem?_take] at hr;split at hr
  ·exact h.at_ i row hr
  ·cases hr⟩
theorem zjg (A:Option Addr)(c:Nat)(l:List Int)(k:Nat)(v:Int)(w:World)(hs:Sl w A 1 (l.map intR))(hk:k≤l.length)(hl:l.length≤maxLen):
  Calls prog 199 #[.slice A k c,v] w fun e w'=>e=.returned (.bool (decide (v∈l.take k)))∧w=w':=by
 have h:=zaD A c (l.take k) v w (by rw[List.map_take];exact hs.front k) (by rw[List.length_take];omega);rwa [List.length_take,Nat.min_eq_left hk] at h
theorem zpi (l:List Int)(k:Nat)(c:Int)(h:l[k]?=some c):zg5 (l.take k) (l.drop k)=if inE c 1 999≠0 then 2 else if c∈l.take k then 7 else zg5 (l.take (k+1)) (l.drop (k+1)):=by obtain⟨h1,h2⟩:=List.getElem?_eq_some_iff.1 h;rw[List.drop_eq_getElem_cons h1,h2,zg5,List.take_succ_eq_append_getElem h1,h2]
theorem zhV (n a b:Int):inE n a b=0∨inE n a b=2:=by unfold inE;split<;>simp

theorem zCK (a:Acn)(w:World)(ha:AcnAt w a):Calls prog 161 #[.agg (acnR a).toArray] w fun e w'=>e=.returned (.int .i64 (zb3 a.chans.l))∧Ext w w':=by
 have hs:=ha.chans.sl;have hl:=ha.chans.len;have hle:=ha.chans.le;have HL:=zh hl;unfold maxLen at hl;clear ha;obtain⟨x0,x1,x2,x3,x4,x5,x6,x7,⟨l,A,cap⟩,x9⟩:=a;simp only[] at hs hl hle HL ⊢
 have hb2:(l.length:Int)≤(cap:Int):=by omega
 by_cases h0:l.length=0
 ·have hz:((l.length:Int)==0)=true:=by simp[h0]
  have HV:=zh (show zb3 l=12 by unfold zb3;rw[if_pos h0]);clear h0 hs;go_enter func161,ntmps161;go_wp2;go_ret;exact⟨ret_i HV.out.symm,ex⟩
 ·have hz:((l.length:Int)==0)=false:=by simp;intro h;exact h0 (by simp[h])
  by_cases h1:256<l.length
  ·have HV:=zh (show zb3 l=5 by unfold zb3;rw[if_neg h0,if_pos h1]);clear h0 hs;go_enter func161,ntmps161;go_wp2;go_ret;exact⟨ret_i HV.out.symm,ex⟩
  ·have HM:=zh (show zb3 l=zg5 [] l by unfold zb3;rw[if_neg h0,if_neg h1]);obtain⟨b,o,rfl,-⟩:=hs.row1 (i:=0) (by rw[List.getElem?_map,List.getElem?_eq_getElem om];rfl);clear h0;go_enter func161,ntmps161;go_wp2;go_loopw [19] (fun i wr=> ∃k:Nat,k≤l.length∧i=.int .i64 k∧Ext (w.alloc (.cells (acnR ⟨x0,x1,x2,x3,x4,x5,x6,x7,⟨l,some ⟨b,o,none⟩,cap⟩,x9⟩).toArray 99)) wr∧Hid (zb3 l=zg5 (l.take k) (l.drop k))) (fun i _=>l.length - (intOf i).toNat)
   case atStart => exact ⟨0,by omega,rfl,ex,by simpa using HM⟩
   case round =>
    obtain⟨k,hk,rfl,hx,HE⟩:=hrel;obtain⟨y,rfl⟩:=hx.get;clear hx HM;by_cases hlt:k<l.length
    ·obtain⟨m,hm⟩:∃m,l[k]?=some m:=⟨_,List.getElem?_eq_getElem hlt⟩
     obtain⟨b',o',hA,hc0⟩:=hs.row1 (i:=k) (by rw[List.getElem?_map,hm];rfl);injection hA with hA;injection hA with e1 e2;subst e1 e2;have HS:=zh (HE.out.trans (zpi l k m hm));have HSl:=zh hs;have hb0:(0:Int)≤(k:Int):=by omega
     have hb1:(k:Int)<(l.length:Int):=by omega
     have hb3:(k:Int)≤(cap:Int):=by omega
     clear HE hm hs;rcases zhV m 1 999 with hi|hi
     ·have hz1:(inE m 1 999 !=0)=false:=by simpa using hi
      have HI:=zh hi;clear hi;by_cases hc:m∈l.take k
      ·have HC:=zh (decide_eq_true hc);have HV:=zh (show zb3 l=7 by rw[HS.out,if_neg (by simpa using HI.out),if_pos hc]);clear hc;go_wp2_with (first|(go_at_call 113;refine(zmN _ _ _ _).mono ?_;rintro e w' ⟨rfl,rfl⟩)|(go_at_call 199;refine(zjg _ cap l k m _ (HSl.out.mono ex) hk HL.out).mono ?_;rintro e w' ⟨rfl,rfl⟩;rw[HC.out]));go_ret;exact⟨ret_i HV.out.symm,ex⟩
      ·have HC:=zh (decide_eq_false hc);have HV:=zh (show zb3 l=zg5 (l.take (k+1)) (l.drop (k+1)) by rw[HS.out,if_neg (by simpa using HI.out),if_neg hc]);clear hc;go_wp2_with (first|(go_at_call 113;refine(zmN _ _ _ _).mono ?_;rintro e w' ⟨rfl,rfl⟩)|(go_at_call 199;refine(zjg _ cap l k m _ (HSl.out.mono ex) hk HL.out).mono ?_;rintro e w' ⟨rfl,rfl⟩;rw[HC.out]));go_light;exact⟨⟨k+1,by omega,by go_num,ex,HV⟩,by simp[intOf];omega⟩
     ·have hz1:(inE m 1 999 !=0)=true:=by rw[hi];rfl
      have HV:=zh (show inE m 1 999=zb3 l by rw[HS.out,if_pos (by rw[hi];decide),hi]);clear hi;go_wp2_with (go_at_call 113;refine(zmN _ _ _ _).mono ?_;rintro e w' ⟨rfl,rfl⟩);go_ret;exact⟨ret_i HV.out,ex⟩
    ·have HS:=zh (show zb3 l=0 by rw[HE.out,List.drop_eq_nil_of_le om];rfl);go_wp2;go_ret;exact⟨ret_i HS.out.symm,ex⟩

theorem zyC (p:Param):zak p=0∨zak p=2:=by unfold zak;split<;>simp
theorem zpc (a:Acn)(w:World)(ha:AcnAt w a):Calls prog 159 #[.agg (acnR a).toArray] w fun e w'=>e=.returned (.int .i64 (parsE a.params.l))∧Ext w w':=by
 have hs:=ha.params.sl;have hl:=ha.params.len;unfold maxLen at hl;clear ha;obtain⟨x0,x1,x2,x3,x4,x5,x6,⟨l,A,cap⟩,x8,x9⟩:=a;simp only[] at hs hl ⊢
 by_cases h1:4096<l.length
 ·have HV:=zh (show parsE l=5 by unfold parsE;rw[if_pos h1]);clear hs;go_enter func159,ntmps159;go_wp2;go_ret;exact⟨ret_i HV.out.symm,ex⟩
 ·have HM:=zh (show parsE l=scan parE none l by unfold parsE;rw[if_neg h1]);by_cases h0:l.length=0
  ·have HS:=zh (show parsE l=0 by rw[HM.out,List.length_eq_zero_iff.1 h0];rfl);have hz:l=[]:=List.length_eq_zero_iff.1 h0;subst hz;clear hs h0;go_enter func159,ntmps159;go_wp2;refine wp_loop_rounds 1 ?_;rw[rounds_succ];go_wp2;go_ret;exact⟨ret_i HS.out.symm,ex⟩
  obtain⟨b,o,rfl,-⟩:=hs.row2 (i:=0) (by rw[List.getElem?_map,List.getElem?_eq_getElem om];rfl);clear h0;go_enter func159,ntmps159;go_wp2;go_loopw [12] (fun i wr=> ∃k:Nat,k≤l.length∧i=.int .i64 k∧Ext (w.alloc (.cells (acnR ⟨x0,x1,x2,x3,x4,x5,x6,⟨l,some ⟨b,o,none⟩,cap⟩,x8,x9⟩).toArray 99)) wr∧Hid (parsE l=scan parE (prv l k) (l.drop k))) (fun i _=>l.length - (intOf i).toNat)
  case atStart => exact ⟨0,by omega,rfl,ex,HM⟩
  case round =>
   obtain⟨k,hk,rfl,hx,HE⟩:=hrel;obtain⟨y,rfl⟩:=hx.get;clear hx HM;by_cases hlt:k<l.length
   ·obtain⟨m,hm⟩:∃m,l[k]?=some m:=⟨_,List.getElem?_eq_getElem hlt⟩
    obtain⟨b',o',hA,hc0,hc1⟩:=hs.row2 (i:=k) (by rw[List.getElem?_map,hm];rfl);injection hA with hA;injection hA with e1 e2;subst e1 e2;have HS:=zh (HE.out.trans (zcu parE l k m hm));have hb0:(0:Int)≤(k:Int):=by omega
    have hb1:(k:Int)<(l.length:Int):=by omega
    clear HE;rcases zyC m with hp|hp
    ·obtain⟨g1,g2,g3,g4⟩:=zcB hp;have HP0:=zh hp;clear hp;by_cases hk0:0<k
     ·obtain⟨m',hm'⟩:∃m',l[k - 1]?=some m':=⟨_,List.getElem?_eq_getElem om⟩
      obtain⟨b',o',hA,hp0,hp1⟩:=hs.row2 (i:=k - 1) (by rw[List.getElem?_map,hm'];rfl);injection hA with hA;injection hA with e1 e2;subst e1 e2;have HP:=zh (show prv l k=some m' by unfold prv;rw[if_neg om,hm']);have HB:=zh (zy4 m' m);clear hm hm' hs;go_wp2;(refine zcL kr kr ?_;(repeat(go_big_quiet_step ((go_at_call 198;exact Calls.grows (zy2 m' m _)))));refine wqN fun y=>?_);go_wp2
      ·go_ret;go_light;refine⟨ret_i ?_,ex⟩;have hS:=HS.out;have hB:=HB.out;have h1:=HP0.out;rw[HP.out] at hS;grind [parE]
      ·go_light;have hS:=HS.out;have hB:=HB.out;have h1:=HP0.out;refine⟨⟨k+1,by omega,by go_num,ex,zh ?_⟩,by simp[intOf];omega⟩;rw[HP.out] at hS;grind [parE]
     ·have HP:Hid (prv l k=none):=zh (by unfold prv;rw[if_pos om]);obtain rfl:k=0:=by omega
      simp only[Nat.zero_mul,Nat.add_zero] at hc0 hc1;clear hm hs hk0;go_wp2;(refine zcL kr kr ?_;(repeat(go_big_quiet_step (fail)));refine wqN fun y=>?_);go_wp2;go_light;have hS:=HS.out;have h1:=HP0.out;refine⟨⟨1,by omega,by rfl,ex,zh ?_⟩,by simp[intOf];omega⟩;rw[HP.out] at hS;grind [parE]
    ·have HV:=zh (show parsE l=2 by
      rw[HS.out];have h2:parE (prv l k) m=2:=by unfold parE;rw[if_pos (by rw[hp];decide),hp]
      rw[h2,if_pos dk])
     have HP0:=zh hp;clear hp hm hs;go_wp2
     all_goals first
      |(go_ret;exact⟨ret_i HV.out.symm,ex⟩)
      |(exfalso;have h:=HP0.out;unfold zak at h;split at h<;>omega)
   ·have HS:=zh (HE.out.trans (zbX parE l k _ om));go_wp2;go_ret;exact⟨ret_i HS.out.symm,ex⟩
