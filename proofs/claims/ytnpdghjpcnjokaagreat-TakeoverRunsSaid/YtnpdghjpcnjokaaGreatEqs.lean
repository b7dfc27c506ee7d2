import Derived.Test.YtnpdghjpcnjokaaGreatGacn
import Derived.Test.YtnpdghjpcnjokaaGreatGsame
namespace Go.Proofs.YtnpdghjpcnjokaaGreat
set_option maxHeartbeats 800000
open Go.RowKit Tryz

theorem zog (m n:Param):eqP m.ch m.attr n.ch n.attr=decide (m=n):=rfl
@[go_sem high] theorem eqIn_prm0 (w : World) (a b a' b' : Int) : (Op.equalIn 10000 201 (.agg #[a,b]) (.agg #[a',b'])).run prog w = .ok (eqP a b a' b') w:=by
 have hS:prog.underlying 201 =some (.struct (prog.fieldsOf 201)):=by kernel_rfl
 have hp:prog.stoodInHeld 201 =false:=by kernel_rfl
 rw[show(10000:Nat)=9999+1 from rfl,run_equalIn_agg w 9999 201 _ _ hS hp];simp only[Program.fieldsOf,underlying201];go_simp;unfold eqP;simp only[Param.mk.injEq];by_cases h1:a=a'<;>by_cases h2:b=b'<;>simp[h1,h2]
def eqH (s t:Hue):Bool:=decide (s=t)
@[go_sem high] theorem eqIn_hue (w : World) (a b c a' b' c' : Int) : (Op.equalIn 10000 239 (.agg #[a,b,c]) (.agg #[a',b',c'])).run prog w = .ok (eqH ⟨⟨a,b⟩,c⟩ ⟨⟨a',b'⟩,c'⟩) w:=by
 have hS:prog.underlying 239 =some (.struct (prog.fieldsOf 239)):=by kernel_rfl
 have hp:prog.stoodInHeld 239 =false:=by kernel_rfl
 rw[show(10000:Nat)=9999+1 from rfl,run_equalIn_agg w 9999 239 _ _ hS hp];simp only[Program.fieldsOf,underlying239];go_simp;unfold eqH;simp only[Hue.mk.injEq,Param.mk.injEq];by_cases h0:a=a'
 ·by_cases h1:b=b'
  ·by_cases h2:c=c'<;>simp[h0,h1,h2]
  ·simp[h0,h1]
 ·simp[h0]
@[go_sem] theorem guard_hue (w : World) (op : BinOp) (x y : Operand) (xs ys : Array Value) : (eqGuard op 239 x y (.agg xs) (.agg ys)).run prog w = .ok () w:=run_eqGuard_agg w op _ x y xs ys kr
def eqG (s t:Gain):Bool:=decide (s=t)
@[go_sem high] theorem eqIn_gain (w : World) (a b c a' b' c' : Int) : (Op.equalIn 10000 242 (.agg #[a,b,c]) (.agg #[a',b',c'])).run prog w = .ok (eqG ⟨⟨a,b⟩,c⟩ ⟨⟨a',b'⟩,c'⟩) w:=by
 have hS:prog.underlying 242 =some (.struct (prog.fieldsOf 242)):=by kernel_rfl
 have hp:prog.stoodInHeld 242 =false:=by kernel_rfl
 have e1:=fun w=>ztf w a b a' b';rw[show(10000:Nat)=9999+1 from rfl,run_equalIn_agg w 9999 242 _ _ hS hp];simp only[Program.fieldsOf,underlying242];go_simp;unfold eqG;simp only[Gain.mk.injEq,Param.mk.injEq];by_cases h0:a=a'
 ·by_cases h1:b=b'
  ·by_cases h2:c=c'<;>simp[h0,h1,h2]
  ·simp[h0,h1]
 ·simp[h0]
@[go_sem] theorem guard_gain (w : World) (op : BinOp) (x y : Operand) (xs ys : Array Value) : (eqGuard op 242 x y (.agg xs) (.agg ys)).run prog w = .ok () w:=run_eqGuard_agg w op _ x y xs ys kr
def eqO (s t:Pt):Bool:=decide (s=t)
@[go_sem high] theorem eqIn_pt (w : World) (a b a' b' : Int) : (Op.equalIn 10000 245 (.agg #[a,b]) (.agg #[a',b'])).run prog w = .ok (eqO ⟨a,b⟩ ⟨a',b'⟩) w:=by
 have hS:prog.underlying 245 =some (.struct (prog.fieldsOf 245)):=by kernel_rfl
 have hp:prog.stoodInHeld 245 =false:=by kernel_rfl
 rw[show(10000:Nat)=9999+1 from rfl,run_equalIn_agg w 9999 245 _ _ hS hp];simp only[Program.fieldsOf,underlying245];go_simp;unfold eqO;simp only[Pt.mk.injEq];by_cases h0:a=a'
 ·by_cases h1:b=b'<;>simp[h0,h1]
 ·simp[h0]
@[go_sem] theorem guard_pt (w : World) (op : BinOp) (x y : Operand) (xs ys : Array Value) : (eqGuard op 245 x y (.agg xs) (.agg ys)).run prog w = .ok () w:=run_eqGuard_agg w op _ x y xs ys kr
theorem zte (m n:Hue):eqH ⟨⟨m.p.ch,m.p.attr⟩,m.lev⟩ ⟨⟨n.p.ch,n.p.attr⟩,n.lev⟩=decide (m=n):=rfl
theorem ztd (m n:Gain):eqG ⟨⟨m.p.ch,m.p.attr⟩,m.lev⟩ ⟨⟨n.p.ch,n.p.attr⟩,n.lev⟩=decide (m=n):=rfl
theorem zth (m n:Pt):eqO ⟨m.x,m.y⟩ ⟨n.x,n.y⟩=decide (m=n):=rfl
theorem Equal_E (A:Option Addr)(c:Nat)(l:List Entry)(B:Option Addr)(d:Nat)(l':List Entry)(w:World)(hs:Sl w A 4 (l.map en))(hl:l.length≤maxLen)(hs':Sl w B 4 (l'.map en))(hl':l'.length≤maxLen):
  Calls prog 115 #[.slice A l.length c,.slice B l'.length d] w fun e w'=>e=.returned (.bool (decide (l=l')))∧Ext w w':=by
 unfold maxLen at hl hl';by_cases hn:l.length=l'.length
 ·have hb:((l.length:Int) !=(l'.length:Int))=false:=by simp[hn]
  have HN:=zh hn;have hle:l.length≤l'.length:=by omega
  clear hn;go_enter func115,ntmps115;go_wp2;go_loopw [13] (fun i wr=> ∃k:Nat,k≤l.length∧i=.int .i64 k∧Ext w wr∧Hid (l.take k=l'.take k)) (fun i _=>l.length - (intOf i).toNat)
  case atStart => exact ⟨0,by omega,rfl,Ext.refl _,zh (by simp)⟩
  case round =>
   obtain⟨k,hk,rfl,hx,HE⟩:=hrel;obtain⟨y,rfl⟩:=hx.get;clear hx;by_cases hlt:k<l.length
   ·obtain⟨m,hm⟩:∃m,l[k]?=some m:=⟨_,List.getElem?_eq_getElem hlt⟩
    obtain⟨m',hm'⟩:∃m',l'[k]?=some m':=⟨_,List.getElem?_eq_getElem om⟩
    have HM:=zh hm;have HM':=zh hm';obtain⟨b,o,rfl,hc0,hc1,hc2,hc3⟩:=hs.row4 (i:=k) (by rw[List.getElem?_map,hm];rfl);obtain⟨b',o',rfl,hd0,hd1,hd2,hd3⟩:=hs'.row4 (i:=k) (by rw[List.getElem?_map,hm'];rfl);have hb0:(0:Int)≤(k:Int):=by omega
    have hb1:(k:Int)<(l.length:Int):=by omega
    have hb2:(k:Int)<(l'.length:Int):=by omega
    clear hm hm' hs hs';go_wp2;(refine zcL kr kr ?_;(repeat(go_big_quiet_step (fail)));refine wqN fun y=>?_);by_cases he:m=m'
    ·have hz:eqE ⟨⟨m.p.ch,m.p.attr⟩,⟨m.v.pal,m.v.lev⟩⟩ ⟨⟨m'.p.ch,m'.p.attr⟩,⟨m'.v.pal,m'.v.lev⟩⟩=true:=by rw[ztc];simpa using he
     rw[hz];have HK:=zh (zbK HM.out HM'.out he HE.out);clear he;go_wp2;go_light;exact⟨⟨k+1,by omega,by go_num,ex,HK⟩,by simp[intOf];omega⟩
    ·have hz:eqE ⟨⟨m.p.ch,m.p.attr⟩,⟨m.v.pal,m.v.lev⟩⟩ ⟨⟨m'.p.ch,m'.p.attr⟩,⟨m'.v.pal,m'.v.lev⟩⟩=false:=by rw[ztc];simpa using he
     rw[hz];have HK:=zh (zcq HM.out HM'.out he);clear he;go_wp2;go_ret;rw[decide_eq_false HK.out];exact⟨rfl,ex⟩
   ·have HK:Hid (l=l'):=zh (by have:=HE.out;rwa [List.take_of_length_le om,List.take_of_length_le (by have:=HN.out;omega)] at this)
    go_wp2;go_ret;rw[decide_eq_true HK.out];exact⟨rfl,ex⟩
 ·have hb:((l.length:Int) !=(l'.length:Int))=true:=by simp;omega
  have HN:Hid (l≠l'):=zh fun e=>hn (by rw[e]);clear hn;go_enter func115,ntmps115;go_wp2;go_ret;rw[decide_eq_false HN.out];exact⟨rfl,ex⟩
theorem Equal_P (A:Option Addr)(c:Nat)(l:List Param)(B:Option Addr)(d:Nat)(l':List Param)(w:World)(hs:Sl w A 2 (l.map prm))(hl:l.length≤maxLen)(hs':Sl w B 2 (l'.map prm))(hl':l'.length≤maxLen):
  Calls prog 116 #[.slice A l.length c,.slice B l'.length d] w fun e w'=>e=.returned (.bool (decide (l=l')))∧Ext w w':=by
 unfold maxLen at hl hl';by_cases hn:l.length=l'.length
 ·have hb:((l.length:Int) !=(l'.length:Int))=false:=by simp[hn]
  have HN:=zh hn;have hle:l.length≤l'.length:=by omega
  clear hn;go_enter func116,ntmps116;go_wp2;go_loopw [13] (fun i wr=> ∃k:Nat,k≤l.length∧i=.int .i64 k∧Ext w wr∧Hid (l.take k=l'.take k)) (fun i _=>l.length - (intOf i).toNat)
  case atStart => exact ⟨0,by omega,rfl,Ext.refl _,zh (by simp)⟩
  case round =>
   obtain⟨k,hk,rfl,hx,HE⟩:=hrel;obtain⟨y,rfl⟩:=hx.get;clear hx;by_cases hlt:k<l.length
   ·obtain⟨m,hm⟩:∃m,l[k]?=some m:=⟨_,List.getElem?_eq_getElem hlt⟩
    obtain⟨m',hm'⟩:∃m',l'[k]?=some m':=⟨_,List.getElem?_eq_getElem om⟩
    have HM:=zh hm;have HM':=zh hm';obtain⟨b,o,rfl,hc0,hc1⟩:=hs.row2 (i:=k) (by rw[List.getElem?_map,hm];rfl);obtain⟨b',o',rfl,hd0,hd1⟩:=hs'.row2 (i:=k) (by rw[List.getElem?_map,hm'];rfl);have hb0:(0:Int)≤(k:Int):=by omega
    have hb1:(k:Int)<(l.length:Int):=by omega
    have hb2:(k:Int)<(l'.length:Int):=by omega
    clear hm hm' hs hs';go_wp2;(refine zcL kr kr ?_;(repeat(go_big_quiet_step (fail)));refine wqN fun y=>?_);by_cases he:m=m'
    ·have hz:eqP m.ch m.attr m'.ch m'.attr=true:=by rw[zog];simpa using he
     rw[hz];have HK:=zh (zbK HM.out HM'.out he HE.out);clear he;go_wp2;go_light;exact⟨⟨k+1,by omega,by go_num,ex,HK⟩,by simp[intOf];omega⟩
    ·have hz:eqP m.ch m.attr m'.ch m'.attr=false:=by rw[zog];simpa using he
     rw[hz];have HK:=zh (zcq HM.out HM'.out he);clear he;go_wp2;go_ret;rw[decide_eq_false HK.out];exact⟨rfl,ex⟩
   ·have HK:Hid (l=l'):=zh (by have:=HE.out;rwa [List.take_of_length_le om,List.take_of_length_le (by have:=HN.out;omega)] at this)
    go_wp2;go_ret;rw[decide_eq_true HK.out];exact⟨rfl,ex⟩
 ·have hb:((l.length:Int) !=(l'.length:Int))=true:=by simp;omega
  have HN:Hid (l≠l'):=zh fun e=>hn (by rw[e]);clear hn;go_enter func116,ntmps116;go_wp2;go_ret;rw[decide_eq_false HN.out];exact⟨rfl,ex⟩
theorem zsN (A:Option Addr)(c:Nat)(l:List Int)(B:Option Addr)(d:Nat)(l':List Int)(w:World)(hs:Sl w A 1 (l.map intR))(hl:l.length≤maxLen)(hs':Sl w B 1 (l'.map intR))(hl':l'.length≤maxLen):
  Calls prog 26 #[.slice A l.length c,.slice B l'.length d] w fun e w'=>e=.returned (.bool (decide (l=l')))∧Ext w w':=by
 unfold maxLen at hl hl';by_cases hn:l.length=l'.length
 ·have hb:((l.length:Int) !=(l'.length:Int))=false:=by simp[hn]
  have HN:=zh hn;have hle:l.length≤l'.length:=by omega
  clear hn;go_enter func26,ntmps26;go_wp2;go_loopw [13] (fun i wr=> ∃k:Nat,k≤l.length∧i=.int .i64 k∧Ext w wr∧Hid (l.take k=l'.take k)) (fun i _=>l.length - (intOf i).toNat)
  case atStart => exact ⟨0,by omega,rfl,Ext.refl _,zh (by simp)⟩
  case round =>
   obtain⟨k,hk,rfl,hx,HE⟩:=hrel;obtain⟨y,rfl⟩:=hx.get;clear hx;by_cases hlt:k<l.length
   ·obtain⟨m,hm⟩:∃m,l[k]?=some m:=⟨_,List.getElem?_eq_getElem hlt⟩
    obtain⟨m',hm'⟩:∃m',l'[k]?=some m':=⟨_,List.getElem?_eq_getElem om⟩
    have HM:=zh hm;have HM':=zh hm';obtain⟨b,o,rfl,hc0⟩:=hs.row1 (i:=k) (by rw[List.getElem?_map,hm];rfl);obtain⟨b',o',rfl,hd0⟩:=hs'.row1 (i:=k) (by rw[List.getElem?_map,hm'];rfl);have hb0:(0:Int)≤(k:Int):=by omega
    have hb1:(k:Int)<(l.length:Int):=by omega
    have hb2:(k:Int)<(l'.length:Int):=by omega
    clear hm hm' hs hs';by_cases he:m=m'
    ·have hz:(m==m')=true:=by simpa using he
     have hz':(m !=m')=false:=by simpa using he
     have HK:=zh (zbK HM.out HM'.out he HE.out);clear he;go_wp2
     try(refine zcL kr kr ?_;(repeat(go_big_quiet_step (fail)));refine wqN fun y=>?_)
     try go_wp2
     go_light;exact⟨⟨k+1,by omega,by go_num,ex,HK⟩,by simp[intOf];omega⟩
    ·have hz:(m==m')=false:=by simpa using he
     have hz':(m !=m')=true:=by simpa using he
     have HK:=zh (zcq HM.out HM'.out he);clear he;go_wp2
     try(refine zcL kr kr ?_;(repeat(go_big_quiet_step (fail)));refine wqN fun y=>?_)
     try go_wp2
     go_ret;rw[decide_eq_false HK.out];exact⟨rfl,ex⟩
   ·have HK:Hid (l=l'):=zh (by have:=HE.out;rwa [List.take_of_length_le om,List.take_of_length_le (by have:=HN.out;omega)] at this)
    go_wp2;go_ret;rw[decide_eq_true HK.out];exact⟨rfl,ex⟩
 ·have hb:((l.length:Int) !=(l'.length:Int))=true:=by simp;omega
  have HN:Hid (l≠l'):=zh fun e=>hn (by rw[e]);clear hn;go_enter func26,ntmps26;go_wp2;go_ret;rw[decide_eq_false HN.out];exact⟨rfl,ex⟩
theorem Equal_H (A:Option Addr)(c:Nat)(l:List Hue)(B:Option Addr)(d:Nat)(l':List Hue)(w:World)(hs:Sl w A 3 (l.map hueR))(hl:l.length≤maxLen)(hs':Sl w B 3 (l'.map hueR))(hl':l'.length≤maxLen):
  Calls prog 167 #[.slice A l.length c,.slice B l'.length d] w fun e w'=>e=.returned (.bool (decide (l=l')))∧Ext w w':=by
 unfold maxLen at hl hl';by_cases hn:l.length=l'.length
 ·have hb:((l.length:Int) !=(l'.length:Int))=false:=by simp[hn]
  have HN:=zh hn;have hle:l.length≤l'.length:=by omega
  clear hn;go_enter func167,ntmps167;go_wp2;go_loopw [13] (fun i wr=> ∃k:Nat,k≤l.length∧i=.int .i64 k∧Ext w wr∧Hid (l.take k=l'.take k)) (fun i _=>l.length - (intOf i).toNat)
  case atStart => exact ⟨0,by omega,rfl,Ext.refl _,zh (by simp)⟩
  case round =>
   obtain⟨k,hk,rfl,hx,HE⟩:=hrel;obtain⟨y,rfl⟩:=hx.get;clear hx;by_cases hlt:k<l.length
   ·obtain⟨m,hm⟩:∃m,l[k]?=some m:=⟨_,List.getElem?_eq_getElem hlt⟩
    obtain⟨m',hm'⟩:∃m',l'[k]?=some m':=⟨_,List.getElem?_eq_getElem om⟩
    have HM:=zh hm;have HM':=zh hm';obtain⟨b,o,rfl,hc0,hc1,hc2⟩:=hs.row3 (i:=k) (by rw[List.getElem?_map,hm];rfl);obtain⟨b',o',rfl,hd0,hd1,hd2⟩:=hs'.row3 (i:=k) (by rw[List.getElem?_map,hm'];rfl);have hb0:(0:Int)≤(k:Int):=by omega
    have hb1:(k:Int)<(l.length:Int):=by omega
    have hb2:(k:Int)<(l'.length:Int):=by omega
    clear hm hm' hs hs';go_wp2;(refine zcL kr kr ?_;(repeat(go_big_quiet_step (fail)));refine wqN fun y=>?_);by_cases he:m=m'
    ·have hz:eqH ⟨⟨m.p.ch,m.p.attr⟩,m.lev⟩ ⟨⟨m'.p.ch,m'.p.attr⟩,m'.lev⟩=true:=by rw[zte];simpa using he
     rw[hz];have HK:=zh (zbK HM.out HM'.out he HE.out);clear he;go_wp2;go_light;exact⟨⟨k+1,by omega,by go_num,ex,HK⟩,by simp[intOf];omega⟩
    ·have hz:eqH ⟨⟨m.p.ch,m.p.attr⟩,m.lev⟩ ⟨⟨m'.p.ch,m'.p.attr⟩,m'.lev⟩=false:=by rw[zte];simpa using he
     rw[hz];have HK:=zh (zcq HM.out HM'.out he);clear he;go_wp2;go_ret;rw[decide_eq_false HK.out];exact⟨rfl,ex⟩
   ·have HK:Hid (l=l'):=zh (by have:=HE.out;rwa [List.take_of_length_le om,List.take_of_length_le (by have:=HN.out;omega)] at this)
    go_wp2;go_ret;rw[decide_eq_true HK.out];exact⟨rfl,ex⟩
 ·have hb:((l.length:Int) !=(l'.length:Int))=true:=by simp;omega
  have HN:Hid (l≠l'):=zh fun e=>hn (by rw[e]);clear hn;go_enter func167,ntmps167;go_wp2;go_ret;rw[decide_eq_false HN.out];exact⟨rfl,ex⟩
theorem Equal_G (A:Option Addr)(c:Nat)(l:List Gain)(B:Option Addr)(d:Nat)(l':List Gain)(w:World)(hs:Sl w A 3 (l.map gainR))(hl:l.length≤maxLen)(hs':Sl w B 3 (l'.map gainR))(hl':l'.length≤maxLen):
  Calls prog 168 #[.slice A l.length c,.slice B l'.length d] w fun e w'=>e=.returned (.bool (decide (l=l')))∧Ext w w':=by
 unfold maxLen at hl hl';by_cases hn:l.length=l'.length
 ·have hb:((l.length:Int) !=(l'.length:Int))=false:=by simp[hn]
  have HN:=zh hn;have hle:l.length≤l'.length:=by omega
  clear hn;go_enter func168,ntmps168;go_wp2;go_loopw [13] (fun i wr=> ∃k:Nat,k≤l.length∧i=.int .i64 k∧Ext w wr∧Hid (l.take k=l'.take k)) (fun i _=>l.length - (intOf i).toNat)
  case atStart => exact ⟨0,by omega,rfl,Ext.refl _,zh (by simp)⟩
  case round =>
   obtain⟨k,hk,rfl,hx,HE⟩:=hrel;obtain⟨y,rfl⟩:=hx.get;clear hx;by_cases hlt:k<l.length
   ·obtain⟨m,hm⟩:∃m,l[k]?=some m:=⟨_,List.getElem?_eq_getElem hlt⟩
    obtain⟨m',hm'⟩:∃m',l'[k]?=some m':=⟨_,List.getElem?_eq_getElem om⟩
    have HM:=zh hm;have HM':=zh hm';obtain⟨b,o,rfl,hc0,hc1,hc2⟩:=hs.row3 (i:=k) (by rw[List.getElem?_map,hm];rfl);obtain⟨b',o',rfl,hd0,hd1,hd2⟩:=hs'.row3 (i:=k) (by rw[List.getElem?_map,hm'];rfl);have hb0:(0:Int)≤(k:Int):=by omega
    have hb1:(k:Int)<(l.length:Int):=by omega
    have hb2:(k:Int)<(l'.length:Int):=by omega
    clear hm hm' hs hs';go_wp2;(refine zcL kr kr ?_;(repeat(go_big_quiet_step (fail)));refine wqN fun y=>?_);by_cases he:m=m'
    ·have hz:eqG ⟨⟨m.p.ch,m.p.attr⟩,m.lev⟩ ⟨⟨m'.p.ch,m'.p.attr⟩,m'.lev⟩=true:=by rw[ztd];simpa using he
     rw[hz];have HK:=zh (zbK HM.out HM'.out he HE.out);clear he;go_wp2;go_light;exact⟨⟨k+1,by omega,by go_num,ex,HK⟩,by simp[intOf];omega⟩
    ·have hz:eqG ⟨⟨m.p.ch,m.p.attr⟩,m.lev⟩ ⟨⟨m'.p.ch,m'.p.attr⟩,m'.lev⟩=false:=by rw[ztd];simpa using he
     rw[hz];have HK:=zh (zcq HM.out HM'.out he);clear he;go_wp2;go_ret;rw[decide_eq_false HK.out];exact⟨rfl,ex⟩
   ·have HK:Hid (l=l'):=zh (by have:=HE.out;rwa [List.take_of_length_le om,List.take_of_length_le (by have:=HN.out;omega)] at this)
    go_wp2;go_ret;rw[decide_eq_true HK.out];exact⟨rfl,ex⟩
 ·have hb:((l.length:Int) !=(l'.length:Int))=true:=by simp;omega
  have HN:Hid (l≠l'):=zh fun e=>hn (by rw[e]);clear hn;go_enter func168,ntmps168;go_wp2;go_ret;rw[decide_eq_false HN.out];exact⟨rfl,ex⟩
theorem Equal_O (A:Option Addr)(c:Nat)(l:List Pt)(B:Option Addr)(d:Nat)(l':List Pt)(w:World)(hs:Sl w A 2 (l.map ptR))(hl:l.length≤maxLen)(hs':Sl w B 2 (l'.map ptR))(hl':l'.length≤maxLen):
  Calls prog 169 #[.slice A l.length c,.slice B l'.length d] w fun e w'=>e=.returned (.bool (decide (l=l')))∧Ext w w':=by
 unfold maxLen at hl hl';by_cases hn:l.length=l'.length
 ·have hb:((l.length:Int) !=(l'.length:Int))=false:=by simp[hn]
  have HN:=zh hn;have hle:l.length≤l'.length:=by omega
  clear hn;go_enter func169,ntmps169;go_wp2;go_loopw [13] (fun i wr=> ∃k:Nat,k≤l.length∧i=.int .i64 k∧Ext w wr∧Hid (l.take k=l'.take k)) (fun i _=>l.length - (intOf i).toNat)
  case atStart => exact ⟨0,by omega,rfl,Ext.refl _,zh (by simp)⟩
  case round =>
   obtain⟨k,hk,rfl,hx,HE⟩:=hrel;obtain⟨y,rfl⟩:=hx.get;clear hx;by_cases hlt:k<l.length
   ·obtain⟨m,hm⟩:∃m,l[k]?=some m:=⟨_,List.getElem?_eq_getElem hlt⟩
    obtain⟨m',hm'⟩:∃m',l'[k]?=some m':=⟨_,List.getElem?_eq_getElem om⟩
    have HM:=zh hm;have HM':=zh hm';obtain⟨b,o,rfl,hc0,hc1⟩:=hs.row2 (i:=k) (by rw[List.getElem?_map,hm];rfl);obtain⟨b',o',rfl,hd0,hd1⟩:=hs'.row2 (i:=k) (by rw[List.getElem?_map,hm'];rfl);have hb0:(0:Int)≤(k:Int):=by omega
    have hb1:(k:Int)<(l.length:Int):=by omega
    have hb2:(k:Int)<(l'.length:Int):=by omega
    clear hm hm' hs hs';go_wp2;(refine zcL kr kr ?_;(repeat(go_big_quiet_step (fail)));refine wqN fun y=>?_);by_cases he:m=m'
    ·have hz:eqO ⟨m.x,m.y⟩ ⟨m'.x,m'.y⟩=true:=by rw[zth];simpa using he
     rw[hz];have HK:=zh (zbK HM.out HM'.out he HE.out);clear he;go_wp2;go_light;exact⟨⟨k+1,by omega,by go_num,ex,HK⟩,by simp[intOf];omega⟩
    ·have hz:eqO ⟨m.x,m.y⟩ ⟨m'.x,m'.y⟩=false:=by rw[zth];simpa using he
     rw[hz];have HK:=zh (zcq HM.out HM'.out he);clear he;go_wp2;go_ret;rw[decide_eq_false HK.out];exact⟨rfl,ex⟩
   ·have HK:Hid (l=l'):=zh (by have:=HE.out;rwa [List.take_of_length_le om,List.take_of_length_le (by have:=HN.out;omega)] at this)
    go_wp2;go_ret;rw[decide_eq_true HK.out];exact⟨rfl,ex⟩
 ·have hb:((l.length:Int) !=(l'.length:Int))=true:=by simp;omega
  have HN:Hid (l≠l'):=zh fun e=>hn (by rw[e]);clear hn;go_enter func169,ntmps169;go_wp2;go_ret;rw[decide_eq_false HN.out];exact⟨rfl,ex⟩
theorem zrv (A:Option Addr)(c:Nat)(l:List Param)(B:Option Addr)(d:Nat)(l':List Param)(w:World)(hs:Sl w A 2 (l.map prm))(hl:l.length≤maxLen)(hs':Sl w B 2 (l'.map prm))(hl':l'.length≤maxLen):
  Calls prog 122 #[.slice A l.length c,.slice B l'.length d] w fun e w'=>e=.returned (.bool (decide (l=l')))∧Ext w w':=by
 unfold maxLen at hl hl';by_cases hn:l.length=l'.length
 ·have hb:((l.length:Int) !=(l'.length:Int))=false:=by simp[hn]
  have HN:=zh hn;have hle:l.length≤l'.length:=by omega
  clear hn;go_enter func122,ntmps122;go_wp2;go_loopw [5] (fun i wr=> ∃k:Nat,k≤l.length∧i=.int .i64 k∧Ext w wr∧Hid (l.take k=l'.take k)) (fun i _=>l.length - (intOf i).toNat)
  case atStart => exact ⟨0,by omega,rfl,Ext.refl _,zh (by simp)⟩
  case round =>
   obtain⟨k,hk,rfl,hx,HE⟩:=hrel;obtain⟨y,rfl⟩:=hx.get;clear hx;by_cases hlt:k<l.length
   ·obtain⟨m,hm⟩:∃m,l[k]?=some m:=⟨_,List.getElem?_eq_getElem hlt⟩
    obtain⟨m',hm'⟩:∃m',l'[k]?=some m':=⟨_,List.getElem?_eq_getElem om⟩
    have HM:=zh hm;have HM':=zh hm';obtain⟨b,o,rfl,hc0,hc1⟩:=hs.row2 (i:=k) (by rw[List.getElem?_map,hm];rfl);obtain⟨b',o',rfl,hd0,hd1⟩:=hs'.row2 (i:=k) (by rw[List.getElem?_map,hm'];rfl);have hb0:(0:Int)≤(k:Int):=by omega
    have hb1:(k:Int)<(l.length:Int):=by omega
    have hb2:(k:Int)<(l'.length:Int):=by omega
    clear hm hm' hs hs';go_wp2;(refine zcL kr kr ?_;(repeat(go_big_quiet_step (fail)));refine wqN fun y=>?_);by_cases he:m=m'
    ·have hz:eqP m.ch m.attr m'.ch m'.attr=true:=by rw[zog];simpa using he
     rw[hz];have HK:=zh (zbK HM.out HM'.out he HE.out);clear he;go_wp2;go_light;exact⟨⟨k+1,by omega,by go_num,ex,HK⟩,by simp[intOf];omega⟩
    ·have hz:eqP m.ch m.attr m'.ch m'.attr=false:=by rw[zog];simpa using he
     rw[hz];have HK:=zh (zcq HM.out HM'.out he);clear he;go_wp2;go_ret;rw[decide_eq_false HK.out];exact⟨rfl,ex⟩
   ·have HK:Hid (l=l'):=zh (by have:=HE.out;rwa [List.take_of_length_le om,List.take_of_length_le (by have:=HN.out;omega)] at this)
    go_wp2;go_ret;rw[decide_eq_true HK.out];exact⟨rfl,ex⟩
 ·have hb:((l.length:Int) !=(l'.length:Int))=true:=by simp;omega
  have HN:Hid (l≠l'):=zh fun e=>hn (by rw[e]);clear hn;go_enter func122,ntmps122;go_wp2;go_ret;rw[decide_eq_false HN.out];exact⟨rfl,ex⟩
theorem zvV (A:Option Addr)(c:Nat)(l:List Int)(B:Option Addr)(d:Nat)(l':List Int)(w:World)(hs:Sl w A 1 (l.map intR))(hl:l.length≤maxLen)(hs':Sl w B 1 (l'.map intR))(hl':l'.length≤maxLen):
  Calls prog 123 #[.slice A l.length c,.slice B l'.length d] w fun e w'=>e=.returned (.bool (decide (l=l')))∧Ext w w':=by
 unfold maxLen at hl hl';by_cases hn:l.length=l'.length
 ·have hb:((l.length:Int) !=(l'.length:Int))=false:=by simp[hn]
  have HN:=zh hn;have hle:l.length≤l'.length:=by omega
  clear hn;go_enter func123,ntmps123;go_wp2;go_loopw [5] (fun i wr=> ∃k:Nat,k≤l.length∧i=.int .i64 k∧Ext w wr∧Hid (l.take k=l'.take k)) (fun i _=>l.length - (intOf i).toNat)
  case atStart => exact ⟨0,by omega,rfl,Ext.refl _,zh (by simp)⟩
  case round =>
   obtain⟨k,hk,rfl,hx,HE⟩:=hrel;obtain⟨y,rfl⟩:=hx.get;clear hx;by_cases hlt:k<l.length
   ·obtain⟨m,hm⟩:∃m,l[k]?=some m:=⟨_,List.getElem?_eq_getElem hlt⟩
    obtain⟨m',hm'⟩:∃m',l'[k]?=some m':=⟨_,List.getElem?_eq_getElem om⟩
    have HM:=zh hm;have HM':=zh hm';obtain⟨b,o,rfl,hc0⟩:=hs.row1 (i:=k) (by rw[List.getElem?_map,hm];rfl);obtain⟨b',o',rfl,hd0⟩:=hs'.row1 (i:=k) (by rw[List.getElem?_map,hm'];rfl);have hb0:(0:Int)≤(k:Int):=by omega
    have hb1:(k:Int)<(l.length:Int):=by omega
    have hb2:(k:Int)<(l'.length:Int):=by omega
    clear hm hm' hs hs';by_cases he:m=m'
    ·have hz:(m==m')=true:=by simpa using he
     have hz':(m !=m')=false:=by simpa using he
     have HK:=zh (zbK HM.out HM'.out he HE.out);clear he;go_wp2
     try(refine zcL kr kr ?_;(repeat(go_big_quiet_step (fail)));refine wqN fun y=>?_)
     try go_wp2
     go_light;exact⟨⟨k+1,by omega,by go_num,ex,HK⟩,by simp[intOf];omega⟩
    ·have hz:(m==m')=false:=by simpa using he
     have hz':(m !=m')=true:=by simpa using he
     have HK:=zh (zcq HM.out HM'.out he);clear he;go_wp2
     try(refine zcL kr kr ?_;(repeat(go_big_quiet_step (fail)));refine wqN fun y=>?_)
     try go_wp2
     go_ret;rw[decide_eq_false HK.out];exact⟨rfl,ex⟩
   ·have HK:Hid (l=l'):=zh (by have:=HE.out;rwa [List.take_of_length_le om,List.take_of_length_le (by have:=HN.out;omega)] at this)
    go_wp2;go_ret;rw[decide_eq_true HK.out];exact⟨rfl,ex⟩
 ·have hb:((l.length:Int) !=(l'.length:Int))=true:=by simp;omega
  have HN:Hid (l≠l'):=zh fun e=>hn (by rw[e]);clear hn;go_enter func123,ntmps123;go_wp2;go_ret;rw[decide_eq_false HN.out];exact⟨rfl,ex⟩
theorem zvU (A:Option Addr)(c:Nat)(l:List Int)(B:Option Addr)(d:Nat)(l':List Int)(w:World)(hs:Sl w A 1 (l.map intR))(hl:l.length≤maxLen)(hs':Sl w B 1 (l'.map intR))(hl':l'.length≤maxLen):
  Calls prog 211 #[.slice A l.length c,.slice B l'.length d] w fun e w'=>e=.returned (.bool (decide (l=l')))∧Ext w w':=by
 unfold maxLen at hl hl';by_cases hn:l.length=l'.length
 ·have hb:((l.length:Int) !=(l'.length:Int))=false:=by simp[hn]
  have HN:=zh hn;have hle:l.length≤l'.length:=by omega
  clear hn;go_enter func211,ntmps211;go_wp2;go_loopw [5] (fun i wr=> ∃k:Nat,k≤l.length∧i=.int .i64 k∧Ext w wr∧Hid (l.take k=l'.take k)) (fun i _=>l.length - (intOf i).toNat)
  case atStart => exact ⟨0,by omega,rfl,Ext.refl _,zh (by simp)⟩
  case round =>
   obtain⟨k,hk,rfl,hx,HE⟩:=hrel;obtain⟨y,rfl⟩:=hx.get;clear hx;by_cases hlt:k<l.length
   ·obtain⟨m,hm⟩:∃m,l[k]?=some m:=⟨_,List.getElem?_eq_getElem hlt⟩
    obtain⟨m',hm'⟩:∃m',l'[k]?=some m':=⟨_,List.getElem?_eq_getElem om⟩
    have HM:=zh hm;have HM':=zh hm';obtain⟨b,o,rfl,hc0⟩:=hs.row1 (i:=k) (by rw[List.getElem?_map,hm];rfl);obtain⟨b',o',rfl,hd0⟩:=hs'.row1 (i:=k) (by rw[List.getElem?_map,hm'];rfl);have hb0:(0:Int)≤(k:Int):=by omega
    have hb1:(k:Int)<(l.length:Int):=by omega
    have hb2:(k:Int)<(l'.length:Int):=by omega
    clear hm hm' hs hs';by_cases he:m=m'
    ·have hz:(m==m')=true:=by simpa using he
     have hz':(m !=m')=false:=by simpa using he
     have HK:=zh (zbK HM.out HM'.out he HE.out);clear he;go_wp2
     try(refine zcL kr kr ?_;(repeat(go_big_quiet_step (fail)));refine wqN fun y=>?_)
     try go_wp2
     go_light;exact⟨⟨k+1,by omega,by go_num,ex,HK⟩,by simp[intOf];omega⟩
    ·have hz:(m==m')=false:=by simpa using he
     have hz':(m !=m')=true:=by simpa using he
     have HK:=zh (zcq HM.out HM'.out he);clear he;go_wp2
     try(refine zcL kr kr ?_;(repeat(go_big_quiet_step (fail)));refine wqN fun y=>?_)
     try go_wp2
     go_ret;rw[decide_eq_false HK.out];exact⟨rfl,ex⟩
   ·have HK:Hid (l=l'):=zh (by have:=HE.out;rwa [List.take_of_length_le om,List.take_of_length_le (by have:=HN.out;omega)] at this)
    go_wp2;go_ret;rw[decide_eq_true HK.out];exact⟨rfl,ex⟩
 ·have hb:((l.length:Int) !=(l'.length:Int))=true:=by simp;omega
  have HN:Hid (l≠l'):=zh fun e=>hn (by rw[e]);clear hn;go_enter func211,ntmps211;go_wp2;go_ret;rw[decide_eq_false HN.out];exact⟨rfl,ex⟩
theorem r27_Same (A:Option Addr)(c:Nat)(l:List Pt)(B:Option Addr)(d:Nat)(l':List Pt)(w:World)(hs:Sl w A 2 (l.map ptR))(hl:l.length≤maxLen)(hs':Sl w B 2 (l'.map ptR))(hl':l'.length≤maxLen):
  Calls prog 212 #[.slice A l.length c,.slice B l'.length d] w fun e w'=>e=.returned (.bool (decide (l=l')))∧Ext w w':=by
 unfold maxLen at hl hl';by_cases hn:l.length=l'.length
 ·have hb:((l.length:Int) !=(l'.length:Int))=false:=by simp[hn]
  have HN:=zh hn;have hle:l.length≤l'.length:=by omega
  clear hn;go_enter func212,ntmps212;go_wp2;go_loopw [5] (fun i wr=> ∃k:Nat,k≤l.length∧i=.int .i64 k∧Ext w wr∧Hid (l.take k=l'.take k)) (fun i _=>l.length - (intOf i).toNat)
  case atStart => exact ⟨0,by omega,rfl,Ext.refl _,zh (by simp)⟩
  case round =>
   obtain⟨k,hk,rfl,hx,HE⟩:=hrel;obtain⟨y,rfl⟩:=hx.get;clear hx;by_cases hlt:k<l.length
   ·obtain⟨m,hm⟩:∃m,l[k]?=some m:=⟨_,List.getElem?_eq_getElem hlt⟩
    obtain⟨m',hm'⟩:∃m',l'[k]?=some m':=⟨_,List.getElem?_eq_getElem om⟩
    have HM:=zh hm;have HM':=zh hm';obtain⟨b,o,rfl,hc0,hc1⟩:=hs.row2 (i:=k) (by rw[List.getElem?_map,hm];rfl);obtain⟨b',o',rfl,hd0,hd1⟩:=hs'.row2 (i:=k) (by rw[List.getElem?_map,hm'];rfl);have hb0:(0:Int)≤(k:Int):=by omega
    have hb1:(k:Int)<(l.length:Int):=by omega
    have hb2:(k:Int)<(l'.length:Int):=by omega
    clear hm hm' hs hs';go_wp2;(refine zcL kr kr ?_;(repeat(go_big_quiet_step (fail)));refine wqN fun y=>?_);by_cases he:m=m'
    ·have hz:eqO ⟨m.x,m.y⟩ ⟨m'.x,m'.y⟩=true:=by rw[zth];simpa using he
     rw[hz];have HK:=zh (zbK HM.out HM'.out he HE.out);clear he;go_wp2;go_light;exact⟨⟨k+1,by omega,by go_num,ex,HK⟩,by simp[intOf];omega⟩
    ·have hz:eqO ⟨m.x,m.y⟩ ⟨m'.x,m'.y⟩=false:=by rw[zth];simpa using he
     rw[hz];have HK:=zh (zcq HM.out HM'.out he);clear he;go_wp2;go_ret;rw[decide_eq_false HK.out];exact⟨rfl,ex⟩
   ·have HK:Hid (l=l'):=zh (by have:=HE.out;rwa [List.take_of_length_le om,List.take_of_length_le (by have:=HN.out;omega)] at this)
    go_wp2;go_ret;rw[decide_eq_true HK.out];exact⟨rfl,ex⟩
 ·have hb:((l.length:Int) !=(l'.length:Int))=true:=by simp;omega
  have HN:Hid (l≠l'):=zh fun e=>hn (by rw[e]);clear hn;go_enter func212,ntmps212;go_wp2;go_ret;rw[decide_eq_false HN.out];exact⟨rfl,ex⟩
