import Derived.Test.YtnpdghjpcnjokaaGreatStr
import Derived.RangeFuncNested
import Derived.RangeFuncBound
import Derived.RangeFuncCalls
import Derived.RangeFuncLeaves
import Derived.Shelf.Abstract
import Derived.Shelf.RegionOpen
import Derived.OwnWalkIn
import Derived.TacticsInMore
import Derived.LoopNIn
import Derived.LoopIn
import Derived.Laws.EntriesVeiled
import Derived.Test.YtnpdghjpcnjokaaGreatGtail
set_option maxHeartbeats 400000
namespace Go.Proofs.YtnpdghjpcnjokaaGreat
open Go.RowKit Tryz

theorem zaX (p:Param)(w:World):Calls prog 205 #[.agg (prm p).toArray] w fun e w'=>e=.returned (.int .i64 (zak p))∧Ext w w':=by
 obtain⟨ch,at_⟩:=p;simp only[prm];go_enter func205,ntmps205;go_wp2
 all_goals go_ret
 all_goals refine⟨ret_i ?_,ex⟩
 all_goals (simp only[zak];split<;>omega)
theorem zfW (v:Val)(w:World):Calls prog 206 #[.agg (vl v).toArray] w fun e w'=>e=.returned (.int .i64 (zev v))∧Ext w w':=by
 obtain⟨ch,at_⟩:=v;simp only[vl];go_enter func206,ntmps206;go_wp2
 all_goals go_ret
 all_goals refine⟨ret_i ?_,ex⟩
 all_goals grind [zev]
theorem zfV (v:Val)(w:World):Calls prog 223 #[.agg (vl v).toArray] w fun e w'=>e=.returned (.int .i64 (zev v))∧Ext w w':=by
 obtain⟨ch,at_⟩:=v;simp only[vl];go_enter func223,ntmps223;go_wp2
 all_goals go_ret
 all_goals refine⟨ret_i ?_,ex⟩
 all_goals grind [zev]
theorem zeG (p q:Param)(w:World):Calls prog 207 #[.agg (prm p).toArray,.agg (prm q).toArray] w fun e w'=>e=.returned (.bool (before p q))∧Ext w w':=by
 obtain⟨ch,at_⟩:=p;obtain⟨ch',at'⟩:=q;simp only[prm];go_enter func207,ntmps207;go_wp2
 all_goals go_ret
 all_goals refine⟨ret_b ?_,ex⟩
 all_goals grind [before]

def nextE (c:Cue):Int:=
 if c.follow≠ -1∧(c.follow<25∨10000000<c.follow) then 2 else if ¬c.link.toList=[]∧numE c.link≠0 then numE c.link
 else if c.loops<0∨100<c.loops then 2 else if 0<c.loops∧c.link.toList=[] then 11 else 0
def cueE (c:Cue):Int:=
 if numE c.number≠0 then numE c.number else if zej c.label≠0 then zej c.label else if zaV c.moves≠0 then zaV c.moves
 else if zcC c≠0 then zcC c else nextE c

def cueV (c:Cue) (A:Option Addr) (k:Nat) (B:Option Addr) (m:Nat):List Value:=
 [.string c.number,.string c.label,.slice A c.moves.length k,.slice B c.parts.length m,c.block,c.mark,c.follow,.string c.link,c.loops]
structure CueAt (w : World) (c : Cue) (A : Option Addr) (k : Nat) (B : Option Addr) (m : Nat) : Prop where
 mv:Sl w A 5 (c.moves.map mv)
 pt:Sl w B 6 (c.parts.map tmg)
 hk:c.moves.length≤k
 hm:c.parts.length≤m
 hk':k≤maxLen
 hm':m≤maxLen
 num:c.number.size≤maxLen
 lab:c.label.size≤maxLen
 lnk:c.link.size≤maxLen
theorem CueAt.mono {w w':World}{c:Cue}{A:Option Addr}{k:Nat}{B:Option Addr}{m:Nat}(h:CueAt w c A k B m)(hx:Ext w w'):CueAt w' c A k B m:=
 ⟨h.mv.mono hx,h.pt.mono hx,h.hk,h.hm,h.hk',h.hm',h.num,h.lab,h.lnk⟩


section
variable (c:Cue) (A:Option Addr) (k:Nat) (B:Option Addr) (m:Nat) (w:World) (hc:CueAt w c A k B m)
include hc
end

def posP (l:List Move) (p:Param):Nat:=(l.takeWhile fun m=>before m.p p).length
def zcV (l:List Move) (p:Param):Bool:=match l[posP l p]? with|some m=>decide (m.p=p)|none=>false

def findV (c:Cue) (p:Param):Int×Bool×Int:=
 if cueE c≠0 then(0,false,cueE c) else if zak p≠0 then(0,false,zak p) else if zcV c.moves p then(posP c.moves p,true,0) else(0,false,0)

def kind (a:Int):Int:=if a=0 then 0 else if a=1∨a=2 then 1 else if 3≤a∧a≤10 then 2 else 3
def attrE (a:Int):Int:=if a<0∨15≤a then 2 else 0
def zho (a:Int):Int×Int:=if attrE a≠0 then(0,attrE a) else(kind a,0)
def taken (t:Timing) (a:Int) (r:Bool):Int:=if kind a=0 then(if r then t.up else t.down) else if kind a=1 then t.pos else if kind a=2 then t.col else t.beam
def zam (t:Timing):Int:=if zbd t then 0 else 2
def timeV (t:Timing) (a:Int) (r:Bool):Int×Int:=if zam t≠0 then(0,zam t) else if attrE a≠0 then(0,attrE a) else(taken t a r,0)


def KeepT (T:Nat) (A B:World):Prop:=∀v,A.cell? ⟨T,0,none⟩=some v→B.cell? ⟨T,0,none⟩=some v
def seq6:List (Fin 6):=[0,2,3,4,1,5]

attribute [local go_sem] Oper.semAt_some


def eqP (a b c d:Int):Bool:=decide ((⟨a,b⟩:Param)=⟨c,d⟩)
@[go_sem high] theorem eq_prm (a b c d : Int) (w : World) : (binOp .eql 201 (.agg #[a,b]) (.agg #[c,d])).run prog w = .ok (.bool (eqP a b c d)) w:=by
 have hS:prog.underlying 201 =some (.struct (prog.fieldsOf 201)):=by kernel_rfl
 have hp:prog.stoodInHeld 201 =false:=by kernel_rfl
 rw[run_eql_struct,show(10000:Nat)=9999+1 from rfl,run_equalIn_agg w 9999 201 _ _ hS hp];simp only[Program.fieldsOf,underlying201];go_simp;unfold eqP;by_cases h1:a=c<;>by_cases h2:b=d<;>simp[h1,h2]
@[go_sem] theorem guard_prm (op : BinOp) (x y : Operand) (xs ys : Array Value) (w : World) : (eqGuard op 201 x y (.agg xs) (.agg ys)).run prog w = .ok () w:=run_eqGuard_agg w op _ x y xs ys kr
theorem Calls.grows_same {P:Program}{f:FuncId}{args:Array Value}{w:World}{y:Gr}{v:Value}(h:Calls P f args (xt w y) fun e w'=>e=.returned v∧xt w y=w'):
  Calls P f args (xt w y) fun e w''=>e=.returned v∧∃z,w''=xt w z:=
 h.mono fun _ _ ⟨he,hx⟩=>⟨he,y,hx.symm⟩

def eqT (s t:Timing):Bool:=decide (s=t)
def eqV (s t:Val):Bool:=decide (s=t)
def eqM (s t:Move):Bool:=decide (s=t)
section
variable (w:World)
@[go_sem high] theorem eqIn_tmg (a b c d e f a' b' c' d' e' f' : Int) : (Op.equalIn 10000 286 (.agg #[a,b,c,d,e,f]) (.agg #[a',b',c',d',e',f'])).run prog w = .ok (eqT ⟨a,b,c,d,e,f⟩ ⟨a',b',c',d',e',f'⟩) w:=by
 have hS:prog.underlying 286 =some (.struct (prog.fieldsOf 286)):=by kernel_rfl
 have hp:prog.stoodInHeld 286 =false:=by kernel_rfl
 rw[show(10000:Nat)=9999+1 from rfl,run_equalIn_agg w 9999 286 _ _ hS hp];simp only[Program.fieldsOf,underlying286];go_simp;unfold eqT;simp only[Timing.mk.injEq];by_cases h1:a=a'
 ·by_cases h2:b=b'
  ·by_cases h3:c=c'
   ·by_cases h4:d=d'
    ·by_cases h5:e=e'
     ·by_cases h6:f=f'<;>simp[h1,h2,h3,h4,h5,h6]
     ·simp[h1,h2,h3,h4,h5]
    ·simp[h1,h2,h3,h4]
   ·simp[h1,h2,h3]
  ·simp[h1,h2]
 ·simp[h1]
theorem ztf (a b a' b':Int):(Op.equalIn 9999 201 (.agg #[a,b]) (.agg #[a',b'])).run prog w=.ok (decide (a=a') && decide (b=b')) w:=by
 have hS:prog.underlying 201 =some (.struct (prog.fieldsOf 201)):=by kernel_rfl
 have hp:prog.stoodInHeld 201 =false:=by kernel_rfl
 rw[show(9999:Nat)=9998+1 from rfl,run_equalIn_agg w 9998 201 _ _ hS hp];simp only[Program.fieldsOf,underlying201];go_simp;by_cases h1:a=a'<;>by_cases h2:b=b'<;>simp[h1,h2]
theorem zzQ (a b a' b':Int):(Op.equalIn 9999 203 (.agg #[a,b]) (.agg #[a',b'])).run prog w=.ok (decide (a=a') && decide (b=b')) w:=by
 have hS:prog.underlying 203 =some (.struct (prog.fieldsOf 203)):=by kernel_rfl
 have hp:prog.stoodInHeld 203 =false:=by kernel_rfl
 rw[show(9999:Nat)=9998+1 from rfl,run_equalIn_agg w 9998 203 _ _ hS hp];simp only[Program.fieldsOf,underlying203];go_simp;by_cases h1:a=a'<;>by_cases h2:b=b'<;>simp[h1,h2]
@[go_sem high] theorem eqIn_mv (a b c d e a' b' c' d' e' : Int) : (Op.equalIn 10000 283 (.agg #[a,b,c,d,e]) (.agg #[a',b',c',d',e'])).run prog w = .ok (eqM ⟨⟨a,b⟩,⟨c,d⟩,e⟩ ⟨⟨a',b'⟩,⟨c',d'⟩,e'⟩) w:=by
 have hS:prog.underlying 283 =some (.struct (prog.fieldsOf 283)):=by kernel_rfl
 have hp:prog.stoodInHeld 283 =false:=by kernel_rfl
 have e1:=fun w=>ztf w a b a' b';have e2:=fun w=>zzQ w c d c' d';rw[show(10000:Nat)=9999+1 from rfl,run_equalIn_agg w 9999 283 _ _ hS hp];simp only[Program.fieldsOf,underlying283];go_simp;unfold eqM;simp only[Move.mk.injEq,Param.mk.injEq,Val.mk.injEq];by_cases h1:a=a'
 ·by_cases h2:b=b'
  ·by_cases h3:c=c'
   ·by_cases h4:d=d'
    ·by_cases h5:e=e'<;>simp[h1,h2,h3,h4,h5]
    ·simp[h1,h2,h3,h4]
   ·simp[h1,h2,h3]
  ·simp[h1,h2]
 ·simp[h1]
@[go_sem] theorem guard_tmg (op : BinOp) (x y : Operand) (xs ys : Array Value) : (eqGuard op 286 x y (.agg xs) (.agg ys)).run prog w = .ok () w:=run_eqGuard_agg w op _ x y xs ys kr
@[go_sem] theorem guard_mv (op : BinOp) (x y : Operand) (xs ys : Array Value) : (eqGuard op 283 x y (.agg xs) (.agg ys)).run prog w = .ok () w:=run_eqGuard_agg w op _ x y xs ys kr
end

def inV (l:List Move) (p:Param):Int:=match l.find? (fun m=>decide (m.p=p)) with|some m=>m.part|none=>1
def zn2 (l:List Move) (p:Param):Int:=match l.findIdx? (fun m=>decide (m.p=p)) with|some i=>i|none=> -1
def zbv (c:Cue) (p:Param):Int:=if cueE c≠0 then cueE c else zak p
def partV (c:Cue) (p:Param):Int×Int:=if zbv c p≠0 then(0,zbv c p) else(inV c.moves p,0)
def zfc:Timing:=⟨0,0,0,0,0,0⟩
def partOf (c:Cue) (p:Param):Timing:=(c.parts[(inV c.moves p).toNat - 1]?).getD zfc
def ofV (c:Cue) (p:Param) (r:Bool):Int×Int×Int:=if zbv c p≠0 then(0,0,zbv c p) else((partOf c p).del,taken (partOf c p) p.attr r,0)

section
variable (c:Cue) (A:Option Addr) (k:Nat) (B:Option Addr) (m:Nat) (p:Param) (w:World) (hc:CueAt w c A k B m)
include hc
end

section
variable (c:Cue) (A:Option Addr) (k:Nat) (B:Option Addr) (m:Nat) (p:Param) (r:Bool) (w:World) (hc:CueAt w c A k B m)
include hc
end

@[go_sem high] theorem max_2 {P : Program} (ts : Array TypeId) (t : TypeId) (k k' : IntKind) (x y : Int) (w : World) : (Builtin.max_ ts t #[.int k x,.int k' y]).run P w = .ok (.int k (max x y)) w:=by rw[run_max_int2];congr 2;grind
@[go_sem high] theorem min_2 {P : Program} (ts : Array TypeId) (t : TypeId) (k k' : IntKind) (x y : Int) (w : World) : (Builtin.min_ ts t #[.int k x,.int k' y]).run P w = .ok (.int k (min x y)) w:=by rw[run_min_int2];congr 2;grind
@[go_sem high] theorem max_5 {P : Program} (ts : Array TypeId) (t : TypeId) (k : IntKind) (a b c d e : Int) (w : World) : (Builtin.max_ ts t #[.int k a,.int k b,.int k c,.int k d,.int k e]).run P w = .ok (.int k (max (max (max (max a b) c) d) e)) w:=by simp[Builtin.max_,Builtin.max2];grind
def most (t:Timing):Int:=max (max (max (max t.up t.down) t.pos) t.col) t.beam
def total (l:List Timing):Int:=l.foldl (fun m t=>max m (t.del+most t)) 0
def zee (c:Cue):Int×Int:=if cueE c≠0 then(0,cueE c) else(total c.parts,0)

section
variable (c:Cue) (A:Option Addr) (k:Nat) (B:Option Addr) (m:Nat) (w:World) (hc:CueAt w c A k B m)
include hc
end

def scl (v p:Int):Int:=min ((200 * v+p) / (2 * p)) 10000000
def zim (t:Timing) (p:Int):Timing:=⟨scl t.up p,scl t.down p,scl t.pos p,scl t.col p,scl t.beam p,scl t.del p⟩
def zbx (t:Timing) (p:Int):Timing×Int:=if zam t≠0 then(zfc,zam t) else if p<1∨400<p then(zfc,2) else(zim t p,0)

attribute [local go_sem] Oper.semAt_some

def putT (t:Timing) (k:Nat) (v:Int):Timing:=
 match k with
 |0=>{t with up:=v}
 |1=>{t with down:=v}
 |2=>{t with pos:=v}
 |3=>{t with col:=v}
 |4=>{t with beam:=v}
 |_=>{t with del:=v}
def stT (t:Timing) (p:Int) (pre:List (Fin 6)):Timing:=pre.foldl (fun s x=>putT s x.val (scl (tnth s x.val) p)) t

def at9:Val:=⟨0,9⟩
def slowC:Cue:=⟨⟨#[49]⟩,⟨#[]⟩,[⟨⟨1,0⟩,at9,1⟩,⟨⟨1,1⟩,at9,2⟩],[⟨1000,2000,500,0,0,0⟩,⟨3000,3000,3000,3000,3000,100⟩],false,false,-1,⟨#[]⟩,0⟩
theorem zDr {α:Type}{size:Nat}:∀(rows:List (List α)) (_:∀r∈rows,r.length=size) (i:Nat) (row:List α),rows[i]?=some row→∀j,j<size→rows.flatten[i * size+j]?=row[j]?
 |[],_,_,_,h,_,_=>by simp at h
 |r::rs,hr,0,row,h,j,hj=>by
  have h0:r=row:=by simpa using h
  subst h0;rw[List.flatten_cons,Nat.zero_mul,Nat.zero_add,List.getElem?_append_left (by rw[hr r (by simp)];exact hj)]
 |r::rs,hr,i+1,row,h,j,hj=>by have hl:=hr r (by simp);rw[List.flatten_cons,List.getElem?_append_right (by rw[hl,Nat.succ_mul];omega),hl,show(i+1) * size+j - size=i * size+j by rw[Nat.succ_mul];omega];exact zDr rs (fun x hx=>hr x (by simp[hx])) i row (by simpa using h) j hj
theorem Sl.alloc {w:World}{size:Nat}{rows:List (List Value)}{T:TypeId}(h:∀r∈rows,r.length=size):Sl (w.alloc (.cells rows.flatten.toArray T)) (some ⟨w.heap.size,0,none⟩) size rows:=
 ⟨fun i row hr=>⟨h row (List.mem_of_getElem? hr),w.heap.size,0,rfl,fun j v hv=>by
  have hj:j<size:=by rw[←h row (List.mem_of_getElem? hr)];exact(List.getElem?_eq_some_iff.1 hv).1
  have:=zDr rows h i row hr j hj;simp only[Nat.zero_add];unfold World.cell?;rw[World.alloc_heap_new];simp[this,hv]⟩⟩
theorem Sl.alloc' {w:World}{n size:Nat}{cells:Array Value}{rows:List (List Value)}{T:TypeId}(hs:w.heap.size=n)(hc:cells=rows.flatten.toArray)(h:∀r∈rows,r.length=size):Sl (w.alloc (.cells cells T)) (some ⟨n,0,none⟩) size rows:=by subst hs hc;exact Sl.alloc h


def few (c:Cue):Bool:=decide (c.number.size≤40) && decide (c.label.size≤100) && decide (c.link.size≤40) && decide (c.parts.length≤10) && decide (c.moves.length≤300)

theorem zf0 (A:Option Addr)(c:Nat)(l:List Move)(w:World):Calls prog 190 #[.slice A l.length c] w fun e w'=>e=.returned (.bool (decide (l.length≤300)))∧w=w':=by go_enter func190,ntmps190;go_wp2;go_ret;exact⟨ret_b (by simp;try omega),rfl⟩
theorem ze0 (c:Cue)(A:Option Addr)(k:Nat)(B:Option Addr)(m:Nat)(w:World):Calls prog 142 #[.agg (cueV c A k B m).toArray] w fun e w'=>e=.returned (.bool (few c))∧Ext w w':=by
 simp only[cueV];go_enter func142,ntmps142;go_wp2_with (go_at_call 190;refine(zf0 _ _ _ _).mono ?_;rintro e w' ⟨rfl,rfl⟩)
 all_goals
  go_ret;go_light;refine⟨ret_b ?_,ex⟩
  first|grind [few]|(simp[few];omega)
