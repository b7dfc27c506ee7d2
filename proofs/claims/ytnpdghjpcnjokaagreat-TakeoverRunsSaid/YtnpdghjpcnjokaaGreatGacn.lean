import Derived.Test.YtnpdghjpcnjokaaGreatGtim
import Derived.Test.YtnpdghjpcnjokaaGreatGown
set_option maxHeartbeats 1600000
set_option maxRecDepth 100000
namespace Go.Proofs.YtnpdghjpcnjokaaGreat
open Go.RowKit Tryz

structure Lst (α : Type) where
 l:List α
 at_:Option Addr
 cap:Nat
structure LstAt {α : Type} (w : World) (size : Nat) (row : α → List Value) (x : Lst α) : Prop where
 sl:Sl w x.at_ size (x.l.map row)
 le:x.l.length≤x.cap
 cap:x.cap≤maxLen
section
variable {α:Type} {w w':World} {size:Nat} {row:α→List Value} {x:Lst α}
theorem LstAt.mono (h:LstAt w size row x)(hx:Ext w w'):LstAt w' size row x:=⟨h.sl.mono hx,h.le,h.cap⟩
theorem LstAt.len (h:LstAt w size row x):x.l.length≤maxLen:=Nat.le_trans h.le h.cap
theorem LstAt.nil:LstAt w size row ⟨[],none,0⟩:=⟨Sl.nil _ _ _,Nat.le_refl _,Nat.zero_le _⟩
end

structure Hue where
 p:Param
 lev:Int
 deriving DecidableEq
structure Gain where
 p:Param
 lev:Int
 deriving DecidableEq
structure Pt where
 x:Int
 y:Int
 deriving DecidableEq
def hueR (h:Hue):List Value:=[h.p.ch,h.p.attr,h.lev]
def gainR (g:Gain):List Value:=[g.p.ch,g.p.attr,g.lev]
def ptR (g:Pt):List Value:=[g.x,g.y]
def intR (n:Int):List Value:=[n]

structure Sub where
 number:Int
 prio:Int
 inh:Bool
 gains:Lst Gain
structure Eff where
 number:Int
 attr:Int
 wave:Lst Pt
 period:Int
 spread:Int
 size:Int
structure Fix where
 ch:Int
 part:Int
 profile:ByteArray
 univ:Int
 addr:Int
 phase:Int
 cable:ByteArray
 deriving DecidableEq
structure Edit where
 kind:Int
 number:Int
 ch:Int
 prio:Int
 key:ByteArray
 cue:Cue
 cA:Option Addr
 ck:Nat
 cB:Option Addr
 cm:Nat
 pn:Int
 hues:Lst Hue
 gn:Int
 chans:Lst Int
 sub:Sub
 eff:Eff
 fix:Fix
structure Acn where
 at_:Int
 kind:Int
 target:Int
 cue:ByteArray
 level:Int
 time:Int
 entries:Lst Entry
 params:Lst Param
 chans:Lst Int
 edit:Edit

def subR (s:Sub):List Value:=[s.number,s.prio,s.inh,.slice s.gains.at_ s.gains.l.length s.gains.cap]
def effR (x:Eff):List Value:=[x.number,x.attr,.slice x.wave.at_ x.wave.l.length x.wave.cap,x.period,x.spread,x.size]
def fixR (f:Fix):List Value:=[f.ch,f.part,.string f.profile,f.univ,f.addr,f.phase,.string f.cable]
def editH (e:Edit):List Value:=[e.kind,e.number,e.ch,e.prio,.string e.key]
def editP (e:Edit):List Value:=[e.pn,.slice e.hues.at_ e.hues.l.length e.hues.cap,e.gn,.slice e.chans.at_ e.chans.l.length e.chans.cap]
def editR (e:Edit):List Value:=editH e++cueV e.cue e.cA e.ck e.cB e.cm++(editP e++subR e.sub++(effR e.eff++fixR e.fix))
def acnH (a:Acn):List Value:=[a.at_,a.kind,a.target,.string a.cue,a.level,a.time,.slice a.entries.at_ a.entries.l.length a.entries.cap,.slice a.params.at_ a.params.l.length a.params.cap,.slice a.chans.at_ a.chans.l.length a.chans.cap]
def acnR (a:Acn):List Value:=acnH a++editR a.edit
@[go_sem] theorem editR_0 (e : Edit) : (editR e)[0]? = some (.int .i64 e.kind):=rfl
@[go_sem] theorem editR_g0 (e : Edit) (h : 0 < (editR e).length) : (editR e)[0] = .int .i64 e.kind:=rfl
@[go_sem] theorem editR_1 (e : Edit) : (editR e)[1]? = some (.int .i64 e.number):=rfl
@[go_sem] theorem editR_g1 (e : Edit) (h : 1 < (editR e).length) : (editR e)[1] = .int .i64 e.number:=rfl
@[go_sem] theorem editR_2 (e : Edit) : (editR e)[2]? = some (.int .i64 e.ch):=rfl
@[go_sem] theorem editR_g2 (e : Edit) (h : 2 < (editR e).length) : (editR e)[2] = .int .i64 e.ch:=rfl
@[go_sem] theorem editR_3 (e : Edit) : (editR e)[3]? = some (.int .i64 e.prio):=rfl
@[go_sem] theorem editR_g3 (e : Edit) (h : 3 < (editR e).length) : (editR e)[3] = .int .i64 e.prio:=rfl
@[go_sem] theorem editR_4 (e : Edit) : (editR e)[4]? = some (.string e.key):=rfl
@[go_sem] theorem editR_g4 (e : Edit) (h : 4 < (editR e).length) : (editR e)[4] = .string e.key:=rfl
@[go_sem] theorem editR_5 (e : Edit) : (editR e)[5]? = some (.string e.cue.number):=rfl
@[go_sem] theorem editR_g5 (e : Edit) (h : 5 < (editR e).length) : (editR e)[5] = .string e.cue.number:=rfl
@[go_sem] theorem editR_6 (e : Edit) : (editR e)[6]? = some (.string e.cue.label):=rfl
@[go_sem] theorem editR_g6 (e : Edit) (h : 6 < (editR e).length) : (editR e)[6] = .string e.cue.label:=rfl
@[go_sem] theorem editR_7 (e : Edit) : (editR e)[7]? = some (.slice e.cA e.cue.moves.length e.ck):=rfl
@[go_sem] theorem editR_g7 (e : Edit) (h : 7 < (editR e).length) : (editR e)[7] = .slice e.cA e.cue.moves.length e.ck:=rfl
@[go_sem] theorem editR_8 (e : Edit) : (editR e)[8]? = some (.slice e.cB e.cue.parts.length e.cm):=rfl
@[go_sem] theorem editR_g8 (e : Edit) (h : 8 < (editR e).length) : (editR e)[8] = .slice e.cB e.cue.parts.length e.cm:=rfl
@[go_sem] theorem editR_9 (e : Edit) : (editR e)[9]? = some (.bool e.cue.block):=rfl
@[go_sem] theorem editR_g9 (e : Edit) (h : 9 < (editR e).length) : (editR e)[9] = .bool e.cue.block:=rfl
@[go_sem] theorem editR_10 (e : Edit) : (editR e)[10]? = some (.bool e.cue.mark):=rfl
@[go_sem] theorem editR_g10 (e : Edit) (h : 10 < (editR e).length) : (editR e)[10] = .bool e.cue.mark:=rfl
@[go_sem] theorem editR_11 (e : Edit) : (editR e)[11]? = some (.int .i64 e.cue.follow):=rfl
@[go_sem] theorem editR_g11 (e : Edit) (h : 11 < (editR e).length) : (editR e)[11] = .int .i64 e.cue.follow:=rfl
@[go_sem] theorem editR_12 (e : Edit) : (editR e)[12]? = some (.string e.cue.link):=rfl
@[go_sem] theorem editR_g12 (e : Edit) (h : 12 < (editR e).length) : (editR e)[12] = .string e.cue.link:=rfl
@[go_sem] theorem editR_13 (e : Edit) : (editR e)[13]? = some (.int .i64 e.cue.loops):=rfl
@[go_sem] theorem editR_g13 (e : Edit) (h : 13 < (editR e).length) : (editR e)[13] = .int .i64 e.cue.loops:=rfl
@[go_sem] theorem editR_14 (e : Edit) : (editR e)[14]? = some (.int .i64 e.pn):=rfl
@[go_sem] theorem editR_g14 (e : Edit) (h : 14 < (editR e).length) : (editR e)[14] = .int .i64 e.pn:=rfl
@[go_sem] theorem editR_15 (e : Edit) : (editR e)[15]? = some (.slice e.hues.at_ e.hues.l.length e.hues.cap):=rfl
@[go_sem] theorem editR_g15 (e : Edit) (h : 15 < (editR e).length) : (editR e)[15] = .slice e.hues.at_ e.hues.l.length e.hues.cap:=rfl
@[go_sem] theorem editR_16 (e : Edit) : (editR e)[16]? = some (.int .i64 e.gn):=rfl
@[go_sem] theorem editR_g16 (e : Edit) (h : 16 < (editR e).length) : (editR e)[16] = .int .i64 e.gn:=rfl
@[go_sem] theorem editR_17 (e : Edit) : (editR e)[17]? = some (.slice e.chans.at_ e.chans.l.length e.chans.cap):=rfl
@[go_sem] theorem editR_g17 (e : Edit) (h : 17 < (editR e).length) : (editR e)[17] = .slice e.chans.at_ e.chans.l.length e.chans.cap:=rfl
@[go_sem] theorem editR_18 (e : Edit) : (editR e)[18]? = some (.int .i64 e.sub.number):=rfl
@[go_sem] theorem editR_g18 (e : Edit) (h : 18 < (editR e).length) : (editR e)[18] = .int .i64 e.sub.number:=rfl
@[go_sem] theorem editR_19 (e : Edit) : (editR e)[19]? = some (.int .i64 e.sub.prio):=rfl
@[go_sem] theorem editR_g19 (e : Edit) (h : 19 < (editR e).length) : (editR e)[19] = .int .i64 e.sub.prio:=rfl
@[go_sem] theorem editR_20 (e : Edit) : (editR e)[20]? = some (.bool e.sub.inh):=rfl
@[go_sem] theorem editR_g20 (e : Edit) (h : 20 < (editR e).length) : (editR e)[20] = .bool e.sub.inh:=rfl
@[go_sem] theorem editR_21 (e : Edit) : (editR e)[21]? = some (.slice e.sub.gains.at_ e.sub.gains.l.length e.sub.gains.cap):=rfl
@[go_sem] theorem editR_g21 (e : Edit) (h : 21 < (editR e).length) : (editR e)[21] = .slice e.sub.gains.at_ e.sub.gains.l.length e.sub.gains.cap:=rfl
@[go_sem] theorem editR_22 (e : Edit) : (editR e)[22]? = some (.int .i64 e.eff.number):=rfl
@[go_sem] theorem editR_g22 (e : Edit) (h : 22 < (editR e).length) : (editR e)[22] = .int .i64 e.eff.number:=rfl
@[go_sem] theorem editR_23 (e : Edit) : (editR e)[23]? = some (.int .i64 e.eff.attr):=rfl
@[go_sem] theorem editR_g23 (e : Edit) (h : 23 < (editR e).length) : (editR e)[23] = .int .i64 e.eff.attr:=rfl
@[go_sem] theorem editR_24 (e : Edit) : (editR e)[24]? = some (.slice e.eff.wave.at_ e.eff.wave.l.length e.eff.wave.cap):=rfl
@[go_sem] theorem editR_g24 (e : Edit) (h : 24 < (editR e).length) : (editR e)[24] = .slice e.eff.wave.at_ e.eff.wave.l.length e.eff.wave.cap:=rfl
@[go_sem] theorem editR_25 (e : Edit) : (editR e)[25]? = some (.int .i64 e.eff.period):=rfl
@[go_sem] theorem editR_g25 (e : Edit) (h : 25 < (editR e).length) : (editR e)[25] = .int .i64 e.eff.period:=rfl
@[go_sem] theorem editR_26 (e : Edit) : (editR e)[26]? = some (.int .i64 e.eff.spread):=rfl
@[go_sem] theorem editR_g26 (e : Edit) (h : 26 < (editR e).length) : (editR e)[26] = .int .i64 e.eff.spread:=rfl
@[go_sem] theorem editR_27 (e : Edit) : (editR e)[27]? = some (.int .i64 e.eff.size):=rfl
@[go_sem] theorem editR_g27 (e : Edit) (h : 27 < (editR e).length) : (editR e)[27] = .int .i64 e.eff.size:=rfl
@[go_sem] theorem editR_28 (e : Edit) : (editR e)[28]? = some (.int .i64 e.fix.ch):=rfl
@[go_sem] theorem editR_g28 (e : Edit) (h : 28 < (editR e).length) : (editR e)[28] = .int .i64 e.fix.ch:=rfl
@[go_sem] theorem editR_29 (e : Edit) : (editR e)[29]? = some (.int .i64 e.fix.part):=rfl
@[go_sem] theorem editR_g29 (e : Edit) (h : 29 < (editR e).length) : (editR e)[29] = .int .i64 e.fix.part:=rfl
@[go_sem] theorem editR_30 (e : Edit) : (editR e)[30]? = some (.string e.fix.profile):=rfl
@[go_sem] theorem editR_g30 (e : Edit) (h : 30 < (editR e).length) : (editR e)[30] = .string e.fix.profile:=rfl
@[go_sem] theorem editR_31 (e : Edit) : (editR e)[31]? = some (.int .i64 e.fix.univ):=rfl
@[go_sem] theorem editR_g31 (e : Edit) (h : 31 < (editR e).length) : (editR e)[31] = .int .i64 e.fix.univ:=rfl
@[go_sem] theorem editR_32 (e : Edit) : (editR e)[32]? = some (.int .i64 e.fix.addr):=rfl
@[go_sem] theorem editR_g32 (e : Edit) (h : 32 < (editR e).length) : (editR e)[32] = .int .i64 e.fix.addr:=rfl
@[go_sem] theorem editR_33 (e : Edit) : (editR e)[33]? = some (.int .i64 e.fix.phase):=rfl
@[go_sem] theorem editR_g33 (e : Edit) (h : 33 < (editR e).length) : (editR e)[33] = .int .i64 e.fix.phase:=rfl
@[go_sem] theorem editR_34 (e : Edit) : (editR e)[34]? = some (.string e.fix.cable):=rfl
@[go_sem] theorem editR_g34 (e : Edit) (h : 34 < (editR e).length) : (editR e)[34] = .string e.fix.cable:=rfl
@[go_sem] theorem acnR_0 (a : Acn) : (acnR a)[0]? = some (.int .i64 a.at_):=rfl
@[go_sem] theorem acnR_g0 (a : Acn) (h : 0 < (acnR a).length) : (acnR a)[0] = .int .i64 a.at_:=rfl
@[go_sem] theorem acnR_1 (a : Acn) : (acnR a)[1]? = some (.int .i64 a.kind):=rfl
@[go_sem] theorem acnR_g1 (a : Acn) (h : 1 < (acnR a).length) : (acnR a)[1] = .int .i64 a.kind:=rfl
@[go_sem] theorem acnR_2 (a : Acn) : (acnR a)[2]? = some (.int .i64 a.target):=rfl
@[go_sem] theorem acnR_g2 (a : Acn) (h : 2 < (acnR a).length) : (acnR a)[2] = .int .i64 a.target:=rfl
@[go_sem] theorem acnR_3 (a : Acn) : (acnR a)[3]? = some (.string a.cue):=rfl
@[go_sem] theorem acnR_g3 (a : Acn) (h : 3 < (acnR a).length) : (acnR a)[3] = .string a.cue:=rfl
@[go_sem] theorem acnR_4 (a : Acn) : (acnR a)[4]? = some (.int .i64 a.level):=rfl
@[go_sem] theorem acnR_g4 (a : Acn) (h : 4 < (acnR a).length) : (acnR a)[4] = .int .i64 a.level:=rfl
@[go_sem] theorem acnR_5 (a : Acn) : (acnR a)[5]? = some (.int .i64 a.time):=rfl
@[go_sem] theorem acnR_g5 (a : Acn) (h : 5 < (acnR a).length) : (acnR a)[5] = .int .i64 a.time:=rfl
@[go_sem] theorem acnR_6 (a : Acn) : (acnR a)[6]? = some (.slice a.entries.at_ a.entries.l.length a.entries.cap):=rfl
@[go_sem] theorem acnR_g6 (a : Acn) (h : 6 < (acnR a).length) : (acnR a)[6] = .slice a.entries.at_ a.entries.l.length a.entries.cap:=rfl
@[go_sem] theorem acnR_7 (a : Acn) : (acnR a)[7]? = some (.slice a.params.at_ a.params.l.length a.params.cap):=rfl
@[go_sem] theorem acnR_g7 (a : Acn) (h : 7 < (acnR a).length) : (acnR a)[7] = .slice a.params.at_ a.params.l.length a.params.cap:=rfl
@[go_sem] theorem acnR_8 (a : Acn) : (acnR a)[8]? = some (.slice a.chans.at_ a.chans.l.length a.chans.cap):=rfl
@[go_sem] theorem acnR_g8 (a : Acn) (h : 8 < (acnR a).length) : (acnR a)[8] = .slice a.chans.at_ a.chans.l.length a.chans.cap:=rfl
@[go_sem] theorem acnR_9 (a : Acn) : (acnR a)[9]? = some (.int .i64 a.edit.kind):=rfl
@[go_sem] theorem acnR_g9 (a : Acn) (h : 9 < (acnR a).length) : (acnR a)[9] = .int .i64 a.edit.kind:=rfl
@[go_sem] theorem acnR_10 (a : Acn) : (acnR a)[10]? = some (.int .i64 a.edit.number):=rfl
@[go_sem] theorem acnR_g10 (a : Acn) (h : 10 < (acnR a).length) : (acnR a)[10] = .int .i64 a.edit.number:=rfl
@[go_sem] theorem acnR_11 (a : Acn) : (acnR a)[11]? = some (.int .i64 a.edit.ch):=rfl
@[go_sem] theorem acnR_g11 (a : Acn) (h : 11 < (acnR a).length) : (acnR a)[11] = .int .i64 a.edit.ch:=rfl
@[go_sem] theorem acnR_12 (a : Acn) : (acnR a)[12]? = some (.int .i64 a.edit.prio):=rfl
@[go_sem] theorem acnR_g12 (a : Acn) (h : 12 < (acnR a).length) : (acnR a)[12] = .int .i64 a.edit.prio:=rfl
@[go_sem] theorem acnR_13 (a : Acn) : (acnR a)[13]? = some (.string a.edit.key):=rfl
@[go_sem] theorem acnR_g13 (a : Acn) (h : 13 < (acnR a).length) : (acnR a)[13] = .string a.edit.key:=rfl
@[go_sem] theorem acnR_14 (a : Acn) : (acnR a)[14]? = some (.string a.edit.cue.number):=rfl
@[go_sem] theorem acnR_g14 (a : Acn) (h : 14 < (acnR a).length) : (acnR a)[14] = .string a.edit.cue.number:=rfl
@[go_sem] theorem acnR_15 (a : Acn) : (acnR a)[15]? = some (.string a.edit.cue.label):=rfl
@[go_sem] theorem acnR_g15 (a : Acn) (h : 15 < (acnR a).length) : (acnR a)[15] = .string a.edit.cue.label:=rfl
@[go_sem] theorem acnR_16 (a : Acn) : (acnR a)[16]? = some (.slice a.edit.cA a.edit.cue.moves.length a.edit.ck):=rfl
@[go_sem] theorem acnR_g16 (a : Acn) (h : 16 < (acnR a).length) : (acnR a)[16] = .slice a.edit.cA a.edit.cue.moves.length a.edit.ck:=rfl
@[go_sem] theorem acnR_17 (a : Acn) : (acnR a)[17]? = some (.slice a.edit.cB a.edit.cue.parts.length a.edit.cm):=rfl
@[go_sem] theorem acnR_g17 (a : Acn) (h : 17 < (acnR a).length) : (acnR a)[17] = .slice a.edit.cB a.edit.cue.parts.length a.edit.cm:=rfl
@[go_sem] theorem acnR_18 (a : Acn) : (acnR a)[18]? = some (.bool a.edit.cue.block):=rfl
@[go_sem] theorem acnR_g18 (a : Acn) (h : 18 < (acnR a).length) : (acnR a)[18] = .bool a.edit.cue.block:=rfl
@[go_sem] theorem acnR_19 (a : Acn) : (acnR a)[19]? = some (.bool a.edit.cue.mark):=rfl
@[go_sem] theorem acnR_g19 (a : Acn) (h : 19 < (acnR a).length) : (acnR a)[19] = .bool a.edit.cue.mark:=rfl
@[go_sem] theorem acnR_20 (a : Acn) : (acnR a)[20]? = some (.int .i64 a.edit.cue.follow):=rfl
@[go_sem] theorem acnR_g20 (a : Acn) (h : 20 < (acnR a).length) : (acnR a)[20] = .int .i64 a.edit.cue.follow:=rfl
@[go_sem] theorem acnR_21 (a : Acn) : (acnR a)[21]? = some (.string a.edit.cue.link):=rfl
@[go_sem] theorem acnR_g21 (a : Acn) (h : 21 < (acnR a).length) : (acnR a)[21] = .string a.edit.cue.link:=rfl
@[go_sem] theorem acnR_22 (a : Acn) : (acnR a)[22]? = some (.int .i64 a.edit.cue.loops):=rfl
@[go_sem] theorem acnR_g22 (a : Acn) (h : 22 < (acnR a).length) : (acnR a)[22] = .int .i64 a.edit.cue.loops:=rfl
@[go_sem] theorem acnR_23 (a : Acn) : (acnR a)[23]? = some (.int .i64 a.edit.pn):=rfl
@[go_sem] theorem acnR_g23 (a : Acn) (h : 23 < (acnR a).length) : (acnR a)[23] = .int .i64 a.edit.pn:=rfl
@[go_sem] theorem acnR_24 (a : Acn) : (acnR a)[24]? = some (.slice a.edit.hues.at_ a.edit.hues.l.length a.edit.hues.cap):=rfl
@[go_sem] theorem acnR_g24 (a : Acn) (h : 24 < (acnR a).length) : (acnR a)[24] = .slice a.edit.hues.at_ a.edit.hues.l.length a.edit.hues.cap:=rfl
@[go_sem] theorem acnR_25 (a : Acn) : (acnR a)[25]? = some (.int .i64 a.edit.gn):=rfl
@[go_sem] theorem acnR_g25 (a : Acn) (h : 25 < (acnR a).length) : (acnR a)[25] = .int .i64 a.edit.gn:=rfl
@[go_sem] theorem acnR_26 (a : Acn) : (acnR a)[26]? = some (.slice a.edit.chans.at_ a.edit.chans.l.length a.edit.chans.cap):=rfl
@[go_sem] theorem acnR_g26 (a : Acn) (h : 26 < (acnR a).length) : (acnR a)[26] = .slice a.edit.chans.at_ a.edit.chans.l.length a.edit.chans.cap:=rfl
@[go_sem] theorem acnR_27 (a : Acn) : (acnR a)[27]? = some (.int .i64 a.edit.sub.number):=rfl
@[go_sem] theorem acnR_g27 (a : Acn) (h : 27 < (acnR a).length) : (acnR a)[27] = .int .i64 a.edit.sub.number:=rfl
@[go_sem] theorem acnR_28 (a : Acn) : (acnR a)[28]? = some (.int .i64 a.edit.sub.prio):=rfl
@[go_sem] theorem acnR_g28 (a : Acn) (h : 28 < (acnR a).length) : (acnR a)[28] = .int .i64 a.edit.sub.prio:=rfl
@[go_sem] theorem acnR_29 (a : Acn) : (acnR a)[29]? = some (.bool a.edit.sub.inh):=rfl
@[go_sem] theorem acnR_g29 (a : Acn) (h : 29 < (acnR a).length) : (acnR a)[29] = .bool a.edit.sub.inh:=rfl
@[go_sem] theorem acnR_30 (a : Acn) : (acnR a)[30]? = some (.slice a.edit.sub.gains.at_ a.edit.sub.gains.l.length a.edit.sub.gains.cap):=rfl
@[go_sem] theorem acnR_g30 (a : Acn) (h : 30 < (acnR a).length) : (acnR a)[30] = .slice a.edit.sub.gains.at_ a.edit.sub.gains.l.length a.edit.sub.gains.cap:=rfl
@[go_sem] theorem acnR_31 (a : Acn) : (acnR a)[31]? = some (.int .i64 a.edit.eff.number):=rfl
@[go_sem] theorem acnR_g31 (a : Acn) (h : 31 < (acnR a).length) : (acnR a)[31] = .int .i64 a.edit.eff.number:=rfl
@[go_sem] theorem acnR_32 (a : Acn) : (acnR a)[32]? = some (.int .i64 a.edit.eff.attr):=rfl
@[go_sem] theorem acnR_g32 (a : Acn) (h : 32 < (acnR a).length) : (acnR a)[32] = .int .i64 a.edit.eff.attr:=rfl
@[go_sem] theorem acnR_33 (a : Acn) : (acnR a)[33]? = some (.slice a.edit.eff.wave.at_ a.edit.eff.wave.l.length a.edit.eff.wave.cap):=rfl
@[go_sem] theorem acnR_g33 (a : Acn) (h : 33 < (acnR a).length) : (acnR a)[33] = .slice a.edit.eff.wave.at_ a.edit.eff.wave.l.length a.edit.eff.wave.cap:=rfl
@[go_sem] theorem acnR_34 (a : Acn) : (acnR a)[34]? = some (.int .i64 a.edit.eff.period):=rfl
@[go_sem] theorem acnR_g34 (a : Acn) (h : 34 < (acnR a).length) : (acnR a)[34] = .int .i64 a.edit.eff.period:=rfl
@[go_sem] theorem acnR_35 (a : Acn) : (acnR a)[35]? = some (.int .i64 a.edit.eff.spread):=rfl
@[go_sem] theorem acnR_g35 (a : Acn) (h : 35 < (acnR a).length) : (acnR a)[35] = .int .i64 a.edit.eff.spread:=rfl
@[go_sem] theorem acnR_36 (a : Acn) : (acnR a)[36]? = some (.int .i64 a.edit.eff.size):=rfl
@[go_sem] theorem acnR_g36 (a : Acn) (h : 36 < (acnR a).length) : (acnR a)[36] = .int .i64 a.edit.eff.size:=rfl
@[go_sem] theorem acnR_37 (a : Acn) : (acnR a)[37]? = some (.int .i64 a.edit.fix.ch):=rfl
@[go_sem] theorem acnR_g37 (a : Acn) (h : 37 < (acnR a).length) : (acnR a)[37] = .int .i64 a.edit.fix.ch:=rfl
@[go_sem] theorem acnR_38 (a : Acn) : (acnR a)[38]? = some (.int .i64 a.edit.fix.part):=rfl
@[go_sem] theorem acnR_g38 (a : Acn) (h : 38 < (acnR a).length) : (acnR a)[38] = .int .i64 a.edit.fix.part:=rfl
@[go_sem] theorem acnR_39 (a : Acn) : (acnR a)[39]? = some (.string a.edit.fix.profile):=rfl
@[go_sem] theorem acnR_g39 (a : Acn) (h : 39 < (acnR a).length) : (acnR a)[39] = .string a.edit.fix.profile:=rfl
@[go_sem] theorem acnR_40 (a : Acn) : (acnR a)[40]? = some (.int .i64 a.edit.fix.univ):=rfl
@[go_sem] theorem acnR_g40 (a : Acn) (h : 40 < (acnR a).length) : (acnR a)[40] = .int .i64 a.edit.fix.univ:=rfl
@[go_sem] theorem acnR_41 (a : Acn) : (acnR a)[41]? = some (.int .i64 a.edit.fix.addr):=rfl
@[go_sem] theorem acnR_g41 (a : Acn) (h : 41 < (acnR a).length) : (acnR a)[41] = .int .i64 a.edit.fix.addr:=rfl
@[go_sem] theorem acnR_42 (a : Acn) : (acnR a)[42]? = some (.int .i64 a.edit.fix.phase):=rfl
@[go_sem] theorem acnR_g42 (a : Acn) (h : 42 < (acnR a).length) : (acnR a)[42] = .int .i64 a.edit.fix.phase:=rfl
@[go_sem] theorem acnR_43 (a : Acn) : (acnR a)[43]? = some (.string a.edit.fix.cable):=rfl
@[go_sem] theorem acnR_g43 (a : Acn) (h : 43 < (acnR a).length) : (acnR a)[43] = .string a.edit.fix.cable:=rfl
@[go_sem] theorem zgq (e : Edit) : (editR e).length = 35:=rfl
@[go_sem] theorem ziw (a : Acn) : (acnR a).length = 44:=rfl
theorem zbV (a:Acn):∀u∈acnR a,u.oneCell'=true:=by simp[acnR,acnH,editR,editH,cueV,editP,subR,effR,fixR,Value.oneCell']

structure zeT (w : World) (e : Edit) : Prop where
 key:e.key.size≤maxLen
 cue:CueAt w e.cue e.cA e.ck e.cB e.cm
 hues:LstAt w 3 hueR e.hues
 chans:LstAt w 1 intR e.chans
 gains:LstAt w 3 gainR e.sub.gains
 wave:LstAt w 2 ptR e.eff.wave
 prof:e.fix.profile.size≤maxLen
 cable:e.fix.cable.size≤maxLen
structure AcnAt (w : World) (a : Acn) : Prop where
 cue:a.cue.size≤maxLen
 entries:LstAt w 4 en a.entries
 params:LstAt w 2 prm a.params
 chans:LstAt w 1 intR a.chans
 edit:zeT w a.edit
theorem zeT.mono {w w':World}{e:Edit}(h:zeT w e)(hx:Ext w w'):zeT w' e:=⟨h.key,h.cue.mono hx,h.hues.mono hx,h.chans.mono hx,h.gains.mono hx,h.wave.mono hx,h.prof,h.cable⟩
theorem AcnAt.mono {w w':World}{a:Acn}(h:AcnAt w a)(hx:Ext w w'):AcnAt w' a:=⟨h.cue,h.entries.mono hx,h.params.mono hx,h.chans.mono hx,h.edit.mono hx⟩

def sameSub (a b:Sub):Bool:=decide (a.number=b.number∧a.prio=b.prio∧a.inh=b.inh∧a.gains.l=b.gains.l)
def sameEff (a b:Eff):Bool:=decide (a.number=b.number∧a.attr=b.attr∧a.wave.l=b.wave.l∧a.period=b.period∧a.spread=b.spread∧a.size=b.size)
def sameFix (a b:Fix):Bool:=decide (a.ch=b.ch∧a.part=b.part∧a.profile=b.profile∧a.univ=b.univ∧a.addr=b.addr∧a.phase=b.phase∧a.cable=b.cable)

theorem Sl.row1 {w:World}{A:Option Addr}{rows:List (List Value)}{i:Nat}{v0:Value}(h:Sl w A 1 rows)(hr:rows[i]?=some [v0]):
  ∃b o,A=some ⟨b,o,none⟩∧w.cell? ⟨b,o+i,none⟩=some v0:=by
 obtain⟨_,b,o,hA,hc⟩:=h.at_ i _ hr;exact⟨b,o,hA,by have:=hc 0 _ rfl;simpa using this⟩
theorem zrQ (A:Option Addr)(w:World)(hs:Sl w A 1 [[zI]]):Calls prog 147 #[.slice A 1 1] w fun e w'=>e=.returned (.int .i64 1)∧Ext w w':=by obtain⟨b0,o0,hA0,hc0⟩:=hs.row1 (i:=0) rfl;subst hA0;simp only[Nat.add_zero] at hc0;clear hs;go_enter func147,ntmps147;go_wp2;refine wp_loop_rounds 2 ?_;rw[rounds_succ];go_wp2;rw[rounds_succ];go_wp2;go_ret;exact⟨rfl,ex⟩
theorem bits_01 (A:Option Addr)(w:World)(hs:Sl w A 1 [[zI],[.int .i64 1]]):Calls prog 147 #[.slice A 2 2] w fun e w'=>e=.returned (.int .i64 3)∧Ext w w':=by obtain⟨b0,o0,hA0,hc0⟩:=hs.row1 (i:=0) rfl;obtain⟨b1,o1,hA1,hc1⟩:=hs.row1 (i:=1) rfl;subst hA0;injection hA1 with hA1;injection hA1 with hb1 ho1;subst hb1 ho1;simp only[Nat.add_zero] at hc0;clear hs;go_enter func147,ntmps147;go_wp2;refine wp_loop_rounds 3 ?_;rw[rounds_succ];go_wp2;rw[rounds_succ];go_wp2;rw[rounds_succ];go_wp2;go_ret;exact⟨rfl,ex⟩
theorem zCZ (A:Option Addr)(w:World)(hs:Sl w A 1 [[zI],[.int .i64 2]]):Calls prog 147 #[.slice A 2 2] w fun e w'=>e=.returned (.int .i64 5)∧Ext w w':=by obtain⟨b0,o0,hA0,hc0⟩:=hs.row1 (i:=0) rfl;obtain⟨b1,o1,hA1,hc1⟩:=hs.row1 (i:=1) rfl;subst hA0;injection hA1 with hA1;injection hA1 with hb1 ho1;subst hb1 ho1;simp only[Nat.add_zero] at hc0;clear hs;go_enter func147,ntmps147;go_wp2;refine wp_loop_rounds 3 ?_;rw[rounds_succ];go_wp2;rw[rounds_succ];go_wp2;rw[rounds_succ];go_wp2;go_ret;exact⟨rfl,ex⟩
theorem zzN (A:Option Addr)(w:World)(hs:Sl w A 1 [[zI],[.int .i64 2],[.int .i64 3]]):Calls prog 147 #[.slice A 3 3] w fun e w'=>e=.returned (.int .i64 13)∧Ext w w':=by obtain⟨b0,o0,hA0,hc0⟩:=hs.row1 (i:=0) rfl;obtain⟨b1,o1,hA1,hc1⟩:=hs.row1 (i:=1) rfl;obtain⟨b2,o2,hA2,hc2⟩:=hs.row1 (i:=2) rfl;subst hA0;injection hA1 with hA1;injection hA1 with hb1 ho1;subst hb1 ho1;injection hA2 with hA2;injection hA2 with hb2 ho2;subst hb2 ho2;simp only[Nat.add_zero] at hc0;clear hs;go_enter func147,ntmps147;go_wp2;refine wp_loop_rounds 4 ?_;rw[rounds_succ];go_wp2;rw[rounds_succ];go_wp2;rw[rounds_succ];go_wp2;rw[rounds_succ];go_wp2;go_ret;exact⟨rfl,ex⟩
theorem bits_03 (A:Option Addr)(w:World)(hs:Sl w A 1 [[zI],[.int .i64 3]]):Calls prog 147 #[.slice A 2 2] w fun e w'=>e=.returned (.int .i64 9)∧Ext w w':=by obtain⟨b0,o0,hA0,hc0⟩:=hs.row1 (i:=0) rfl;obtain⟨b1,o1,hA1,hc1⟩:=hs.row1 (i:=1) rfl;subst hA0;injection hA1 with hA1;injection hA1 with hb1 ho1;subst hb1 ho1;simp only[Nat.add_zero] at hc0;clear hs;go_enter func147,ntmps147;go_wp2;refine wp_loop_rounds 3 ?_;rw[rounds_succ];go_wp2;rw[rounds_succ];go_wp2;rw[rounds_succ];go_wp2;go_ret;exact⟨rfl,ex⟩
theorem bits_23 (A:Option Addr)(w:World)(hs:Sl w A 1 [[.int .i64 2],[.int .i64 3]]):Calls prog 147 #[.slice A 2 2] w fun e w'=>e=.returned (.int .i64 12)∧Ext w w':=by obtain⟨b0,o0,hA0,hc0⟩:=hs.row1 (i:=0) rfl;obtain⟨b1,o1,hA1,hc1⟩:=hs.row1 (i:=1) rfl;subst hA0;injection hA1 with hA1;injection hA1 with hb1 ho1;subst hb1 ho1;simp only[Nat.add_zero] at hc0;clear hs;go_enter func147,ntmps147;go_wp2;refine wp_loop_rounds 3 ?_;rw[rounds_succ];go_wp2;rw[rounds_succ];go_wp2;rw[rounds_succ];go_wp2;go_ret;exact⟨rfl,ex⟩
theorem bits_2 (A:Option Addr)(w:World)(hs:Sl w A 1 [[.int .i64 2]]):Calls prog 147 #[.slice A 1 1] w fun e w'=>e=.returned (.int .i64 4)∧Ext w w':=by obtain⟨b0,o0,hA0,hc0⟩:=hs.row1 (i:=0) rfl;subst hA0;simp only[Nat.add_zero] at hc0;clear hs;go_enter func147,ntmps147;go_wp2;refine wp_loop_rounds 2 ?_;rw[rounds_succ];go_wp2;rw[rounds_succ];go_wp2;go_ret;exact⟨rfl,ex⟩
theorem bits_34 (A:Option Addr)(w:World)(hs:Sl w A 1 [[.int .i64 3],[.int .i64 4]]):Calls prog 147 #[.slice A 2 2] w fun e w'=>e=.returned (.int .i64 24)∧Ext w w':=by obtain⟨b0,o0,hA0,hc0⟩:=hs.row1 (i:=0) rfl;obtain⟨b1,o1,hA1,hc1⟩:=hs.row1 (i:=1) rfl;subst hA0;injection hA1 with hA1;injection hA1 with hb1 ho1;subst hb1 ho1;simp only[Nat.add_zero] at hc0;clear hs;go_enter func147,ntmps147;go_wp2;refine wp_loop_rounds 3 ?_;rw[rounds_succ];go_wp2;rw[rounds_succ];go_wp2;rw[rounds_succ];go_wp2;go_ret;exact⟨rfl,ex⟩
theorem bits_5 (A:Option Addr)(w:World)(hs:Sl w A 1 [[.int .i64 5]]):Calls prog 147 #[.slice A 1 1] w fun e w'=>e=.returned (.int .i64 32)∧Ext w w':=by obtain⟨b0,o0,hA0,hc0⟩:=hs.row1 (i:=0) rfl;subst hA0;simp only[Nat.add_zero] at hc0;clear hs;go_enter func147,ntmps147;go_wp2;refine wp_loop_rounds 2 ?_;rw[rounds_succ];go_wp2;rw[rounds_succ];go_wp2;go_ret;exact⟨rfl,ex⟩
theorem bits_06 (A:Option Addr)(w:World)(hs:Sl w A 1 [[zI],[.int .i64 6]]):Calls prog 147 #[.slice A 2 2] w fun e w'=>e=.returned (.int .i64 65)∧Ext w w':=by obtain⟨b0,o0,hA0,hc0⟩:=hs.row1 (i:=0) rfl;obtain⟨b1,o1,hA1,hc1⟩:=hs.row1 (i:=1) rfl;subst hA0;injection hA1 with hA1;injection hA1 with hb1 ho1;subst hb1 ho1;simp only[Nat.add_zero] at hc0;clear hs;go_enter func147,ntmps147;go_wp2;refine wp_loop_rounds 3 ?_;rw[rounds_succ];go_wp2;rw[rounds_succ];go_wp2;rw[rounds_succ];go_wp2;go_ret;exact⟨rfl,ex⟩
theorem bits_7 (A:Option Addr)(w:World)(hs:Sl w A 1 [[.int .i64 7]]):Calls prog 147 #[.slice A 1 1] w fun e w'=>e=.returned (.int .i64 128)∧Ext w w':=by obtain⟨b0,o0,hA0,hc0⟩:=hs.row1 (i:=0) rfl;subst hA0;simp only[Nat.add_zero] at hc0;clear hs;go_enter func147,ntmps147;go_wp2;refine wp_loop_rounds 2 ?_;rw[rounds_succ];go_wp2;rw[rounds_succ];go_wp2;go_ret;exact⟨rfl,ex⟩
def usesL:List Int:=[1,3,1,1,1,1,5,13,9,13,12,4,24,32,65,5,1,128,0,0]
theorem zt2 (w:World):Calls prog 112 #[] w fun e w'=>e=.returned (.agg #[.int .i64 1,.int .i64 3,.int .i64 1,.int .i64 1,.int .i64 1,.int .i64 1,.int .i64 5,.int .i64 13,.int .i64 9,.int .i64 13,.int .i64 12,.int .i64 4,.int .i64 24,.int .i64 32,.int .i64 65,.int .i64 5,.int .i64 1,.int .i64 128,zI,zI])∧Ext w w':=by go_enter func112,ntmps112;go_wp2_with fail;go_at_call 147;refine(zrQ _ _ (Sl.alloc' sg rfl (by simp))).mono ?_;rintro e w' ⟨rfl,hx⟩;have hxx:Ext (w.alloc (.cells #[zI,zI,zI,zI,zI,zI,zI,zI,zI,zI,zI,zI,zI,zI,zI,zI,zI,zI,zI,zI] 192)) w':=Ext.trans ex hx;obtain⟨y,rfl⟩:=hxx.get;clear hx hxx;go_wp2_with fail;go_at_call 147;refine(bits_01 _ _ (Sl.alloc' sg rfl (by simp))).mono ?_;rintro e w' ⟨rfl,hx⟩;have hxx:Ext (w.alloc (.cells #[zI,zI,zI,zI,zI,zI,zI,zI,zI,zI,zI,zI,zI,zI,zI,zI,zI,zI,zI,zI] 192)) w':=Ext.trans ex hx;obtain⟨y,rfl⟩:=hxx.get;clear hx hxx;go_wp2_with fail;go_at_call 147;refine(zrQ _ _ (Sl.alloc' sg rfl (by simp))).mono ?_;rintro e w' ⟨rfl,hx⟩;have hxx:Ext (w.alloc (.cells #[zI,zI,zI,zI,zI,zI,zI,zI,zI,zI,zI,zI,zI,zI,zI,zI,zI,zI,zI,zI] 192)) w':=Ext.trans ex hx;obtain⟨y,rfl⟩:=hxx.get;clear hx hxx;go_wp2_with fail;go_at_call 147;refine(zrQ _ _ (Sl.alloc' sg rfl (by simp))).mono ?_;rintro e w' ⟨rfl,hx⟩;have hxx:Ext (w.alloc (.cells #[zI,zI,zI,zI,zI,zI,zI,zI,zI,zI,zI,zI,zI,zI,zI,zI,zI,zI,zI,zI] 192)) w':=Ext.trans ex hx;obtain⟨y,rfl⟩:=hxx.get;clear hx hxx;go_wp2_with fail;go_at_call 147;refine(zrQ _ _ (Sl.alloc' sg rfl (by simp))).mono ?_;rintro e w' ⟨rfl,hx⟩;have hxx:Ext (w.alloc (.cells #[zI,zI,zI,zI,zI,zI,zI,zI,zI,zI,zI,zI,zI,zI,zI,zI,zI,zI,zI,zI] 192)) w':=Ext.trans ex hx;obtain⟨y,rfl⟩:=hxx.get;clear hx hxx;go_wp2_with fail;go_at_call 147;refine(zrQ _ _ (Sl.alloc' sg rfl (by simp))).mono ?_;rintro e w' ⟨rfl,hx⟩;have hxx:Ext (w.alloc (.cells #[zI,zI,zI,zI,zI,zI,zI,zI,zI,zI,zI,zI,zI,zI,zI,zI,zI,zI,zI,zI] 192)) w':=Ext.trans ex hx;obtain⟨y,rfl⟩:=hxx.get;clear hx hxx;go_wp2_with fail;go_at_call 147;refine(zCZ _ _ (Sl.alloc' sg rfl (by simp))).mono ?_;rintro e w' ⟨rfl,hx⟩;have hxx:Ext (w.alloc (.cells #[zI,zI,zI,zI,zI,zI,zI,zI,zI,zI,zI,zI,zI,zI,zI,zI,zI,zI,zI,zI] 192)) w':=Ext.trans ex hx;obtain⟨y,rfl⟩:=hxx.get;clear hx hxx;go_wp2_with fail;go_at_call 147;refine(zzN _ _ (Sl.alloc' sg rfl (by simp))).mono ?_;rintro e w' ⟨rfl,hx⟩;have hxx:Ext (w.alloc (.cells #[zI,zI,zI,zI,zI,zI,zI,zI,zI,zI,zI,zI,zI,zI,zI,zI,zI,zI,zI,zI] 192)) w':=Ext.trans ex hx;obtain⟨y,rfl⟩:=hxx.get;clear hx hxx;go_wp2_with fail;go_at_call 147;refine(bits_03 _ _ (Sl.alloc' sg rfl (by simp))).mono ?_;rintro e w' ⟨rfl,hx⟩;have hxx:Ext (w.alloc (.cells #[zI,zI,zI,zI,zI,zI,zI,zI,zI,zI,zI,zI,zI,zI,zI,zI,zI,zI,zI,zI] 192)) w':=Ext.trans ex hx;obtain⟨y,rfl⟩:=hxx.get;clear hx hxx;go_wp2_with fail;go_at_call 147;refine(zzN _ _ (Sl.alloc' sg rfl (by simp))).mono ?_;rintro e w' ⟨rfl,hx⟩;have hxx:Ext (w.alloc (.cells #[zI,zI,zI,zI,zI,zI,zI,zI,zI,zI,zI,zI,zI,zI,zI,zI,zI,zI,zI,zI] 192)) w':=Ext.trans ex hx;obtain⟨y,rfl⟩:=hxx.get;clear hx hxx;go_wp2_with fail;go_at_call 147;refine(bits_23 _ _ (Sl.alloc' sg rfl (by simp))).mono ?_;rintro e w' ⟨rfl,hx⟩;have hxx:Ext (w.alloc (.cells #[zI,zI,zI,zI,zI,zI,zI,zI,zI,zI,zI,zI,zI,zI,zI,zI,zI,zI,zI,zI] 192)) w':=Ext.trans ex hx;obtain⟨y,rfl⟩:=hxx.get;clear hx hxx;go_wp2_with fail;go_at_call 147;refine(bits_2 _ _ (Sl.alloc' sg rfl (by simp))).mono ?_;rintro e w' ⟨rfl,hx⟩;have hxx:Ext (w.alloc (.cells #[zI,zI,zI,zI,zI,zI,zI,zI,zI,zI,zI,zI,zI,zI,zI,zI,zI,zI,zI,zI] 192)) w':=Ext.trans ex hx;obtain⟨y,rfl⟩:=hxx.get;clear hx hxx;go_wp2_with fail;go_at_call 147;refine(bits_34 _ _ (Sl.alloc' sg rfl (by simp))).mono ?_;rintro e w' ⟨rfl,hx⟩;have hxx:Ext (w.alloc (.cells #[zI,zI,zI,zI,zI,zI,zI,zI,zI,zI,zI,zI,zI,zI,zI,zI,zI,zI,zI,zI] 192)) w':=Ext.trans ex hx;obtain⟨y,rfl⟩:=hxx.get;clear hx hxx;go_wp2_with fail;go_at_call 147;refine(bits_5 _ _ (Sl.alloc' sg rfl (by simp))).mono ?_;rintro e w' ⟨rfl,hx⟩;have hxx:Ext (w.alloc (.cells #[zI,zI,zI,zI,zI,zI,zI,zI,zI,zI,zI,zI,zI,zI,zI,zI,zI,zI,zI,zI] 192)) w':=Ext.trans ex hx;obtain⟨y,rfl⟩:=hxx.get;clear hx hxx;go_wp2_with fail;go_at_call 147;refine(bits_06 _ _ (Sl.alloc' sg rfl (by simp))).mono ?_;rintro e w' ⟨rfl,hx⟩;have hxx:Ext (w.alloc (.cells #[zI,zI,zI,zI,zI,zI,zI,zI,zI,zI,zI,zI,zI,zI,zI,zI,zI,zI,zI,zI] 192)) w':=Ext.trans ex hx;obtain⟨y,rfl⟩:=hxx.get;clear hx hxx;go_wp2_with fail;go_at_call 147;refine(zCZ _ _ (Sl.alloc' sg rfl (by simp))).mono ?_;rintro e w' ⟨rfl,hx⟩;have hxx:Ext (w.alloc (.cells #[zI,zI,zI,zI,zI,zI,zI,zI,zI,zI,zI,zI,zI,zI,zI,zI,zI,zI,zI,zI] 192)) w':=Ext.trans ex hx;obtain⟨y,rfl⟩:=hxx.get;clear hx hxx;go_wp2_with fail;go_at_call 147;refine(zrQ _ _ (Sl.alloc' sg rfl (by simp))).mono ?_;rintro e w' ⟨rfl,hx⟩;have hxx:Ext (w.alloc (.cells #[zI,zI,zI,zI,zI,zI,zI,zI,zI,zI,zI,zI,zI,zI,zI,zI,zI,zI,zI,zI] 192)) w':=Ext.trans ex hx;obtain⟨y,rfl⟩:=hxx.get;clear hx hxx;go_wp2_with fail;go_at_call 147;refine(bits_7 _ _ (Sl.alloc' sg rfl (by simp))).mono ?_;rintro e w' ⟨rfl,hx⟩;have hxx:Ext (w.alloc (.cells #[zI,zI,zI,zI,zI,zI,zI,zI,zI,zI,zI,zI,zI,zI,zI,zI,zI,zI,zI,zI] 192)) w':=Ext.trans ex hx;obtain⟨y,rfl⟩:=hxx.get;clear hx hxx;go_wp2_with (first|(refine zah rfl 192 _ rfl [(0,.int .i64 1),(1,.int .i64 3),(2,.int .i64 1),(3,.int .i64 1),(4,.int .i64 1),(5,.int .i64 1),(6,.int .i64 5),(7,.int .i64 13),(8,.int .i64 9),(9,.int .i64 13),(10,.int .i64 12),(11,.int .i64 4),(12,.int .i64 24),(13,.int .i64 32),(14,.int .i64 65),(15,.int .i64 5),(16,.int .i64 1),(17,.int .i64 128)] rfl #[.int .i64 1,.int .i64 3,.int .i64 1,.int .i64 1,.int .i64 1,.int .i64 1,.int .i64 5,.int .i64 13,.int .i64 9,.int .i64 13,.int .i64 12,.int .i64 4,.int .i64 24,.int .i64 32,.int .i64 65,.int .i64 5,.int .i64 1,.int .i64 128,zI,zI] kr ?_)|refine ziv rfl 192 (.tmp 0) (.tmp 37) rfl rfl rfl [.int .i64 1,.int .i64 3,.int .i64 1,.int .i64 1,.int .i64 1,.int .i64 1,.int .i64 5,.int .i64 13,.int .i64 9,.int .i64 13,.int .i64 12,.int .i64 4,.int .i64 24,.int .i64 32,.int .i64 65,.int .i64 5,.int .i64 1,.int .i64 128,zI,zI] rfl rfl kr (by simp[Value.oneCell']) ?_);refine bodyPost_ret (v:=.agg #[.int .i64 1,.int .i64 3,.int .i64 1,.int .i64 1,.int .i64 1,.int .i64 1,.int .i64 5,.int .i64 13,.int .i64 9,.int .i64 13,.int .i64 12,.int .i64 4,.int .i64 24,.int .i64 32,.int .i64 65,.int .i64 5,.int .i64 1,.int .i64 128,zI,zI]) ?_ rfl ⟨rfl,ex⟩;simp[results,results112,Act.put,asAddr];rw[run_loadVar_mid _ _ _ _ [.int .i64 1,.int .i64 3,.int .i64 1,.int .i64 1,.int .i64 1,.int .i64 1,.int .i64 5,.int .i64 13,.int .i64 9,.int .i64 13,.int .i64 12,.int .i64 4,.int .i64 24,.int .i64 32,.int .i64 65,.int .i64 5,.int .i64 1,.int .i64 128,zI,zI] _ (za4 (zag _ rfl _ 192) ex) underlying192 rfl kr]
