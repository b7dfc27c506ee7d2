import Derived.Test.YtnpdghjpcnjokaaGreatGedit
import Derived.Test.YtnpdghjpcnjokaaGreatEqs
set_option maxHeartbeats 6400000
set_option maxRecDepth 100000
namespace Go.Proofs.YtnpdghjpcnjokaaGreat
open Go.RowKit Tryz

structure SameE (a b : Edit) : Prop where
 kind:a.kind=b.kind
 number:a.number=b.number
 ch:a.ch=b.ch
 prio:a.prio=b.prio
 key:a.key=b.key
 cue:a.cue=b.cue
 pn:a.pn=b.pn
 hues:a.hues.l=b.hues.l
 gn:a.gn=b.gn
 chans:a.chans.l=b.chans.l
 sn:a.sub.number=b.sub.number
 sp:a.sub.prio=b.sub.prio
 si:a.sub.inh=b.sub.inh
 sg:a.sub.gains.l=b.sub.gains.l
 xn:a.eff.number=b.eff.number
 xa:a.eff.attr=b.eff.attr
 xw:a.eff.wave.l=b.eff.wave.l
 xp:a.eff.period=b.eff.period
 xs:a.eff.spread=b.eff.spread
 xz:a.eff.size=b.eff.size
 fix:a.fix=b.fix
open Classical in
noncomputable def sameE (a b:Edit):Bool:=decide (SameE a b)
theorem zb1 {a b:Edit}(h:¬SameE a b):false=sameE a b:=by unfold sameE;symm;rw[decide_eq_false_iff_not];exact h
theorem zwJ {a b:Edit}(h:a.fix=b.fix→SameE a b):decide (a.fix=b.fix)=sameE a b:=by unfold sameE;rw[decide_eq_decide];exact⟨h,fun h=>h.fix⟩
def EffAt (w:World) (n:Nat) (x:Eff):Prop:=w.cell? ⟨n,0,none⟩=some (.int .i64 x.number)∧w.cell? ⟨n,1,none⟩=some (.int .i64 x.attr)∧w.cell? ⟨n,2,none⟩=some (.slice x.wave.at_ x.wave.l.length x.wave.cap)∧w.cell? ⟨n,3,none⟩=some (.int .i64 x.period)∧w.cell? ⟨n,4,none⟩=some (.int .i64 x.spread)∧w.cell? ⟨n,5,none⟩=some (.int .i64 x.size)
def SubAt (w:World) (n:Nat) (s:Sub):Prop:=w.cell? ⟨n,0,none⟩=some (.int .i64 s.number)∧w.cell? ⟨n,1,none⟩=some (.int .i64 s.prio)∧w.cell? ⟨n,2,none⟩=some (.bool s.inh)∧w.cell? ⟨n,3,none⟩=some (.slice s.gains.at_ s.gains.l.length s.gains.cap)

theorem zzK (a b:Edit)(w:World)(ha:zeT w a)(hb:zeT w b):Calls prog 117 #[.agg (editR a).toArray,.agg (editR b).toArray] w fun r w'=>r=.returned (.bool (sameE a b))∧Ext w w':=by
 have HA:=zh ha;have HB:=zh hb;clear ha hb;go_enter func117,ntmps117
 go_upto_region 1 with fail
 go_cut [5,6] (fun s5 s6 wx=> ∃(n5 n6:Nat),s5=.pointer (some ⟨n5,0,none⟩)∧s6=.pointer (some ⟨n6,0,none⟩)∧Ext ((w.alloc (.cells (editR a).toArray 97)).alloc (.cells (editR b).toArray 97)) wx∧EffAt wx n5 a.eff∧EffAt wx n6 b.eff)
 case first =>
  go_region
  all_goals
   go_wp2_with fail;go_meet;exact⟨_,_,rfl,rfl,ex,⟨by simp[go_sem],by simp[go_sem],by simp[go_sem],by simp[go_sem],by simp[go_sem],by simp[go_sem]⟩,⟨by simp[go_sem],by simp[go_sem],by simp[go_sem],by simp[go_sem],by simp[go_sem],by simp[go_sem]⟩⟩
 case rest =>
  obtain⟨n5,n6,rfl,rfl,hx,⟨x0,x1,x2,x3,x4,x5⟩,⟨y0,y1,y2,y3,y4,y5⟩⟩:=hcut;have q1:∀i,i<35→wc.cell? ⟨w.heap.size,i,none⟩=(editR a)[i]?:=fun i hi=>by rw[List.getElem?_eq_getElem (by simpa [zgq] using hi)];have h1:=za4 (za4 (zag w rfl (editR a) 97) (Ext.alloc (Ext.refl _) _)) hx;have:=h1 i _ (List.getElem?_eq_getElem (by simpa [zgq] using hi));simpa using this
  have q2:∀i,i<35→wc.cell? ⟨w.heap.size+1,i,none⟩=(editR b)[i]?:=fun i hi=>by rw[List.getElem?_eq_getElem (by simpa [zgq] using hi)];have h1:=za4 (zag (w.alloc (.cells (editR a).toArray 97)) (b:=w.heap.size+1) (by simp) (editR b) 97) hx;have:=h1 i _ (List.getElem?_eq_getElem (by simpa [zgq] using hi));simpa using this
  have hxw:Ext w wc:=Ext.trans ex hx;clear hx;obtain⟨w1,hw1⟩:∃w1,w1=wc:=⟨_,rfl⟩
  subst hw1
  go_upto_region 2 with fail
  go_cut [7,8] (fun s7 s8 wx=> ∃(n7 n8:Nat),s7=.pointer (some ⟨n7,0,none⟩)∧s8=.pointer (some ⟨n8,0,none⟩)∧Ext w1 wx∧SubAt wx n7 a.sub∧SubAt wx n8 b.sub)
  case first =>
   go_region
   all_goals
    go_wp2_with fail;go_meet;exact⟨_,_,rfl,rfl,ex,⟨by simp[go_sem],by simp[go_sem],by simp[go_sem],by simp[go_sem]⟩,⟨by simp[go_sem],by simp[go_sem],by simp[go_sem],by simp[go_sem]⟩⟩
  case rest =>
   obtain⟨n7,n8,rfl,rfl,hx,⟨s0,s1,s2,s3⟩,⟨t0,t1,t2,t3⟩⟩:=hcut;have q1:∀i,i<35→wc.cell? ⟨w.heap.size,i,none⟩=(editR a)[i]?:=fun i hi=>by rw[←q1 i hi];have h:=q1 i hi;rw[List.getElem?_eq_getElem (by simpa [zgq] using hi)] at h;rw[h,hx.cell h]
   have q2:∀i,i<35→wc.cell? ⟨w.heap.size+1,i,none⟩=(editR b)[i]?:=fun i hi=>by rw[←q2 i hi];have h:=q2 i hi;rw[List.getElem?_eq_getElem (by simpa [zgq] using hi)] at h;rw[h,hx.cell h]
   replace x0:=hx.cell x0;replace x1:=hx.cell x1;replace x2:=hx.cell x2;replace x3:=hx.cell x3;replace x4:=hx.cell x4;replace x5:=hx.cell x5;replace y0:=hx.cell y0;replace y1:=hx.cell y1;replace y2:=hx.cell y2;replace y3:=hx.cell y3;replace y4:=hx.cell y4;replace y5:=hx.cell y5;replace hxw:=hxw.trans hx;clear hx;have c0:wc.cell? ⟨w.heap.size,0,none⟩=some (.int .i64 a.kind):=q1 0 dk;have d0:wc.cell? ⟨w.heap.size+1,0,none⟩=some (.int .i64 b.kind):=q2 0 dk;have c1:wc.cell? ⟨w.heap.size,1,none⟩=some (.int .i64 a.number):=q1 1 dk;have d1:wc.cell? ⟨w.heap.size+1,1,none⟩=some (.int .i64 b.number):=q2 1 dk;have c2:wc.cell? ⟨w.heap.size,2,none⟩=some (.int .i64 a.ch):=q1 2 dk;have d2:wc.cell? ⟨w.heap.size+1,2,none⟩=some (.int .i64 b.ch):=q2 2 dk;have c3:wc.cell? ⟨w.heap.size,3,none⟩=some (.int .i64 a.prio):=q1 3 dk;have d3:wc.cell? ⟨w.heap.size+1,3,none⟩=some (.int .i64 b.prio):=q2 3 dk;have c4:wc.cell? ⟨w.heap.size,4,none⟩=some (.string a.key):=q1 4 dk;have d4:wc.cell? ⟨w.heap.size+1,4,none⟩=some (.string b.key):=q2 4 dk;have c5:wc.cell? ⟨w.heap.size,5,none⟩=some (.string a.cue.number):=q1 5 dk;have d5:wc.cell? ⟨w.heap.size+1,5,none⟩=some (.string b.cue.number):=q2 5 dk;have c6:wc.cell? ⟨w.heap.size,6,none⟩=some (.string a.cue.label):=q1 6 dk;have d6:wc.cell? ⟨w.heap.size+1,6,none⟩=some (.string b.cue.label):=q2 6 dk;have c7:wc.cell? ⟨w.heap.size,7,none⟩=some (.slice a.cA a.cue.moves.length a.ck):=q1 7 dk;have d7:wc.cell? ⟨w.heap.size+1,7,none⟩=some (.slice b.cA b.cue.moves.length b.ck):=q2 7 dk;have c8:wc.cell? ⟨w.heap.size,8,none⟩=some (.slice a.cB a.cue.parts.length a.cm):=q1 8 dk;have d8:wc.cell? ⟨w.heap.size+1,8,none⟩=some (.slice b.cB b.cue.parts.length b.cm):=q2 8 dk;have c9:wc.cell? ⟨w.heap.size,9,none⟩=some (.bool a.cue.block):=q1 9 dk;have d9:wc.cell? ⟨w.heap.size+1,9,none⟩=some (.bool b.cue.block):=q2 9 dk;have c10:wc.cell? ⟨w.heap.size,10,none⟩=some (.bool a.cue.mark):=q1 10 dk;have d10:wc.cell? ⟨w.heap.size+1,10,none⟩=some (.bool b.cue.mark):=q2 10 dk;have c11:wc.cell? ⟨w.heap.size,11,none⟩=some (.int .i64 a.cue.follow):=q1 11 dk;have d11:wc.cell? ⟨w.heap.size+1,11,none⟩=some (.int .i64 b.cue.follow):=q2 11 dk;have c12:wc.cell? ⟨w.heap.size,12,none⟩=some (.string a.cue.link):=q1 12 dk;have d12:wc.cell? ⟨w.heap.size+1,12,none⟩=some (.string b.cue.link):=q2 12 dk;have c13:wc.cell? ⟨w.heap.size,13,none⟩=some (.int .i64 a.cue.loops):=q1 13 dk;have d13:wc.cell? ⟨w.heap.size+1,13,none⟩=some (.int .i64 b.cue.loops):=q2 13 dk;have c14:wc.cell? ⟨w.heap.size,14,none⟩=some (.int .i64 a.pn):=q1 14 dk;have d14:wc.cell? ⟨w.heap.size+1,14,none⟩=some (.int .i64 b.pn):=q2 14 dk;have c15:wc.cell? ⟨w.heap.size,15,none⟩=some (.slice a.hues.at_ a.hues.l.length a.hues.cap):=q1 15 dk;have d15:wc.cell? ⟨w.heap.size+1,15,none⟩=some (.slice b.hues.at_ b.hues.l.length b.hues.cap):=q2 15 dk;have c16:wc.cell? ⟨w.heap.size,16,none⟩=some (.int .i64 a.gn):=q1 16 dk;have d16:wc.cell? ⟨w.heap.size+1,16,none⟩=some (.int .i64 b.gn):=q2 16 dk;have c17:wc.cell? ⟨w.heap.size,17,none⟩=some (.slice a.chans.at_ a.chans.l.length a.chans.cap):=q1 17 dk;have d17:wc.cell? ⟨w.heap.size+1,17,none⟩=some (.slice b.chans.at_ b.chans.l.length b.chans.cap):=q2 17 dk;have c28:wc.cell? ⟨w.heap.size,28,none⟩=some (.int .i64 a.fix.ch):=q1 28 dk;have d28:wc.cell? ⟨w.heap.size+1,28,none⟩=some (.int .i64 b.fix.ch):=q2 28 dk;have c29:wc.cell? ⟨w.heap.size,29,none⟩=some (.int .i64 a.fix.part):=q1 29 dk;have d29:wc.cell? ⟨w.heap.size+1,29,none⟩=some (.int .i64 b.fix.part):=q2 29 dk;have c30:wc.cell? ⟨w.heap.size,30,none⟩=some (.string a.fix.profile):=q1 30 dk;have d30:wc.cell? ⟨w.heap.size+1,30,none⟩=some (.string b.fix.profile):=q2 30 dk;have c31:wc.cell? ⟨w.heap.size,31,none⟩=some (.int .i64 a.fix.univ):=q1 31 dk;have d31:wc.cell? ⟨w.heap.size+1,31,none⟩=some (.int .i64 b.fix.univ):=q2 31 dk;have c32:wc.cell? ⟨w.heap.size,32,none⟩=some (.int .i64 a.fix.addr):=q1 32 dk;have d32:wc.cell? ⟨w.heap.size+1,32,none⟩=some (.int .i64 b.fix.addr):=q2 32 dk;have c33:wc.cell? ⟨w.heap.size,33,none⟩=some (.int .i64 a.fix.phase):=q1 33 dk;have d33:wc.cell? ⟨w.heap.size+1,33,none⟩=some (.int .i64 b.fix.phase):=q2 33 dk;have c34:wc.cell? ⟨w.heap.size,34,none⟩=some (.string a.fix.cable):=q1 34 dk;have d34:wc.cell? ⟨w.heap.size+1,34,none⟩=some (.string b.fix.cable):=q2 34 dk;clear q1 q2
   rename ∀i,i<35→_=>q1'
   clear q1'
   rename ∀i,i<35→_=>q2'
   clear q2'
   go_upto_region 3 with fail
   refine zbf (l':=?l2) ?hl ?_
   case hl =>simp only[List.map_cons,List.map_nil,zf6,List.append_eq,List.cons_append,List.nil_append];rfl
   go_wp2_with (first
    |(go_at_call 166;refine zzg (zt7 a.cue a.cA a.ck a.cB a.cm b.cue b.cA b.ck b.cB b.cm _ (HA.out.cue.mono ex) (HB.out.cue.mono ex)) fun y=>?_)
    |(go_at_call 167;refine zzg (Equal_H a.hues.at_ a.hues.cap a.hues.l b.hues.at_ b.hues.cap b.hues.l _ (HA.out.hues.sl.mono ex) HA.out.hues.len (HB.out.hues.sl.mono ex) HB.out.hues.len) fun y=>?_)
    |(go_at_call 26;refine zzg (zsN a.chans.at_ a.chans.cap a.chans.l b.chans.at_ b.chans.cap b.chans.l _ (HA.out.chans.sl.mono ex) HA.out.chans.len (HB.out.chans.sl.mono ex) HB.out.chans.len) fun y=>?_)
    |(go_at_call 168;refine zzg (Equal_G a.sub.gains.at_ a.sub.gains.cap a.sub.gains.l b.sub.gains.at_ b.sub.gains.cap b.sub.gains.l _ (HA.out.gains.sl.mono ex) HA.out.gains.len (HB.out.gains.sl.mono ex) HB.out.gains.len) fun y=>?_)
    |(go_at_call 169;refine zzg (Equal_O a.eff.wave.at_ a.eff.wave.cap a.eff.wave.l b.eff.wave.at_ b.eff.wave.cap b.eff.wave.l _ (HA.out.wave.sl.mono ex) HA.out.wave.len (HB.out.wave.sl.mono ex) HB.out.wave.len) fun y=>?_))
   all_goals
    go_ret;refine⟨ret_b ?_,ex⟩
    first
     |exact zb1 fun h=>‹¬a.kind=b.kind› h.kind
     |exact zb1 fun h=>‹¬a.number=b.number› h.number
     |exact zb1 fun h=>‹¬a.ch=b.ch› h.ch
     |exact zb1 fun h=>‹¬a.prio=b.prio› h.prio
     |exact zb1 fun h=>‹¬a.key.toList=b.key.toList› (by rw[h.key])
     |exact zb1 fun h=>‹¬a.cue=b.cue› h.cue
     |exact zb1 fun h=>‹¬a.pn=b.pn› h.pn
     |exact zb1 fun h=>‹¬a.hues.l=b.hues.l› h.hues
     |exact zb1 fun h=>‹¬a.gn=b.gn› h.gn
     |exact zb1 fun h=>‹¬a.chans.l=b.chans.l› h.chans
     |exact zb1 fun h=>‹¬a.sub.number=b.sub.number› h.sn
     |exact zb1 fun h=>‹¬a.sub.prio=b.sub.prio› h.sp
     |exact zb1 fun h=>‹¬a.sub.inh=b.sub.inh› h.si
     |exact zb1 fun h=>‹¬a.sub.gains.l=b.sub.gains.l› h.sg
     |exact zb1 fun h=>‹¬a.eff.number=b.eff.number› h.xn
     |exact zb1 fun h=>‹¬a.eff.attr=b.eff.attr› h.xa
     |exact zb1 fun h=>‹¬a.eff.wave.l=b.eff.wave.l› h.xw
     |exact zb1 fun h=>‹¬a.eff.period=b.eff.period› h.xp
     |exact zb1 fun h=>‹¬a.eff.spread=b.eff.spread› h.xs
     |exact zb1 fun h=>‹¬a.eff.size=b.eff.size› h.xz
     |exact zwJ fun hf=>⟨‹a.kind=b.kind›,‹a.number=b.number›,‹a.ch=b.ch›,‹a.prio=b.prio›,zdL ‹a.key.toList=b.key.toList›,‹a.cue=b.cue›,‹a.pn=b.pn›,‹a.hues.l=b.hues.l›,‹a.gn=b.gn›,‹a.chans.l=b.chans.l›,‹a.sub.number=b.sub.number›,‹a.sub.prio=b.sub.prio›,‹a.sub.inh=b.sub.inh›,‹a.sub.gains.l=b.sub.gains.l›,‹a.eff.number=b.eff.number›,‹a.eff.attr=b.eff.attr›,‹a.eff.wave.l=b.eff.wave.l›,‹a.eff.period=b.eff.period›,‹a.eff.spread=b.eff.spread›,‹a.eff.size=b.eff.size›,hf⟩

structure SameA (a b : Acn) : Prop where
 at_:a.at_=b.at_
 kind:a.kind=b.kind
 target:a.target=b.target
 cue:a.cue=b.cue
 level:a.level=b.level
 time:a.time=b.time
 entries:a.entries.l=b.entries.l
 params:a.params.l=b.params.l
 chans:a.chans.l=b.chans.l
 edit:SameE a.edit b.edit
open Classical in
noncomputable def sameA (a b:Acn):Bool:=decide (SameA a b)
theorem zcd {a b:Acn}(h:¬SameA a b):false=sameA a b:=by unfold sameA;symm;rw[decide_eq_false_iff_not];exact h
theorem zwI {a b:Acn}(h:SameE a.edit b.edit→SameA a b):sameE a.edit b.edit=sameA a b:=by unfold sameA sameE;rw[decide_eq_decide];exact⟨h,fun h=>h.edit⟩
theorem SameE.refl (a:Edit):SameE a a:=⟨rfl,rfl,rfl,rfl,rfl,rfl,rfl,rfl,rfl,rfl,rfl,rfl,rfl,rfl,rfl,rfl,rfl,rfl,rfl,rfl,rfl⟩
theorem SameA.refl (a:Acn):SameA a a:=⟨rfl,rfl,rfl,rfl,rfl,rfl,rfl,rfl,rfl,SameE.refl _⟩
open Classical in
theorem zeb (a:Acn):sameA a a=true:=by unfold sameA;exact decide_eq_true (SameA.refl a)
open Classical in
theorem zcN (a b:Acn)(w:World)(ha:AcnAt w a)(hb:AcnAt w b):Calls prog 86 #[.agg (acnR a).toArray,.agg (acnR b).toArray] w fun r w'=>r=.returned (.bool (sameA a b))∧Ext w w':=by
 have HA:=zh ha;have HB:=zh hb;clear ha hb;have HR1:=zh (za4 (zag w rfl (acnR a) 99) ((Ext.refl _).alloc (.cells (acnR b).toArray 99)));have HR2:=zh (zag (w.alloc (.cells (acnR a).toArray 99)) (b:=w.heap.size+1) (by simp) (acnR b) 99);go_enter func86,ntmps86
 go_upto_region 1 with fail
 refine zbf (l':=?l2) ?hl ?_
 case hl =>simp only[List.map_cons,List.map_nil,zf6,List.append_eq,List.cons_append,List.nil_append];rfl
 go_wp2_with (first
  |(refine wpList_load_row rfl 97 (.tmp 67) rfl w.heap.size 9 rfl (editR a.edit) _ (za4 (zbq HR1.out rfl) ex) underlying97 rfl kr ?_)
  |(refine wpList_load_row rfl 97 (.tmp 69) rfl (w.heap.size+1) 9 rfl (editR b.edit) _ (za4 (zbq HR2.out rfl) ex) underlying97 rfl kr ?_)
  |(go_at_call 115;refine zzg (Equal_E a.entries.at_ a.entries.cap a.entries.l b.entries.at_ b.entries.cap b.entries.l _ (HA.out.entries.sl.mono ex) HA.out.entries.len (HB.out.entries.sl.mono ex) HB.out.entries.len) fun y=>?_)
  |(go_at_call 116;refine zzg (Equal_P a.params.at_ a.params.cap a.params.l b.params.at_ b.params.cap b.params.l _ (HA.out.params.sl.mono ex) HA.out.params.len (HB.out.params.sl.mono ex) HB.out.params.len) fun y=>?_)
  |(go_at_call 26;refine zzg (zsN a.chans.at_ a.chans.cap a.chans.l b.chans.at_ b.chans.cap b.chans.l _ (HA.out.chans.sl.mono ex) HA.out.chans.len (HB.out.chans.sl.mono ex) HB.out.chans.len) fun y=>?_)
  |(go_at_call 117;refine zzg (zzK a.edit b.edit _ (HA.out.edit.mono ex) (HB.out.edit.mono ex)) fun y=>?_))
 all_goals
  go_ret;refine⟨ret_b ?_,ex⟩
  first
   |exact zcd fun h=>‹¬a.at_=b.at_› h.at_
   |exact zcd fun h=>‹¬a.kind=b.kind› h.kind
   |exact zcd fun h=>‹¬a.target=b.target› h.target
   |exact zcd fun h=>‹¬a.cue.toList=b.cue.toList› (by rw[h.cue])
   |exact zcd fun h=>‹¬a.level=b.level› h.level
   |exact zcd fun h=>‹¬a.time=b.time› h.time
   |exact zcd fun h=>‹¬a.entries.l=b.entries.l› h.entries
   |exact zcd fun h=>‹¬a.params.l=b.params.l› h.params
   |exact zcd fun h=>‹¬a.chans.l=b.chans.l› h.chans
   |exact zwI fun hf=>⟨‹a.at_=b.at_›,‹a.kind=b.kind›,‹a.target=b.target›,zdL ‹a.cue.toList=b.cue.toList›,‹a.level=b.level›,‹a.time=b.time›,‹a.entries.l=b.entries.l›,‹a.params.l=b.params.l›,‹a.chans.l=b.chans.l›,hf⟩
