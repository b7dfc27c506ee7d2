import Derived.Test.YtnpdghjpcnjokaaGreatGrpl
import Derived.Test.YtnpdghjpcnjokaaGreatGwl
set_option maxHeartbeats 3200000
set_option maxRecDepth 100000
namespace Go.Proofs.YtnpdghjpcnjokaaGreat
open Go.RowKit Go.Proofs.Tryz

def recR (r:Rec):List Value:=.int .i64 r.term::acnR r.act
theorem ziQ (r:Rec):(recR r).length=45:=rfl
@[go_sem] theorem recR_0 (r : Rec) : (recR r)[0]? = some (.int .i64 r.term):=rfl
@[go_sem] theorem recR_g0 (r : Rec) (h : 0 < (recR r).length) : (recR r)[0] = .int .i64 r.term:=rfl
@[go_sem] theorem recR_1 (r : Rec) : (recR r)[1]? = some (.int .i64 r.act.at_):=rfl
@[go_sem] theorem recR_g1 (r : Rec) (h : 1 < (recR r).length) : (recR r)[1] = .int .i64 r.act.at_:=rfl
theorem zcS (r:Rec):∀u∈recR r,u.oneCell'=true:=fun u hu=>by
  rcases List.mem_cons.1 hu with rfl|hu
  · rfl
  · exact zbV r.act u hu
theorem zij (l:List Rec):∀r∈l.map recR,∀u∈r,u.oneCell'=true:=by intro r hr;obtain⟨a,_,rfl⟩:=List.mem_map.1 hr;exact zcS a
def acnZ:Acn:=⟨0,0,0,⟨#[]⟩,0,0,⟨[],none,0⟩,⟨[],none,0⟩,⟨[],none,0⟩,zdP⟩
structure za3 (w : World) (A : Option Addr) (c : Nat) (l : List Rec) : Prop where
  sl:Sl w A 45 (l.map recR)
  le:l.length≤c
  cap:c≤maxLen
  el:∀r∈l,AcnAt w r.act
theorem za3.mono {w w':World}{A:Option Addr}{c:Nat}{l:List Rec}(h:za3 w A c l)(hx:Ext w w'):za3 w' A c l:=⟨h.sl.mono hx,h.le,h.cap,fun r hr=>(h.el r hr).mono hx⟩
theorem za3.nil (w:World):za3 w none 0 []:=⟨Sl.nil _ _ _,Nat.le_refl _,Nat.zero_le _,by simp⟩
theorem za3.len {w:World}{A:Option Addr}{c:Nat}{l:List Rec}(h:za3 w A c l):l.length≤9223372036854775807:=by have h1:=h.le;have h2:=h.cap;unfold maxLen at h2;omega
theorem zEL {w:World}{b o:Nat}{r:Rec}(h:w.rangeAt b o (recR r)):w.rangeAt b (o+1) (acnR r.act):=fun j v hv=>by have:=h (j+1) v hv;rwa [←Nat.add_assoc,Nat.add_right_comm] at this
structure RecAt (w : World) (b o : Nat) (r : Rec) : Prop where
  row:rowQ w b o 45=some (recR r)
  act:rowQ w b (o+1) 44=some (acnR r.act)
  term:w.cell? ⟨b,o,none⟩=some (.int .i64 r.term)
  at_:w.cell? ⟨b,o+1,none⟩=some (.int .i64 r.act.at_)
theorem RecAt.of {w:World}{b o:Nat}{r:Rec}(h:w.rangeAt b o (recR r)):RecAt w b o r:=⟨zcg h rfl,zcg (zEL h) rfl,h 0 _ rfl,h 1 _ rfl⟩
theorem za3.get {w:World}{A:Option Addr}{c:Nat}{l:List Rec}(h:za3 w A c l){k:Nat}{r:Rec}(hk:l[k]?=some r):∃b o,A=some ⟨b,o,none⟩∧RecAt w b (o+k * 45) r∧AcnAt w r.act:=by obtain⟨b,o,hA,hr⟩:=h.sl.range (i:=k) (row:=recR r) (by rw[List.getElem?_map,hk];rfl);exact⟨b,o,hA,RecAt.of hr,h.el r (List.mem_of_getElem? hk)⟩

def loadR (v:Value):Sem Value:=Instr.loadAt 180 v
def loadR' (v:Value):Sem Value:=Instr.loadAt 180 v
@[go_sem ↓ high] theorem loadR_at (v : Value) : Instr.loadAt 180 v = loadR v:=rfl
@[go_sem] theorem loadR_run (w : World) (b o : Nat) : (loadR (.pointer (some ⟨b,o,none⟩))).run prog w = match rowQ w b o 45 with | some cs => .ok (.agg cs.toArray) w | none => (loadR' (.pointer (some ⟨b,o,none⟩))).run prog w:=by
  split
  · rename_i cs h
    obtain⟨h1,h2⟩:=zfr h;exact run_loadAt_mid w b o _ cs _ h1 underlying180 rfl (by rw[h2];kernel_rfl)
  · rfl
def loadQ (v:Value):Sem Value:=Instr.loadAt 187 v
def loadQ' (v:Value):Sem Value:=Instr.loadAt 187 v
@[go_sem ↓ high] theorem loadQ_at (v : Value) : Instr.loadAt 187 v = loadQ v:=rfl
@[go_sem] theorem loadQ_run (w : World) (b o : Nat) : (loadQ (.pointer (some ⟨b,o,none⟩))).run prog w = match rowQ w b o 45 with | some cs => .ok (.agg cs.toArray) w | none => (loadQ' (.pointer (some ⟨b,o,none⟩))).run prog w:=by
  split
  · rename_i cs h
    obtain⟨h1,h2⟩:=zfr h;exact run_loadAt_mid w b o _ cs _ h1 underlying187 rfl (by rw[h2];kernel_rfl)
  · rfl
@[go_sem] theorem rowQ_newR (w : World) (b : Nat) (r : Rec) (T : TypeId) (h : w.heap.size = b) : rowQ (w.alloc (.cells (recR r).toArray T)) b 0 45 = some (recR r):=zcg (zag w h (recR r) T) rfl
@[go_sem] theorem rowQ_newRA (w : World) (b : Nat) (r : Rec) (T : TypeId) (h : w.heap.size = b) : rowQ (w.alloc (.cells (recR r).toArray T)) b 1 44 = some (acnR r.act):=zcg (zEL (zag w h (recR r) T)) rfl
@[go_sem] theorem rowQ_newA (w : World) (b : Nat) (a : Acn) (T : TypeId) (h : w.heap.size = b) : rowQ (w.alloc (.cells (acnR a).toArray T)) b 0 44 = some (acnR a):=zcg (zag w h (acnR a) T) rfl

def partA (A:Option Addr) (l m s:Nat):Option Addr:=if m=l then A else A.map (·.add (l * s))
@[go_sem ↓ high] theorem sliced_part (A : Option Addr) (l h m s : Nat) : sliced A l h m s = .slice (partA A l m s) (h - l) (m - l):=rfl
@[go_sem] theorem zb2 (A : Option Addr) (m s : Nat) : partA A 0 m s = A:=by
  unfold partA;split
  · rfl
  · cases A with
    |none=>rfl
    |some a=>simp[Addr.add]
theorem Sl.partA {w:World}{A:Option Addr}{size:Nat}{rows:List (List Value)}(h:Sl w A size rows){m:Nat}(hm:rows.length≤m)(l k:Nat):Sl w (YtnpdghjpcnjokaaGreat.partA A l m size) size ((rows.take k).drop l):=by
  by_cases he:rows.length≤l
  · rw [List.drop_eq_nil_of_le (by rw [List.length_take];omega)]
    exact Sl.nil _ _ _
  · unfold YtnpdghjpcnjokaaGreat.partA
    rw[if_neg om];cases A with
    |none=>obtain⟨_,b,o,hb,_⟩:=h.at_ 0 _ (List.getElem?_eq_getElem om);cases hb
    |some a=>
      obtain⟨b,o,t⟩:=a;obtain⟨_,b',o',hb,_⟩:=h.at_ 0 _ (List.getElem?_eq_getElem om);injection hb with hb;injection hb with e1 e2 e3;subst e1 e2 e3;have h2:=Sl.dropped (h.front k) l
      have he:(⟨b,o,none⟩:Addr).add (l * size)=⟨b,o+l * size,none⟩:=by
        unfold Addr.add;split
        · rename_i h0;rw[h0];rfl
        · rfl
      show Sl w (some ((⟨b,o,none⟩:Addr).add (l * size))) size _;rw[he];exact h2
theorem za3.part {w:World}{A:Option Addr}{c:Nat}{l:List Rec}(h:za3 w A c l)(i k:Nat)(hk:k≤l.length)(n:Nat)(hn:k - i=n):za3 w (partA A i c 45) (c - i) ((l.take k).drop i)∧((l.take k).drop i).length=n:=by
  have h1:=h.le;have h2:=h.cap;have hl:((l.take k).drop i).length=n:=by rw[List.length_drop,List.length_take];omega
  refine⟨⟨?_,by omega,by omega,fun r hr=>h.el r (List.mem_of_mem_take (List.mem_of_mem_drop hr))⟩,hl⟩;rw[List.map_drop,List.map_take];exact h.sl.partA (by rw[List.length_map];exact h1) i k

section
variable {P:Program} {ops:Array Oper} {rest:List Oper} {op:Oper} {a:Act} {Q:Exit→Act→World→Prop}
theorem zoc (hgd:op.guard=none) (ty:TypeId) (x y:Operand) (ho:op.op=.store ty x y) {V W:World} {zs:Array Value} {T:TypeId} {n:Nat} (hext:Ext (V.alloc (.cells zs T)) W) (hx:a.eval x=.pointer (some ⟨n,0,none⟩)) (hn:V.heap.size=n)
    (cells:List Value) (hy:a.eval y=.agg cells.toArray) (hz:zs.size=cells.length) (hi:(P.info? ty).map (·.size)=some cells.length) (h1:∀u∈cells,u.oneCell'=true)
    (h:∀W',Ext (V.alloc (.cells cells.toArray T)) W'→wpList P ops Q rest (a.put op.dst undef) W'):wpList P ops Q (op::rest) a W:=by
  obtain⟨y',rfl⟩:=hext.get;exact ziv hgd ty x y ho hx hn cells hy hz hi h1 (h _ ((Ext.refl _).xt y'))
end

def za5 (a lo hi:Int):Bool:=decide (lo≤a∧a≤hi)
theorem za8 {a lo hi:Int}(h:za5 a lo hi=true):lo≤a∧a≤hi:=of_decide_eq_true h
theorem zaF {a lo hi:Int}(h:za5 a lo hi=false):a<lo∨hi<a:=by have:=of_decide_eq_false h;omega
theorem ziS (a lo hi:Int)(w:World):Calls prog 77 #[a,lo,hi] w fun e w'=>e=.returned (.bool (za5 a lo hi))∧w=w':=by
  by_cases h1:lo≤a
  · by_cases h2 : a ≤ hi
    · have HV:=zh (show true = za5 a lo hi from (decide_eq_true ⟨h1,h2⟩).symm)
      go_enter func77,ntmps77;go_wp2;go_ret;exact⟨ret_b HV.out,rfl⟩
    · have HV:=zh (show false = za5 a lo hi from (decide_eq_false om).symm)
      go_enter func77,ntmps77;go_wp2;go_ret;exact⟨ret_b HV.out,rfl⟩
  · have HV:=zh (show false = za5 a lo hi from (decide_eq_false om).symm)
    go_enter func77,ntmps77;go_wp2;go_ret;exact⟨ret_b HV.out,rfl⟩
theorem zyy {id term:Int}(h1:1≤id)(h2:id≤2)(h:1≤term):((term - id).tmod 2==0)=ownB id term:=by
  unfold ownB;by_cases hn:0≤term - id
  · rw [Int.tmod_eq_emod_of_nonneg hn,Bool.eq_iff_iff,beq_iff_eq,decide_eq_true_eq]
    omega
  · obtain rfl : id = 2:=by omega
    obtain rfl:term=1:=by omega
    decide
theorem zdV (id term:Int)(w:World)(h1:1≤id)(h2:id≤2)(h3:0≤term)(h4:term≤1048576):Calls prog 79 #[id,term] w fun e w'=>e=.returned (.bool (ownB id term))∧w=w':=by
  by_cases h:1≤term
  · go_enter func79,ntmps79
    go_wp2;go_ret;exact⟨ret_b (zyy h1 h2 h),rfl⟩
  · have HV:=zh (show false = ownB id term from (decide_eq_false om).symm)
    go_enter func79,ntmps79;go_wp2;go_ret;exact⟨ret_b HV.out,rfl⟩
def lastR (low:Int) (l:List Rec) (k:Nat):Rec:=match prv l k with|some r=>r|none=>⟨low,acnZ⟩
theorem ztZ {low high:Int}{q:Option Rec}{r:Rec}(h:za5 r.term 1 high=false):recS low high q r=2:=by have:=zaF h;unfold recS;rw[if_pos om]
theorem ztX {low high:Int}{q:Option Rec}{r:Rec}(h:za5 r.term 1 high=true)(he:acnE r.act≠0):recS low high q r=acnE r.act:=by have:=za8 h;unfold recS;rw[if_neg om,if_pos he]
theorem zEJ {low high:Int}{l:List Rec}{k:Nat}{r:Rec}(h:za5 r.term 1 high=true)(he:acnE r.act=0)(hl:r.term<(lastR low l k).term∨r.act.at_<(lastR low l k).act.at_):recS low high (prv l k) r=9:=by
  have h1:=za8 h;have h2:=(zt0 he).1;unfold recS;rw[if_neg om,if_neg (by simpa using he)];unfold lastR at hl;cases hp:prv l k with
  |none=>rw[hp] at hl;simp only[acnZ] at hl ⊢;rw[if_pos om]
  |some p=>rw[hp] at hl;simp only at hl ⊢;rw[if_pos hl]
theorem zEK {low high:Int}{l:List Rec}{k:Nat}{r:Rec}(h:za5 r.term 1 high=true)(he:acnE r.act=0)(h3:¬r.term<(lastR low l k).term)(h4:¬r.act.at_<(lastR low l k).act.at_):recS low high (prv l k) r=0:=by
  have h1:=za8 h;have h2:=(zt0 he).1;unfold recS;rw[if_neg om,if_neg (by simpa using he)];unfold lastR at h3 h4;cases hp:prv l k with
  |none=>rw[hp] at h3 h4;simp only at h3 h4 ⊢;rw[if_neg om]
  |some p=>rw[hp] at h3 h4;simp only at h3 h4 ⊢;rw[if_neg om]
theorem zBt {low:Int}{l:List Rec}{k:Nat}{r:Rec}(h:l[k]?=some r):lastR low l (k+1)=r:=by unfold lastR;rw[zbk,h]

theorem zbi (A:Option Addr)(c:Nat)(l:List Rec)(low high:Int)(w:World)(hs:za3 w A c l):
    Calls prog 109 #[.slice A l.length c,low,high] w fun e w'=>e=.returned (.int .i64 (recsE low high l))∧Ext w w':=by
  have hl:=hs.len;have HS:=zh hs;have HM:=zh (show recsE low high l=scan (recS low high) none l from rfl);clear hs;go_enter func109,ntmps109
  go_wp2_with (first
    |(refine zah rfl 180 _ rfl [(0,.int .i64 low)] rfl (recR ⟨low,acnZ⟩).toArray kr ?_)
    |(refine za7 rfl 180 (.tmp 7) (.tmp 12) rfl rfl sg (recR ⟨low,acnZ⟩) rfl rfl kr (zcS _) ?_))
  go_loopw [15] (fun i wr=> ∃k:Nat,k≤l.length∧i=.int .i64 k∧Ext (w.alloc (.cells (recR (lastR low l k)).toArray 180)) wr∧Hid (recsE low high l=scan (recS low high) (prv l k) (l.drop k))) (fun i _=>l.length - (intOf i).toNat)
  case atStart => exact ⟨0,by omega,rfl,Ext.refl _,HM⟩
  case round =>
    obtain⟨k,hk,rfl,hx,HE⟩:=hrel;obtain⟨q,hq⟩:∃q,lastR low l k=q:=⟨_,rfl⟩
    have HQ:=zh hq;rw[hq] at hx;clear hq;obtain⟨y,rfl⟩:=hx.get;clear hx HM;by_cases hlt:k<l.length
    · obtain ⟨m,hm⟩ : ∃ m,l[k]? = some m:=⟨_,List.getElem?_eq_getElem hlt⟩
      obtain⟨b,o,rfl,hrec,hat⟩:=HS.out.get hm;have HE2:=zh (HE.out.trans (zcu (recS low high) l k m hm));have hb0:(0:Int)≤(k:Int):=by omega
      have hb1:(k:Int)<(l.length:Int):=by omega
      have hr1:=hrec.row;have HA:=zh hat;have HMM:=zh hm;clear HE hrec hat hm;cases hwi:za5 m.term 1 high with
      |false=>
        have HV:=zh (show(2:Int)=recsE low high l by rw[HE2.out,ztZ hwi];rfl);have HW:=zh hwi;clear hwi
        go_wp2_with (first
          |(refine za7 rfl 180 (.tmp 9) (.tmp 18) rfl rfl sg (recR m) rfl rfl kr (zcS m) ?_)
          |(go_at_call 77;refine(ziS _ _ _ _).mono ?_;rintro e w' ⟨he,rfl⟩;rw[HW.out] at he;subst he))
        go_ret;exact⟨ret_i HV.out,ex⟩
      |true=>
        have HW:=zh hwi;clear hwi;by_cases he:acnE m.act=0
        · have hz : (acnE m.act != 0) = false:=by simpa using he
          have HZ:=zh he;clear he
          go_wp2_with (first
            |(refine za7 rfl 180 (.tmp 9) (.tmp 18) rfl rfl sg (recR m) rfl rfl kr (zcS m) ?_)
            |(go_at_call 77;refine(ziS _ _ _ _).mono ?_;rintro e w' ⟨he,rfl⟩;rw[HW.out] at he;subst he)
            |(go_at_call 85;refine zzg (zan m.act _ (HA.out.mono ex)) fun y=>?_)
            |(refine zoc rfl 180 (.tmp 7) (.tmp 44) rfl (V:=w) (zs:=(recR q).toArray) (T:=180) ex rfl rfl (recR m) rfl rfl kr (zcS m) ?_;intro W' hW';obtain⟨y3,rfl⟩:=hW'.get;clear hW'))
          all_goals first
            | (go_ret
               refine⟨ret_i ?_,ex⟩;have hS:=HE2.out;rw[zEJ (low:=low) (l:=l) (k:=k) HW.out HZ.out (by rw[HQ.out];first|assumption|exact Or.inl (by assumption))] at hS;rw[hS];rfl)
            | (go_light
               refine⟨⟨k+1,by omega,by go_num,?_,zh ?_⟩,by simp[intOf];omega⟩
               · rw[zBt HMM.out];exact ex
               · have hS:=HE2.out
                 have hge:q.term≤m.term∧q.act.at_≤m.act.at_:=by assumption
                 rw[zEK (low:=low) (l:=l) (k:=k) HW.out HZ.out (by rw[HQ.out];omega) (by rw[HQ.out];omega)] at hS;rw[hS];rfl)
        · have hz : (acnE m.act != 0) = true:=by simpa using he
          have HV:=zh (show acnE m.act=recsE low high l by rw[HE2.out,ztX HW.out he,if_pos he]);clear he
          go_wp2_with (first
            |(refine za7 rfl 180 (.tmp 9) (.tmp 18) rfl rfl sg (recR m) rfl rfl kr (zcS m) ?_)
            |(go_at_call 77;refine(ziS _ _ _ _).mono ?_;rintro e w' ⟨he,rfl⟩;rw[HW.out] at he;subst he)
            |(go_at_call 85;refine zzg (zan m.act _ (HA.out.mono ex)) fun y=>?_))
          go_ret;exact⟨ret_i HV.out,ex⟩
    · have HV:=zh (HE.out.trans (zbX (recS low high) l k _ om))
      go_wp2;go_ret;exact⟨ret_i HV.out.symm,ex⟩
