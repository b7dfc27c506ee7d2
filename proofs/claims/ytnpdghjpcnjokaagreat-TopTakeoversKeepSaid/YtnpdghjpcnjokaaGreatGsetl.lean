import Derived.Test.YtnpdghjpcnjokaaGreatRq4
import Derived.Test.YtnpdghjpcnjokaaGreatGstay
set_option maxHeartbeats 12800000
set_option maxRecDepth 100000
namespace Go.Proofs.YtnpdghjpcnjokaaGreat
open Go.RowKit

def zD2 (ps : Array (Nat × Value)) : Sem Value:=Instr.buildSlice 183 2 ps
@[go_sem ↓ high] theorem buildN2_at (ps : Array (Nat × Value)) : Instr.buildSlice 183 2 ps = zD2 ps:=rfl
theorem zil {P : Program} (w : World) (t e : TypeId) (cs ds : Array Value) (n : Nat) (hu : P.underlying t = some (.slice e)) (hsz : (P.info? e).map (·.size) = some n) (hz : ((P.info? e).bind (·.zero)).isSome = true) (hn : cs.size = n) (hm : ds.size = n) (hpos : 0 < n) (hsmall : n ≤ 2 ^ 23) :
  (Instr.buildSlice t 2 #[(0,.agg cs),(1,.agg ds)]).run P w = .ok (.slice (some ⟨w.heap.size,0,none⟩) 2 2) (w.alloc (.cells (cs ++ ds) e)):=by
 subst hn
 cases hie : P.info? e with
 | none => simp [hie] at hsz
 | some ie =>
  simp only [hie,Option.map_some,Option.some.injEq,Option.bind_some] at hsz hz
  obtain ⟨z,hzz⟩:=Option.isSome_iff_exists.1 hz
  refine run_buildSlice w t e 2 #[(0,.agg cs),(1,.agg ds)] (cs ++ ds) ie z hu hie hzz (by rw [hsz];omega) (by rw [hsz];omega) ?_
  have:=Great.fill_whole hpos [Value.agg cs,Value.agg ds] ((Array.range (2 * cs.size)).map (z.cells[· % z.cells.size]!)) (by simp [Value.cells,hm]) (by simp)
  have e : (cs.toList ++ ds.toList).toArray = cs ++ ds:=by apply Array.ext';simp
  rw [hsz,← e]
  simpa [Value.cells] using this
@[go_sem] theorem buildN2_run (w : World) (a0 a1 a2 a3 a4 a5 b0 b1 b2 b3 b4 b5 : Value) : (zD2 #[(0,.agg #[a0,a1,a2,a3,a4,a5]),(1,.agg #[b0,b1,b2,b3,b4,b5])]).run Tryz.prog w = .ok (.slice (some ⟨w.heap.size,0,none⟩) 2 2) (w.alloc (.cells #[a0,a1,a2,a3,a4,a5,b0,b1,b2,b3,b4,b5] 24)) :=
 zil w _ _ #[a0,a1,a2,a3,a4,a5] #[b0,b1,b2,b3,b4,b5] 6 Tryz.underlying183 kr kr rfl rfl dk dk
end Go.Proofs.YtnpdghjpcnjokaaGreat

namespace Go.Proofs.YtnpdghjpcnjokaaGreat
open Go.RowKit

noncomputable def eqN : List Rec → List Rec → Nat
 | x :: l,y :: m => if sameR x y = true then eqN l m + 1 else 0
 | _,_ => 0
theorem zzR : ∀ (k : Nat) (l r : List Rec),k ≤ l.length → k ≤ r.length → zhC l r k → (k = l.length ∨ k = r.length ∨ ∃ x y,l[k]? = some x ∧ r[k]? = some y ∧ sameR x y = false) → eqN l r = k
 | 0,[],_,_,_,_,_ => by unfold eqN;rfl
 | 0,_ :: _,[],_,_,_,_ => by unfold eqN;rfl
 | 0,a :: l,b :: r,_,_,_,h => by
  rcases h with h | h | ⟨x,y,hx,hy,h⟩
  ·simp at h
  ·simp at h
  ·simp at hx hy
   subst hx hy
   rw [eqN,if_neg (by rw [h];simp)]
 | k + 1,[],_,h,_,_,_ => by simp at h
 | k + 1,_ :: _,[],_,h,_,_ => by simp at h
 | k + 1,a :: l,b :: r,h1,h2,hs,h => by
  have h0 : sameR a b = true:=hs 0 a b om rfl rfl
  rw [eqN,if_pos h0,zzR k l r (by simpa using h1) (by simpa using h2) (fun i x y hi hx hy => hs (i + 1) x y om (by simpa using hx) (by simpa using hy)) (by simpa using h)]
theorem zDe : ∀ (l r : List Rec),zaR l (r.take l.length) = decide (eqN l r = l.length)
 | [],r => by cases r <;> simp [zaR,eqN]
 | x :: l,[] => by simp [zaR,eqN]
 | x :: l,y :: r => by
  have ih:=zDe l r
  rw [List.length_cons,List.take_succ_cons,zaR,eqN]
  by_cases h : sameR x y = true
  ·rw [if_pos h,h,ih];simp
  ·rw [if_neg h,Bool.eq_false_iff.2 h];simp
theorem eqN_le : ∀ (l r : List Rec),eqN l r ≤ l.length
 | [],r => by cases r <;> simp [eqN]
 | x :: l,[] => by simp [eqN]
 | x :: l,y :: r => by
  have:=eqN_le l r
  rw [eqN];split <;> simp <;> omega
theorem zv9 (A : Option Addr) (c n : Nat) (l : List Rec) (hn : l.length = n) (B : Option Addr) (d k : Nat) (r : List Rec) (hk : r.length = k) (w : World) (h1 : za3 w A c l) (h2 : za3 w B d r) :
  Calls Tryz.prog 140 #[.slice A n c,.slice B k d,.func (Fn.func 101) #[] #[]] w fun e w' => e = .returned (.int .i64 (eqN l r : Nat)) ∧ Ext w w':=by
 subst hn hk
 have hl1:=h1.len
 have hl2:=h2.len
 have H1:=zh h1
 have H2:=zh h2
 clear h1 h2
 go_enter Tryz.func140,Tryz.ntmps140
 go_wp2
 go_loopw [7] (fun i wr => ∃ k : Nat,k ≤ l.length ∧ k ≤ r.length ∧ i = .int .i64 k ∧ Ext w wr ∧ Hid (zhC l r k)) (fun i _ => l.length - (intOf i).toNat)
 case atStart => exact ⟨0,by omega,by omega,rfl,Ext.refl _,zh (fun i _ _ hi => by omega)⟩
 case round =>
  obtain ⟨k,hk1,hk2,rfl,hx,HE⟩:=hrel
  obtain ⟨y0,rfl⟩:=hx.get
  clear hx
  by_cases hlt1 : k < l.length
  ·by_cases hlt2 : k < r.length
   ·obtain ⟨x,hx⟩ : ∃ x,l[k]? = some x:=⟨_,List.getElem?_eq_getElem hlt1⟩
    obtain ⟨z,hz⟩ : ∃ z,r[k]? = some z:=⟨_,List.getElem?_eq_getElem hlt2⟩
    obtain ⟨b1,o1,rfl,hr1,ha1⟩:=H1.out.get hx
    obtain ⟨b2,o2,rfl,hr2,ha2⟩:=H2.out.get hz
    have hq1:=hr1.row
    have hq2:=hr2.row
    have HA1:=zh ha1
    have HA2:=zh ha2
    have hb0 : (0 : Int) ≤ (k : Int):=by omega
    have hb1 : (k : Int) < (l.length : Int):=by omega
    have hb2 : (k : Int) < (r.length : Int):=by omega
    have hw : IntKind.i64.wrap ((k : Int) + 1) = (k : Int) + 1:=IntWalk.i64_in _ om
    clear hr1 hr2 ha1 ha2
    cases hs : sameR x z with
    | true =>
     have HM:=zh (HE.out.more hx hz hs)
     have HT:=zh hs
     clear hx hz hs hw
     go_wp2
     (refine zcL kr kr ?_;(repeat (go_big_quiet_step ((go_at_call 101;exact Calls.grows (zl6 x z true HT.out _ (HA1.out.mono ex) (HA2.out.mono ex))))));refine wpQuiet_nil ?_;rintro _ ⟨y,rfl⟩)
     go_wp2
     go_light
     exact ⟨⟨k + 1,by omega,by omega,by go_num,ex,HM⟩,by simp [intOf];omega⟩
    | false =>
     have HV:=zh (zzR k l r hk1 hk2 HE.out (.inr (.inr ⟨x,z,hx,hz,hs⟩)))
     have HT:=zh hs
     clear hx hz hs hw
     go_wp2
     (refine zcL kr kr ?_;(repeat (go_big_quiet_step ((go_at_call 101;exact Calls.grows (zl6 x z false HT.out _ (HA1.out.mono ex) (HA2.out.mono ex))))));refine wpQuiet_nil ?_;rintro _ ⟨y,rfl⟩)
     go_wp2
     go_ret
     exact ⟨ret_i (by rw [HV.out]),ex⟩
   ·have HV:=zh (zzR k l r hk1 hk2 HE.out (.inr (.inl om)))
    have hb1 : (k : Int) < (l.length : Int):=by omega
    have hd : decide (k < r.length) = false:=decide_eq_false hlt2
    go_wp2
    (refine zcL kr kr ?_;(repeat (go_big_quiet_step (fail)));refine wpQuiet_nil ?_;rintro _ ⟨y,rfl⟩)
    go_wp2
    go_ret
    exact ⟨ret_i (by rw [HV.out]),ex⟩
  ·have HV:=zh (zzR k l r hk1 hk2 HE.out (.inl om))
   have hd : decide (k < l.length) = false:=decide_eq_false hlt1
   go_wp2
   (refine zcL kr kr ?_;(repeat (go_big_quiet_step (fail)));refine wpQuiet_nil ?_;rintro _ ⟨y,rfl⟩)
   go_wp2
   go_ret
   exact ⟨ret_i (by rw [HV.out]),ex⟩
theorem zz6 {a b : Nod} {x y z : Bool} (h1 : decide (eqN a.log b.log = a.log.length) = x) (h2 : decide (a.acked = (a.log.length : Int)) = y) (h3 : decide (b.acked = (a.log.length : Int)) = z) : zaJ a b = (x && y && z):=by
 unfold zaJ;rw [zDe,h1,h2,h3]
theorem zyZ (a : Nod) (A : Option Addr) (c : Nat) (b : Nod) (B : Option Addr) (d : Nat) (w : World) (h1 : za3 w A c a.log) (h2 : za3 w B d b.log) :
  Calls Tryz.prog 104 #[.agg (Ln a A c),.agg (Ln b B d)] w fun e w' => e = .returned (.bool (zaJ a b)) ∧ Ext w w':=by
 have hl1:=h1.len
 have hl2:=h2.len
 have H1:=zh h1
 have H2:=zh h2
 obtain ⟨k,hk⟩ : ∃ k,eqN a.log b.log = k:=⟨_,rfl⟩
 have HK:=zh hk
 have hkl:=eqN_le a.log b.log
 rw [hk] at hkl
 have HV:=zh (@zz6 a b _ _ _ rfl rfl rfl)
 rw [hk] at HV
 clear h1 h2 hk
 go_enter Tryz.func104,Tryz.ntmps104
 go_wp2_with (go_at_call 140;refine (zv9 A c _ a.log rfl B d _ b.log rfl _ (H1.out.mono ex) (H2.out.mono ex)).mono ?_;rw [HK.out];rintro e w' ⟨rfl,hx⟩;obtain ⟨y,rfl⟩:=hx.get;clear hx)
 all_goals
  go_ret
  refine ⟨ret_b ?_,ex⟩
  rw [HV.out]
  first
   | (rw [decide_eq_true (show k = a.log.length by omega),decide_eq_true (show a.acked = (a.log.length : Int) by assumption)];exact Bool.eq_iff_iff.2 (by simp))
   | (rw [decide_eq_true (show k = a.log.length by omega),decide_eq_false (show ¬ a.acked = (a.log.length : Int) by assumption)];simp)
   | (rw [decide_eq_false (show ¬ k = a.log.length by omega)];simp)
end Go.Proofs.YtnpdghjpcnjokaaGreat

namespace Go.Proofs.YtnpdghjpcnjokaaGreat

theorem Pair.first {a b : Nod} (hp : Pair a b) (he : (recvV b (sentM a)).2.2.2 = 0) : Pair a (recvV b (sentM a)).1:=by
 have hl:=zb8 he
 obtain ⟨h1,h2,h3,h4,h5⟩:=zdy he
 have htop : (recvV b (sentM a)).1.term = a.term:=by
  rw [h5,zq7 h4]
  have : (sentM a).term = a.term:=rfl
  have:=hp.term
  omega
 exact ⟨hp.na,hl.node,by rw [hl.id];exact hp.ne,hp.speaks,by rw [htop];exact Int.le_refl _⟩
theorem Pair.second {a b : Nod} (hp : Pair a b) (he : (recvV b (sentM a)).2.2.2 = 0) (hok : (recvV b (sentM a)).2.2.1 = true) (he2 : (recvV a (recvV b (sentM a)).2.1).2.2.2 = 0) : Pair (recvV a (recvV b (sentM a)).2.1).1 (recvV b (sentM a)).1:=by
 have hl:=zb8 he
 obtain ⟨h1,h2,h3,h4,h5⟩:=zdy he
 have htop : (recvV b (sentM a)).1.term = a.term:=by
  rw [h5,zq7 h4]
  have : (sentM a).term = a.term:=rfl
  have:=hp.term
  omega
 have hl2:=zb8 he2
 obtain ⟨g1,g2,g3,g4,g5⟩:=zdy he2
 obtain ⟨a1,a2,a3⟩:=hl.ans hok
 obtain ⟨w1,w2,w3,w4,_⟩:=zn4 (n:=a) a3 (a2.trans htop)
 rw [← g5] at w1 w2 w3 w4
 exact ⟨hl2.node,hl.node,by rw [w4,hl.id];exact hp.ne,w2.trans hp.speaks,by rw [w3,htop];exact Int.le_refl _⟩
theorem zio {f : Nat} {k : Int} {a b : Nod} (h : zaJ a b = true) : zaK (f + 1) k a b = (a,b,k,0):=by unfold zaK;rw [if_pos h]
theorem zk1 {f : Nat} {k : Int} {a b : Nod} {v : Nod × Msg × Bool × Int} (hv : recvV b (sentM a) = v) (h : zaJ a b = false) (he : v.2.2.2 ≠ 0) : zaK (f + 1) k a b = (nod0,nod0,0,v.2.2.2):=by
 subst hv;unfold zaK;rw [if_neg (by rw [h];simp),if_pos he]
theorem zip {f : Nat} {k : Int} {a b : Nod} {v : Nod × Msg × Bool × Int} (hv : recvV b (sentM a) = v) (h : zaJ a b = false) (he : v.2.2.2 = 0) (hok : v.2.2.1 = false) : zaK (f + 1) k a b = zaK f (k + 1) a v.1:=by
 subst hv;conv => lhs;unfold zaK
 rw [if_neg (by rw [h];simp),if_neg (by simpa using he),if_pos hok]
theorem zin {f : Nat} {k : Int} {a b : Nod} {v u : Nod × Msg × Bool × Int} (hv : recvV b (sentM a) = v) (hu : recvV a v.2.1 = u) (h : zaJ a b = false) (he : v.2.2.2 = 0) (hok : v.2.2.1 = true) (he2 : u.2.2.2 ≠ 0) : zaK (f + 1) k a b = (nod0,nod0,0,u.2.2.2):=by
 subst hv hu;conv => lhs;unfold zaK
 rw [if_neg (by rw [h];simp),if_neg (by simpa using he),if_neg (by rw [hok];simp),if_pos he2]
theorem zmE {f : Nat} {k : Int} {a b : Nod} {v u : Nod × Msg × Bool × Int} (hv : recvV b (sentM a) = v) (hu : recvV a v.2.1 = u) (h : zaJ a b = false) (he : v.2.2.2 = 0) (hok : v.2.2.1 = true) (he2 : u.2.2.2 = 0) : zaK (f + 1) k a b = zaK f (k + 1) u.1 v.1:=by
 subst hv hu;conv => lhs;unfold zaK
 rw [if_neg (by rw [h];simp),if_neg (by simpa using he),if_neg (by rw [hok];simp),if_neg (by simpa using he2)]
theorem zqh {a b : Nod} (h : nodE a ≠ 0) : zaS a b = (nod0,nod0,0,nodE a):=by unfold zaS;rw [if_pos h]
theorem zqi {a b : Nod} (h : nodE a = 0) (h2 : nodE b ≠ 0) : zaS a b = (nod0,nod0,0,nodE b):=by unfold zaS;rw [if_neg (by simpa using h),if_pos h2]
theorem zqj {a b : Nod} (h : nodE a = 0) (h2 : nodE b = 0) (h3 : a.id = b.id) : zaS a b = (nod0,nod0,0,11):=by unfold zaS;rw [if_neg (by simpa using h),if_neg (by simpa using h2),if_pos h3]
theorem zqk {a b : Nod} (h : nodE a = 0) (h2 : nodE b = 0) (h3 : ¬ a.id = b.id) (h4 : a.speaks = false ∨ a.term < b.term) : zaS a b = (nod0,nod0,0,16):=by
 unfold zaS;rw [if_neg (by simpa using h),if_neg (by simpa using h2),if_neg h3,if_pos h4]
theorem zql {a b : Nod} (h : nodE a = 0) (h2 : nodE b = 0) (h3 : ¬ a.id = b.id) (h4 : ¬ (a.speaks = false ∨ a.term < b.term)) : zaS a b = zaK 521 0 a b:=by
 unfold zaS;rw [if_neg (by simpa using h),if_neg (by simpa using h2),if_neg h3,if_neg h4]
theorem Pair.of {a b : Nod} (h : nodE a = 0) (h2 : nodE b = 0) (h3 : ¬ a.id = b.id) (h4 : ¬ (a.speaks = false ∨ a.term < b.term)) : Pair a b :=
 ⟨(zal a).1 h,(zal b).1 h2,h3,by cases hs : a.speaks with | true => rfl | false => exact absurd (.inl hs) h4,by
  by_cases ht : a.term < b.term
  ·exact absurd (.inr ht) h4
  ·omega⟩
end Go.Proofs.YtnpdghjpcnjokaaGreat

namespace Go.Proofs.YtnpdghjpcnjokaaGreat
open Go.RowKit

def zaU (w : World) (v : Nod × Nod × Int × Int) (e : Ending) (w' : World) : Prop:=∃ A c B d,e = .returned (.tuple #[.agg (Ln v.1 A c),.agg (Ln v.2.1 B d),.int .i64 v.2.2.1,.int .i64 v.2.2.2]) ∧ Ext w w' ∧ za3 w' A c v.1.log ∧ za3 w' B d v.2.1.log
theorem zaU.err {w w' : World} {v : Nod × Nod × Int × Int} {x : Int} (h : v = (nod0,nod0,0,x)) (hx : Ext w w') : zaU w v (.returned (.tuple #[.agg Zn,.agg Zn,.int .i64 0,.int .i64 x])) w':=by
 subst h
 exact ⟨none,0,none,0,rfl,hx,za3.nil _,za3.nil _⟩
section
variable (a : Nod) (A : Option Addr) (c : Nat) (b : Nod) (B : Option Addr) (d : Nat) (w : World) (hs : za3 w A c a.log) (hm : za3 w B d b.log)
include hs
theorem zwB (h : nodE a ≠ 0) : Calls Tryz.prog 72 #[.agg (Ln a A c),.agg (Ln b B d)] w (zaU w (zaS a b)):=by
 have HS:=zh hs
 have hz : (nodE a != 0) = true:=by simpa using h
 have HR:=zh (zqh (b:=b) h)
 clear h hs
 go_enter Tryz.func72,Tryz.ntmps72
 go_wp2
 go_loopw [20] (fun i wr => i = .int .i64 0 ∧ Ext (((((w.alloc (.cells (Ln a A c) 24)).alloc (.cells (Ln b B d) 24)).alloc (.cells (Ln nod0 none 0) 24)).alloc (.cells (Ln nod0 none 0) 24)).alloc (.cells #[.int .i64 a.id,.int .i64 a.term,.bool a.speaks,.slice A a.log.length c,.int .i64 a.acked,.int .i64 a.next,.int .i64 b.id,.int .i64 b.term,.bool b.speaks,.slice B b.log.length d,.int .i64 b.acked,.int .i64 b.next] 24)) wr) (fun _ _ => 0)
 case atStart => exact ⟨rfl,ex⟩
 case round =>
  obtain ⟨rfl,hx⟩:=hrel
  obtain ⟨y0,rfl⟩:=hx.get
  clear hx
  go_wp2_with (go_at_call 78;refine (zaA a A c _ (HS.out.mono ex)).mono ?_;rintro e w' ⟨rfl,hx⟩;obtain ⟨y,rfl⟩:=hx.get;clear hx)
  exact bodyPost_ret (v:=.tuple #[.agg Zn,.agg Zn,.int .i64 0,.int .i64 (nodE a)]) (by simp [results,Tryz.results72,go_sem]) rfl (zaU.err HR.out ex)
include hm
theorem zwC (h : nodE a = 0) (h2 : nodE b ≠ 0) : Calls Tryz.prog 72 #[.agg (Ln a A c),.agg (Ln b B d)] w (zaU w (zaS a b)):=by
 have HS:=zh hs
 have HM:=zh hm
 have hz : (nodE a != 0) = false:=by simpa using h
 have hz2 : (nodE b != 0) = true:=by simpa using h2
 have HR:=zh (zqi h h2)
 clear h h2 hs hm
 go_enter Tryz.func72,Tryz.ntmps72
 go_wp2
 go_loopw [20] (fun i wr => ∃ k : Nat,k ≤ 1 ∧ i = .int .i64 k ∧ Ext (((((w.alloc (.cells (Ln a A c) 24)).alloc (.cells (Ln b B d) 24)).alloc (.cells (Ln nod0 none 0) 24)).alloc (.cells (Ln nod0 none 0) 24)).alloc (.cells #[.int .i64 a.id,.int .i64 a.term,.bool a.speaks,.slice A a.log.length c,.int .i64 a.acked,.int .i64 a.next,.int .i64 b.id,.int .i64 b.term,.bool b.speaks,.slice B b.log.length d,.int .i64 b.acked,.int .i64 b.next] 24)) wr) (fun i _ => 1 - (intOf i).toNat)
 case atStart => exact ⟨0,by omega,rfl,ex⟩
 case round =>
  obtain ⟨k,hk,rfl,hx⟩:=hrel
  obtain ⟨y0,rfl⟩:=hx.get
  clear hx
  have hk' : k = 0 ∨ k = 1:=by omega
  rcases hk' with rfl | rfl
  ·go_wp2_with (go_at_call 78;refine (zaA a A c _ (HS.out.mono ex)).mono ?_;rintro e w' ⟨rfl,hx⟩;obtain ⟨y,rfl⟩:=hx.get;clear hx)
   go_light
   exact ⟨⟨1,by omega,by go_num,ex⟩,by simp [intOf]⟩
  ·go_wp2_with (go_at_call 78;refine (zaA b B d _ (HM.out.mono ex)).mono ?_;rintro e w' ⟨rfl,hx⟩;obtain ⟨y,rfl⟩:=hx.get;clear hx)
   exact bodyPost_ret (v:=.tuple #[.agg Zn,.agg Zn,.int .i64 0,.int .i64 (nodE b)]) (by simp [results,Tryz.results72,go_sem]) rfl (zaU.err HR.out ex)
theorem zwD (h : nodE a = 0) (h2 : nodE b = 0) (h3 : a.id = b.id) : Calls Tryz.prog 72 #[.agg (Ln a A c),.agg (Ln b B d)] w (zaU w (zaS a b)):=by
 have HS:=zh hs
 have HM:=zh hm
 have hz : (nodE a != 0) = false:=by simpa using h
 have hz2 : (nodE b != 0) = false:=by simpa using h2
 have hz3 : (a.id == b.id) = true:=by simpa using h3
 have HR:=zh (zqj h h2 h3)
 clear h h2 h3 hs hm
 go_enter Tryz.func72,Tryz.ntmps72
 go_wp2
 go_loopw [20] (fun i wr => ∃ k : Nat,k ≤ 2 ∧ i = .int .i64 k ∧ Ext (((((w.alloc (.cells (Ln a A c) 24)).alloc (.cells (Ln b B d) 24)).alloc (.cells (Ln nod0 none 0) 24)).alloc (.cells (Ln nod0 none 0) 24)).alloc (.cells #[.int .i64 a.id,.int .i64 a.term,.bool a.speaks,.slice A a.log.length c,.int .i64 a.acked,.int .i64 a.next,.int .i64 b.id,.int .i64 b.term,.bool b.speaks,.slice B b.log.length d,.int .i64 b.acked,.int .i64 b.next] 24)) wr) (fun i _ => 2 - (intOf i).toNat)
 case atStart => exact ⟨0,by omega,rfl,ex⟩
 case round =>
  obtain ⟨k,hk,rfl,hx⟩:=hrel
  obtain ⟨y0,rfl⟩:=hx.get
  clear hx
  have hk' : k = 0 ∨ k = 1 ∨ k = 2:=by omega
  rcases hk' with rfl | rfl | rfl
  ·go_wp2_with (go_at_call 78;refine (zaA a A c _ (HS.out.mono ex)).mono ?_;rintro e w' ⟨rfl,hx⟩;obtain ⟨y,rfl⟩:=hx.get;clear hx)
   go_light
   exact ⟨⟨1,by omega,by go_num,ex⟩,by simp [intOf]⟩
  ·go_wp2_with (go_at_call 78;refine (zaA b B d _ (HM.out.mono ex)).mono ?_;rintro e w' ⟨rfl,hx⟩;obtain ⟨y,rfl⟩:=hx.get;clear hx)
   go_light
   exact ⟨⟨2,by omega,by go_num,ex⟩,by simp [intOf]⟩
  ·go_wp2
   exact bodyPost_ret (v:=.tuple #[.agg Zn,.agg Zn,.int .i64 0,.int .i64 11]) (by simp [results,Tryz.results72,go_sem]) rfl (zaU.err HR.out ex)
theorem zwE (h : nodE a = 0) (h2 : nodE b = 0) (h3 : ¬ a.id = b.id) (h4 : a.speaks = false ∨ a.term < b.term) : Calls Tryz.prog 72 #[.agg (Ln a A c),.agg (Ln b B d)] w (zaU w (zaS a b)):=by
 have HS:=zh hs
 have HM:=zh hm
 have hz : (nodE a != 0) = false:=by simpa using h
 have hz2 : (nodE b != 0) = false:=by simpa using h2
 have hz3 : (a.id == b.id) = false:=by simpa using h3
 have HR:=zh (zqk h h2 h3 h4)
 have H4:=zh h4
 clear h h2 h3 hs hm h4
 obtain ⟨sp,hsp⟩ : ∃ sp,a.speaks = sp:=⟨_,rfl⟩
 have HSP:=zh hsp
 have HC:=zh (fun (w' : World) (h : za3 w' A c a.log) => zaA a A c w' h)
 rw [hsp] at HC ⊢
 clear hsp
 go_enter Tryz.func72,Tryz.ntmps72
 go_wp2
 go_loopw [20] (fun i wr => ∃ k : Nat,k ≤ 2 ∧ i = .int .i64 k ∧ Ext (((((w.alloc (.cells #[.int .i64 a.id,.int .i64 a.term,.bool sp,.slice A a.log.length c,.int .i64 a.acked,.int .i64 a.next] 24)).alloc (.cells (Ln b B d) 24)).alloc (.cells (Ln nod0 none 0) 24)).alloc (.cells (Ln nod0 none 0) 24)).alloc (.cells #[.int .i64 a.id,.int .i64 a.term,.bool sp,.slice A a.log.length c,.int .i64 a.acked,.int .i64 a.next,.int .i64 b.id,.int .i64 b.term,.bool b.speaks,.slice B b.log.length d,.int .i64 b.acked,.int .i64 b.next] 24)) wr) (fun i _ => 2 - (intOf i).toNat)
 case atStart => exact ⟨0,by omega,rfl,ex⟩
 case round =>
  obtain ⟨k,hk,rfl,hx⟩:=hrel
  obtain ⟨y0,rfl⟩:=hx.get
  clear hx
  have hk' : k = 0 ∨ k = 1 ∨ k = 2:=by omega
  rcases hk' with rfl | rfl | rfl
  ·go_wp2_with (go_at_call 78;refine (HC.out _ (HS.out.mono ex)).mono ?_;rintro e w' ⟨rfl,hx⟩;obtain ⟨y,rfl⟩:=hx.get;clear hx)
   go_light
   exact ⟨⟨1,by omega,by go_num,ex⟩,by simp [intOf]⟩
  ·go_wp2_with (go_at_call 78;refine (zaA b B d _ (HM.out.mono ex)).mono ?_;rintro e w' ⟨rfl,hx⟩;obtain ⟨y,rfl⟩:=hx.get;clear hx)
   go_light
   exact ⟨⟨2,by omega,by go_num,ex⟩,by simp [intOf]⟩
  ·cases sp with
   | false =>
    go_wp2
    exact bodyPost_ret (v:=.tuple #[.agg Zn,.agg Zn,.int .i64 0,.int .i64 16]) (by simp [results,Tryz.results72,go_sem]) rfl (zaU.err HR.out ex)
   | true =>
    have ht : a.term < b.term:=by
     rcases H4.out with h | h
     ·rw [HSP.out] at h;cases h
     ·exact h
    go_wp2
    exact bodyPost_ret (v:=.tuple #[.agg Zn,.agg Zn,.int .i64 0,.int .i64 16]) (by simp [results,Tryz.results72,go_sem]) rfl (zaU.err HR.out ex)
end
end Go.Proofs.YtnpdghjpcnjokaaGreat

namespace Go.Proofs.YtnpdghjpcnjokaaGreat
open Go.RowKit

theorem zk0 {R : Rec → Prop} : ∀ (f : Nat) (k : Int) (a b : Nod),Pair a b → (∀ r ∈ a.log,R r) → (∀ r ∈ b.log,R r) →
  (∀ r ∈ (zaK f k a b).1.log,R r) ∧ (∀ r ∈ (zaK f k a b).2.1.log,R r) ∧ (zaK f k a b).1.log.length ≤ 256 ∧ (zaK f k a b).2.1.log.length ≤ 256
 | 0,_,_,_,_,_,_ => ⟨fun r hr => by simp [zaK,nod0] at hr,fun r hr => by simp [zaK,nod0] at hr,Nat.zero_le _,Nat.zero_le _⟩
 | f + 1,k,a,b,hp,ha,hb => by
  have h0 : ∀ x : Int,(∀ r ∈ ((nod0,nod0,0,x) : Nod × Nod × Int × Int).1.log,R r) ∧ (∀ r ∈ ((nod0,nod0,0,x) : Nod × Nod × Int × Int).2.1.log,R r) ∧ ((nod0,nod0,0,x) : Nod × Nod × Int × Int).1.log.length ≤ 256 ∧ ((nod0,nod0,0,x) : Nod × Nod × Int × Int).2.1.log.length ≤ 256 :=
   fun x => ⟨fun r hr => by simp [nod0] at hr,fun r hr => by simp [nod0] at hr,Nat.zero_le _,Nat.zero_le _⟩
  obtain ⟨v,hv⟩ : ∃ v,recvV b (sentM a) = v:=⟨_,rfl⟩
  have h1 : ∀ r ∈ v.1.log,R r:=fun r hr => by
   rw [← hv] at hr
   rcases zcF _ _ r hr with h | h
   ·exact hb r h
   ·exact ha r (zec a r h)
  cases hs : zaJ a b with
  | true => rw [zio hs];exact ⟨ha,hb,hp.na.len,hp.nb.len⟩
  | false =>
   by_cases he : v.2.2.2 = 0
   ·cases hok : v.2.2.1 with
    | false =>
     rw [zip hv hs he hok]
     have hp1:=hp.first (by rw [hv];exact he)
     rw [hv] at hp1
     exact zk0 f _ a v.1 hp1 ha h1
    | true =>
     obtain ⟨u,hu⟩ : ∃ u,recvV a v.2.1 = u:=⟨_,rfl⟩
     by_cases he2 : u.2.2.2 = 0
     ·rw [zmE hv hu hs he hok he2]
      have hp2:=hp.second (by rw [hv];exact he) (by rw [hv];exact hok) (by rw [hv,hu];exact he2)
      rw [hv,hu] at hp2
      refine zk0 f _ u.1 v.1 hp2 (fun r hr => ?_) h1
      rw [← hu] at hr
      have hl:=zb8 (n:=b) (m:=sentM a) (by rw [hv];exact he)
      rw [hv] at hl
      rcases zcF _ _ r hr with h | h
      ·exact ha r h
      ·obtain ⟨m1,-,m3⟩:=hl.ans hok
       rw [(m1.ans m3).2.1] at h
       cases h
     ·rw [zin hv hu hs he hok he2];exact h0 _
   ·rw [zk1 hv hs he];exact h0 _
theorem zdo {R : Rec → Prop} (a b : Nod) (ha : ∀ r ∈ a.log,R r) (hb : ∀ r ∈ b.log,R r) :
  (∀ r ∈ (zaS a b).1.log,R r) ∧ (∀ r ∈ (zaS a b).2.1.log,R r) ∧ (zaS a b).1.log.length ≤ 256 ∧ (zaS a b).2.1.log.length ≤ 256:=by
 have h0 : ∀ x : Int,(∀ r ∈ ((nod0,nod0,0,x) : Nod × Nod × Int × Int).1.log,R r) ∧ (∀ r ∈ ((nod0,nod0,0,x) : Nod × Nod × Int × Int).2.1.log,R r) ∧ ((nod0,nod0,0,x) : Nod × Nod × Int × Int).1.log.length ≤ 256 ∧ ((nod0,nod0,0,x) : Nod × Nod × Int × Int).2.1.log.length ≤ 256 :=
  fun x => ⟨fun r hr => by simp [nod0] at hr,fun r hr => by simp [nod0] at hr,Nat.zero_le _,Nat.zero_le _⟩
 by_cases h : nodE a = 0
 ·by_cases h2 : nodE b = 0
  ·by_cases h3 : a.id = b.id
   ·rw [zqj h h2 h3];exact h0 _
   ·by_cases h4 : a.speaks = false ∨ a.term < b.term
    ·rw [zqk h h2 h3 h4];exact h0 _
    ·rw [zql h h2 h3 h4];exact zk0 521 0 a b (Pair.of h h2 h3 h4) ha hb
  ·rw [zqi h h2];exact h0 _
 ·rw [zqh h];exact h0 _
def GotS (w w0 : World) (x y : Nod) (k er : Int) (e : Ending) (w' : World) : Prop:=∃ A c B d,e = .returned (.tuple #[.agg (Ln x A c),.agg (Ln y B d),.int .i64 k,.int .i64 er]) ∧ Ext w w' ∧ LogW w0 w' A x.log.length c x.log ∧ LogW w0 w' B y.log.length d y.log
theorem zaU.parts {w w0 w' : World} {v : Nod × Nod × Int × Int} {x y : Nod} {k er : Int} {e : Ending} (h : zaU w v e w') (hv : v = (x,y,k,er)) (h1 : ∀ r ∈ x.log,AcnAt w0 r.act) (h2 : ∀ r ∈ y.log,AcnAt w0 r.act) : GotS w w0 x y k er e w':=by
 subst hv
 obtain ⟨A,c,B,d,he,hx,r1,r2⟩:=h
 exact ⟨A,c,B,d,he,hx,⟨r1.sl,rfl,r1.le,r1.cap,h1⟩,⟨r2.sl,rfl,r2.le,r2.cap,h2⟩⟩
end Go.Proofs.YtnpdghjpcnjokaaGreat

namespace Go.Proofs.YtnpdghjpcnjokaaGreat
open Go.RowKit

theorem zjq (a : Nod) (A : Option Addr) (c : Nat) (b : Nod) (B : Option Addr) (d : Nat) (v : Bool) (hv : zaJ a b = v) (w : World) (h1 : za3 w A c a.log) (h2 : za3 w B d b.log) :
  Calls Tryz.prog 104 #[.agg (Ln a A c),.agg (Ln b B d)] w fun e w' => e = .returned (.bool v) ∧ Ext w w':=by
 subst hv
 exact zyZ a A c b B d w h1 h2
theorem zwF (a : Nod) (A : Option Addr) (c : Nat) (b : Nod) (B : Option Addr) (d : Nat) (w : World) (hs : za3 w A c a.log) (hm : za3 w B d b.log) (h : nodE a = 0) (h2 : nodE b = 0) (h3 : ¬ a.id = b.id) (h4 : ¬ (a.speaks = false ∨ a.term < b.term)) : Calls Tryz.prog 72 #[.agg (Ln a A c),.agg (Ln b B d)] w (zaU w (zaS a b)):=by
 have HS:=zh hs
 have HM:=zh hm
 have hz : (nodE a != 0) = false:=by simpa using h
 have hz2 : (nodE b != 0) = false:=by simpa using h2
 have hz3 : (a.id == b.id) = false:=by simpa using h3
 obtain ⟨V,hV⟩ : ∃ V,zaS a b = V:=⟨_,rfl⟩
 have HR:=zh (show Pair a b ∧ V = zaK 521 0 a b from ⟨Pair.of h h2 h3 h4,by rw [← hV];exact zql h h2 h3 h4⟩)
 rw [hV]
 have H4:=zh h4
 clear h h2 h3 hs hm h4 hV
 obtain ⟨sp,hsp⟩ : ∃ sp,a.speaks = sp:=⟨_,rfl⟩
 have HSP:=zh hsp
 have HC:=zh (fun (w' : World) (h : za3 w' A c a.log) => zaA a A c w' h)
 rw [hsp] at HC ⊢
 obtain rfl : sp = true:=by
  cases sp with
  | true => rfl
  | false => exact absurd (.inl hsp) H4.out
 have ht : ¬ a.term < b.term:=fun h => H4.out (.inr h)
 have htd : decide (a.term < b.term) = false:=decide_eq_false ht
 clear hsp
 go_enter Tryz.func72,Tryz.ntmps72
 go_wp2
 go_loopw [20] (fun i wr => ∃ k : Nat,k ≤ 2 ∧ i = .int .i64 k ∧ Ext (((((w.alloc (.cells #[.int .i64 a.id,.int .i64 a.term,.bool true,.slice A a.log.length c,.int .i64 a.acked,.int .i64 a.next] 24)).alloc (.cells (Ln b B d) 24)).alloc (.cells (Ln nod0 none 0) 24)).alloc (.cells (Ln nod0 none 0) 24)).alloc (.cells #[.int .i64 a.id,.int .i64 a.term,.bool true,.slice A a.log.length c,.int .i64 a.acked,.int .i64 a.next,.int .i64 b.id,.int .i64 b.term,.bool b.speaks,.slice B b.log.length d,.int .i64 b.acked,.int .i64 b.next] 24)) wr) (fun i _ => 2 - (intOf i).toNat)
 case atStart => exact ⟨0,by omega,rfl,ex⟩
 case round =>
  obtain ⟨k,hk,rfl,hx⟩:=hrel
  obtain ⟨y0,rfl⟩:=hx.get
  clear hx
  have hk' : k = 0 ∨ k = 1 ∨ k = 2:=by omega
  rcases hk' with rfl | rfl | rfl
  ·go_wp2_with (go_at_call 78;refine (HC.out _ (HS.out.mono ex)).mono ?_;rintro e w' ⟨rfl,hx⟩;obtain ⟨y,rfl⟩:=hx.get;clear hx)
   go_light
   exact ⟨⟨1,by omega,by go_num,ex⟩,by simp [intOf]⟩
  ·go_wp2_with (go_at_call 78;refine (zaA b B d _ (HM.out.mono ex)).mono ?_;rintro e w' ⟨rfl,hx⟩;obtain ⟨y,rfl⟩:=hx.get;clear hx)
   go_light
   exact ⟨⟨2,by omega,by go_num,ex⟩,by simp [intOf]⟩
  ·clear hz hz2 HC
   rw [show ((2 : Nat) : Int) = 2 from rfl]
   go_wp2
   clear ht htd hz3
   go_loopw [11] (fun i wr => ∃ (k : Nat) (p : Nod) (A : Option Addr) (c : Nat) (q : Nod) (B : Option Addr) (d : Nat),k ≤ 521 ∧ i = .int .i64 k ∧ Hid (Pair p q ∧ V = zaK (521 - k) k p q) ∧ Four 24 w wr p A c q B d) (fun i _ => 521 - (intOf i).toNat)
   case atStart =>
    refine ⟨0,a,A,c,b,B,d,by omega,rfl,HR,⟨ex,?_,?_,?_,?_,LogW.of HS.out ex,LogW.of HM.out ex⟩⟩
    ·rw [HSP.out];exact (BoxAt.new rfl _ _).mono ex
    ·exact (BoxAt.new (W:=w.alloc (.cells #[.int .i64 a.id,.int .i64 a.term,.bool true,.slice A a.log.length c,.int .i64 a.acked,.int .i64 a.next] 24)) sg _ _).mono ex
    ·exact (BoxAt.new (W:=(w.alloc (.cells #[.int .i64 a.id,.int .i64 a.term,.bool true,.slice A a.log.length c,.int .i64 a.acked,.int .i64 a.next] 24)).alloc (.cells (Ln b B d) 24)) sg _ _).mono ex
    ·exact (BoxAt.new (W:=((w.alloc (.cells #[.int .i64 a.id,.int .i64 a.term,.bool true,.slice A a.log.length c,.int .i64 a.acked,.int .i64 a.next] 24)).alloc (.cells (Ln b B d) 24)).alloc (.cells (Ln nod0 none 0) 24)) sg _ _).mono ex
   case round =>
    obtain ⟨k,p,A,c,q,B,d,hk,rfl,HP,HF⟩:=hrel
    obtain ⟨x0,x1,x2,x3,x4,x5⟩:=HF.b1.six
    obtain ⟨z0,z1,z2,z3,z4,z5⟩:=HF.b2.six
    by_cases hlt : k ≤ 520
    ·obtain ⟨s,hsB⟩ : ∃ s,zaJ p q = s:=⟨_,rfl⟩
     have HB:=zh hsB
     clear hsB
     have hkk : (k : Int) ≤ 520:=by omega
     cases s with
     | true =>
      have HV:=zh (show V = (p,q,(k : Int),0) by rw [HP.out.2,show 521 - k = (520 - k) + 1 by omega,zio HB.out])
      go_wp2_with (go_at_call 104;refine (zjq p A c q B d true HB.out _ (HF.l1.recs HF.ext ex) (HF.l2.recs HF.ext ex)).mono ?_;rintro e w' ⟨rfl,hx⟩;obtain ⟨yb,rfl⟩:=hx.get;clear hx)
      refine zaw (S:=SS 99 99 (fun _ => True) (fun _ => True) (fun w9 => BoxAt w9 w.heap.size (Ln p A c) 24 ∧ BoxAt w9 (w.heap.size + 1) (Ln q B d) 24)) kr ⟨fun _ => trivial,fun _ => trivial,HF.b1.mono (show Ext _ (xt _ yb).drew from ex),HF.b2.mono (show Ext _ (xt _ yb).drew from ex)⟩ (fun hcl hS => ?_)
      refine za1 (i:=0) (T:=(fun w9 => BoxAt w9 w.heap.size (Ln p A c) 24)) (v:=?_) rfl kr kr kr (fun _ _ _ h => h) (fun _ _ _ _ hS => hS.2.2.1) (SS.up dk dk) (SS.down dk dk) (Or.inl ⟨by rfl,?_⟩) hcl hS ?_
      rotate_left
      ·(intro w9 hw9;(try dsimp only at hw9);obtain ⟨g0,g1,g2,g3,g4,g5⟩:=hw9.six;go_simp;try with_reducible rfl)
      clear hcl hS
      intro hcl hS
      (try simp only [Act.put]);(try simp only [List.setIfInBounds_toArray]);(repeat (first | simp only [List.set_cons_succ] | simp only [List.set_cons_zero]))
      refine za1 (i:=1) (T:=(fun w9 => BoxAt w9 (w.heap.size + 1) (Ln q B d) 24)) (v:=?_) rfl kr kr kr (fun _ _ _ h => h) (fun _ _ _ _ hS => hS.2.2.2) (SS.up dk dk) (SS.down dk dk) (Or.inl ⟨by rfl,?_⟩) hcl hS ?_
      rotate_left
      ·(intro w9 hw9;(try dsimp only at hw9);obtain ⟨g0,g1,g2,g3,g4,g5⟩:=hw9.six;go_simp;try with_reducible rfl)
      clear hcl hS
      intro hcl hS
      (try simp only [Act.put]);(try simp only [List.setIfInBounds_toArray]);(repeat (first | simp only [List.set_cons_succ] | simp only [List.set_cons_zero]))
      refine za1 (i:=2) (T:=(fun _ => True)) (v:=?_) rfl kr kr kr (fun _ _ _ h => h) (fun _ _ _ _ _ => trivial) (SS.up dk dk) (SS.down dk dk) (Or.inl ⟨by rfl,?_⟩) hcl hS ?_
      rotate_left
      ·(intro w9 hw9;(try dsimp only at hw9);go_simp;try with_reducible rfl)
      clear hcl hS
      intro hcl hS
      (try simp only [Act.put]);(try simp only [List.setIfInBounds_toArray]);(repeat (first | simp only [List.set_cons_succ] | simp only [List.set_cons_zero]))
      have hp9:=hS.2.2.1
      have hq9:=hS.2.2.2
      clear hS
      refine zao (i:=3) kr rfl rfl hcl 24 (.tmp 4) (.tmp 60) rfl (HF.b3.mono ex) rfl (Ln p A c) rfl rfl (show 6 < 44 by decide) kr (zaa p A c) ?_;intro W1 ht1 hb1;replace hp9:=hp9.turn ht1 om;replace hq9:=hq9.turn ht1 om
      refine ⟨⟨fun _ => trivial,fun _ => trivial,hp9,hq9⟩,fun hcl hS => ?_⟩
      clear hp9 hq9
      have hp9:=hS.2.2.1
      have hq9:=hS.2.2.2
      clear hS
      refine zao (i:=4) kr rfl rfl hcl 24 (.tmp 5) (.tmp 61) rfl ((HF.b4.mono (show Ext _ (xt _ yb).drew from ex)).turn ht1 om) rfl (Ln q B d) rfl rfl (show 6 < 44 by decide) kr (zaa q B d) ?_;intro W2 ht2 hb2;replace hp9:=hp9.turn ht2 om;replace hq9:=hq9.turn ht2 om
      refine ⟨⟨fun _ => trivial,fun _ => trivial,hp9,hq9⟩,fun hcl hS => ?_⟩
      clear hp9 hq9
      refine za9 (i:=5) kr rfl rfl hcl (fun K9 hK9 => ?_)
      have hp9:=hS.2.2.1
      have hq9:=hS.2.2.2
      clear hS hcl
      go_simp
      refine hK9 _ _ ⟨fun _ => trivial,fun _ => trivial,hp9,hq9⟩ (fun hcl hS => ?_)
      clear hK9 hp9 hq9 K9
      refine za9 (i:=6) kr rfl rfl hcl (fun K9 hK9 => ?_)
      have hp9:=hS.2.2.1
      have hq9:=hS.2.2.2
      clear hS hcl
      go_simp
      refine hK9 _ _ ⟨fun _ => trivial,fun _ => trivial,hp9,hq9⟩ (fun hcl hS => ?_)
      clear hK9 hp9 hq9 K9
      clear hcl hS
      refine zas kr ?_ _
      go_wp2_with fail
      obtain ⟨q0,q1,q2,q3,q4,q5⟩:=(hb1.turn ht2 om).six
      obtain ⟨p0,p1,p2,p3,p4,p5⟩:=hb2.six
      refine bodyPost_ret (v:=.tuple #[.agg (Ln p A c),.agg (Ln q B d),.int .i64 k,.int .i64 0]) (by simp [results,Tryz.results72,go_sem,q0,q1,q2,q3,q4,q5,p0,p1,p2,p3,p4,p5]) rfl ?_
      rw [HV.out]
      exact ⟨A,c,B,d,rfl,ht2.ext (ht1.ext (HF.ext.trans (show Ext _ (xt _ yb).drew from ex)) om) om,LogW.recs (((HF.l1.mono (show Ext _ (xt _ yb).drew from ex)).turn ht1).turn ht2) (ht2.ext (ht1.ext (HF.ext.trans (show Ext _ (xt _ yb).drew from ex)) om) om) (Ext.refl _),LogW.recs (((HF.l2.mono (show Ext _ (xt _ yb).drew from ex)).turn ht1).turn ht2) (ht2.ext (ht1.ext (HF.ext.trans (show Ext _ (xt _ yb).drew from ex)) om) om) (Ext.refl _)⟩
     | false =>
      obtain ⟨m,hmm⟩ : ∃ m,sentM p = m:=⟨_,rfl⟩
      obtain ⟨⟨n1,a1,ok,er⟩,hv⟩ : ∃ v,recvV q m = v:=⟨_,rfl⟩
      have HNP:=zh HP.out.1.na
      have HEL:=zh (show ∀ r ∈ n1.log,AcnAt w r.act from fun r hr => by
       have hr' : r ∈ (recvV q m).1.log:=by rw [hv];exact hr
       rcases zcF q m r hr' with h | h
       ·exact HF.l2.el r h
       ·exact HF.l1.el r (zec p r (by rw [hmm];exact h)))
      have HVS:=zh (show recvV q (sentM p) = (n1,a1,ok,er) by rw [hmm];exact hv)
      have HMM:=zh hmm
      have HV:=zh hv
      clear hmm hv
      go_wp2_with (go_at_call 104;refine (zjq p A c q B d false HB.out _ (HF.l1.recs HF.ext ex) (HF.l2.recs HF.ext ex)).mono ?_;rintro e w' ⟨rfl,hx⟩;obtain ⟨yb,rfl⟩:=hx.get;clear hx)
      refine zrD 11 [6,7,8] [Stab.is (.agg (Ln q B d)),Stab.is (.agg (Ln p A c)),Stab.msg m,Stab.recv w n1 a1 ok er,Stab.recv w n1 a1 ok er,Stab.nod w n1,Stab.is (.agg (La a1)),Stab.is (.bool ok),Stab.is (.int .i64 er),Stab.box (w.heap.size + 4) Zn 24,Stab.box (w.heap.size + 4) Zm 113] (fun u => by (simp only [zc0,List.take_succ_cons,List.take_zero,Act.put,Nat.zero_add,Nat.reduceAdd]);(try simp only [List.setIfInBounds_toArray]);(repeat (first | simp only [List.set_cons_succ] | simp only [List.set_cons_zero]));exact rfl) kr kr (fun _ _ _ _ _ h => h) ?_ ?_
      ·refine ⟨?_,?_,?_,?_,?_,?_,?_,?_,?_,?_,?_,trivial⟩
       ·(show SlotA _ _ _ _ _ _ _);intro u w1 hx1 hd;obtain ⟨y9,rfl⟩:=hx1.get;clear hx1
        refine za0 rfl rfl rfl ?_;intro K9 hK
        go_simp;exact hK _ _ rfl ex rfl
       ·(show SlotA _ _ _ _ _ _ _);intro u w1 hx1 hd;obtain ⟨y9,rfl⟩:=hx1.get;clear hx1
        refine za0 rfl rfl rfl ?_;intro K9 hK
        go_simp;exact hK _ _ rfl ex rfl
       ·(show SlotA _ _ _ _ _ _ _);intro u w1 hx1 hd;obtain ⟨y9,rfl⟩:=hx1.get;clear hx1
        have e1 : u 1 = .agg (Ln p A c):=hd 1 kr
        simp only [e1]
        refine za0 rfl rfl rfl ?_;intro K9 hK
        go_simp;go_at_call 106;refine (zq9 p m HMM.out A c _ (HF.l1.recs HF.ext ex) HNP.out).mono ?_;rintro e w' ⟨D,K,rfl,hx,hown,hel⟩;exact hK _ _ rfl hx ⟨D,K,rfl,Own.recs hown rfl (fun r hr => (hel r hr).mono hx)⟩
       ·(show SlotA _ _ _ _ _ _ _);intro u w1 hx1 hd;obtain ⟨y9,rfl⟩:=hx1.get;clear hx1
        have e0 : u 0 = .agg (Ln q B d):=hd 0 kr
        obtain ⟨D2,K2,e2,h2⟩:=hd 2 kr
        simp only [e0,e2]
        refine za0 rfl rfl rfl ?_;intro K9 hK
        go_simp;go_at_call 105;refine (zbn q B d m D2 K2 _ (HF.l2.recs HF.ext ex) (h2.mono ex) n1 a1 ok er HV.out).mono ?_;rintro e w' ⟨D,K,rfl,hx,hl⟩;exact hK _ _ rfl hx ⟨D,K,rfl,LogIn.logw hl rfl hx HEL.out⟩
       ·(show SlotA _ _ _ _ _ _ _);intro u w1 hx1 hd;obtain ⟨y9,rfl⟩:=hx1.get;clear hx1
        obtain ⟨D3,K3,e3,h3⟩:=hd 3 kr
        simp only [e3]
        refine za0 rfl rfl rfl ?_;intro K9 hK
        go_simp;exact hK _ _ rfl ex ⟨D3,K3,rfl,h3⟩
       ·(show SlotA _ _ _ _ _ _ _);intro u w1 hx1 hd;obtain ⟨y9,rfl⟩:=hx1.get;clear hx1
        obtain ⟨D3,K3,e4,h3⟩:=hd 4 kr
        simp only [e4]
        refine za0 rfl rfl rfl ?_;intro K9 hK
        go_simp;exact hK _ _ rfl ex ⟨D3,K3,rfl,h3⟩
       ·(show PureA _ _ _ _ _ _);intro u w1 hx1 hd;obtain ⟨y9,rfl⟩:=hx1.get;clear hx1
        obtain ⟨D3,K3,e4,h3⟩:=hd 4 kr
        simp only [e4]
        refine zaI (v:=.agg (La a1)) rfl rfl (fun w9 => ?_) rfl
        go_simp
       ·(show PureA _ _ _ _ _ _);intro u w1 hx1 hd;obtain ⟨y9,rfl⟩:=hx1.get;clear hx1
        obtain ⟨D3,K3,e4,h3⟩:=hd 4 kr
        simp only [e4]
        refine zaI (v:=.bool ok) rfl rfl (fun w9 => ?_) rfl
        go_simp
       ·(show PureA _ _ _ _ _ _);intro u w1 hx1 hd;obtain ⟨y9,rfl⟩:=hx1.get;clear hx1
        obtain ⟨D3,K3,e4,h3⟩:=hd 4 kr
        simp only [e4]
        refine zaI (v:=.int .i64 er) rfl rfl (fun w9 => ?_) rfl
        go_simp
       ·(show SlotA _ _ _ _ _ _ _);intro u w1 hx1 hd;obtain ⟨y9,rfl⟩:=hx1.get;clear hx1
        refine za0 rfl rfl rfl ?_;intro K9 hK
        go_simp;exact hK _ _ rfl ex ⟨_,rfl,(by have h9:=HF.b4.lt;first | omega | (simp [go_sem];omega)),BoxAt.new (by first | rfl | simp [go_sem]) _ _⟩
       ·(show SlotA _ _ _ _ _ _ _);intro u w1 hx1 hd;obtain ⟨y9,rfl⟩:=hx1.get;clear hx1
        refine za0 rfl rfl rfl ?_;intro K9 hK
        go_simp;exact hK _ _ rfl ex ⟨_,rfl,(by have h9:=HF.b4.lt;first | omega | (simp [go_sem];omega)),BoxAt.new (by first | rfl | simp [go_sem]) _ _⟩
      ·intro u w2 hx2 hT;obtain ⟨t0,t1,t2,t3,t4,t5,t6,t7,t8,t9,t10,-⟩:=hT;obtain ⟨y9,rfl⟩:=hx2.get;clear hx2
       obtain ⟨D5,K5,e5,h5⟩:=t5
       have e6 : u 6 = .agg (La a1):=t6
       have e7 : u 7 = .bool ok:=t7
       have e8 : u 8 = .int .i64 er:=t8
       obtain ⟨g9,e9,hg9,b9⟩:=t9
       obtain ⟨g10,e10,hg10,b10⟩:=t10
       simp only [e5,e6,e7,e8,e9,e10]
       clear e5 e6 e7 e8 e9 e10 t0 t1 t2 t3 t4 t6 t7 t8
       simp only [List.drop_succ_cons,List.drop_zero]
       have HE:=zh (HF.mono (show Ext _ (xt (xt _ yb).drew y9) from ex))
       by_cases h4 : er = 0
       ·have hz4 : (er != 0) = false:=by simpa using h4
        subst h4
        cases ok with
        | false =>
         have HN:=zh (show Pair p n1 ∧ V = zaK (521 - (k + 1)) ((k + 1 : Nat) : Int) p n1 from ⟨by
          have:=HP.out.1.first (by rw [HVS.out])
          rw [HVS.out] at this;exact this,by
          rw [HP.out.2,show 521 - k = (520 - k) + 1 by omega,zip HVS.out HB.out rfl rfl,show 521 - (k + 1) = 520 - k by omega];rfl⟩)
         go_wp2_with (first
          | (refine za2 rfl 24 (.tmp 12) (.tmp 68) rfl b9 rfl (Ln n1 D5 K5) rfl rfl (show 6 < 44 by decide) kr (zaa n1 D5 K5) ?_;intro W1 ht1 hb1)
          | (refine za2 rfl 113 (.tmp 13) (.tmp 69) rfl (b10.turn ht1 (BoxAt.differ b10 b9 dk)) rfl (La a1) rfl rfl (show 6 < 44 by decide) kr (zaT a1) ?_;intro W2 ht2 hb2;have F3:=(HE.out.turn ht1 hg9).turn ht2 hg10;have L5:=(h5.turn ht1).turn ht2;obtain ⟨q0,q1,q2,q3,q4,q5⟩:=(hb1.turn ht2 (BoxAt.differ b9 b10 dk)).six;obtain ⟨r0,r1,r2,r3,r4,r5⟩:=hb2.six)
          | (refine za2 rfl 24 (.tmp 3) (.tmp 77) rfl F3.b2 rfl (Ln n1 D5 K5) rfl rfl (show 6 < 44 by decide) kr (zaa n1 D5 K5) ?_;intro W4 ht4 hb4;have F4:=F3.set2 ht4 hb4 L5))
         go_light
         exact ⟨⟨k + 1,p,A,c,n1,D5,K5,by omega,by go_num,HN,F4⟩,by simp [intOf];omega⟩
        | true =>
         obtain ⟨⟨n2,a2,ok2,er2⟩,hu⟩ : ∃ v,recvV p a1 = v:=⟨_,rfl⟩
         have L:=zb8 (n:=q) (m:=m) (by rw [HV.out])
         rw [HV.out] at L
         have HA1:=zh ((L.ans rfl).1.ans (L.ans rfl).2.2)
         have HEL2:=zh (show ∀ r ∈ n2.log,AcnAt w r.act from fun r hr => by
          have hr' : r ∈ (recvV p a1).1.log:=by rw [hu];exact hr
          rcases zcF p a1 r hr' with h | h
          ·exact HF.l1.el r h
          ·rw [HA1.out.2.1] at h;cases h)
         have HU:=zh hu
         clear hu L
         by_cases h5 : er2 = 0
         ·subst h5
          have HN:=zh (show Pair n2 n1 ∧ V = zaK (521 - (k + 1)) ((k + 1 : Nat) : Int) n2 n1 from ⟨by
           have:=HP.out.1.second (by rw [HVS.out]) (by rw [HVS.out]) (by rw [HVS.out];show (recvV p a1).2.2.2 = 0;rw [HU.out])
           rw [HVS.out] at this
           have e : (recvV p a1).1 = n2:=by rw [HU.out]
           rw [← e];exact this,by
           rw [HP.out.2,show 521 - k = (520 - k) + 1 by omega,zmE HVS.out HU.out HB.out rfl rfl rfl,show 521 - (k + 1) = 520 - k by omega];rfl⟩)
          go_wp2_with (first
           | (refine za2 rfl 24 (.tmp 12) (.tmp 68) rfl b9 rfl (Ln n1 D5 K5) rfl rfl (show 6 < 44 by decide) kr (zaa n1 D5 K5) ?_;intro W1 ht1 hb1)
           | (refine za2 rfl 113 (.tmp 13) (.tmp 69) rfl (b10.turn ht1 (BoxAt.differ b10 b9 dk)) rfl (La a1) rfl rfl (show 6 < 44 by decide) kr (zaT a1) ?_;intro W2 ht2 hb2;have F3:=(HE.out.turn ht1 hg9).turn ht2 hg10;have L5:=(h5.turn ht1).turn ht2;obtain ⟨q0,q1,q2,q3,q4,q5⟩:=(hb1.turn ht2 (BoxAt.differ b9 b10 dk)).six;obtain ⟨r0,r1,r2,r3,r4,r5⟩:=hb2.six)
           | (refine za2 rfl 24 (.tmp 3) (.tmp 77) rfl F3.b2 rfl (Ln n1 D5 K5) rfl rfl (show 6 < 44 by decide) kr (zaa n1 D5 K5) ?_;intro W4 ht4 hb4;have F4:=F3.set2 ht4 hb4 L5;obtain ⟨u0,u1,u2,u3,u4,u5⟩:=F4.b1.six;obtain ⟨v0,v1,v2,v3,v4,v5⟩:=((hb2.turn ht4 (by have:=F3.b4.lt;omega))).six)
           | (have hh:=ht4;clear hh;go_at_call 105;refine (zik p A c a1 _ (F4.l1.recs F4.ext ex) HA1.out n2 a2 ok2 0 HU.out).mono ?_;rintro e w' ⟨D8,K8,rfl,hx,hl⟩;have F5:=F4.mono hx;have L8:=LogIn.logw (w:=w) hl rfl hx HEL2.out;obtain ⟨y8,rfl⟩:=hx.get;clear hx hl)
           | (refine za2 rfl 24 (.tmp 2) (.tmp 84) rfl F5.b1 rfl (Ln n2 D8 K8) rfl rfl (show 6 < 44 by decide) kr (zaa n2 D8 K8) ?_;intro W7 ht7 hb7;have F6:=F5.set1 ht7 hb7 L8))
          go_light
          exact ⟨⟨k + 1,n2,D8,K8,n1,D5,K5,by omega,by go_num,HN,F6⟩,by simp [intOf];omega⟩
         ·have hz5 : (er2 != 0) = true:=by simpa using h5
          have HVV:=zh (show V = (nod0,nod0,0,er2) by rw [HP.out.2,show 521 - k = (520 - k) + 1 by omega,zin HVS.out HU.out HB.out rfl rfl h5])
          clear h5
          go_wp2_with (first
           | (refine za2 rfl 24 (.tmp 12) (.tmp 68) rfl b9 rfl (Ln n1 D5 K5) rfl rfl (show 6 < 44 by decide) kr (zaa n1 D5 K5) ?_;intro W1 ht1 hb1)
           | (refine za2 rfl 113 (.tmp 13) (.tmp 69) rfl (b10.turn ht1 (BoxAt.differ b10 b9 dk)) rfl (La a1) rfl rfl (show 6 < 44 by decide) kr (zaT a1) ?_;intro W2 ht2 hb2;have F3:=(HE.out.turn ht1 hg9).turn ht2 hg10;have L5:=(h5.turn ht1).turn ht2;obtain ⟨q0,q1,q2,q3,q4,q5⟩:=(hb1.turn ht2 (BoxAt.differ b9 b10 dk)).six;obtain ⟨r0,r1,r2,r3,r4,r5⟩:=hb2.six)
           | (refine za2 rfl 24 (.tmp 3) (.tmp 77) rfl F3.b2 rfl (Ln n1 D5 K5) rfl rfl (show 6 < 44 by decide) kr (zaa n1 D5 K5) ?_;intro W4 ht4 hb4;have F4:=F3.set2 ht4 hb4 L5;obtain ⟨u0,u1,u2,u3,u4,u5⟩:=F4.b1.six;obtain ⟨v0,v1,v2,v3,v4,v5⟩:=((hb2.turn ht4 (by have:=F3.b4.lt;omega))).six)
           | (have hh:=ht4;clear hh;go_at_call 105;refine (zik p A c a1 _ (F4.l1.recs F4.ext ex) HA1.out n2 a2 ok2 er2 HU.out).mono ?_;rintro e w' ⟨D8,K8,rfl,hx,hl⟩;have F5:=F4.mono hx;have L8:=LogIn.logw (w:=w) hl rfl hx HEL2.out;obtain ⟨y8,rfl⟩:=hx.get;clear hx hl)
           | (refine za2 rfl 24 (.tmp 2) (.tmp 84) rfl F5.b1 rfl (Ln n2 D8 K8) rfl rfl (show 6 < 44 by decide) kr (zaa n2 D8 K8) ?_;intro W7 ht7 hb7;have F6:=F5.set1 ht7 hb7 L8)
           | (refine za2 rfl 24 (.tmp 4) (.tmp 90) rfl F6.b3 rfl Zn rfl rfl (show 6 < 44 by decide) kr zones ?_;intro W5 ht5 hb5)
           | (refine za2 rfl 24 (.tmp 5) (.tmp 91) rfl (F6.b4.turn ht5 om) rfl Zn rfl rfl (show 6 < 44 by decide) kr zones ?_;intro W6 ht6 hb6))
          obtain ⟨s0,s1,s2,s3,s4,s5⟩:=(hb5.turn ht6 om).six
          obtain ⟨t0,t1,t2,t3,t4,t5⟩:=hb6.six
          refine bodyPost_ret (v:=.tuple #[.agg (Ln nod0 none 0),.agg (Ln nod0 none 0),.int .i64 0,.int .i64 er2]) (by simp [results,Tryz.results72,go_sem,nod0,s0,s1,s2,s3,s4,s5,t0,t1,t2,t3,t4,t5]) rfl ?_
          exact zaU.err HVV.out (ht6.ext (ht5.ext F6.ext om) om)
       ·have hz4 : (er != 0) = true:=by simpa using h4
        have HVV:=zh (show V = (nod0,nod0,0,er) by rw [HP.out.2,show 521 - k = (520 - k) + 1 by omega,zk1 HVS.out HB.out h4])
        clear h4
        go_wp2_with (first
         | (refine za2 rfl 24 (.tmp 12) (.tmp 68) rfl b9 rfl (Ln n1 D5 K5) rfl rfl (show 6 < 44 by decide) kr (zaa n1 D5 K5) ?_;intro W1 ht1 hb1)
         | (refine za2 rfl 113 (.tmp 13) (.tmp 69) rfl (b10.turn ht1 (BoxAt.differ b10 b9 dk)) rfl (La a1) rfl rfl (show 6 < 44 by decide) kr (zaT a1) ?_;intro W2 ht2 hb2;have F3:=(HE.out.turn ht1 hg9).turn ht2 hg10;have L5:=(h5.turn ht1).turn ht2;obtain ⟨q0,q1,q2,q3,q4,q5⟩:=(hb1.turn ht2 (BoxAt.differ b9 b10 dk)).six;obtain ⟨r0,r1,r2,r3,r4,r5⟩:=hb2.six)
         | (refine za2 rfl 24 (.tmp 4) (.tmp 74) rfl F3.b3 rfl Zn rfl rfl (show 6 < 44 by decide) kr zones ?_;intro W5 ht5 hb5)
         | (refine za2 rfl 24 (.tmp 5) (.tmp 75) rfl (F3.b4.turn ht5 om) rfl Zn rfl rfl (show 6 < 44 by decide) kr zones ?_;intro W6 ht6 hb6))
        obtain ⟨s0,s1,s2,s3,s4,s5⟩:=(hb5.turn ht6 om).six
        obtain ⟨t0,t1,t2,t3,t4,t5⟩:=hb6.six
        refine bodyPost_ret (v:=.tuple #[.agg (Ln nod0 none 0),.agg (Ln nod0 none 0),.int .i64 0,.int .i64 er]) (by simp [results,Tryz.results72,go_sem,nod0,s0,s1,s2,s3,s4,s5,t0,t1,t2,t3,t4,t5]) rfl ?_
        exact zaU.err HVV.out (ht6.ext (ht5.ext F3.ext om) om)
    ·have HVV:=zh (show V = (nod0,nod0,0,16) by rw [HP.out.2,show 521 - k = 0 by omega];rfl)
     have hkk : ¬ (k : Int) ≤ 520:=by omega
     go_wp2_with (first
      | (refine za2 rfl 24 (.tmp 4) (.tmp 93) rfl HF.b3 rfl Zn rfl rfl (show 6 < 44 by decide) kr zones ?_;intro W5 ht5 hb5)
      | (refine za2 rfl 24 (.tmp 5) (.tmp 94) rfl (HF.b4.turn ht5 om) rfl Zn rfl rfl (show 6 < 44 by decide) kr zones ?_;intro W6 ht6 hb6))
     obtain ⟨s0,s1,s2,s3,s4,s5⟩:=(hb5.turn ht6 om).six
     obtain ⟨t0,t1,t2,t3,t4,t5⟩:=hb6.six
     refine bodyPost_ret (v:=.tuple #[.agg (Ln nod0 none 0),.agg (Ln nod0 none 0),.int .i64 0,.int .i64 16]) (by simp [results,Tryz.results72,go_sem,nod0,s0,s1,s2,s3,s4,s5,t0,t1,t2,t3,t4,t5]) rfl ?_
     exact zaU.err HVV.out (ht6.ext (ht5.ext HF.ext om) om)
theorem zdA (a : Nod) (A : Option Addr) (c : Nat) (b : Nod) (B : Option Addr) (d : Nat) (w : World) (hs : za3 w A c a.log) (hm : za3 w B d b.log) : Calls Tryz.prog 72 #[.agg (Ln a A c),.agg (Ln b B d)] w (zaU w (zaS a b)):=by
 by_cases h : nodE a = 0
 ·by_cases h2 : nodE b = 0
  ·by_cases h3 : a.id = b.id
   ·exact zwD a A c b B d w hs hm h h2 h3
   ·by_cases h4 : a.speaks = false ∨ a.term < b.term
    ·exact zwE a A c b B d w hs hm h h2 h3 h4
    ·exact zwF a A c b B d w hs hm h h2 h3 h4
  ·exact zwC a A c b B d w hs hm h h2
 ·exact zwB a A c b B d w hs h
end Go.Proofs.YtnpdghjpcnjokaaGreat
