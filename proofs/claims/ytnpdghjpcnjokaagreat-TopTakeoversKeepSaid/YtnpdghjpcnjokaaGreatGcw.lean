import Derived.Test.YtnpdghjpcnjokaaGreatGwkg
import Derived.Test.YtnpdghjpcnjokaaGreatTopF
import Derived.Test.YtnpdghjpcnjokaaGreatGtopx
import Derived.Test.YtnpdghjpcnjokaaGreatDdw
set_option maxHeartbeats 12800000
set_option maxRecDepth 100000
namespace Go.Proofs.YtnpdghjpcnjokaaGreat
namespace Tk

theorem Inv.both2 {G : Int → Option (List Rec)} {K : Nat} {w : CW} (h : Inv G K w) : 0 ≤ (w.n false).acked ∧ 0 ≤ (w.n true).acked ∧ max (w.n false).acked (w.n true).acked ≤ min (w.n false).log.length (w.n true).log.length ∧
  (w.n false).log.take (max (w.n false).acked (w.n true).acked).toNat = (w.n true).log.take (max (w.n false).acked (w.n true).acked).toNat ∧ ((w.n false).speaks = true → (w.n true).speaks = true → (w.n false).term ≠ (w.n true).term):=by
 have h0:=(h.node false).a0;have h1:=(h.node true).a0
 have g0:=(h.node false).a1;have g1:=(h.node true).a1
 obtain ⟨c1,c2⟩:=h.com false
 obtain ⟨c3,c4⟩:=h.com true
 have e1 : (!false) = true:=rfl
 have e2 : (!true) = false:=rfl
 rw [e1] at c1 c2
 rw [e2] at c3 c4
 refine ⟨h0,h1,by omega,?_,fun s1 s2 he => ?_⟩
 ·by_cases hc : (w.n true).acked ≤ (w.n false).acked
  ·rw [show max (w.n false).acked (w.n true).acked = (w.n false).acked by omega];exact c2
  ·rw [show max (w.n false).acked (w.n true).acked = (w.n true).acked by omega];exact c4.symm
 ·have o1:=h.own s1
  have o2:=h.own s2
  rw [he] at o1
  have:=zgi o1
  rw [e1,o2] at this
  cases this


theorem WG.both {K : Nat} {w : Wld} (h : WG K [] w) : 0 ≤ w.a.node.acked ∧ 0 ≤ w.b.node.acked ∧ max w.a.node.acked w.b.node.acked ≤ min w.a.node.log.length w.b.node.log.length ∧
  w.a.node.log.take (max w.a.node.acked w.b.node.acked).toNat = w.b.node.log.take (max w.a.node.acked w.b.node.acked).toNat ∧ (w.a.node.speaks = true → w.b.node.speaks = true → w.a.node.term ≠ w.b.node.term):=by
 obtain ⟨G,h⟩:=h
 exact h.both2
end Tk
end Go.Proofs.YtnpdghjpcnjokaaGreat

namespace Go.Proofs.YtnpdghjpcnjokaaGreat
open Go.RowKit

def reachB (ops : Array Oper) : Nat → Nat → Nat → Bool
 | 0,i,c => zdI .any ops i c
 | n + 1,i,c => zdI .any ops i c || (List.range ops.size).any fun j => zdI .any ops i j && reachB ops n j c
theorem reachB_done {ops : Array Oper} {L : Array Bool} (h : ∀ i j,L.getD i false = true → zdI .any ops i j = true → L.getD j false = true) : ∀ (n i c : Nat),L.getD i false = true → reachB ops n i c = true → L.getD c false = true
 | 0,i,c,hi,hr => h i c hi hr
 | n + 1,i,c,hi,hr => by
  unfold reachB at hr
  rw [Bool.or_eq_true] at hr
  rcases hr with hr | hr
  ·exact h i c hi hr
  ·obtain ⟨j,-,hr⟩:=List.any_eq_true.1 hr
   rw [Bool.and_eq_true] at hr
   exact reachB_done h n j c (h i j hi hr.1) hr.2
theorem reachB_first {ops : Array Oper} {L : Array Bool} {n i c : Nat} (h : ∀ i j,L.getD i false = true → zdI .any ops i j = true → L.getD j false = true) (hw : ∀ j,zdI .any ops i j = true → L.getD j false = true) (hr : reachB ops n i c = true) : L.getD c false = true:=by
 cases n with
 | zero => exact hw c hr
 | succ n =>
  unfold reachB at hr
  rw [Bool.or_eq_true] at hr
  rcases hr with hr | hr
  ·exact hw c hr
  ·obtain ⟨j,-,hr⟩:=List.any_eq_true.1 hr
   rw [Bool.and_eq_true] at hr
   exact reachB_done h n j c (hw j hr.1) hr.2
def tailD (ops : Array Oper) (k : Nat) (F : List Nat) : Bool:=(List.range ops.size).all fun i =>
 decide (i < k) || ((List.range k).all fun c => F.contains c || reachB ops 6 i c) || (List.range i).any fun j => decide (k ≤ j) && zdI .any ops i j
def slotsD (ops : Array Oper) (k : Nat) (F : List Nat) (m : Nat) : Bool :=
 Region.noSelect ops && decide (k ≤ ops.size) && headB ops k m && tailD ops k F && freeB ops k F && Region.seqB .any ops (ops.size - k) k (zdb ops k)
section
variable {P : Program} {ops : Array Oper} {Q : Exit → Act → World → Prop}
section
variable {k : Nat} {F Al : List Nat} {T : Nat → Value → World → Prop} {a0 : Act} {w0 : World}
theorem wpAny_core4 (hB : headB ops k a0.tmps.size = true) (hT : tailD ops k F = true) (hks : k ≤ ops.size) (hst : ∀ i v w w',Ext w w' → T i v w → T i v w') (hAl : ∀ j,Al.contains j = true → ∀ v w,T j v w → zzB w v) (hop : ∀ i,i < k → zoV P ops Q k T Al a0 w0 i)
  (hend : ∀ L a w,SInvS ops k T a0 w0 L a w → Diff ops Al k L a → (∀ i,i < k → F.contains i = false → L.getD i false = true) → wpAny P .any ops Q (leftN ops.size L) L a w) :
  ∀ (f : Nat) (L : Array Bool) (a : Act) (w : World),SInvS ops k T a0 w0 L a w → Diff ops Al k L a → leftN ops.size L = f → wpAny P .any ops Q f L a w:=by
 intro f
 induction f with
 | zero =>
  intro L a w inv hdf hf
  rw [← hf]
  refine hend L a w inv hdf fun i hi _ => ?_
  cases hl : L.getD i false with
  | true => rfl
  | false => have:=zpI (n:=ops.size) (i:=i) om hl;omega
 | succ f ih =>
  intro L a w inv hdf hf
  by_cases hall : ∀ i,i < k → F.contains i = false → L.getD i false = true
  ·rw [← hf];exact hend L a w inv hdf hall
  ·have hall' : ∀ i,i < k → Region.ready .any ops L = [] → L.getD i false = true:=by
    intro i
    induction i using Nat.strongRecOn with
    | _ i ihi =>
     intro hi hr
     cases hl : L.getD i false with
     | true => rfl
     | false =>
      obtain ⟨o,d,ho,-,-,-,-,hed⟩:=zbS hB hi
      have hm : i ∈ Region.ready .any ops L:=mem_ready.2 ⟨getD_in (by rw [inv.1.size];omega) hl,o,ho,fun e he hb => ihi e.on (hed e he hb) (by have:=hed e he hb;omega) hr⟩
      rw [hr] at hm
      cases hm
   refine ⟨fun hr => absurd (fun i hi _ => hall' i hi hr) hall,fun i hi => ?_⟩
   obtain ⟨hun,o,ho,hdeps⟩:=mem_ready.1 hi
   have his : i < ops.size:=(Array.getElem?_eq_some_iff.1 ho).1
   have hw : ∀ j,zdI .any ops i j = true → L.getD j false = true:=fun j hj => by
    obtain ⟨o',e,ho',he,hb,rfl⟩:=zd5 hj
    rw [ho] at ho'
    obtain rfl : o = o':=by injection ho'
    exact hdeps e he hb
   have hik : i < k:=by
    rcases Nat.lt_or_ge i k with h | h
    ·exact h
    ·exfalso
     have h1:=List.all_eq_true.1 hT i (List.mem_range.2 his)
     simp only [Bool.or_eq_true,decide_eq_true_eq] at h1
     rcases h1 with (h1 | h1) | h1
     ·omega
     ·refine hall fun c hc hF => ?_
      have h2:=List.all_eq_true.1 h1 c (List.mem_range.2 hc)
      rw [hF,Bool.false_or] at h2
      exact reachB_first inv.2 hw h2
     ·obtain ⟨j,hj,h2⟩:=List.any_eq_true.1 h1
      simp only [Bool.and_eq_true,decide_eq_true_eq] at h2
      have h3:=hw j h2.2
      rw [inv.1.tail j h2.1] at h3
      cases h3
   have hact:=inv.1.act hB
   have hg:=hop i hik (heldU ops a) w inv.1.ext (fun j hj => by
    have hlj:=hw j hj
    obtain ⟨o',e,ho',he,hb,rfl⟩:=zd5 hj
    obtain ⟨o2,-,ho2,-,-,-,-,hed⟩:=zbS hB hik
    rw [ho'] at ho2
    obtain rfl : o' = o2:=by injection ho2
    exact inv.1.at_ hB (by have:=hed e he hb;omega) hlj)
   rw [← hact] at hg
   refine wpOp_mono (fun a' w' h => ?_) hg
   obtain ⟨v,rfl,hx,hv,hfr⟩:=h
   refine ih _ _ _ (inv.next hB hst hik hx hv hw) (hdf.next hB inv.1 hik (fun hal j hj hjk hne hlj he => ?_)) ?_
   ·obtain ⟨g,e1,h1⟩:=hfr hal
    obtain ⟨g',e2,h2⟩:=hAl j hj _ _ (inv.1.at_ hB hjk hlj)
    rw [e1,e2] at he
    injection he with he
    injection he with he
    injection he with he
    omega
   have:=zgw (n:=ops.size) (i:=i) (L:=L) his (by rw [inv.1.size];exact his) (getD_both hun)
   omega
end
theorem wp_region_slots4 {id : Nat} {a : Act} {w : World} {l : List Oper} (k : Nat) (F Al : List Nat) (Ts : List Stab) {A : (Nat → Value) → Act} (hA : ∀ u,zc0 (l.take k) u 0 a = A u) (hm : P.follows .mixedOrders = true) (hB : slotsD l.toArray k F a.tmps.size = true) (hFA : F.all (fun i => !Al.contains i) = true)
  (hQ : ∀ c t t' ds w,Q (.panic c) ⟨t,ds⟩ w → Q (.panic c) ⟨t',ds⟩ w) (hAl : ∀ j,Al.contains j = true → ∀ v w,prop Ts j v w → zzB w v)
  (hop : allOf (fun i => if F.contains i = true then PureA P l.toArray (prop Ts) A w.drew i else SlotB P l.toArray Q (prop Ts) Al A w.drew i) k 0)
  (hend : ∀ u w',Ext w.drew w' → allOf (fun i => prop Ts i (u i) w') k 0 → (∀ i j,i < k → j < k → Al.contains i = true → Al.contains j = true → i ≠ j → u i ≠ u j) → wpList P l.toArray Q (l.drop k) (A u) w') : (Code.region id l.toArray true).wp P Q a w:=by
 obtain rfl : A = fun u => zc0 (l.take k) u 0 a:=funext fun u => (hA u).symm
 simp only [slotsD,Bool.and_eq_true,decide_eq_true_eq] at hB
 obtain ⟨⟨⟨⟨⟨h1,h2⟩,h3⟩,h4⟩,h5⟩,h6⟩:=hB
 have hFA' : ∀ i,i ∈ F → Al.contains i = false:=fun i hi => by
  have:=List.all_eq_true.1 hFA i hi
  simpa using this
 have hpure : ∀ i,i ∈ F → zef P l.toArray k (prop Ts) a w.drew i:=fun i hi => by
  have hik : i < k:=by
   have:=List.all_eq_true.1 h5 i hi
   simp only [Bool.and_eq_true,decide_eq_true_eq] at this
   exact this.1.1
  have:=zfD hop i om om
  rwa [if_pos (by simpa using hi)] at this
 refine wp_region_any hm ?_
 have hleft : leftN l.toArray.size (Array.replicate l.toArray.size false) = l.toArray.size:=by
  have:=zfx (n:=l.toArray.size) (k:=0) (L:=Array.replicate l.toArray.size false) (Nat.zero_le _) (fun i hi => by omega) (fun i _ => getD_replicate_false _ _)
  simpa using this
 refine wpAny_core4 (F:=F) (Al:=Al) h3 h4 h2 (zpV Ts) hAl (fun i hi => ?_) (fun L a' w' inv hdf hall => ?_) l.toArray.size _ a w.drew ⟨⟨by simp,Ext.refl _,rfl,rfl,fun i _ => getD_replicate_false _ _,fun _ _ => rfl,fun i d _ _ hl => by rw [getD_replicate_false] at hl;cases hl⟩,fun i j hl => by rw [getD_replicate_false] at hl;cases hl⟩ (fun p q _ _ _ _ _ hl _ => by rw [getD_replicate_false] at hl;cases hl) hleft
 ·by_cases hF : F.contains i = true
  ·exact (hpure i (by simpa using hF)).slot2 h3 hi (hFA' i (by simpa using hF))
  ·have:=zfD hop i om om
   rwa [if_neg hF] at this
 ·refine zk9 h3 h5 h2 h1 h6 (zpV Ts) hQ hFA' hpure (fun u w'' hx hT hdd => ?_) F (fun _ h => h) L a' w' inv hdf hall hall
  have:=hend u w'' hx (zoe fun j _ hj => hT j om) hdd
  simpa using this
end
end Go.Proofs.YtnpdghjpcnjokaaGreat

namespace Go.Proofs.YtnpdghjpcnjokaaGreat
open Go.RowKit

def Stab.nodp (w : World) (x : Nod) (q : Nat) : Stab:=⟨fun v W => ∃ D K,v = .agg #[.int .i64 x.id,.int .i64 x.term,.bool x.speaks,.slice D x.log.length K,.int .i64 q,.int .i64 x.next] ∧ LogW w W D x.log.length K x.log,fun _ _ _ hx ⟨D,K,e,h⟩ => ⟨D,K,e,h.mono hx⟩⟩
section
variable {w : World} {v : Wld} {A B M : Option Addr} {a b m : Nat} {xs : List (Ltr × Option Addr × Nat)}
theorem zzq (h : WldAt w v A a B b M m xs) (hok : WldOk v) (hg : Tk.WG 1 [] v) (hn0 : v.now = 0) {E : Option Addr} {ce : Nat} {l : List Evt} (hs : zbR w E ce l) (hl0 : evtsE l = 0) {T : Nat} (hT : T ≤ 45) : Calls Tryz.prog 29 #[.agg (Lw v A a B b M m),.slice E l.length ce,.int .i64 T] w fun e w' => e = .returned (.bool true) ∧ Ext w w':=by
 have HA0:=zh (LogW.of h.a (Ext.refl w))
 have HB0:=zh (LogW.of h.b (Ext.refl w))
 have HM0:=zh (h.mailR (Ext.refl w))
 have hla:=h.a.len
 have hlb:=h.b.len
 have hml:=hok.len
 have hll:=zfI hl0
 have HS:=zh hs
 have HL0:=zh hl0
 have HOK:=zh hok
 have HG:=zh hg
 have HN0:=zh hn0
 have HEV:=zh (zei hl0)
 clear h hok hg hn0 hs hl0
 go_enter Tryz.func29,Tryz.ntmps29
 go_wp2
 go_loopw [14] (fun i wr => ∃ k : Nat,k ≤ T ∧ i = .int .i64 k ∧ Hid (Ext w wr) ∧ ∃ (A : Option Addr) (a : Nat) (B : Option Addr) (b : Nat) (M : Option Addr) (m : Nat) (xs : List (Ltr × Option Addr × Nat)),Hid (BoxAt wr w.heap.size (Lw (seqW l v k) A a B b M m) 30) ∧ Hid (LogW w wr A (seqW l v k).a.node.log.length a (seqW l v k).a.node.log) ∧ Hid (LogW w wr B (seqW l v k).b.node.log.length b (seqW l v k).b.node.log) ∧ Hid (MailR w wr M m (seqW l v k).mail xs) ∧ Hid (OffZ M (xs.map ltrR) w.heap.size)) (fun i _ => T - (intOf i).toNat)
 case atStart => exact ⟨0,by omega,rfl,zh ex,A,a,B,b,M,m,xs,zh (by repeat (first | exact BoxAt.new (by first | rfl | (simp [go_sem];done) | (simp [go_sem];omega)) _ _ | apply BoxAt.xt | apply BoxAt.drew | apply BoxAt.drewN | apply BoxAt.alloc)),zh (HA0.out.mono ex),zh (HB0.out.mono ex),zh (HM0.out.mono ex),zh (OffZ.start HM0.out.sl (Nat.le_refl _))⟩
 case round =>
  clear HA0 HB0 HM0 hla hlb hml
  obtain ⟨k,hk,rfl,HX,A,a,B,b,M,m,xs,HQ,HLA,HLB,HMR,HOF⟩:=hrel
  rename_i wr
  by_cases hlt : k < T
  ·have hsq:=zhe HEV.out HOK.out k (by rw [HN0.out];omega)
   have hwg:=(Tk.WG.seq HEV.out HOK.out HG.out k (by rw [HN0.out];omega) om).2
   have hwt:=Tk.WG.tick hwg om hsq.1 (zjj HEV.out (seqW l v k).now)
   have hto:=ziY hsq.1 (zjj HEV.out (seqW l v k).now) (by rw [hsq.2.1,HN0.out];omega)
   have hbo:=hwt.1.both
   have hna:=hwt.2 false
   have hnb:=hwt.2 true
   have hnow : (seqW l v k).now = (k : Int):=by rw [hsq.2.1,HN0.out];omega
   have HSS:=zh (show seqW l v (k + 1) = tickW (seqW l v k) (atL l (seqW l v k).now) from rfl)
   have HS1:=zh (show seqW l (seqW l v k) 1 = tickW (seqW l v k) (atL l (seqW l v k).now) from rfl)
   have hokc:=hsq.1
   obtain ⟨c,hc⟩ : ∃ c,seqW l v k = c:=⟨_,rfl⟩
   rw [hc] at hwt hto hbo hna hnb hnow hokc HSS HS1 HQ HLA HLB HMR
   obtain ⟨nx,hu⟩ : ∃ nx,tickW c (atL l c.now) = nx:=⟨_,rfl⟩
   rw [hu] at hwt hto hbo hna hnb HSS HS1
   have hna : NodTo c.a.node nx.a.node:=hna
   have hnb : NodTo c.b.node nx.b.node:=hnb
   have HOC:=zh hokc
   have HOU:=zh hto.1
   have HBO:=zh hbo
   have HNA:=zh hna
   have HNB:=zh hnb
   have HNW:=zh (show c.now + ((1 : Nat) : Int) ≤ 1048576 by rw [hnow];omega)
   have hla:=(HLA.out.recs HX.out (Ext.refl _)).len
   have hlb:=(HLB.out.recs HX.out (Ext.refl _)).len
   have hml:=hokc.len
   have hml2:=hto.1.len
   have HU1:=zh hto.1.a.node.len
   have HU2:=zh hto.1.b.node.len
   have HC1:=zh hokc.a.node
   have HC2:=zh hokc.b.node
   clear hsq hwg hwt hto hbo hna hnb hc hu hokc hnow
   have hb0 : (0 : Int) ≤ (k : Int):=by omega
   have hd1 : decide ((k : Int) < (T : Int)) = true:=decide_eq_true om
   have c0:=HQ.out.row (n:=21) rfl
   go_wp2_with fail
   go_at_call 22;refine (zAA (w0:=w) (w:=c) (A:=A) (a:=a) (B:=B) (b:=b) (M:=M) (m:=m) (xs:=xs) (HX.out.trans ex) HOC.out (HLA.out.mono ex) (HLB.out.mono ex) (HMR.out.mono ex) (E:=E) (ce:=ce) (l:=l) ((HS.out.mono HX.out).mono ex) HS.out.el HL0.out (T:=1) om HNW.out (Z:=fun x => x = w.heap.size) (cs:=fun _ => (Lw c A a B b M m)) (fun x hx => by rw [hx];exact HQ.out.mono ex) (fun x hx => by rw [hx];exact HOF.out)).mono ?_;rintro e V1 ⟨⟨A2,a2,B2,b2,M2,m2,xs2,rfl,hl1,hl3,hm3,hof⟩,hx,hbz⟩;rw [HS1.out] at hl1 hl3 hm3 ⊢;have HL1:=zh hl1;have HL3:=zh hl3;have HM3:=zh hm3;have HOZ:=zh (hof _ rfl);obtain ⟨yd,rfl⟩:=hx.get;clear hx hl1 hl3 hm3 hof hbz
   go_wp2_with (first
    | (refine za7 rfl 30 (.tmp 7) (.tmp 20) rfl rfl sg (Lw nx A2 a2 B2 b2 M2 m2) rfl rfl kr (zbm nx A2 a2 B2 b2 M2 m2) ?_)
    | (go_at_call 14;refine (zeq (w:=nx) (zlq (w0:=w) (HL1.out.mono ex) (HL3.out.mono ex) (HM3.out.mono ex) (HX.out.trans ex))).mono ?_;rintro e w' ⟨he,hx⟩;rw [(zge nx).2 HOU.out] at he;subst he;obtain ⟨ye,rfl⟩:=hx.get;clear hx)
    | (go_at_call 73;refine (zum nx.a.node nx.b.node A2 a2 B2 b2 _ ((HL1.out.mono ex).recs (HX.out.trans ex) (Ext.refl _)) ((HL3.out.mono ex).recs (HX.out.trans ex) (Ext.refl _)) HU1.out HU2.out HBO.out.1 HBO.out.2.1 (by have:=HBO.out.2.2.1;omega) HBO.out.2.2.2.1 HBO.out.2.2.2.2).mono ?_;rintro e w' ⟨rfl,hx⟩;obtain ⟨yf,rfl⟩:=hx.get;clear hx))
   refine zaG (fun W8 hW8 => ?_)
   obtain ⟨g7,hg7⟩ : ∃ g7,wr.heap.size + yd.n = g7:=⟨_,rfl⟩
   have q8 : BoxAt W8 (wr.heap.size + yd.n) (Lw nx A2 a2 B2 b2 M2 m2) 30:=by rw [hW8];exact (by repeat (first | exact BoxAt.new (by first | rfl | (simp [go_sem];done) | (simp [go_sem];omega)) _ _ | apply BoxAt.xt | apply BoxAt.drew | apply BoxAt.drewN | apply BoxAt.alloc))
   have x8 : Ext wr W8:=by rw [hW8];exact ex
   have l8:=HL1.out.mono (show Ext _ W8 from by rw [hW8];exact ex)
   have n8:=HL3.out.mono (show Ext _ W8 from by rw [hW8];exact ex)
   have m8:=HM3.out.mono (show Ext _ W8 from by rw [hW8];exact ex)
   have o8:=HLA.out.mono x8
   have p8:=HLB.out.mono x8
   have q7:=HQ.out.mono x8
   have X8:=HX.out.trans x8
   rw [hg7] at q8 ⊢
   have hg7w : w.heap.size ≤ g7:=by have:=HX.out.size;omega
   have HQ8:=zh q8
   have HQ7:=zh q7
   have HX8:=zh X8
   have HL8:=zh l8
   have HN8:=zh n8
   have HM8:=zh m8
   have HO8:=zh o8
   have HP8:=zh p8
   clear hW8 c0 hg7 q8 x8 l8 n8 m8 o8 p8 q7 X8 HQ HLA HLB HMR HL1 HL3 HM3
   go_wp2
   go_loopw [41] (fun i wt => ∃ V9,V9 = wt ∧ Ext W8 V9 ∧ (i = .int .i64 0 ∨ i = .int .i64 1 ∨ i = .int .i64 2)) (fun i _ => 2 - (intOf i).toNat)
   case atStart => exact ⟨_,rfl,ex,.inl rfl⟩
   case round =>
    obtain ⟨wt,rfl,hx,hrel⟩:=hrel
    have HXT:=zh hx
    clear hx
    rcases hrel with rfl | rfl | rfl
    ·obtain ⟨q,hq⟩ : ∃ q : Nat,c.a.node.acked = q:=⟨c.a.node.acked.toNat,by have:=HC1.out.a0;omega⟩
     have hg1:=HNA.out.acked
     have hg3:=HNA.out.len
     have hg4:=HNA.out.log
     have ho1:=HC1.out.a1
     have hol:=HC1.out.len
     have hxl:=HU1.out
     have hz1 : decide (nx.a.node.acked < (q : Int)) = false:=decide_eq_false om
     have hz3 : decide ((q : Int) < 0) = false:=decide_eq_false om
     have hz4 : decide (min (c.a.node.log.length : Int) (nx.a.node.log.length : Int) < (q : Int)) = false:=decide_eq_false om
     have i1 : (q : Int) ≤ (c.a.node.log.length : Int):=by omega
     have i2 : (q : Int) ≤ (nx.a.node.log.length : Int):=by omega
     have i3 : (0 : Int) ≤ (q : Int):=by omega
     have hb3 : c.a.node.log.length * 552 ≤ 140737488355328:=by omega
     have hb4 : nx.a.node.log.length * 552 ≤ 140737488355328:=by omega
     have HT:=zh (show zaR (c.a.node.log.take q) (nx.a.node.log.take q) = true by rw [hq,Int.toNat_natCast] at hg4;rw [hg4];exact zbr _)
     have HQ2:=zh hq
     have kz:=HQ7.out.mono HXT.out
     have k7:=HQ8.out.mono HXT.out
     have XT:=HX8.out.trans HXT.out
     have z0:=kz.c 4 rfl;have z1:=kz.c 5 rfl;have z2:=kz.c 6 rfl;have z3:=kz.c 7 rfl;have z4:=kz.c 8 rfl;have z5:=kz.c 9 rfl;have s0:=k7.c 4 rfl;have s1:=k7.c 5 rfl;have s2:=k7.c 6 rfl;have s3:=k7.c 7 rfl;have s4:=k7.c 8 rfl;have s5:=k7.c 9 rfl
     rw [hq] at z4
     have HRO:=zh ((HO8.out.mono HXT.out).recs XT (Ext.refl _))
     have HRX:=zh ((HL8.out.mono HXT.out).recs XT (Ext.refl _))
     have HCO:=zh (fun (V : World) (hr : za3 V A a c.a.node.log) => zbA c.a.node A a V hr hb3)
     rw [HQ2.out] at HCO
     clear hg1 hg3 hg4 ho1 hq kz k7
     go_wp2_with fail
     refine zaG (fun W3 hW3 => ?_)
     have x3 : Ext wt W3:=by rw [hW3];exact ex
     have z0:=x3.cell z0
     have z1:=x3.cell z1
     have z2:=x3.cell z2
     have z3:=x3.cell z3
     have z4:=x3.cell z4
     have z5:=x3.cell z5
     have s0:=x3.cell s0
     have s1:=x3.cell s1
     have s2:=x3.cell s2
     have s3:=x3.cell s3
     have s4:=x3.cell s4
     have s5:=x3.cell s5
     clear hW3
     refine wp_region_slots4 14 [] [12,13] [Stab.is (.int .i64 0),Stab.is (.pointer (some ⟨w.heap.size,4,none⟩)),Stab.is (.pointer (some ⟨w.heap.size,4,none⟩)),Stab.is (.pointer (some ⟨w.heap.size,4,none⟩)),Stab.is (.agg #[.int .i64 c.a.node.id,.int .i64 c.a.node.term,.bool c.a.node.speaks,.slice A c.a.node.log.length a,.int .i64 q,.int .i64 c.a.node.next]),Stab.nodp w c.a.node q,Stab.is (.int .i64 0),Stab.is (.pointer (some ⟨g7,4,none⟩)),Stab.is (.pointer (some ⟨g7,4,none⟩)),Stab.is (.pointer (some ⟨g7,4,none⟩)),Stab.is (.agg (Ln nx.a.node A2 a2)),Stab.nod w nx.a.node,Stab.box W3.heap.size Zn 40,Stab.box W3.heap.size Zn 40] (fun u => by (simp only [zc0,List.take_succ_cons,List.take_zero,Act.put,Nat.zero_add,Nat.reduceAdd]);(try simp only [List.setIfInBounds_toArray]);(repeat (first | simp only [List.set_cons_succ] | simp only [List.set_cons_zero]));exact rfl) kr kr kr (fun _ _ _ _ _ h => h) ?_ ?_ ?_
     ·intro j9 hj9 v9 w9 h9
      have hj9' : j9 = 12 ∨ j9 = 13:=by simpa using hj9
      rcases hj9' with rfl | rfl
      ·obtain ⟨g,rfl,-,h⟩:=h9;exact ⟨g,rfl,h.lt⟩
      ·obtain ⟨g,rfl,-,h⟩:=h9;exact ⟨g,rfl,h.lt⟩
     ·refine ⟨?_,?_,?_,?_,?_,?_,?_,?_,?_,?_,?_,?_,?_,?_,trivial⟩
      ·(show SlotB _ _ _ _ _ _ _ _);intro u w1 hx1 hd;obtain ⟨y9,rfl⟩:=hx1.get;clear hx1
       refine zaf rfl rfl rfl ?_;intro K9 hK0
       have hK:=fun a9 w9 h1 h2 h3 => hK0 a9 w9 h1 h2 h3 (fun h => by cases h);clear hK0
       go_simp;exact hK _ _ rfl ex rfl
      ·(show SlotB _ _ _ _ _ _ _ _);intro u w1 hx1 hd;obtain ⟨y9,rfl⟩:=hx1.get;clear hx1
       refine zaf rfl rfl rfl ?_;intro K9 hK0
       have hK:=fun a9 w9 h1 h2 h3 => hK0 a9 w9 h1 h2 h3 (fun h => by cases h);clear hK0
       go_simp;exact hK _ _ rfl ex rfl
      ·(show SlotB _ _ _ _ _ _ _ _);intro u w1 hx1 hd;obtain ⟨y9,rfl⟩:=hx1.get;clear hx1
       have e0 : u 0 = .int .i64 0:=hd 0 kr
       have e1 : u 1 = .pointer (some ⟨w.heap.size,4,none⟩):=hd 1 kr
       simp only [e0,e1]
       refine zaf rfl rfl rfl ?_;intro K9 hK0
       have hK:=fun a9 w9 h1 h2 h3 => hK0 a9 w9 h1 h2 h3 (fun h => by cases h);clear hK0
       go_simp;exact hK _ _ rfl ex rfl
      ·(show SlotB _ _ _ _ _ _ _ _);intro u w1 hx1 hd;obtain ⟨y9,rfl⟩:=hx1.get;clear hx1
       have e2 : u 2 = .pointer (some ⟨w.heap.size,4,none⟩):=hd 2 kr
       simp only [e2]
       refine zaf rfl rfl rfl ?_;intro K9 hK0
       have hK:=fun a9 w9 h1 h2 h3 => hK0 a9 w9 h1 h2 h3 (fun h => by cases h);clear hK0
       go_simp;exact hK _ _ rfl ex rfl
      ·(show SlotB _ _ _ _ _ _ _ _);intro u w1 hx1 hd;obtain ⟨y9,rfl⟩:=hx1.get;clear hx1
       have e3 : u 3 = .pointer (some ⟨w.heap.size,4,none⟩):=hd 3 kr
       simp only [e3]
       refine zaf rfl rfl rfl ?_;intro K9 hK0
       have hK:=fun a9 w9 h1 h2 h3 => hK0 a9 w9 h1 h2 h3 (fun h => by cases h);clear hK0
       go_simp;exact hK _ _ rfl ex rfl
      ·(show SlotB _ _ _ _ _ _ _ _);intro u w1 hx1 hd;obtain ⟨y9,rfl⟩:=hx1.get;clear hx1
       have e4 : u 4 = .agg #[.int .i64 c.a.node.id,.int .i64 c.a.node.term,.bool c.a.node.speaks,.slice A c.a.node.log.length a,.int .i64 q,.int .i64 c.a.node.next]:=hd 4 kr
       simp only [e4]
       refine zaf rfl rfl rfl ?_;intro K9 hK0
       have hK:=fun a9 w9 h1 h2 h3 => hK0 a9 w9 h1 h2 h3 (fun h => by cases h);clear hK0
       go_simp;go_at_call 41;refine (HCO.out _ ((HRO.out.mono x3).mono ex)).mono ?_;rintro e w' ⟨D,K,rfl,hx,hown⟩;exact hK _ _ rfl hx ⟨D,K,(by rw [← HQ2.out];rfl),LogW.own hown HO8.out.el⟩
      ·(show SlotB _ _ _ _ _ _ _ _);intro u w1 hx1 hd;obtain ⟨y9,rfl⟩:=hx1.get;clear hx1
       refine zaf rfl rfl rfl ?_;intro K9 hK0
       have hK:=fun a9 w9 h1 h2 h3 => hK0 a9 w9 h1 h2 h3 (fun h => by cases h);clear hK0
       go_simp;exact hK _ _ rfl ex rfl
      ·(show SlotB _ _ _ _ _ _ _ _);intro u w1 hx1 hd;obtain ⟨y9,rfl⟩:=hx1.get;clear hx1
       refine zaf rfl rfl rfl ?_;intro K9 hK0
       have hK:=fun a9 w9 h1 h2 h3 => hK0 a9 w9 h1 h2 h3 (fun h => by cases h);clear hK0
       go_simp;exact hK _ _ rfl ex rfl
      ·(show SlotB _ _ _ _ _ _ _ _);intro u w1 hx1 hd;obtain ⟨y9,rfl⟩:=hx1.get;clear hx1
       have e6 : u 6 = .int .i64 0:=hd 6 kr
       have e7 : u 7 = .pointer (some ⟨g7,4,none⟩):=hd 7 kr
       simp only [e6,e7]
       refine zaf rfl rfl rfl ?_;intro K9 hK0
       have hK:=fun a9 w9 h1 h2 h3 => hK0 a9 w9 h1 h2 h3 (fun h => by cases h);clear hK0
       go_simp;exact hK _ _ rfl ex rfl
      ·(show SlotB _ _ _ _ _ _ _ _);intro u w1 hx1 hd;obtain ⟨y9,rfl⟩:=hx1.get;clear hx1
       have e8 : u 8 = .pointer (some ⟨g7,4,none⟩):=hd 8 kr
       simp only [e8]
       refine zaf rfl rfl rfl ?_;intro K9 hK0
       have hK:=fun a9 w9 h1 h2 h3 => hK0 a9 w9 h1 h2 h3 (fun h => by cases h);clear hK0
       go_simp;exact hK _ _ rfl ex rfl
      ·(show SlotB _ _ _ _ _ _ _ _);intro u w1 hx1 hd;obtain ⟨y9,rfl⟩:=hx1.get;clear hx1
       have e9 : u 9 = .pointer (some ⟨g7,4,none⟩):=hd 9 kr
       simp only [e9]
       refine zaf rfl rfl rfl ?_;intro K9 hK0
       have hK:=fun a9 w9 h1 h2 h3 => hK0 a9 w9 h1 h2 h3 (fun h => by cases h);clear hK0
       go_simp;exact hK _ _ rfl ex rfl
      ·(show SlotB _ _ _ _ _ _ _ _);intro u w1 hx1 hd;obtain ⟨y9,rfl⟩:=hx1.get;clear hx1
       have e10 : u 10 = .agg (Ln nx.a.node A2 a2):=hd 10 kr
       simp only [e10]
       refine zaf rfl rfl rfl ?_;intro K9 hK0
       have hK:=fun a9 w9 h1 h2 h3 => hK0 a9 w9 h1 h2 h3 (fun h => by cases h);clear hK0
       go_simp;go_at_call 41;refine (zbA nx.a.node A2 a2 _ ((HRX.out.mono x3).mono ex) hb4).mono ?_;rintro e w' ⟨D,K,rfl,hx,hown⟩;exact hK _ _ rfl hx ⟨D,K,rfl,LogW.own hown HL8.out.el⟩
      ·(show SlotB _ _ _ _ _ _ _ _);intro u w1 hx1 hd;obtain ⟨y9,rfl⟩:=hx1.get;clear hx1
       refine zaf rfl rfl rfl ?_;intro K9 hK0
       go_simp;exact hK0 _ _ rfl ex ⟨_,rfl,(by first | omega | (simp [go_sem];done) | (simp [go_sem];omega)),BoxAt.new (by first | rfl | simp [go_sem]) _ _⟩ (fun _ => ⟨_,rfl,by first | exact Nat.le_refl _ | simp [go_sem]⟩)
      ·(show SlotB _ _ _ _ _ _ _ _);intro u w1 hx1 hd;obtain ⟨y9,rfl⟩:=hx1.get;clear hx1
       refine zaf rfl rfl rfl ?_;intro K9 hK0
       go_simp;exact hK0 _ _ rfl ex ⟨_,rfl,(by first | omega | (simp [go_sem];done) | (simp [go_sem];omega)),BoxAt.new (by first | rfl | simp [go_sem]) _ _⟩ (fun _ => ⟨_,rfl,by first | exact Nat.le_refl _ | simp [go_sem]⟩)
     ·intro u w2 hx2 hT hdd;obtain ⟨t0,t1,t2,t3,t4,t5,t6,t7,t8,t9,t10,t11,t12,t13,-⟩:=hT;obtain ⟨y9,rfl⟩:=hx2.get;clear hx2
      obtain ⟨D1,K1,e5,h1'⟩:=t5
      obtain ⟨D3,K3,e11,h3'⟩:=t11
      obtain ⟨g12,e12,hg12,b12⟩:=t12
      obtain ⟨g13,e13,hg13,b13⟩:=t13
      have hne0:=hdd 12 13 dk dk kr kr dk
      rw [e12,e13] at hne0
      replace hne0 : g12 ≠ g13:=fun h => hne0 (by rw [h])
      clear hdd
      simp only [e5,e11,e12,e13]
      clear e5 e11 e12 e13 t0 t1 t2 t3 t4 t6 t7 t8 t9 t10
      simp only [List.drop_succ_cons,List.drop_zero]
      have hxx : Ext W3 (xt W3.drew y9):=ex
      go_wp2_with (first
       | (refine za2 rfl 40 (.tmp 10) (.tmp 49) rfl b12 rfl [.int .i64 c.a.node.id,.int .i64 c.a.node.term,.bool c.a.node.speaks,.slice D1 c.a.node.log.length K1,.int .i64 q,.int .i64 c.a.node.next] rfl rfl (show 6 < 44 by decide) kr (cells_one _ rfl) ?_;intro W4 ht1 hb1')
       | (refine za2 rfl 40 (.tmp 11) (.tmp 55) rfl (b13.turn ht1 om) rfl (Ln nx.a.node D3 K3) rfl rfl (show 6 < 44 by decide) kr (zaa nx.a.node D3 K3) ?_;intro W5 ht2 hb2';have j4:=hb1'.turn ht2 om;obtain ⟨p0,p1,p2,p3,p4,p5⟩:=j4.six;obtain ⟨r0,r1,r2,r3,r4,r5⟩:=hb2'.six))
      have x5 : Ext wt W5:=ht2.ext (ht1.ext (x3.trans hxx) (by have:=x3.size;omega)) (by have:=x3.size;omega)
      have v1:=(h1'.turn ht1).turn ht2
      have v3:=(h3'.turn ht1).turn ht2
      have pa : za3 W5 D1 K1 (c.a.node.log.take q):=by have:=((v1.recs (XT.trans x5) (Ext.refl _)).part 0 q om q (Nat.sub_zero q)).1;rwa [zb2,Nat.sub_zero,List.drop_zero] at this
      have pb : za3 W5 D3 K3 (nx.a.node.log.take q):=by have:=((v3.recs (XT.trans x5) (Ext.refl _)).part 0 q om q (Nat.sub_zero q)).1;rwa [zb2,Nat.sub_zero,List.drop_zero] at this
      have LA:=zh (show (c.a.node.log.take q).length = q by rw [List.length_take];omega)
      have LB:=zh (show (nx.a.node.log.take q).length = q by rw [List.length_take];omega)
      have i4 : (q : Int) ≤ (K1 : Int):=by have:=v1.le;omega
      have i5 : (q : Int) ≤ (K3 : Int):=by have:=v3.le;omega
      clear ht1 ht2 hb1' hb2' h1' h3' b12 b13 hxx v1 v3 HCO z0 z1 z2 z3 z4 z5 s0 s1 s2 s3 s4 s5
      refine zrD 31 [] [Stab.is (.pointer (some ⟨g13,4,none⟩)),Stab.is (.int .i64 nx.a.node.acked),Stab.is (.int .i64 q),Stab.is (.bool false),Stab.is (.bool false),Stab.is (.int .i64 q),Stab.is (.bool false),Stab.is (.bool false),Stab.is (.bool false),Stab.is (.int .i64 q),Stab.is (.pointer (some ⟨g12,3,none⟩)),Stab.is (.slice D1 c.a.node.log.length K1),Stab.is (.int .i64 c.a.node.log.length),Stab.is (.pointer (some ⟨g13,3,none⟩)),Stab.is (.slice D3 nx.a.node.log.length K3),Stab.is (.int .i64 nx.a.node.log.length),Stab.is (.int .i64 (min (c.a.node.log.length : Int) (nx.a.node.log.length : Int))),Stab.is (.bool false),Stab.is (.bool false),Stab.is (.bool false),Stab.is (.pointer (some ⟨g12,3,none⟩)),Stab.is (.slice D1 c.a.node.log.length K1),Stab.is (.int .i64 q),Stab.is (.slice D1 q K1),Stab.is (.pointer (some ⟨g13,3,none⟩)),Stab.is (.slice D3 nx.a.node.log.length K3),Stab.is (.int .i64 q),Stab.is (.slice D3 q K3),Stab.is (.bool true),Stab.is (.bool false),Stab.is (.bool false)] (fun u => by (simp only [zc0,List.take_succ_cons,List.take_zero,Act.put,Nat.zero_add,Nat.reduceAdd]);(try simp only [List.setIfInBounds_toArray]);(repeat (first | simp only [List.set_cons_succ] | simp only [List.set_cons_zero]));exact rfl) kr kr (fun _ _ _ _ _ h => h) ?_ ?_
      ·refine ⟨?_,?_,?_,?_,?_,?_,?_,?_,?_,?_,?_,?_,?_,?_,?_,?_,?_,?_,?_,?_,?_,?_,?_,?_,?_,?_,?_,?_,?_,?_,?_,trivial⟩
       ·(show SlotA _ _ _ _ _ _ _);intro u w1 hx1 hd;obtain ⟨y9,rfl⟩:=hx1.get;clear hx1
        refine za0 rfl rfl rfl ?_;intro K9 hK
        go_simp;exact hK _ _ rfl ex rfl
       ·(show SlotA _ _ _ _ _ _ _);intro u w1 hx1 hd;obtain ⟨y9,rfl⟩:=hx1.get;clear hx1
        have e0 : u 0 = .pointer (some ⟨g13,4,none⟩):=hd 0 kr
        simp only [e0]
        refine za0 rfl rfl rfl ?_;intro K9 hK
        go_simp;exact hK _ _ rfl ex rfl
       ·(show SlotA _ _ _ _ _ _ _);intro u w1 hx1 hd;obtain ⟨y9,rfl⟩:=hx1.get;clear hx1
        refine za0 rfl rfl rfl ?_;intro K9 hK
        go_simp;exact hK _ _ rfl ex rfl
       ·(show SlotA _ _ _ _ _ _ _);intro u w1 hx1 hd;obtain ⟨y9,rfl⟩:=hx1.get;clear hx1
        have e1 : u 1 = .int .i64 nx.a.node.acked:=hd 1 kr
        have e2 : u 2 = .int .i64 q:=hd 2 kr
        simp only [e1,e2]
        refine za0 rfl rfl rfl ?_;intro K9 hK
        go_simp;exact hK _ _ rfl ex rfl
       ·(show SlotA _ _ _ _ _ _ _);intro u w1 hx1 hd;obtain ⟨y9,rfl⟩:=hx1.get;clear hx1
        have e3 : u 3 = .bool false:=hd 3 kr
        simp only [e3]
        refine za0 rfl rfl rfl ?_;intro K9 hK
        go_simp;exact hK _ _ rfl ex rfl
       ·(show SlotA _ _ _ _ _ _ _);intro u w1 hx1 hd;obtain ⟨y9,rfl⟩:=hx1.get;clear hx1
        have e4 : u 4 = .bool false:=hd 4 kr
        simp only [e4]
        refine za0 rfl rfl rfl ?_;intro K9 hK
        go_simp;exact hK _ _ rfl ex rfl
       ·(show SlotA _ _ _ _ _ _ _);intro u w1 hx1 hd;obtain ⟨y9,rfl⟩:=hx1.get;clear hx1
        have e4 : u 4 = .bool false:=hd 4 kr
        have e5 : u 5 = .int .i64 q:=hd 5 kr
        simp only [e4,e5]
        refine za0 rfl rfl rfl ?_;intro K9 hK
        go_simp;exact hK _ _ rfl ex rfl
       ·(show SlotA _ _ _ _ _ _ _);intro u w1 hx1 hd;obtain ⟨y9,rfl⟩:=hx1.get;clear hx1
        have e4 : u 4 = .bool false:=hd 4 kr
        have e6 : u 6 = .bool false:=hd 6 kr
        simp only [e4,e6]
        refine za0 rfl rfl rfl ?_;intro K9 hK
        go_simp;exact hK _ _ rfl ex rfl
       ·(show SlotA _ _ _ _ _ _ _);intro u w1 hx1 hd;obtain ⟨y9,rfl⟩:=hx1.get;clear hx1
        have e7 : u 7 = .bool false:=hd 7 kr
        simp only [e7]
        refine za0 rfl rfl rfl ?_;intro K9 hK
        go_simp;exact hK _ _ rfl ex rfl
       ·(show SlotA _ _ _ _ _ _ _);intro u w1 hx1 hd;obtain ⟨y9,rfl⟩:=hx1.get;clear hx1
        have e8 : u 8 = .bool false:=hd 8 kr
        simp only [e8]
        refine za0 rfl rfl rfl ?_;intro K9 hK
        go_simp;exact hK _ _ rfl ex rfl
       ·(show SlotA _ _ _ _ _ _ _);intro u w1 hx1 hd;obtain ⟨y9,rfl⟩:=hx1.get;clear hx1
        have e8 : u 8 = .bool false:=hd 8 kr
        simp only [e8]
        refine za0 rfl rfl rfl ?_;intro K9 hK
        go_simp;exact hK _ _ rfl ex rfl
       ·(show SlotA _ _ _ _ _ _ _);intro u w1 hx1 hd;obtain ⟨y9,rfl⟩:=hx1.get;clear hx1
        have e8 : u 8 = .bool false:=hd 8 kr
        have e10 : u 10 = .pointer (some ⟨g12,3,none⟩):=hd 10 kr
        simp only [e8,e10]
        refine za0 rfl rfl rfl ?_;intro K9 hK
        go_simp;exact hK _ _ rfl ex rfl
       ·(show SlotA _ _ _ _ _ _ _);intro u w1 hx1 hd;obtain ⟨y9,rfl⟩:=hx1.get;clear hx1
        have e8 : u 8 = .bool false:=hd 8 kr
        have e11 : u 11 = .slice D1 c.a.node.log.length K1:=hd 11 kr
        simp only [e8,e11]
        refine za0 rfl rfl rfl ?_;intro K9 hK
        go_simp;exact hK _ _ rfl ex rfl
       ·(show SlotA _ _ _ _ _ _ _);intro u w1 hx1 hd;obtain ⟨y9,rfl⟩:=hx1.get;clear hx1
        have e8 : u 8 = .bool false:=hd 8 kr
        simp only [e8]
        refine za0 rfl rfl rfl ?_;intro K9 hK
        go_simp;exact hK _ _ rfl ex rfl
       ·(show SlotA _ _ _ _ _ _ _);intro u w1 hx1 hd;obtain ⟨y9,rfl⟩:=hx1.get;clear hx1
        have e8 : u 8 = .bool false:=hd 8 kr
        have e13 : u 13 = .pointer (some ⟨g13,3,none⟩):=hd 13 kr
        simp only [e8,e13]
        refine za0 rfl rfl rfl ?_;intro K9 hK
        go_simp;exact hK _ _ rfl ex rfl
       ·(show SlotA _ _ _ _ _ _ _);intro u w1 hx1 hd;obtain ⟨y9,rfl⟩:=hx1.get;clear hx1
        have e8 : u 8 = .bool false:=hd 8 kr
        have e14 : u 14 = .slice D3 nx.a.node.log.length K3:=hd 14 kr
        simp only [e8,e14]
        refine za0 rfl rfl rfl ?_;intro K9 hK
        go_simp;exact hK _ _ rfl ex rfl
       ·(show SlotA _ _ _ _ _ _ _);intro u w1 hx1 hd;obtain ⟨y9,rfl⟩:=hx1.get;clear hx1
        have e8 : u 8 = .bool false:=hd 8 kr
        have e12 : u 12 = .int .i64 c.a.node.log.length:=hd 12 kr
        have e15 : u 15 = .int .i64 nx.a.node.log.length:=hd 15 kr
        simp only [e8,e12,e15]
        refine za0 rfl rfl rfl ?_;intro K9 hK
        go_simp;exact hK _ _ rfl ex rfl
       ·(show SlotA _ _ _ _ _ _ _);intro u w1 hx1 hd;obtain ⟨y9,rfl⟩:=hx1.get;clear hx1
        have e8 : u 8 = .bool false:=hd 8 kr
        have e9 : u 9 = .int .i64 q:=hd 9 kr
        have e16 : u 16 = .int .i64 (min (c.a.node.log.length : Int) (nx.a.node.log.length : Int)):=hd 16 kr
        simp only [e8,e9,e16]
        refine za0 rfl rfl rfl ?_;intro K9 hK
        go_simp;exact hK _ _ rfl ex rfl
       ·(show SlotA _ _ _ _ _ _ _);intro u w1 hx1 hd;obtain ⟨y9,rfl⟩:=hx1.get;clear hx1
        have e8 : u 8 = .bool false:=hd 8 kr
        have e17 : u 17 = .bool false:=hd 17 kr
        simp only [e8,e17]
        refine za0 rfl rfl rfl ?_;intro K9 hK
        go_simp;exact hK _ _ rfl ex rfl
       ·(show SlotA _ _ _ _ _ _ _);intro u w1 hx1 hd;obtain ⟨y9,rfl⟩:=hx1.get;clear hx1
        have e18 : u 18 = .bool false:=hd 18 kr
        simp only [e18]
        refine za0 rfl rfl rfl ?_;intro K9 hK
        go_simp;exact hK _ _ rfl ex rfl
       ·(show SlotA _ _ _ _ _ _ _);intro u w1 hx1 hd;obtain ⟨y9,rfl⟩:=hx1.get;clear hx1
        have e19 : u 19 = .bool false:=hd 19 kr
        simp only [e19]
        refine za0 rfl rfl rfl ?_;intro K9 hK
        go_simp;exact hK _ _ rfl ex rfl
       ·(show SlotA _ _ _ _ _ _ _);intro u w1 hx1 hd;obtain ⟨y9,rfl⟩:=hx1.get;clear hx1
        have e19 : u 19 = .bool false:=hd 19 kr
        have e20 : u 20 = .pointer (some ⟨g12,3,none⟩):=hd 20 kr
        simp only [e19,e20]
        refine za0 rfl rfl rfl ?_;intro K9 hK
        go_simp;exact hK _ _ rfl ex rfl
       ·(show SlotA _ _ _ _ _ _ _);intro u w1 hx1 hd;obtain ⟨y9,rfl⟩:=hx1.get;clear hx1
        have e19 : u 19 = .bool false:=hd 19 kr
        simp only [e19]
        refine za0 rfl rfl rfl ?_;intro K9 hK
        go_simp;exact hK _ _ rfl ex rfl
       ·(show SlotA _ _ _ _ _ _ _);intro u w1 hx1 hd;obtain ⟨y9,rfl⟩:=hx1.get;clear hx1
        have e19 : u 19 = .bool false:=hd 19 kr
        have e21 : u 21 = .slice D1 c.a.node.log.length K1:=hd 21 kr
        have e22 : u 22 = .int .i64 q:=hd 22 kr
        simp only [e19,e21,e22]
        refine za0 rfl rfl rfl ?_;intro K9 hK
        go_simp;exact hK _ _ rfl ex rfl
       ·(show SlotA _ _ _ _ _ _ _);intro u w1 hx1 hd;obtain ⟨y9,rfl⟩:=hx1.get;clear hx1
        have e19 : u 19 = .bool false:=hd 19 kr
        simp only [e19]
        refine za0 rfl rfl rfl ?_;intro K9 hK
        go_simp;exact hK _ _ rfl ex rfl
       ·(show SlotA _ _ _ _ _ _ _);intro u w1 hx1 hd;obtain ⟨y9,rfl⟩:=hx1.get;clear hx1
        have e19 : u 19 = .bool false:=hd 19 kr
        have e24 : u 24 = .pointer (some ⟨g13,3,none⟩):=hd 24 kr
        simp only [e19,e24]
        refine za0 rfl rfl rfl ?_;intro K9 hK
        go_simp;exact hK _ _ rfl ex rfl
       ·(show SlotA _ _ _ _ _ _ _);intro u w1 hx1 hd;obtain ⟨y9,rfl⟩:=hx1.get;clear hx1
        have e19 : u 19 = .bool false:=hd 19 kr
        simp only [e19]
        refine za0 rfl rfl rfl ?_;intro K9 hK
        go_simp;exact hK _ _ rfl ex rfl
       ·(show SlotA _ _ _ _ _ _ _);intro u w1 hx1 hd;obtain ⟨y9,rfl⟩:=hx1.get;clear hx1
        have e19 : u 19 = .bool false:=hd 19 kr
        have e25 : u 25 = .slice D3 nx.a.node.log.length K3:=hd 25 kr
        have e26 : u 26 = .int .i64 q:=hd 26 kr
        simp only [e19,e25,e26]
        refine za0 rfl rfl rfl ?_;intro K9 hK
        go_simp;exact hK _ _ rfl ex rfl
       ·(show SlotA _ _ _ _ _ _ _);intro u w1 hx1 hd;obtain ⟨y9,rfl⟩:=hx1.get;clear hx1
        have e19 : u 19 = .bool false:=hd 19 kr
        have e23 : u 23 = .slice D1 q K1:=hd 23 kr
        have e27 : u 27 = .slice D3 q K3:=hd 27 kr
        simp only [e19,e23,e27]
        refine za0 rfl rfl rfl ?_;intro K9 hK
        go_simp;go_at_call 74;refine (zc4 D1 K1 q (c.a.node.log.take q) LA.out D3 K3 q (nx.a.node.log.take q) LB.out true HT.out _ (pa.mono ex) (pb.mono ex)).mono ?_;rintro e w' ⟨rfl,hx⟩;exact hK _ _ rfl hx rfl
       ·(show SlotA _ _ _ _ _ _ _);intro u w1 hx1 hd;obtain ⟨y9,rfl⟩:=hx1.get;clear hx1
        have e19 : u 19 = .bool false:=hd 19 kr
        have e28 : u 28 = .bool true:=hd 28 kr
        simp only [e19,e28]
        refine za0 rfl rfl rfl ?_;intro K9 hK
        go_simp;exact hK _ _ rfl ex rfl
       ·(show SlotA _ _ _ _ _ _ _);intro u w1 hx1 hd;obtain ⟨y9,rfl⟩:=hx1.get;clear hx1
        have e19 : u 19 = .bool false:=hd 19 kr
        have e29 : u 29 = .bool false:=hd 29 kr
        simp only [e19,e29]
        refine za0 rfl rfl rfl ?_;intro K9 hK
        go_simp;exact hK _ _ rfl ex rfl
      ·intro u w2 hx2 hT;obtain ⟨t0,t1,t2,t3,t4,t5,t6,t7,t8,t9,t10,t11,t12,t13,t14,t15,t16,t17,t18,t19,t20,t21,t22,t23,t24,t25,t26,t27,t28,t29,t30,-⟩:=hT;obtain ⟨y9,rfl⟩:=hx2.get;clear hx2
       have e30 : u 30 = .bool false:=t30
       simp only [e30]
       clear e30 t0 t1 t2 t3 t4 t5 t6 t7 t8 t9 t10 t11 t12 t13 t14 t15 t16 t17 t18 t19 t20 t21 t22 t23 t24 t25 t26 t27 t28 t29 t30
       simp only [List.drop_succ_cons,List.drop_zero]
       refine wpList_nil ?_
       go_wp2
       go_light
       exact ⟨⟨_,rfl,HXT.out.trans (x5.trans ex),.inr (.inl rfl)⟩,by simp [intOf]⟩
    ·obtain ⟨q,hq⟩ : ∃ q : Nat,c.b.node.acked = q:=⟨c.b.node.acked.toNat,by have:=HC2.out.a0;omega⟩
     have hg1:=HNB.out.acked
     have hg3:=HNB.out.len
     have hg4:=HNB.out.log
     have ho1:=HC2.out.a1
     have hol:=HC2.out.len
     have hxl:=HU2.out
     have hz1 : decide (nx.b.node.acked < (q : Int)) = false:=decide_eq_false om
     have hz3 : decide ((q : Int) < 0) = false:=decide_eq_false om
     have hz4 : decide (min (c.b.node.log.length : Int) (nx.b.node.log.length : Int) < (q : Int)) = false:=decide_eq_false om
     have i1 : (q : Int) ≤ (c.b.node.log.length : Int):=by omega
     have i2 : (q : Int) ≤ (nx.b.node.log.length : Int):=by omega
     have i3 : (0 : Int) ≤ (q : Int):=by omega
     have hb3 : c.b.node.log.length * 552 ≤ 140737488355328:=by omega
     have hb4 : nx.b.node.log.length * 552 ≤ 140737488355328:=by omega
     have HT:=zh (show zaR (c.b.node.log.take q) (nx.b.node.log.take q) = true by rw [hq,Int.toNat_natCast] at hg4;rw [hg4];exact zbr _)
     have HQ2:=zh hq
     have kz:=HQ7.out.mono HXT.out
     have k7:=HQ8.out.mono HXT.out
     have XT:=HX8.out.trans HXT.out
     have z0:=kz.c 12 rfl;have z1:=kz.c 13 rfl;have z2:=kz.c 14 rfl;have z3:=kz.c 15 rfl;have z4:=kz.c 16 rfl;have z5:=kz.c 17 rfl;have s0:=k7.c 12 rfl;have s1:=k7.c 13 rfl;have s2:=k7.c 14 rfl;have s3:=k7.c 15 rfl;have s4:=k7.c 16 rfl;have s5:=k7.c 17 rfl
     rw [hq] at z4
     have HRO:=zh ((HP8.out.mono HXT.out).recs XT (Ext.refl _))
     have HRX:=zh ((HN8.out.mono HXT.out).recs XT (Ext.refl _))
     have HCO:=zh (fun (V : World) (hr : za3 V B b c.b.node.log) => zbA c.b.node B b V hr hb3)
     rw [HQ2.out] at HCO
     clear hg1 hg3 hg4 ho1 hq kz k7
     go_wp2_with fail
     refine zaG (fun W3 hW3 => ?_)
     have x3 : Ext wt W3:=by rw [hW3];exact ex
     have z0:=x3.cell z0
     have z1:=x3.cell z1
     have z2:=x3.cell z2
     have z3:=x3.cell z3
     have z4:=x3.cell z4
     have z5:=x3.cell z5
     have s0:=x3.cell s0
     have s1:=x3.cell s1
     have s2:=x3.cell s2
     have s3:=x3.cell s3
     have s4:=x3.cell s4
     have s5:=x3.cell s5
     clear hW3
     refine wp_region_slots4 14 [] [12,13] [Stab.is (.int .i64 1),Stab.is (.pointer (some ⟨w.heap.size,4,none⟩)),Stab.is (.pointer (some ⟨w.heap.size,12,none⟩)),Stab.is (.pointer (some ⟨w.heap.size,12,none⟩)),Stab.is (.agg #[.int .i64 c.b.node.id,.int .i64 c.b.node.term,.bool c.b.node.speaks,.slice B c.b.node.log.length b,.int .i64 q,.int .i64 c.b.node.next]),Stab.nodp w c.b.node q,Stab.is (.int .i64 1),Stab.is (.pointer (some ⟨g7,4,none⟩)),Stab.is (.pointer (some ⟨g7,12,none⟩)),Stab.is (.pointer (some ⟨g7,12,none⟩)),Stab.is (.agg (Ln nx.b.node B2 b2)),Stab.nod w nx.b.node,Stab.box W3.heap.size Zn 40,Stab.box W3.heap.size Zn 40] (fun u => by (simp only [zc0,List.take_succ_cons,List.take_zero,Act.put,Nat.zero_add,Nat.reduceAdd]);(try simp only [List.setIfInBounds_toArray]);(repeat (first | simp only [List.set_cons_succ] | simp only [List.set_cons_zero]));exact rfl) kr kr kr (fun _ _ _ _ _ h => h) ?_ ?_ ?_
     ·intro j9 hj9 v9 w9 h9
      have hj9' : j9 = 12 ∨ j9 = 13:=by simpa using hj9
      rcases hj9' with rfl | rfl
      ·obtain ⟨g,rfl,-,h⟩:=h9;exact ⟨g,rfl,h.lt⟩
      ·obtain ⟨g,rfl,-,h⟩:=h9;exact ⟨g,rfl,h.lt⟩
     ·refine ⟨?_,?_,?_,?_,?_,?_,?_,?_,?_,?_,?_,?_,?_,?_,trivial⟩
      ·(show SlotB _ _ _ _ _ _ _ _);intro u w1 hx1 hd;obtain ⟨y9,rfl⟩:=hx1.get;clear hx1
       refine zaf rfl rfl rfl ?_;intro K9 hK0
       have hK:=fun a9 w9 h1 h2 h3 => hK0 a9 w9 h1 h2 h3 (fun h => by cases h);clear hK0
       go_simp;exact hK _ _ rfl ex rfl
      ·(show SlotB _ _ _ _ _ _ _ _);intro u w1 hx1 hd;obtain ⟨y9,rfl⟩:=hx1.get;clear hx1
       refine zaf rfl rfl rfl ?_;intro K9 hK0
       have hK:=fun a9 w9 h1 h2 h3 => hK0 a9 w9 h1 h2 h3 (fun h => by cases h);clear hK0
       go_simp;exact hK _ _ rfl ex rfl
      ·(show SlotB _ _ _ _ _ _ _ _);intro u w1 hx1 hd;obtain ⟨y9,rfl⟩:=hx1.get;clear hx1
       have e0 : u 0 = .int .i64 1:=hd 0 kr
       have e1 : u 1 = .pointer (some ⟨w.heap.size,4,none⟩):=hd 1 kr
       simp only [e0,e1]
       refine zaf rfl rfl rfl ?_;intro K9 hK0
       have hK:=fun a9 w9 h1 h2 h3 => hK0 a9 w9 h1 h2 h3 (fun h => by cases h);clear hK0
       go_simp;exact hK _ _ rfl ex rfl
      ·(show SlotB _ _ _ _ _ _ _ _);intro u w1 hx1 hd;obtain ⟨y9,rfl⟩:=hx1.get;clear hx1
       have e2 : u 2 = .pointer (some ⟨w.heap.size,12,none⟩):=hd 2 kr
       simp only [e2]
       refine zaf rfl rfl rfl ?_;intro K9 hK0
       have hK:=fun a9 w9 h1 h2 h3 => hK0 a9 w9 h1 h2 h3 (fun h => by cases h);clear hK0
       go_simp;exact hK _ _ rfl ex rfl
      ·(show SlotB _ _ _ _ _ _ _ _);intro u w1 hx1 hd;obtain ⟨y9,rfl⟩:=hx1.get;clear hx1
       have e3 : u 3 = .pointer (some ⟨w.heap.size,12,none⟩):=hd 3 kr
       simp only [e3]
       refine zaf rfl rfl rfl ?_;intro K9 hK0
       have hK:=fun a9 w9 h1 h2 h3 => hK0 a9 w9 h1 h2 h3 (fun h => by cases h);clear hK0
       go_simp;exact hK _ _ rfl ex rfl
      ·(show SlotB _ _ _ _ _ _ _ _);intro u w1 hx1 hd;obtain ⟨y9,rfl⟩:=hx1.get;clear hx1
       have e4 : u 4 = .agg #[.int .i64 c.b.node.id,.int .i64 c.b.node.term,.bool c.b.node.speaks,.slice B c.b.node.log.length b,.int .i64 q,.int .i64 c.b.node.next]:=hd 4 kr
       simp only [e4]
       refine zaf rfl rfl rfl ?_;intro K9 hK0
       have hK:=fun a9 w9 h1 h2 h3 => hK0 a9 w9 h1 h2 h3 (fun h => by cases h);clear hK0
       go_simp;go_at_call 41;refine (HCO.out _ ((HRO.out.mono x3).mono ex)).mono ?_;rintro e w' ⟨D,K,rfl,hx,hown⟩;exact hK _ _ rfl hx ⟨D,K,(by rw [← HQ2.out];rfl),LogW.own hown HP8.out.el⟩
      ·(show SlotB _ _ _ _ _ _ _ _);intro u w1 hx1 hd;obtain ⟨y9,rfl⟩:=hx1.get;clear hx1
       refine zaf rfl rfl rfl ?_;intro K9 hK0
       have hK:=fun a9 w9 h1 h2 h3 => hK0 a9 w9 h1 h2 h3 (fun h => by cases h);clear hK0
       go_simp;exact hK _ _ rfl ex rfl
      ·(show SlotB _ _ _ _ _ _ _ _);intro u w1 hx1 hd;obtain ⟨y9,rfl⟩:=hx1.get;clear hx1
       refine zaf rfl rfl rfl ?_;intro K9 hK0
       have hK:=fun a9 w9 h1 h2 h3 => hK0 a9 w9 h1 h2 h3 (fun h => by cases h);clear hK0
       go_simp;exact hK _ _ rfl ex rfl
      ·(show SlotB _ _ _ _ _ _ _ _);intro u w1 hx1 hd;obtain ⟨y9,rfl⟩:=hx1.get;clear hx1
       have e6 : u 6 = .int .i64 1:=hd 6 kr
       have e7 : u 7 = .pointer (some ⟨g7,4,none⟩):=hd 7 kr
       simp only [e6,e7]
       refine zaf rfl rfl rfl ?_;intro K9 hK0
       have hK:=fun a9 w9 h1 h2 h3 => hK0 a9 w9 h1 h2 h3 (fun h => by cases h);clear hK0
       go_simp;exact hK _ _ rfl ex rfl
      ·(show SlotB _ _ _ _ _ _ _ _);intro u w1 hx1 hd;obtain ⟨y9,rfl⟩:=hx1.get;clear hx1
       have e8 : u 8 = .pointer (some ⟨g7,12,none⟩):=hd 8 kr
       simp only [e8]
       refine zaf rfl rfl rfl ?_;intro K9 hK0
       have hK:=fun a9 w9 h1 h2 h3 => hK0 a9 w9 h1 h2 h3 (fun h => by cases h);clear hK0
       go_simp;exact hK _ _ rfl ex rfl
      ·(show SlotB _ _ _ _ _ _ _ _);intro u w1 hx1 hd;obtain ⟨y9,rfl⟩:=hx1.get;clear hx1
       have e9 : u 9 = .pointer (some ⟨g7,12,none⟩):=hd 9 kr
       simp only [e9]
       refine zaf rfl rfl rfl ?_;intro K9 hK0
       have hK:=fun a9 w9 h1 h2 h3 => hK0 a9 w9 h1 h2 h3 (fun h => by cases h);clear hK0
       go_simp;exact hK _ _ rfl ex rfl
      ·(show SlotB _ _ _ _ _ _ _ _);intro u w1 hx1 hd;obtain ⟨y9,rfl⟩:=hx1.get;clear hx1
       have e10 : u 10 = .agg (Ln nx.b.node B2 b2):=hd 10 kr
       simp only [e10]
       refine zaf rfl rfl rfl ?_;intro K9 hK0
       have hK:=fun a9 w9 h1 h2 h3 => hK0 a9 w9 h1 h2 h3 (fun h => by cases h);clear hK0
       go_simp;go_at_call 41;refine (zbA nx.b.node B2 b2 _ ((HRX.out.mono x3).mono ex) hb4).mono ?_;rintro e w' ⟨D,K,rfl,hx,hown⟩;exact hK _ _ rfl hx ⟨D,K,rfl,LogW.own hown HN8.out.el⟩
      ·(show SlotB _ _ _ _ _ _ _ _);intro u w1 hx1 hd;obtain ⟨y9,rfl⟩:=hx1.get;clear hx1
       refine zaf rfl rfl rfl ?_;intro K9 hK0
       go_simp;exact hK0 _ _ rfl ex ⟨_,rfl,(by first | omega | (simp [go_sem];done) | (simp [go_sem];omega)),BoxAt.new (by first | rfl | simp [go_sem]) _ _⟩ (fun _ => ⟨_,rfl,by first | exact Nat.le_refl _ | simp [go_sem]⟩)
      ·(show SlotB _ _ _ _ _ _ _ _);intro u w1 hx1 hd;obtain ⟨y9,rfl⟩:=hx1.get;clear hx1
       refine zaf rfl rfl rfl ?_;intro K9 hK0
       go_simp;exact hK0 _ _ rfl ex ⟨_,rfl,(by first | omega | (simp [go_sem];done) | (simp [go_sem];omega)),BoxAt.new (by first | rfl | simp [go_sem]) _ _⟩ (fun _ => ⟨_,rfl,by first | exact Nat.le_refl _ | simp [go_sem]⟩)
     ·intro u w2 hx2 hT hdd;obtain ⟨t0,t1,t2,t3,t4,t5,t6,t7,t8,t9,t10,t11,t12,t13,-⟩:=hT;obtain ⟨y9,rfl⟩:=hx2.get;clear hx2
      obtain ⟨D1,K1,e5,h1'⟩:=t5
      obtain ⟨D3,K3,e11,h3'⟩:=t11
      obtain ⟨g12,e12,hg12,b12⟩:=t12
      obtain ⟨g13,e13,hg13,b13⟩:=t13
      have hne0:=hdd 12 13 dk dk kr kr dk
      rw [e12,e13] at hne0
      replace hne0 : g12 ≠ g13:=fun h => hne0 (by rw [h])
      clear hdd
      simp only [e5,e11,e12,e13]
      clear e5 e11 e12 e13 t0 t1 t2 t3 t4 t6 t7 t8 t9 t10
      simp only [List.drop_succ_cons,List.drop_zero]
      have hxx : Ext W3 (xt W3.drew y9):=ex
      go_wp2_with (first
       | (refine za2 rfl 40 (.tmp 10) (.tmp 49) rfl b12 rfl [.int .i64 c.b.node.id,.int .i64 c.b.node.term,.bool c.b.node.speaks,.slice D1 c.b.node.log.length K1,.int .i64 q,.int .i64 c.b.node.next] rfl rfl (show 6 < 44 by decide) kr (cells_one _ rfl) ?_;intro W4 ht1 hb1')
       | (refine za2 rfl 40 (.tmp 11) (.tmp 55) rfl (b13.turn ht1 om) rfl (Ln nx.b.node D3 K3) rfl rfl (show 6 < 44 by decide) kr (zaa nx.b.node D3 K3) ?_;intro W5 ht2 hb2';have j4:=hb1'.turn ht2 om;obtain ⟨p0,p1,p2,p3,p4,p5⟩:=j4.six;obtain ⟨r0,r1,r2,r3,r4,r5⟩:=hb2'.six))
      have x5 : Ext wt W5:=ht2.ext (ht1.ext (x3.trans hxx) (by have:=x3.size;omega)) (by have:=x3.size;omega)
      have v1:=(h1'.turn ht1).turn ht2
      have v3:=(h3'.turn ht1).turn ht2
      have pa : za3 W5 D1 K1 (c.b.node.log.take q):=by have:=((v1.recs (XT.trans x5) (Ext.refl _)).part 0 q om q (Nat.sub_zero q)).1;rwa [zb2,Nat.sub_zero,List.drop_zero] at this
      have pb : za3 W5 D3 K3 (nx.b.node.log.take q):=by have:=((v3.recs (XT.trans x5) (Ext.refl _)).part 0 q om q (Nat.sub_zero q)).1;rwa [zb2,Nat.sub_zero,List.drop_zero] at this
      have LA:=zh (show (c.b.node.log.take q).length = q by rw [List.length_take];omega)
      have LB:=zh (show (nx.b.node.log.take q).length = q by rw [List.length_take];omega)
      have i4 : (q : Int) ≤ (K1 : Int):=by have:=v1.le;omega
      have i5 : (q : Int) ≤ (K3 : Int):=by have:=v3.le;omega
      clear ht1 ht2 hb1' hb2' h1' h3' b12 b13 hxx v1 v3 HCO z0 z1 z2 z3 z4 z5 s0 s1 s2 s3 s4 s5
      refine zrD 31 [] [Stab.is (.pointer (some ⟨g13,4,none⟩)),Stab.is (.int .i64 nx.b.node.acked),Stab.is (.int .i64 q),Stab.is (.bool false),Stab.is (.bool false),Stab.is (.int .i64 q),Stab.is (.bool false),Stab.is (.bool false),Stab.is (.bool false),Stab.is (.int .i64 q),Stab.is (.pointer (some ⟨g12,3,none⟩)),Stab.is (.slice D1 c.b.node.log.length K1),Stab.is (.int .i64 c.b.node.log.length),Stab.is (.pointer (some ⟨g13,3,none⟩)),Stab.is (.slice D3 nx.b.node.log.length K3),Stab.is (.int .i64 nx.b.node.log.length),Stab.is (.int .i64 (min (c.b.node.log.length : Int) (nx.b.node.log.length : Int))),Stab.is (.bool false),Stab.is (.bool false),Stab.is (.bool false),Stab.is (.pointer (some ⟨g12,3,none⟩)),Stab.is (.slice D1 c.b.node.log.length K1),Stab.is (.int .i64 q),Stab.is (.slice D1 q K1),Stab.is (.pointer (some ⟨g13,3,none⟩)),Stab.is (.slice D3 nx.b.node.log.length K3),Stab.is (.int .i64 q),Stab.is (.slice D3 q K3),Stab.is (.bool true),Stab.is (.bool false),Stab.is (.bool false)] (fun u => by (simp only [zc0,List.take_succ_cons,List.take_zero,Act.put,Nat.zero_add,Nat.reduceAdd]);(try simp only [List.setIfInBounds_toArray]);(repeat (first | simp only [List.set_cons_succ] | simp only [List.set_cons_zero]));exact rfl) kr kr (fun _ _ _ _ _ h => h) ?_ ?_
      ·refine ⟨?_,?_,?_,?_,?_,?_,?_,?_,?_,?_,?_,?_,?_,?_,?_,?_,?_,?_,?_,?_,?_,?_,?_,?_,?_,?_,?_,?_,?_,?_,?_,trivial⟩
       ·(show SlotA _ _ _ _ _ _ _);intro u w1 hx1 hd;obtain ⟨y9,rfl⟩:=hx1.get;clear hx1
        refine za0 rfl rfl rfl ?_;intro K9 hK
        go_simp;exact hK _ _ rfl ex rfl
       ·(show SlotA _ _ _ _ _ _ _);intro u w1 hx1 hd;obtain ⟨y9,rfl⟩:=hx1.get;clear hx1
        have e0 : u 0 = .pointer (some ⟨g13,4,none⟩):=hd 0 kr
        simp only [e0]
        refine za0 rfl rfl rfl ?_;intro K9 hK
        go_simp;exact hK _ _ rfl ex rfl
       ·(show SlotA _ _ _ _ _ _ _);intro u w1 hx1 hd;obtain ⟨y9,rfl⟩:=hx1.get;clear hx1
        refine za0 rfl rfl rfl ?_;intro K9 hK
        go_simp;exact hK _ _ rfl ex rfl
       ·(show SlotA _ _ _ _ _ _ _);intro u w1 hx1 hd;obtain ⟨y9,rfl⟩:=hx1.get;clear hx1
        have e1 : u 1 = .int .i64 nx.b.node.acked:=hd 1 kr
        have e2 : u 2 = .int .i64 q:=hd 2 kr
        simp only [e1,e2]
        refine za0 rfl rfl rfl ?_;intro K9 hK
        go_simp;exact hK _ _ rfl ex rfl
       ·(show SlotA _ _ _ _ _ _ _);intro u w1 hx1 hd;obtain ⟨y9,rfl⟩:=hx1.get;clear hx1
        have e3 : u 3 = .bool false:=hd 3 kr
        simp only [e3]
        refine za0 rfl rfl rfl ?_;intro K9 hK
        go_simp;exact hK _ _ rfl ex rfl
       ·(show SlotA _ _ _ _ _ _ _);intro u w1 hx1 hd;obtain ⟨y9,rfl⟩:=hx1.get;clear hx1
        have e4 : u 4 = .bool false:=hd 4 kr
        simp only [e4]
        refine za0 rfl rfl rfl ?_;intro K9 hK
        go_simp;exact hK _ _ rfl ex rfl
       ·(show SlotA _ _ _ _ _ _ _);intro u w1 hx1 hd;obtain ⟨y9,rfl⟩:=hx1.get;clear hx1
        have e4 : u 4 = .bool false:=hd 4 kr
        have e5 : u 5 = .int .i64 q:=hd 5 kr
        simp only [e4,e5]
        refine za0 rfl rfl rfl ?_;intro K9 hK
        go_simp;exact hK _ _ rfl ex rfl
       ·(show SlotA _ _ _ _ _ _ _);intro u w1 hx1 hd;obtain ⟨y9,rfl⟩:=hx1.get;clear hx1
        have e4 : u 4 = .bool false:=hd 4 kr
        have e6 : u 6 = .bool false:=hd 6 kr
        simp only [e4,e6]
        refine za0 rfl rfl rfl ?_;intro K9 hK
        go_simp;exact hK _ _ rfl ex rfl
       ·(show SlotA _ _ _ _ _ _ _);intro u w1 hx1 hd;obtain ⟨y9,rfl⟩:=hx1.get;clear hx1
        have e7 : u 7 = .bool false:=hd 7 kr
        simp only [e7]
        refine za0 rfl rfl rfl ?_;intro K9 hK
        go_simp;exact hK _ _ rfl ex rfl
       ·(show SlotA _ _ _ _ _ _ _);intro u w1 hx1 hd;obtain ⟨y9,rfl⟩:=hx1.get;clear hx1
        have e8 : u 8 = .bool false:=hd 8 kr
        simp only [e8]
        refine za0 rfl rfl rfl ?_;intro K9 hK
        go_simp;exact hK _ _ rfl ex rfl
       ·(show SlotA _ _ _ _ _ _ _);intro u w1 hx1 hd;obtain ⟨y9,rfl⟩:=hx1.get;clear hx1
        have e8 : u 8 = .bool false:=hd 8 kr
        simp only [e8]
        refine za0 rfl rfl rfl ?_;intro K9 hK
        go_simp;exact hK _ _ rfl ex rfl
       ·(show SlotA _ _ _ _ _ _ _);intro u w1 hx1 hd;obtain ⟨y9,rfl⟩:=hx1.get;clear hx1
        have e8 : u 8 = .bool false:=hd 8 kr
        have e10 : u 10 = .pointer (some ⟨g12,3,none⟩):=hd 10 kr
        simp only [e8,e10]
        refine za0 rfl rfl rfl ?_;intro K9 hK
        go_simp;exact hK _ _ rfl ex rfl
       ·(show SlotA _ _ _ _ _ _ _);intro u w1 hx1 hd;obtain ⟨y9,rfl⟩:=hx1.get;clear hx1
        have e8 : u 8 = .bool false:=hd 8 kr
        have e11 : u 11 = .slice D1 c.b.node.log.length K1:=hd 11 kr
        simp only [e8,e11]
        refine za0 rfl rfl rfl ?_;intro K9 hK
        go_simp;exact hK _ _ rfl ex rfl
       ·(show SlotA _ _ _ _ _ _ _);intro u w1 hx1 hd;obtain ⟨y9,rfl⟩:=hx1.get;clear hx1
        have e8 : u 8 = .bool false:=hd 8 kr
        simp only [e8]
        refine za0 rfl rfl rfl ?_;intro K9 hK
        go_simp;exact hK _ _ rfl ex rfl
       ·(show SlotA _ _ _ _ _ _ _);intro u w1 hx1 hd;obtain ⟨y9,rfl⟩:=hx1.get;clear hx1
        have e8 : u 8 = .bool false:=hd 8 kr
        have e13 : u 13 = .pointer (some ⟨g13,3,none⟩):=hd 13 kr
        simp only [e8,e13]
        refine za0 rfl rfl rfl ?_;intro K9 hK
        go_simp;exact hK _ _ rfl ex rfl
       ·(show SlotA _ _ _ _ _ _ _);intro u w1 hx1 hd;obtain ⟨y9,rfl⟩:=hx1.get;clear hx1
        have e8 : u 8 = .bool false:=hd 8 kr
        have e14 : u 14 = .slice D3 nx.b.node.log.length K3:=hd 14 kr
        simp only [e8,e14]
        refine za0 rfl rfl rfl ?_;intro K9 hK
        go_simp;exact hK _ _ rfl ex rfl
       ·(show SlotA _ _ _ _ _ _ _);intro u w1 hx1 hd;obtain ⟨y9,rfl⟩:=hx1.get;clear hx1
        have e8 : u 8 = .bool false:=hd 8 kr
        have e12 : u 12 = .int .i64 c.b.node.log.length:=hd 12 kr
        have e15 : u 15 = .int .i64 nx.b.node.log.length:=hd 15 kr
        simp only [e8,e12,e15]
        refine za0 rfl rfl rfl ?_;intro K9 hK
        go_simp;exact hK _ _ rfl ex rfl
       ·(show SlotA _ _ _ _ _ _ _);intro u w1 hx1 hd;obtain ⟨y9,rfl⟩:=hx1.get;clear hx1
        have e8 : u 8 = .bool false:=hd 8 kr
        have e9 : u 9 = .int .i64 q:=hd 9 kr
        have e16 : u 16 = .int .i64 (min (c.b.node.log.length : Int) (nx.b.node.log.length : Int)):=hd 16 kr
        simp only [e8,e9,e16]
        refine za0 rfl rfl rfl ?_;intro K9 hK
        go_simp;exact hK _ _ rfl ex rfl
       ·(show SlotA _ _ _ _ _ _ _);intro u w1 hx1 hd;obtain ⟨y9,rfl⟩:=hx1.get;clear hx1
        have e8 : u 8 = .bool false:=hd 8 kr
        have e17 : u 17 = .bool false:=hd 17 kr
        simp only [e8,e17]
        refine za0 rfl rfl rfl ?_;intro K9 hK
        go_simp;exact hK _ _ rfl ex rfl
       ·(show SlotA _ _ _ _ _ _ _);intro u w1 hx1 hd;obtain ⟨y9,rfl⟩:=hx1.get;clear hx1
        have e18 : u 18 = .bool false:=hd 18 kr
        simp only [e18]
        refine za0 rfl rfl rfl ?_;intro K9 hK
        go_simp;exact hK _ _ rfl ex rfl
       ·(show SlotA _ _ _ _ _ _ _);intro u w1 hx1 hd;obtain ⟨y9,rfl⟩:=hx1.get;clear hx1
        have e19 : u 19 = .bool false:=hd 19 kr
        simp only [e19]
        refine za0 rfl rfl rfl ?_;intro K9 hK
        go_simp;exact hK _ _ rfl ex rfl
       ·(show SlotA _ _ _ _ _ _ _);intro u w1 hx1 hd;obtain ⟨y9,rfl⟩:=hx1.get;clear hx1
        have e19 : u 19 = .bool false:=hd 19 kr
        have e20 : u 20 = .pointer (some ⟨g12,3,none⟩):=hd 20 kr
        simp only [e19,e20]
        refine za0 rfl rfl rfl ?_;intro K9 hK
        go_simp;exact hK _ _ rfl ex rfl
       ·(show SlotA _ _ _ _ _ _ _);intro u w1 hx1 hd;obtain ⟨y9,rfl⟩:=hx1.get;clear hx1
        have e19 : u 19 = .bool false:=hd 19 kr
        simp only [e19]
        refine za0 rfl rfl rfl ?_;intro K9 hK
        go_simp;exact hK _ _ rfl ex rfl
       ·(show SlotA _ _ _ _ _ _ _);intro u w1 hx1 hd;obtain ⟨y9,rfl⟩:=hx1.get;clear hx1
        have e19 : u 19 = .bool false:=hd 19 kr
        have e21 : u 21 = .slice D1 c.b.node.log.length K1:=hd 21 kr
        have e22 : u 22 = .int .i64 q:=hd 22 kr
        simp only [e19,e21,e22]
        refine za0 rfl rfl rfl ?_;intro K9 hK
        go_simp;exact hK _ _ rfl ex rfl
       ·(show SlotA _ _ _ _ _ _ _);intro u w1 hx1 hd;obtain ⟨y9,rfl⟩:=hx1.get;clear hx1
        have e19 : u 19 = .bool false:=hd 19 kr
        simp only [e19]
        refine za0 rfl rfl rfl ?_;intro K9 hK
        go_simp;exact hK _ _ rfl ex rfl
       ·(show SlotA _ _ _ _ _ _ _);intro u w1 hx1 hd;obtain ⟨y9,rfl⟩:=hx1.get;clear hx1
        have e19 : u 19 = .bool false:=hd 19 kr
        have e24 : u 24 = .pointer (some ⟨g13,3,none⟩):=hd 24 kr
        simp only [e19,e24]
        refine za0 rfl rfl rfl ?_;intro K9 hK
        go_simp;exact hK _ _ rfl ex rfl
       ·(show SlotA _ _ _ _ _ _ _);intro u w1 hx1 hd;obtain ⟨y9,rfl⟩:=hx1.get;clear hx1
        have e19 : u 19 = .bool false:=hd 19 kr
        simp only [e19]
        refine za0 rfl rfl rfl ?_;intro K9 hK
        go_simp;exact hK _ _ rfl ex rfl
       ·(show SlotA _ _ _ _ _ _ _);intro u w1 hx1 hd;obtain ⟨y9,rfl⟩:=hx1.get;clear hx1
        have e19 : u 19 = .bool false:=hd 19 kr
        have e25 : u 25 = .slice D3 nx.b.node.log.length K3:=hd 25 kr
        have e26 : u 26 = .int .i64 q:=hd 26 kr
        simp only [e19,e25,e26]
        refine za0 rfl rfl rfl ?_;intro K9 hK
        go_simp;exact hK _ _ rfl ex rfl
       ·(show SlotA _ _ _ _ _ _ _);intro u w1 hx1 hd;obtain ⟨y9,rfl⟩:=hx1.get;clear hx1
        have e19 : u 19 = .bool false:=hd 19 kr
        have e23 : u 23 = .slice D1 q K1:=hd 23 kr
        have e27 : u 27 = .slice D3 q K3:=hd 27 kr
        simp only [e19,e23,e27]
        refine za0 rfl rfl rfl ?_;intro K9 hK
        go_simp;go_at_call 74;refine (zc4 D1 K1 q (c.b.node.log.take q) LA.out D3 K3 q (nx.b.node.log.take q) LB.out true HT.out _ (pa.mono ex) (pb.mono ex)).mono ?_;rintro e w' ⟨rfl,hx⟩;exact hK _ _ rfl hx rfl
       ·(show SlotA _ _ _ _ _ _ _);intro u w1 hx1 hd;obtain ⟨y9,rfl⟩:=hx1.get;clear hx1
        have e19 : u 19 = .bool false:=hd 19 kr
        have e28 : u 28 = .bool true:=hd 28 kr
        simp only [e19,e28]
        refine za0 rfl rfl rfl ?_;intro K9 hK
        go_simp;exact hK _ _ rfl ex rfl
       ·(show SlotA _ _ _ _ _ _ _);intro u w1 hx1 hd;obtain ⟨y9,rfl⟩:=hx1.get;clear hx1
        have e19 : u 19 = .bool false:=hd 19 kr
        have e29 : u 29 = .bool false:=hd 29 kr
        simp only [e19,e29]
        refine za0 rfl rfl rfl ?_;intro K9 hK
        go_simp;exact hK _ _ rfl ex rfl
      ·intro u w2 hx2 hT;obtain ⟨t0,t1,t2,t3,t4,t5,t6,t7,t8,t9,t10,t11,t12,t13,t14,t15,t16,t17,t18,t19,t20,t21,t22,t23,t24,t25,t26,t27,t28,t29,t30,-⟩:=hT;obtain ⟨y9,rfl⟩:=hx2.get;clear hx2
       have e30 : u 30 = .bool false:=t30
       simp only [e30]
       clear e30 t0 t1 t2 t3 t4 t5 t6 t7 t8 t9 t10 t11 t12 t13 t14 t15 t16 t17 t18 t19 t20 t21 t22 t23 t24 t25 t26 t27 t28 t29 t30
       simp only [List.drop_succ_cons,List.drop_zero]
       refine wpList_nil ?_
       go_wp2
       go_light
       exact ⟨⟨_,rfl,HXT.out.trans (x5.trans ex),.inr (.inr rfl)⟩,by simp [intOf]⟩
    ·have hrow:=(HQ8.out.mono HXT.out).row (n:=21) rfl
     have hz:=HQ7.out.mono HXT.out
     go_wp2_with (refine za2 rfl 30 (.tmp 3) (.tmp 90) rfl (hz.mono ex) rfl (Lw nx A2 a2 B2 b2 M2 m2) rfl rfl (show 21 < 44 by decide) kr (zbm nx A2 a2 B2 b2 M2 m2) ?_;intro W7 ht7 hb7;have HT7:=zh ht7;have HB7:=zh hb7;clear ht7 hb7)
     have hx7 : Ext w W7:=HT7.out.ext ((HX8.out.trans HXT.out).trans ex) (Nat.le_refl _)
     have e1:=((HL8.out.mono HXT.out).mono (show Ext wt _ from ex)).turn HT7.out
     have e2:=((HN8.out.mono HXT.out).mono (show Ext wt _ from ex)).turn HT7.out
     have e3:=((HM8.out.mono HXT.out).mono (show Ext wt _ from ex)).off HOZ.out HT7.out
     go_light
     exact ⟨⟨k + 1,by omega,by go_num,zh (hx7.trans ex),A2,a2,B2,b2,M2,m2,xs2,zh (by rw [HSS.out];exact HB7.out.mono ex),zh (by rw [HSS.out];exact e1.mono ex),zh (by rw [HSS.out];exact e2.mono ex),zh (by rw [HSS.out];exact e3.mono ex),HOZ⟩,by simp [intOf];omega⟩
  ·have hd1 : decide ((k : Int) < (T : Int)) = false:=decide_eq_false om
   go_wp2
   go_ret
   exact ⟨rfl,HX.out.trans ex⟩
end
end Go.Proofs.YtnpdghjpcnjokaaGreat

namespace Go.Proofs.YtnpdghjpcnjokaaGreat
open Go.RowKit

theorem zFx (A0 : Option Addr) (k0 : Nat) (l : List Evt) (x1 x2 : Int) (w : World) (hs : zbR w A0 k0 l) (hb : 0 ≤ x1 ∧ x1 ≤ 255) (hc : 0 ≤ x2 ∧ x2 ≤ 255) (_hn : l.length * 576 ≤ 140737488355328) : Calls Tryz.prog 6 #[.slice A0 l.length k0,.int .u8 x1,.int .u8 x2] w fun e w' => e = .returned (.bool true) ∧ Ext w w':=by
 obtain ⟨hb0,hb1⟩:=hb
 obtain ⟨hc0,hc1⟩:=hc
 obtain ⟨p,hp⟩ : ∃ p,x1 % 16 = p:=⟨_,rfl⟩
 obtain ⟨q,hq⟩ : ∃ q,x2 % 8 = q:=⟨_,rfl⟩
 have hp0 : 0 ≤ p:=by omega
 have hp1 : p < 16:=by omega
 have hq0 : 0 ≤ q:=by omega
 have hq1 : q < 8:=by omega
 have hw1 : IntKind.i64.wrap x1 = x1:=IntWalk.i64_in _ om
 have hw2 : IntKind.i64.wrap x2 = x2:=IntWalk.i64_in _ om
 have hll:=hs.len
 have HS:=zh hs
 clear hs
 by_cases h20 : 20 < l.length
 ·have hd : decide ((20 : Int) < (l.length : Int)) = true:=decide_eq_true om
  go_enter Tryz.func6,Tryz.ntmps6
  go_wp2_with (go_at_call 28;refine (zaB _).mono ?_;rintro e w' ⟨rfl,hx⟩;obtain ⟨y,rfl⟩:=hx.get;clear hx)
  go_ret
  exact ⟨rfl,ex⟩
 have hd : decide ((20 : Int) < (l.length : Int)) = false:=decide_eq_false om
 by_cases hz : evtsE l = 0
 rotate_left
 ·have hz2 : (evtsE l != 0) = true:=by simpa using hz
  clear hz
  go_enter Tryz.func6,Tryz.ntmps6
  go_wp2_with (first
   | (go_at_call 16;refine (zgQ _ (HS.out.mono ex)).mono ?_;rintro e w' ⟨rfl,hx⟩;obtain ⟨y1,rfl⟩:=hx.get;clear hx)
   | (go_at_call 28;refine (zaB _).mono ?_;rintro e w' ⟨rfl,hx⟩;obtain ⟨y,rfl⟩:=hx.get;clear hx))
  go_ret
  exact ⟨rfl,ex⟩
 have HZ:=zh hz
 clear hz
 obtain ⟨v,hv⟩ : ∃ v,(newW (1 + p) (1 + q)).1 = v:=⟨_,rfl⟩
 have HV:=zh hv
 have HOK:=zh (show WldOk v by rw [← hv];exact (zem om om om om).2)
 have HNW:=zh (show v.now = 0 by rw [← hv];unfold newW;rw [if_neg om])
 have HG:=zh (show Tk.WG 1 [] v by rw [← hv];exact Tk.WG.new om om om om)
 clear hv
 go_enter Tryz.func6,Tryz.ntmps6
 go_wp2_with (first
  | (go_at_call 16;refine (zgQ _ (HS.out.mono ex)).mono ?_;rintro e w' ⟨he,hx⟩;rw [HZ.out] at he;subst he;obtain ⟨y1,rfl⟩:=hx.get;clear hx)
  | (go_at_call 9;refine (zcH om om om om HV.out).mono ?_;rintro e w' ⟨A,a,B,b,M,m,rfl,hx,hw⟩;have HW:=zh hw;obtain ⟨ya,rfl⟩:=hx.get;clear hx hw)
  | (refine za7 rfl 30 (.tmp 7) (.tmp 28) rfl rfl sg (Lw v A a B b M m) rfl rfl kr (zbm v A a B b M m) ?_)
  | (go_at_call 29;refine (zzq (T:=45) (HW.out.mono ex) HOK.out HG.out HNW.out (HS.out.mono ex) HZ.out om).mono ?_;rintro e w' ⟨rfl,hx⟩;obtain ⟨yc,rfl⟩:=hx.get;clear hx)
  | (go_at_call 28;refine (zaB _).mono ?_;rintro e w' ⟨rfl,hx⟩;obtain ⟨y,rfl⟩:=hx.get;clear hx))
 go_ret
 exact ⟨rfl,ex⟩
end Go.Proofs.YtnpdghjpcnjokaaGreat
