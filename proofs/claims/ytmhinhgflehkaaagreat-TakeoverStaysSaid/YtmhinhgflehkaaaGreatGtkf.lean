import Derived.Test.YtmhinhgflehkaaaGreatGtkq
import Derived.KernelRfl
set_option maxRecDepth 100000
namespace Go.Proofs.YtmhinhgflehkaaaGreat
namespace Tk

def upE (k i:Int):Evt:=⟨k,2,i,acnN,0⟩
def soonL (t u:Int):List Evt:=[downE t 1,upE u 1]
def Pa (d t:Int) (x:Ltr):Prop:=d≤x.at_∧(x.msg.kind=0→x.at_≤t - 1+d)∧(x.msg.kind ≠ 0→x.at_≤t - 1+2 * d)
structure PhA (d n t s:Int) (K:Nat) (w:Wld):Prop where
 calm:Calm false 1 n s s K 1 (Pa d t) [] w
 delay:w.delay=d
 bup:w.b.up=true
 aup:w.a.up=decide (s≤t)
 app:∀ p,0≤p→p < s→p < t→s≤p+d→∃ x,x ∈ w.mail∧x.msg.kind=0∧x.at_=p+d
 q1:s≤d→w.b.quiet=s
 q2:d < s→s≤t+d→w.b.quiet=1
 q3:t+d < s→w.b.quiet=s - (t+d)+1
structure PhB (d n u s:Int) (K:Nat) (w:Wld):Prop where
 calm:Calm true 2 n s s K 3 (fun _=>True) [] w
 delay:w.delay=d
 bup:w.b.up=true
 aup:w.a.up=decide (u < s)
 hush:w.a.up=true→Hush true n s w
section
variable {d n t s u:Int} {K:Nat} {w:Wld}
end
end Tk
end Go.Proofs.YtmhinhgflehkaaaGreat

namespace Go.Proofs.YtmhinhgflehkaaaGreat
namespace Tk

def cutL (t u:Int):List Evt:=[⟨t,3,0,acnN,0⟩,⟨u,4,0,acnN,0⟩]
def five (w:Wld):Bool × Int × Bool × Int × Int:=(w.a.node.speaks,w.a.node.term,w.b.node.speaks,w.b.node.term,spokenW w)
theorem cut_8:five (runW (cutL 5 9) 8 (newW 2 1).1)=(true,1,true,2,2):=by kernel_rfl
theorem cut_11:(runW (cutL 5 9) 11 (newW 2 1).1).a.node.speaks=false∧(runW (cutL 5 9) 11 (newW 2 1).1).b.node.speaks=true:=⟨by kernel_rfl,by kernel_rfl⟩
end Tk
end Go.Proofs.YtmhinhgflehkaaaGreat

namespace Go.Proofs.YtmhinhgflehkaaaGreat
namespace Tk

noncomputable def aw:Wld:=(newW 2 1).1
theorem aw_tr8:traceW [] 8 aw=[1,1,1,1,1,1,1,1]:=by kernel_rfl
theorem aw_tr14:traceW (soonL 5 10) 14 aw=[1,1,1,1,1,0,0,2,2,2,2,2,2,2]:=by kernel_rfl
theorem aw_ok:WldOk aw:=(newW_ok (by omega) (by omega) (by omega) (by omega)).2
theorem aw_now:aw.now=0:=by unfold aw newW;rw [if_neg (by omega)]
theorem cutE_zero {t k:Int} (h1:k=3 ∨ k=4):evtE ⟨t,k,0,acnN,0⟩=0:=by
 unfold evtE
 rw [if_neg (by show ¬ (k < 0 ∨ 5 < k);omega),if_neg (by show ¬ (k≤2∧_ ∨ k=5∧_);rintro (⟨h,-⟩ | ⟨h,-⟩) <;> omega),if_neg (by show ¬ (k=0∧_);rintro ⟨h,-⟩;omega),if_neg]
 rintro (⟨-,b⟩ | ⟨-,b⟩ | ⟨-,b⟩)
 ·exact b rfl
 ·exact b rfl
 ·have:sameA acnN acnN=false:=b
  rw [sameA_refl] at this;cases this
theorem upE_zero {t i k:Int} (h1:k=1 ∨ k=2) (hi:1≤i) (hi2:i≤2):evtE ⟨t,k,i,acnN,0⟩=0:=by
 unfold evtE
 rw [if_neg (by show ¬ (k < 0 ∨ 5 < k);omega),if_neg (by show ¬ (k≤2∧(i < 1 ∨ 2 < i) ∨ k=5∧_);rintro (⟨-,h⟩ | ⟨h,-⟩) <;> omega),if_neg (by show ¬ (k=0∧_);rintro ⟨h,-⟩;omega),if_neg]
 rintro (⟨a,-⟩ | ⟨-,b⟩ | ⟨-,b⟩)
 ·exact a (by show k≤2;omega)
 ·exact b rfl
 ·have:sameA acnN acnN=false:=b
  rw [sameA_refl] at this;cases this
theorem two_right {x y:Evt} (hx:evtE x=0) (hy:evtE y=0) (h0:0≤x.tick) (h1:x.tick≤y.tick) (h2:y.tick≤1048576):evtsE [x,y]=0:=by
 unfold evtsE
 rw [if_neg (by show ¬ (256 < 2);omega)]
 refine scan_zero _ _ fun k z hz => ?_
 match k,hz with
 | 0,hz =>
  obtain rfl:x=z:=by injection hz
  unfold evtS
  rw [if_neg (by omega)]
  exact hx
 | 1,hz =>
  obtain rfl:y=z:=by injection hz
  unfold evtS
  rw [if_neg (by omega)]
  show (if y.tick < x.tick then 9 else evtE y)=0
  rw [if_neg (by omega)]
  exact hy
theorem soonL_right {t u:Int} (h0:0≤t) (h1:t≤u) (h2:u≤1048576):evtsE (soonL t u)=0:=two_right (upE_zero (k:=1) (.inl rfl) (by omega) (by omega)) (upE_zero (k:=2) (.inr rfl) (by omega) (by omega)) h0 h1 h2
theorem cutL_right {t u:Int} (h0:0≤t) (h1:t≤u) (h2:u≤1048576):evtsE (cutL t u)=0:=two_right (cutE_zero (.inl rfl)) (cutE_zero (.inr rfl)) h0 h1 h2
theorem aw_c8:(seqW (cutL 5 9) aw 8).a.node.speaks=true∧(seqW (cutL 5 9) aw 8).a.node.term=1∧(seqW (cutL 5 9) aw 8).b.node.speaks=true∧(seqW (cutL 5 9) aw 8).b.node.term=2∧spokenW (seqW (cutL 5 9) aw 8)=2:=by
 have h:=cut_8
 rw [runW_seq] at h
 unfold five at h
 simp only [Prod.mk.injEq] at h
 exact h
theorem aw_c11:(seqW (cutL 5 9) aw 11).a.node.speaks=false∧(seqW (cutL 5 9) aw 11).b.node.speaks=true:=by
 have h:=cut_11
 rw [runW_seq (cutL 5 9) 11 (newW 2 1).1] at h
 exact h
theorem aw_spk:speakerV (seqW (cutL 5 9) aw 8)=(2,0):=by
 have h:=(seqW_ok (fun x hx=>evtsE_ok (cutL_right (t:=5) (u:=9) (by omega) (by omega) (by omega)) x hx) aw_ok 8 (by rw [aw_now];omega)).1
 unfold speakerV
 rw [if_neg (by rw [(wldE_iff _).2 h];simp),aw_c8.2.2.2.2]
end Tk
end Go.Proofs.YtmhinhgflehkaaaGreat

namespace Go.Proofs.YtmhinhgflehkaaaGreat

theorem evts_all {l:List Evt} (h:evtsE l=0):l.length≤256∧(∀ x ∈ l,(0≤x.tick∧x.tick≤1048576)∧evtE x=0)∧l.Pairwise (fun a b=>a.tick≤b.tick):=by
 have hlen : ¬ 256 < l.length:=fun hc=>by unfold evtsE at h;rw [if_pos hc] at h;cases h
 have hscan:scan evtS none l=0:=by unfold evtsE at h;rwa [if_neg hlen] at h
 have hk:=scan_ok evtS l hscan
 have h1:∀ k x,l[k]? = some x→(0≤x.tick∧x.tick≤1048576)∧evtE x=0∧(∀ p,prv l k=some p→p.tick≤x.tick):=by
  intro k x hx
  have hz:=hk k x hx
  have ht0 : ¬ (x.tick < 0 ∨ 1048576 < x.tick):=fun hc=>by unfold evtS at hz;rw [if_pos hc] at hz;cases hz
  unfold evtS at hz
  rw [if_neg ht0] at hz
  refine ⟨by omega,?_⟩
  cases hp:prv l k with
  | none=>rw [hp] at hz;exact ⟨hz,fun p hp=>by cases hp⟩
  | some p =>
   rw [hp] at hz
   by_cases hc:x.tick < p.tick
   ·simp only [if_pos hc] at hz;cases hz
   ·simp only [if_neg hc] at hz
    exact ⟨hz,fun q hq=>by injection hq with hq;subst hq;omega⟩
 refine ⟨by omega,fun x hx => ?_,?_⟩
 ·obtain ⟨k,hk⟩:=List.getElem?_of_mem hx
  exact ⟨(h1 k x hk).1,(h1 k x hk).2.1⟩
 ·rw [List.pairwise_iff_getElem]
  intro i j hi hj hij
  induction j with
  | zero=>omega
  | succ j ih =>
   have h2:=(h1 (j+1) l[j+1] (List.getElem?_eq_getElem hj)).2.2 l[j] (by rw [prv_succ,List.getElem?_eq_getElem])
   by_cases hc:i=j
   ·subst hc;exact h2
   ·have:=ih (by omega) (by omega);omega
theorem evts_of {l:List Evt} (h1:l.length≤256) (h2:∀ x ∈ l,(0≤x.tick∧x.tick≤1048576)∧evtE x=0) (h3:l.Pairwise (fun a b=>a.tick≤b.tick)):evtsE l=0:=by
 unfold evtsE
 rw [if_neg (by omega)]
 refine scan_zero _ _ fun k x hx => ?_
 obtain ⟨h4,h5⟩:=h2 x (List.mem_of_getElem? hx)
 unfold evtS
 rw [if_neg (by omega)]
 cases k with
 | zero=>exact h5
 | succ k =>
  obtain ⟨hk,hxe⟩:=List.getElem?_eq_some_iff.1 hx
  rw [prv_succ,List.getElem?_eq_getElem (by omega)]
  rw [List.pairwise_iff_getElem] at h3
  have:=h3 k (k+1) (by omega) hk (by omega)
  rw [hxe] at this
  show (if x.tick < _ then (9:Int) else evtE x)=0
  rw [if_neg (by omega)];exact h5
theorem evtsE_filter {l:List Evt} (h:evtsE l=0) (q:Evt→Bool):evtsE (l.filter q)=0:=by
 obtain ⟨h1,h2,h3⟩:=evts_all h
 exact evts_of (Nat.le_trans (List.length_filter_le _ _) h1) (fun x hx=>h2 x (List.mem_filter.1 hx).1) (h3.filter q)
end Go.Proofs.YtmhinhgflehkaaaGreat
