import Derived.Test.YtnpdghjpcnjokaaGreatQf4
import Derived.Test.YtnpdghjpcnjokaaGreatGawx
import Derived.Test.YtnpdghjpcnjokaaGreatDdw
set_option linter.all false
namespace Go.Proofs.YtnpdghjpcnjokaaGreat
open Go.RowKit

def Stab.wld (u:Wld):Stab:=⟨fun x W=> ∃A a B b M m xs,x=.agg (Lw u A a B b M m)∧WldAt W u A a B b M m xs,fun _ _ _ hx ⟨A,a,B,b,M,m,xs,e,h⟩=>⟨A,a,B,b,M,m,xs,e,h.mono hx⟩⟩
def Stab.evs (l:List Evt):Stab:=⟨fun x W=> ∃A k,x=.slice A l.length k∧zbR W A k l,fun _ _ _ hx ⟨A,k,e,h⟩=>⟨A,k,e,h.mono hx⟩⟩
theorem sameN_me (n:Nod):sameN n n=true:=by simp[sameN,zbr]
theorem sameM_me (m:Msg):sameM m m=true:=by simp[sameM,zbr]
theorem sameWl_refl (w:Wld):sameWl w w=true:=by
 have hl:∀l:List Ltr,zF5 l l=true:=fun l=>by
  induction l with
  |nil=>rfl
  |cons x l ih=>unfold zF5 sameLt;rw[ih,sameM_me];simp
 unfold sameWl sameSt;rw[sameN_me,sameN_me,hl];simp
theorem MsgOk.few {m:Msg}(h:MsgOk m):m.recs.length≤16:=by
 by_cases hk:m.kind=0
 ·exact(h.app hk).len
 ·rw[(h.ans hk).2.1];exact Nat.zero_le _
theorem WldOk.small {v:Wld}(h:WldOk v){W:World}{A B M:Option Addr}{a b m:Nat}{xs:List (Ltr×Option Addr×Nat)}(hw:WldAt W v A a B b M m xs):v.a.node.log.length * 552≤140737488355328∧v.b.node.log.length * 552≤140737488355328∧v.mail.length * 80≤140737488355328∧∀x∈xs,x.1.msg.recs.length * 552≤140737488355328:=by have h1:=h.a.node.len;have h2:=h.b.node.len;have h3:=h.len;refine⟨by omega,by omega,by omega,fun x hx=> ?_⟩;have:=(h.mail x.1 (by rw[←hw.is];exact List.mem_map_of_mem hx)).msg.few;omega
theorem wld0_small {W:World}{A B M:Option Addr}{a b m:Nat}{xs:List (Ltr×Option Addr×Nat)}(hw:WldAt W wld0 A a B b M m xs):wld0.a.node.log.length * 552≤140737488355328∧wld0.b.node.log.length * 552≤140737488355328∧wld0.mail.length * 80≤140737488355328∧∀x∈xs,x.1.msg.recs.length * 552≤140737488355328:=by
 refine⟨Nat.zero_le _,Nat.zero_le _,Nat.zero_le _,fun x hx=> ?_⟩;have:x.1∈wld0.mail:=by rw[←hw.is];exact List.mem_map_of_mem hx
 cases this
theorem small_or {v:Wld}(h:WldOk v∨v=wld0){W:World}{A B M:Option Addr}{a b m:Nat}{xs:List (Ltr×Option Addr×Nat)}(hw:WldAt W v A a B b M m xs):v.a.node.log.length * 552≤140737488355328∧v.b.node.log.length * 552≤140737488355328∧v.mail.length * 80≤140737488355328∧∀x∈xs,x.1.msg.recs.length * 552≤140737488355328:=by
 rcases h with h|rfl
 ·exact h.small hw
 ·exact wld0_small hw
