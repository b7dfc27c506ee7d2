/-
 Chapter 55 in plain: what is done at the speaker is at both stations in the end.
-/
import Derived.Test.YtmhinhgflehkaaaGreatGtkq
import Derived.Test.YtmhinhgflehkaaaGreatGrag
namespace Go.Proofs.YtmhinhgflehkaaaGreat
namespace Tk

theorem tookL_more {n : Nod} {m : Msg} (h : m.at_.toNat ≤ n.log.length) (h1 : ∀ r ∈ n.log, r.term = 1) (h2 : ∀ r ∈ m.recs, r.term = 1) : n.log.length ≤ (tookL n m).length := by
 obtain ⟨a, b, -⟩ := tookL_len (m := m) h
 by_cases hk : keepN (n.log.drop m.at_.toNat) m.recs < m.recs.length
 ·have hge := keepN_ge (n.log.drop m.at_.toNat) m.recs (min (n.log.drop m.at_.toNat).length m.recs.length) (Nat.min_le_left _ _) (Nat.min_le_right _ _) fun i hi => by
   obtain ⟨x, hx⟩ : ∃ x, (n.log.drop m.at_.toNat)[i]? = some x := ⟨_, List.getElem?_eq_getElem (by omega)⟩
   obtain ⟨y, hy⟩ : ∃ y, m.recs[i]? = some y := ⟨_, List.getElem?_eq_getElem (by omega)⟩
   rw [hx, hy, Option.map_some, Option.map_some, h1 x (List.mem_of_mem_drop (List.mem_of_getElem? hx)), h2 y (List.mem_of_getElem? hy)]
  rw [a hk]
  rw [List.length_drop] at hge
  omega
 ·rw [b hk]; exact Nat.le_refl _
theorem recv_take {n : Nod} {m : Msg} (he : (recvV n m).2.2.2 = 0) (hk : m.kind = 0) (ht : m.term = 1) (hnt : n.term ≤ 1) (h1 : ∀ r ∈ n.log, r.term = 1) (h2 : ∀ r ∈ m.recs, r.term = 1) (hat : m.at_ ≤ n.log.length) :
  (recvV n m).2.2.1 = true ∧ (recvV n m).2.1.kind = 1 ∧ (recvV n m).2.1.at_ = m.at_ + m.recs.length ∧ n.log.length ≤ (recvV n m).1.log.length ∧ m.at_ + m.recs.length ≤ (recvV n m).1.log.length ∧ n.acked ≤ (recvV n m).1.acked ∧ min m.acked (m.at_ + m.recs.length) ≤ (recvV n m).1.acked ∧ ∀ r ∈ (recvV n m).1.log, r.term = 1 := by
 obtain ⟨hn, hm, hown, he2, e⟩ := recvV_ok he
 rw [e]
 have h0 := hm.at0
 have hil := inTerm_log n m
 have e2 : recdV n m = takeV (inTerm n m) m := by unfold recdV; rw [if_neg (by omega), if_pos hk]
 rw [e2] at he2 ⊢
 have hto : m.at_.toNat ≤ (inTerm n m).log.length := by rw [hil]; omega
 rcases takeV_cases he2 with hc | ⟨hc1, hc2, hc3⟩ | hT
 ·rw [hil] at hc; omega
 ·exfalso
  apply hc3
  have hb := (hm.app hk).b1 hc2
  have e3 : termAt (inTerm n m).log (m.at_ - 1) = 1 := by
   unfold termAt
   rw [if_neg (by omega), hil]
   obtain ⟨x, hx⟩ : ∃ x, n.log[(m.at_ - 1).toNat]? = some x := ⟨_, List.getElem?_eq_getElem (by omega)⟩
   rw [hx]
   exact h1 x (List.mem_of_getElem? hx)
  omega
 ·rw [takeV_taken hT]
  have h1' : ∀ r ∈ (inTerm n m).log, r.term = 1 := by rw [hil]; exact h1
  have hmore := tookL_more (n := inTerm n m) (m := m) hto h1' h2
  rw [hil] at hmore
  have h3 := (tookL_len (n := inTerm n m) (m := m) hto).2.2
  refine ⟨rfl, rfl, rfl, hmore, ?_, ?_, ?_, fun r hr => ?_⟩
  ·show _ ≤ ((tookL (inTerm n m) m).length : Int); omega
  ·show _ ≤ max (inTerm n m).acked _; rw [inTerm_acked]; omega
  ·show _ ≤ max (inTerm n m).acked _; omega
  ·have hr : r ∈ tookL (inTerm n m) m := hr
   have hp := hT.recs.pos r hr
   have hh := hT.recs.hi r hr
   have := inTerm_term (n := n) (m := m) (by omega)
   omega

def Pc (cnt : Int → Nat) (d : Int) (x : Ltr) : Prop :=
 (x.msg.kind = 0 → x.msg.at_ + x.msg.recs.length = cnt (x.at_ - d + 1) ∧ (cnt (x.at_ - d + 1 - 2 * d) : Int) ≤ x.msg.acked ∧ ∀ r ∈ x.msg.recs, r.term = 1) ∧ (x.msg.kind ≠ 0 → x.msg.kind = 1 ∧ (cnt (x.at_ - 2 * d + 1) : Int) ≤ x.msg.at_)
structure Got (cnt : Int → Nat) (d s : Int) (L : List Rec) (w : Wld) (r : List Ltr) : Prop where
 log : w.a.node.log = L
 one : ∀ x ∈ w.b.node.log, x.term = 1
 next : w.a.node.next ≤ w.b.node.log.length
 far : ∀ x, x ∈ r ++ w.mail → x.msg.kind = 0 → x.msg.at_ ≤ w.b.node.log.length
 b : cnt (s - d) ≤ w.b.node.log.length
 aa : (cnt (s - 2 * d) : Int) ≤ w.a.node.acked
 ba : (cnt (s - 3 * d) : Int) ≤ w.b.node.acked
structure Cop (cnt : Int → Nat) (d n s : Int) (K : Nat) (L : List Rec) (w : Wld) : Prop where
 calm : Calm false 1 n s s K 1 (Pc cnt d) [] w
 delay : w.delay = d
 up : ∀ j, (stn w j).up = true
 hush : Hush false n s w
 got : Got cnt d s L w []
 app : ∀ p, 0 ≤ p → p < s → s ≤ p + d → ∃ x, x ∈ w.mail ∧ x.msg.kind = 0 ∧ x.at_ = p + d
 ack : ∀ p, d ≤ p → p < s → s ≤ p + d → ∃ x, x ∈ w.mail ∧ x.msg.kind ≠ 0 ∧ x.at_ = p + d
section
variable {cnt : Int → Nat} {d n s : Int} {K : Nat} {L : List Rec}
theorem Cop.heard {v : Wld} (hm : ∀ i j, i ≤ j → cnt i ≤ cnt j) (c : Calm false 1 n s s K 1 (Pc cnt d) [] v) (hs : s < 1048576 - 8) (hd : 1 ≤ d) (hd8 : d ≤ 8) (hdl : v.delay = d) (hup : ∀ j, (stn v j).up = true) (g : Got cnt d s L v [])
  (app : ∀ p, 0 ≤ p → p < s → s ≤ p + d → ∃ x, x ∈ v.mail ∧ x.msg.kind = 0 ∧ x.at_ = p + d) (ack : ∀ p, d ≤ p → p < s → s ≤ p + d → ∃ x, x ∈ v.mail ∧ x.msg.kind ≠ 0 ∧ x.at_ = p + d) (h0 : ∀ i, i ≤ 0 → cnt i = 0) (hK : K ≤ 250) :
  Calm false 1 n s (s + 1) K 1 (Pc cnt d) [] (tick3 v) ∧ Got cnt d (s + 1) L (tick3 v) [] ∧ (d ≤ s → ∃ x, x ∈ (tick3 v).mail ∧ x.msg.kind ≠ 0 ∧ x.at_ = s + d) := by
 have hnow := c.now
 have hdue : ∀ x, x ∈ dueL v.now v.mail → x ∈ v.mail ∧ x.at_ = s := fun x hx => by
  obtain ⟨a, b⟩ := List.mem_filter.1 hx
  have b := of_decide_eq_true b
  have := c.late x a
  exact ⟨a, by omega⟩
 have hdue2 : ∀ x, x ∈ v.mail → x.at_ = s → x ∈ dueL v.now v.mail := fun x hx he => List.mem_filter.2 ⟨hx, decide_eq_true (by omega)⟩
 have hwt := c.wt
 rw [Tk.wt] at hwt
 have key := foldl_rest (f := deliverW) (P := fun rem u => (∀ x, x ∈ rem → x ∈ dueL v.now v.mail) ∧ Calm false 1 n s (s + 1) K 1 (Pc cnt d) rem u ∧ u.delay = d ∧ (∀ j, (stn u j).up = true) ∧ Got cnt d s L u rem ∧
   ((∃ x, x ∈ dueL v.now v.mail ∧ x.msg.kind = 0) → (∃ x, x ∈ rem ∧ x.msg.kind = 0) ∨ (cnt (s + 1 - d) ≤ u.b.node.log.length ∧ (cnt (s + 1 - 3 * d) : Int) ≤ u.b.node.acked ∧ ∃ x, x ∈ u.mail ∧ x.msg.kind ≠ 0 ∧ x.at_ = s + d)) ∧
   ((∃ x, x ∈ dueL v.now v.mail ∧ x.msg.kind ≠ 0) → (∃ x, x ∈ rem ∧ x.msg.kind ≠ 0) ∨ (cnt (s + 1 - 2 * d) : Int) ≤ u.a.node.acked)) (dueL v.now v.mail) (tick2 v) ?_ ?_
 ·obtain ⟨-, k1, k2, k3, k4, k5, k6⟩ := key
  have n0 := h0
  have k5' : d ≤ s → cnt (s + 1 - d) ≤ (tick3 v).b.node.log.length ∧ (cnt (s + 1 - 3 * d) : Int) ≤ (tick3 v).b.node.acked ∧ ∃ x, x ∈ (tick3 v).mail ∧ x.msg.kind ≠ 0 ∧ x.at_ = s + d := fun hds => by
   obtain ⟨x, a, b, e⟩ := app (s - d) (by omega) (by omega) (by omega)
   rcases k5 ⟨x, hdue2 x a (by omega), b⟩ with ⟨y, hy, -⟩ | h
   ·cases hy
   ·exact h
  have k6' : 2 * d ≤ s → (cnt (s + 1 - 2 * d) : Int) ≤ (tick3 v).a.node.acked := fun hds => by
   obtain ⟨x, a, b, e⟩ := ack (s - d) (by omega) (by omega) (by omega)
   rcases k6 ⟨x, hdue2 x a (by omega), b⟩ with ⟨y, hy, -⟩ | h
   ·cases hy
   ·exact h
  have ha0 := k1.ok.a.node.a0
  have hb0 := k1.ok.b.node.a0
  refine ⟨k1, ⟨k4.log, k4.one, k4.next, k4.far, ?_, ?_, ?_⟩, fun hds => (k5' hds).2.2⟩
  ·by_cases hds : d ≤ s
   ·exact (k5' hds).1
   ·rw [h0 _ (by omega)]; exact Nat.zero_le _
  ·by_cases hds : 2 * d ≤ s
   ·exact k6' hds
   ·rw [h0 _ (by omega)]; exact ha0
  ·by_cases hds : d ≤ s
   ·exact (k5' hds).2.1
   ·rw [h0 _ (by omega)]; exact hb0
 ·have hsp := wt_split (fun x => decide (x.at_ ≤ v.now)) v.mail
  have hmem : ∀ x, x ∈ dueL v.now v.mail ++ (tick2 v).mail → x ∈ v.mail := fun x hx => by
   rcases List.mem_append.1 hx with hx | hx
   ·exact (List.mem_filter.1 hx).1
   ·exact (List.mem_filter.1 hx).1
  refine ⟨fun _ hx => hx, ⟨⟨c.ok.n0, c.ok.n1, c.ok.l0, c.ok.l1, c.ok.d0, c.ok.d1, c.ok.a, c.ok.b, Nat.le_trans (List.length_filter_le _ _) c.ok.len, fun x hx => c.ok.mail x (List.mem_filter.1 hx).1⟩, c.now, c.limit, c.cut, c.sp, c.term, c.oth, c.ot, fun x hx => c.mail x (List.mem_append_right _ (hmem x hx)), fun x hx => ?_, ?_, ?_⟩, hdl, fun j => ?_, ⟨g.log, g.one, g.next, fun x hx => g.far x (List.mem_append_right _ (hmem x hx)), g.b, g.aa, g.ba⟩, fun hx => .inl hx, fun hx => .inl hx⟩
  ·obtain ⟨-, b⟩ := List.mem_filter.1 hx
   have : ¬ x.at_ ≤ v.now := by simpa using b
   omega
  ·show Tk.wt (v.mail.filter _) + Tk.wt (v.mail.filter _) ≤ K
   rw [hsp]; omega
  ·obtain ⟨G, hG⟩ := c.inv
   exact ⟨G, hG.look (fun j => by cases j <;> rfl) fun x hx => List.mem_append_right _ (hmem x hx)⟩
  ·have := hup j
   cases j <;> exact this
 ·rintro u x r ⟨c1, c2, c3, c4, c5, c6, c7⟩
  obtain ⟨hx1, hx2⟩ := hdue x (c1 x (by simp))
  obtain ⟨hxo, hxP, hxt, hxk⟩ := c2.mail x (by simp)
  have hmin : min (s + u.delay) 1048576 = s + d := by rw [c3]; omega
  have herr := (c2.inv.deliver (by omega) (x := x) (by simp) hxo).2.2
  have hua : (stn u false).up = true := c4 false
  have hub : (stn u true).up = true := c4 true
  have hm0 := hxo.msg.at0
  rcases hxk with ⟨hk, hd1⟩ | ⟨hk, hd1⟩
  ·have he := herr true hd1
   obtain ⟨x1, x2, x3⟩ := hxP.1 hk
   rw [hx2] at x1 x2
   have hfar := c5.far x (by simp) hk
   obtain ⟨t1, t2, t3, t4, t5, t6, t7, t8⟩ := recv_take (n := u.b.node) he hk hxt c2.ot c5.one x3 hfar
   obtain ⟨d1, d2, d3, -, -, d6⟩ := c2.deliver (by omega) (Int.le_refl _) (by omega) (fun _ _ _ _ => by
    rw [hmin]
    refine ⟨fun hc => ?_, fun _ => ⟨t2, ?_⟩⟩
    ·have : (recvV u.b.node x.msg).2.1.kind = 0 := hc
     omega
    ·show (cnt (s + d - 2 * d + 1) : Int) ≤ (recvV u.b.node x.msg).2.1.at_
     rw [t3, x1, show s + d - 2 * d + 1 = s - d + 1 by omega]
     exact Int.le_refl _)
   obtain ⟨q, -, D⟩ := deliver_to (w := u) hd1 hub he
   have hself : (deliverW u x).b = ⟨(recvV u.b.node x.msg).1, true, q⟩ := D.self
   have hoth : (deliverW u x).a = u.a := D.other
   have hwt2 := c2.wt
   rw [Tk.wt, if_pos hk] at hwt2
   have hlen := wt_len u.mail
   have hmail := D.post t1 c2.cut (by omega)
   rw [c2.now, hmin] at hmail
   have e1 : s - d + 1 = s + 1 - d := by omega
   rw [e1] at x1
   rw [show s - d + 1 - 2 * d = s + 1 - 3 * d by omega] at x2
   refine ⟨fun y hy => c1 y (by simp [hy]), d1, d2.trans c3, fun j => (d3 j).trans (c4 j), ⟨by rw [hoth]; exact c5.log, by rw [hself]; exact t8, by rw [hoth, hself]; have := c5.next; show _ ≤ (((recvV u.b.node x.msg).1.log.length : Nat) : Int); omega, fun y hy hyk => ?_, by rw [hself]; exact Nat.le_trans c5.b t4, by rw [hoth]; exact c5.aa, by rw [hself]; exact Int.le_trans c5.ba t6⟩, fun _ => .inr ⟨?_, ?_, ?_⟩, fun hex => ?_⟩
   ·rw [hself]
    have hold : y ∈ (x :: r) ++ u.mail → y.msg.at_ ≤ (((recvV u.b.node x.msg).1.log.length : Nat) : Int) := fun ho => by
     have := c5.far y ho hyk
     omega
    rcases List.mem_append.1 hy with hy | hy
    ·exact hold (List.mem_append_left _ (List.mem_cons_of_mem _ hy))
    ·rw [hmail] at hy
     rcases List.mem_append.1 hy with hy | hy
     ·exact hold (List.mem_append_right _ hy)
     ·rw [List.mem_singleton] at hy
      subst hy
      have : (recvV u.b.node x.msg).2.1.kind = 0 := hyk
      omega
   ·rw [hself]
    show _ ≤ (recvV u.b.node x.msg).1.log.length
    omega
   ·rw [hself]
    have hmono := hm (s + 1 - 3 * d) (s + 1 - d) (by omega)
    show _ ≤ (recvV u.b.node x.msg).1.acked
    omega
   ·refine ⟨_, by rw [hmail]; exact List.mem_append_right _ (List.mem_singleton.2 rfl), ?_, rfl⟩
    show (recvV u.b.node x.msg).2.1.kind ≠ 0
    omega
   ·rcases c7 hex with ⟨y, hy, hyk⟩ | h
    ·rcases List.mem_cons.1 hy with rfl | hy
     ·exact absurd hk hyk
     ·exact .inl ⟨y, hy, hyk⟩
    ·exact .inr (by rw [hoth]; exact h)
  ·have he := herr false hd1
   obtain ⟨x1, x2⟩ := hxP.2 hk
   rw [hx2] at x2
   obtain ⟨d1, d2, d3, -, d5, d6⟩ := c2.deliver (by omega) (Int.le_refl _) (by omega) (fun hc => absurd hc hk)
   obtain ⟨q, -, D⟩ := deliver_to (w := u) hd1 hua he
   have hself : (deliverW u x).a = ⟨(recvV u.a.node x.msg).1, true, q⟩ := D.self
   have hoth : (deliverW u x).b = u.b := D.other
   have hans := recv_ans (n := u.a.node) he hk (by rw [hxt]; exact c2.term.symm)
   rw [if_pos x1] at hans
   -- the Ack is of what both have
   obtain ⟨G, hG⟩ := c2.inv
   have hack := (hG.mail false x.msg (mem_ltrsTo.2 ⟨x, by simp, hd1, rfl⟩)).2.2.2 x1
   obtain ⟨l1, l2, -⟩ := hack.log c2.sp (c2.term.trans hxt.symm)
   have l1 : x.msg.at_ ≤ (u.a.node.log.length : Int) := l1
   have l2 : x.msg.at_ ≤ (u.b.node.log.length : Int) := l2
   have hN : (recvV u.a.node x.msg).1 = ⟨u.a.node.id, u.a.node.term, u.a.node.speaks, u.a.node.log, max u.a.node.acked x.msg.at_, max u.a.node.next x.msg.at_⟩ := by
    rw [hans]
    show ackN _ _ = _
    unfold ackN
    rw [if_pos ⟨c2.sp, l1⟩]
   have hmail : ∀ y, y ∈ (deliverW u x).mail → y ∈ u.mail := fun y hy => by
    rcases D.mail with e | ⟨hc, -⟩
    ·rw [e] at hy; exact hy
    ·have hc : (recvV u.a.node x.msg).2.2.1 = true := hc
     rw [hans] at hc; cases hc
   have hnx := c5.next
   refine ⟨fun y hy => c1 y (by simp [hy]), d1, d2.trans c3, fun j => (d3 j).trans (c4 j), ⟨by rw [hself, hN]; exact c5.log, by rw [hoth]; exact c5.one, by rw [hself, hN, hoth]; show max _ _ ≤ _; omega, fun y hy hyk => ?_, by rw [hoth]; exact c5.b, by rw [hself, hN]; have := c5.aa; show _ ≤ max _ _; omega, by rw [hoth]; exact c5.ba⟩, fun hex => ?_, fun _ => .inr ?_⟩
   ·rw [hoth]
    refine c5.far y ?_ hyk
    rcases List.mem_append.1 hy with hy | hy
    ·exact List.mem_append_left _ (List.mem_cons_of_mem _ hy)
    ·exact List.mem_append_right _ (hmail y hy)
   ·rcases c6 hex with ⟨y, hy, hyk⟩ | ⟨h1, h2, y, h3⟩
    ·rcases List.mem_cons.1 hy with rfl | hy
     ·exact absurd hyk hk
     ·exact .inl ⟨y, hy, hyk⟩
    ·exact .inr ⟨by rw [hoth]; exact h1, by rw [hoth]; exact h2, y, d6 y h3.1, h3.2⟩
   ·rw [hself, hN]
    rw [show s - 2 * d + 1 = s + 1 - 2 * d by omega] at x2
    show _ ≤ max _ _
    omega
theorem Calm.term' {n s lo : Int} {K KG : Nat} {P : Ltr → Prop} {r : List Ltr} {w : Wld} (h : Calm false 1 n s lo K KG P r w) : w.a.node.term = 1 := h.term
theorem Calm.forget {i : Bool} {T n s lo : Int} {K KG : Nat} {P : Ltr → Prop} {r : List Ltr} {w : Wld} (h : Calm i T n s lo K KG P r w) : Calm i T n s lo K KG (fun _ => True) r w :=
 ⟨h.ok, h.now, h.limit, h.cut, h.sp, h.term, h.oth, h.ot, fun x hx => ⟨(h.mail x hx).1, trivial, (h.mail x hx).2.2⟩, h.late, h.wt, h.inv⟩
theorem Cop.tick {w : Wld} {l : List Evt} {L' : List Rec} (hm : ∀ i j, i ≤ j → cnt i ≤ cnt j) (h0 : ∀ i, i ≤ 0 → cnt i = 0) (h : Cop cnt d n s K L w) (hs0 : 0 ≤ s) (hs : s ≤ 1000) (hd : 1 ≤ d) (hd8 : d ≤ 8) (hdn : d ≤ n) (hn : n ≤ 16) (hK : K + 2 ≤ 250) {v : Wld} (hv : tick1 w l = v)
  (c : Calm false 1 n s s K 1 (Pc cnt d) [] v) (vd : v.delay = d) (vu : ∀ j, (stn v j).up = true) (vq : v.b.quiet = w.b.quiet) (vm : v.mail = w.mail) (vb : v.b.node = w.b.node) (vL : v.a.node.log = L') (vn : v.a.node.next = w.a.node.next) (va : v.a.node.acked = w.a.node.acked) (hL : L'.length = cnt (s + 1)) (hL16 : L'.length ≤ 16) (hone : ∀ r ∈ L', r.term = 1) :
  Cop cnt d n (s + 1) (K + 2) L' (tickW w l) := by
 rw [tickW_6, hv]
 have g : Got cnt d s L' v [] := ⟨vL, by rw [vb]; exact h.got.one, by rw [vn, vb]; exact h.got.next, by rw [vm, vb]; exact h.got.far, by rw [vb]; exact h.got.b, by rw [va]; exact h.got.aa, by rw [vb]; exact h.got.ba⟩
 obtain ⟨k1, k2, k3⟩ := Cop.heard hm c (by omega) hd hd8 vd vu g (by rw [vm]; exact h.app) (by rw [vm]; exact h.ack) h0 (by omega)
 obtain ⟨-, e2, e3, e4, e5, e6⟩ := c.forget.heard (by omega) (by omega) (fun _ _ _ _ _ _ _ => trivial)
 have hl0 := c.ok.l0
 have hlim := c.limit
 have hmin : min (s + (tick3 v).delay) 1048576 = s + d := by rw [e2, vd]; omega
 have hP : Pc cnt d ⟨idOf (!false), s + d, sentM (stn (tick3 v) false).node⟩ := by
  have hlog : (tick3 v).a.node.log = L' := k2.log
  have hn0 := k1.ok.a.node.n0
  have hn1 := k1.ok.a.node.n1
  refine ⟨fun _ => ⟨?_, ?_, fun r hr => ?_⟩, fun hc => absurd rfl hc⟩
  ·show (tick3 v).a.node.next + ((((tick3 v).a.node.log.drop (tick3 v).a.node.next.toNat).take 16).length : Int) = cnt (s + d - d + 1)
   rw [show s + d - d + 1 = s + 1 by omega, ← hL, hlog, List.length_take, List.length_drop]
   rw [hlog] at hn1
   omega
  ·rw [show s + d - d + 1 - 2 * d = s + 1 - 2 * d by omega]
   exact k2.aa
  ·have hr : r ∈ ((tick3 v).a.node.log.drop (tick3 v).a.node.next.toNat).take 16 := hr
   rw [hlog] at hr
   exact hone r (List.mem_of_mem_drop (List.mem_of_mem_take hr))
 obtain ⟨m1, m2, m3, m4, m5, m6, m7⟩ := k1.works (by omega) (by omega) (fun _ => by rw [hmin]; exact hP) (fun hu => by
  rw [e3] at hu
  by_cases hex : ∃ x, x ∈ v.mail ∧ x.msg.kind = 0 ∧ x.at_ ≤ s
  ·rw [e5 hu hex]; omega
  ·rw [e6 hex]
   show v.b.quiet + 1 ≤ n
   rw [vq]
   rcases h.hush with e | ⟨x, a, b, e, f⟩
   ·have e : w.b.quiet = 0 := e
    omega
   ·have f : w.b.quiet + (x.at_ - s) ≤ n := f
    by_cases hx : x.at_ ≤ s
    ·exact absurd ⟨x, by rw [vm]; exact a, b, hx⟩ hex
    ·omega)
 have e5' : workW (workW (tick3 v) 1) 2 = tick5 v := rfl
 rw [e5'] at m1 m2 m3 m4 m5 m6 m7
 have hau : (stn (tick3 v) false).up = true := by rw [e3]; exact vu _
 have hbu : (stn (tick3 v) (!false)).up = true := by rw [e3]; exact vu _
 rw [if_pos hau, hmin] at m7
 have m5 := m5 hbu
 have hA : (tick6 v).a = (tick3 v).a := m4
 have hB : (tick6 v).b = ⟨(tick3 v).b.node, true, (tick3 v).b.quiet + 1⟩ := m5
 have hM : (tick6 v).mail = (tick3 v).mail ++ [⟨idOf (!false), s + d, sentM (stn (tick3 v) false).node⟩] := m7
 have hnow := m1.now
 have hn0 := c.ok.n0
 have hsn := c.now
 have hkeep : ∀ y, y ∈ w.mail → s < y.at_ → y ∈ (tick6 v).mail := fun y hy hlt => by rw [hM]; exact List.mem_append_left _ (e4 y (by rw [vm]; exact hy) hlt)
 have hnew : (⟨idOf (!false), s + d, sentM (stn (tick3 v) false).node⟩ : Ltr) ∈ (tick6 v).mail := by rw [hM]; exact List.mem_append_right _ (List.mem_singleton.2 rfl)
 refine ⟨⟨⟨by show 0 ≤ (tick5 v).now + 1; omega, by show (tick5 v).now + 1 ≤ 1048576; omega, m1.ok.l0, m1.ok.l1, m1.ok.d0, m1.ok.d1, m1.ok.a, m1.ok.b, m1.ok.len, m1.ok.mail⟩, by show (tick5 v).now + 1 = s + 1; omega, m1.limit, m1.cut, by rw [stn_6]; exact m1.sp, by rw [stn_6]; exact m1.term, by rw [stn_6]; exact m1.oth, by rw [stn_6]; exact m1.ot, m1.mail, m1.late, m1.wt, ?_⟩, (show (tick5 v).delay = d from m2.trans (e2.trans vd)), fun j => by rw [stn_6, m3, e3]; exact vu j, ?_, ⟨by rw [hA]; exact k2.log, by rw [hB]; exact k2.one, by rw [hA, hB]; exact k2.next, fun y hy hyk => ?_, by rw [hB]; exact k2.b, by rw [hA]; exact k2.aa, by rw [hB]; exact k2.ba⟩, fun p p1 p2 p3 => ?_, fun p p1 p2 p3 => ?_⟩
 ·obtain ⟨G, hG⟩ := m1.inv
  exact ⟨G, hG.look (fun j => by rw [stn_6]) fun _ hx => hx⟩
 ·have hqq : (stn (tick6 v) (!false)).quiet = (tick3 v).b.quiet + 1 := by show (tick6 v).b.quiet = _; rw [hB]
  by_cases hex : ∃ x, x ∈ v.mail ∧ x.msg.kind = 0 ∧ x.at_ ≤ s
  ·have e : (tick3 v).b.quiet = 0 := e5 (vu _) hex
   exact .inr ⟨_, hnew, rfl, by show s + 1 ≤ s + d; omega, by rw [hqq, e]; show 0 + 1 + (s + d - (s + 1)) ≤ n; omega⟩
  ·have e : (tick3 v).b = v.b := e6 hex
   rw [e, vq] at hqq
   rcases h.hush with e0 | ⟨x, a, b, f, g⟩
   ·have e0 : w.b.quiet = 0 := e0
    exact .inr ⟨_, hnew, rfl, by show s + 1 ≤ s + d; omega, by rw [hqq, e0]; show 0 + 1 + (s + d - (s + 1)) ≤ n; omega⟩
   ·by_cases hx : x.at_ ≤ s
    ·exact absurd ⟨x, by rw [vm]; exact a, b, hx⟩ hex
    ·have g : w.b.quiet + (x.at_ - s) ≤ n := g
     exact .inr ⟨x, hkeep x a (by omega), b, by omega, by rw [hqq]; omega⟩
 ·rw [hB]
  have hy : y ∈ (tick6 v).mail := hy
  rw [hM] at hy
  rcases List.mem_append.1 hy with hy | hy
  ·exact k2.far y hy hyk
  ·rw [List.mem_singleton] at hy
   subst hy
   exact k2.next
 ·by_cases hp : p = s
  ·subst hp; exact ⟨_, hnew, rfl, rfl⟩
  ·obtain ⟨x, a, b, e⟩ := h.app p p1 (by omega) (by omega)
   exact ⟨x, hkeep x a (by omega), b, e⟩
 ·by_cases hp : p = s
  ·subst hp
   obtain ⟨x, a, b, e⟩ := k3 p1
   exact ⟨x, by rw [hM]; exact List.mem_append_left _ a, b, e⟩
  ·obtain ⟨x, a, b, e⟩ := h.ack p p1 (by omega) (by omega)
   exact ⟨x, hkeep x a (by omega), b, e⟩
theorem Cop.done {w : Wld} (h : Cop cnt d n s K L w) (hN : cnt (s - 3 * d) = L.length) (hm : ∀ i j, i ≤ j → cnt i ≤ cnt j) (hd : 1 ≤ d) : w.a.node.log = L ∧ w.b.node.log = L ∧ w.a.node.acked = L.length ∧ w.b.node.acked = L.length := by
 have g := h.got
 have e1 := hm (s - 3 * d) (s - d) (by omega)
 have e2 := hm (s - 3 * d) (s - 2 * d) (by omega)
 have ga := g.aa
 have gb := g.b
 have gba := g.ba
 have ha1 := h.calm.ok.a.node.a1
 have hb1 := h.calm.ok.b.node.a1
 have hpre : w.b.node.log = w.a.node.log.take w.b.node.log.length := by
  obtain ⟨G, hG⟩ := h.calm.inv
  have hnow : G 1 = some w.a.node.log := by
   have h1 := hG.now false h.calm.sp
   have h2 : (stn w false).node.term = 1 := h.calm.term
   have h1 : G (stn w false).node.term = some w.a.node.log := h1
   rwa [h2] at h1
  by_cases hz : w.b.node.log.length = 0
  ·rw [hz, List.take_zero]; exact List.eq_nil_of_length_eq_zero hz
  ·have hmat : Mat G w.b.node.log := (hG.log true).mat
   obtain ⟨r, hr⟩ : ∃ r, w.b.node.log[w.b.node.log.length - 1]? = some r := ⟨_, List.getElem?_eq_getElem (by omega)⟩
   obtain ⟨Y, y1, y2⟩ := hmat _ r hr
   rw [g.one r (List.mem_of_getElem? hr), hnow] at y1
   injection y1 with y1
   rw [show w.b.node.log.length - 1 + 1 = w.b.node.log.length by omega, List.take_length] at y2
   rw [y1]; exact y2
 have hlen : L.length ≤ w.b.node.log.length := by omega
 rw [g.log] at hpre ha1
 rw [List.take_of_length_le hlen] at hpre
 rw [hpre] at hb1
 exact ⟨g.log, hpre, by omega, by omega⟩
end

/-! ### The acts -/
def recL (aL : Nat → Acn) (m : Nat) : List Rec := (List.range m).map fun i => ⟨1, aL i⟩
theorem recL_len (aL : Nat → Acn) (m : Nat) : (recL aL m).length = m := by unfold recL; rw [List.length_map, List.length_range]
theorem recL_succ (aL : Nat → Acn) (m : Nat) : recL aL (m + 1) = recL aL m ++ [⟨1, aL m⟩] := by unfold recL; rw [List.range_succ, List.map_append]; rfl
theorem recL_one (aL : Nat → Acn) (m : Nat) : ∀ r ∈ recL aL m, r.term = 1 := fun r hr => by
 unfold recL at hr
 obtain ⟨i, -, rfl⟩ := List.mem_map.1 hr
 rfl
theorem recL_early {aL : Nat → Acn} (h : ∀ i, (aL i).at_ ≤ (aL (i + 1)).at_) : ∀ m, early (recL aL m) (aL m) = false
 | 0 => rfl
 | m + 1 => by
  unfold early
  rw [recL_succ, List.getLast?_append]
  show decide ((aL (m + 1)).at_ < (aL m).at_) = false
  have := h m
  exact decide_eq_false (by omega)
def actE (s : Int) (a : Acn) : Evt := ⟨s, 0, 1, a, 0⟩
theorem actE_ok {s : Int} {a : Acn} (h : acnE a = 0) : EvtOk (actE s a) := ⟨Int.le_refl _, by show (0 : Int) ≤ 5; omega, fun _ => ⟨by show (1 : Int) ≤ 1; omega, by show (1 : Int) ≤ 2; omega⟩, fun h => (by cases h), fun _ => h⟩
theorem happen_act {w : Wld} (hn : NodOk w.a.node) (hu : w.a.up = true) (hs : w.a.node.speaks = true) {a : Acn} (ha : acnE a = 0) (he : early w.a.node.log a = false) (hl : w.a.node.log.length < 256) (s : Int) : happenW w (actE s a) = ⟨w.now, w.limit, w.delay, w.cut, ⟨actN w.a.node a, w.a.up, w.a.quiet⟩, w.b, w.mail⟩ := by
 have e : actV w.a.node a = (actN w.a.node a, 0) := by
  unfold actV
  rw [if_neg (by rw [(nodE_iff _).2 hn]; simp), if_neg (by rw [hs]; simp), if_neg (by rw [ha]; simp), if_neg (by rw [he]; simp), if_neg (by omega)]
 unfold happenW
 rw [if_pos (show (actE s a).kind ≤ 2 by show (0 : Int) ≤ 2; omega), show (actE s a).station = 1 from rfl, getS_1, setS_1]
 unfold happenS
 rw [if_pos (show (actE s a).kind = 0 from rfl), show (actE s a).act = a from rfl, e, if_pos ⟨hu, rfl⟩]
theorem cop_seq {cnt : Int → Nat} {aL : Nat → Acn} {l : List Evt} {d n : Int} (hm : ∀ i j, i ≤ j → cnt i ≤ cnt j) (h0 : ∀ i, i ≤ 0 → cnt i = 0) (hc : ∀ i, cnt i ≤ 16) (ha : ∀ i, acnE (aL i) = 0) (hmo : ∀ i, (aL i).at_ ≤ (aL (i + 1)).at_) (hd : 1 ≤ d) (hd8 : d ≤ 8) (hdn : d ≤ n) (hn : n ≤ 16)
  (hl : ∀ s : Int, 0 ≤ s → s < 60 → (atL l s = [] ∧ cnt (s + 1) = cnt s) ∨ (atL l s = [actE s (aL (cnt s))] ∧ cnt (s + 1) = cnt s + 1)) : ∀ j : Nat, j ≤ 60 → Cop cnt d n j (2 * j) (recL aL (cnt j)) (seqW l (newW n d).1 j)
 | 0, _ => by
  obtain ⟨c1, c2, c3, c4, c5, c6, c7⟩ := Calm.new (m := n) (d := d) (Pc cnt d) (by omega) hn hd hd8
  have e0 : cnt ((0 : Nat) : Int) = 0 := h0 _ (Int.le_refl _)
  rw [e0]
  refine ⟨c1, c2, c3, .inl c4, ⟨by rw [seqW, c6]; rfl, ?_, ?_, ?_, ?_, ?_, ?_⟩, fun p h1 h2 => ?_, fun p h1 h2 => ?_⟩
  ·rw [seqW, c7]; intro x hx; cases hx
  ·rw [seqW, c6, c7]; exact Int.le_refl _
  ·rw [seqW, c5]; intro x hx; cases hx
  ·rw [h0 _ (by show ((0 : Nat) : Int) - d ≤ 0; omega)]; exact Nat.zero_le _
  ·rw [h0 _ (by show ((0 : Nat) : Int) - 2 * d ≤ 0; omega), seqW, c6]; exact Int.le_refl _
  ·rw [h0 _ (by show ((0 : Nat) : Int) - 3 * d ≤ 0; omega), seqW, c7]; exact Int.le_refl _
  ·have : p < ((0 : Nat) : Int) := h2; omega
  ·have : p < ((0 : Nat) : Int) := h2; omega
 | j + 1, hj => by
  have h := cop_seq hm h0 hc ha hmo hd hd8 hdn hn hl j (by omega)
  obtain ⟨w, hw⟩ : ∃ w, seqW l (newW n d).1 j = w := ⟨_, rfl⟩
  show Cop cnt d n _ _ _ (tickW (seqW l (newW n d).1 j) (atL l (seqW l (newW n d).1 j).now))
  rw [hw] at h ⊢
  rw [h.calm.now]
  have hlen := recL_len aL (cnt ((j : Int) + 1))
  have hc1 := hc ((j : Int) + 1)
  rcases hl j (by omega) (by omega) with ⟨e1, e2⟩ | ⟨e1, e2⟩
  ·rw [e1]
   have hg := Cop.tick (l := []) (L' := recL aL (cnt ((j : Int) + 1))) hm h0 h (by omega) (by omega) hd hd8 hdn hn (by omega) rfl h.calm h.delay h.up rfl rfl rfl (by show w.a.node.log = _; rw [e2]; exact h.got.log) rfl rfl hlen (by omega) (recL_one _ _)
   exact hg
  ·rw [e1]
   have hu : w.a.up = true := h.up false
   have hlog : w.a.node.log = recL aL (cnt (j : Int)) := h.got.log
   have hll := recL_len aL (cnt (j : Int))
   have hc0 := hc (j : Int)
   have he := happen_act (w := w) h.calm.ok.a.node hu h.calm.sp (ha (cnt (j : Int))) (by rw [hlog]; exact recL_early hmo _) (by rw [hlog]; omega) (j : Int)
   have hev : Mild n (actE (j : Int) (aL (cnt (j : Int)))) := ⟨actE_ok (ha _), .inl rfl⟩
   have hcal := (h.calm.happen (by rw [h.delay]; exact hdn) hev).1
   have hv : tick1 w [actE (j : Int) (aL (cnt (j : Int)))] = happenW w (actE (j : Int) (aL (cnt (j : Int)))) := rfl
   rw [he] at hv hcal
   have hg := Cop.tick (L' := recL aL (cnt ((j : Int) + 1))) hm h0 h (by omega) (by omega) hd hd8 hdn hn (by omega) hv hcal h.delay (fun k => by cases k; exact h.up false; exact h.up true) rfl rfl rfl (by show w.a.node.log ++ _ = _; rw [e2, recL_succ, hlog, h.calm.term']) rfl rfl hlen (by omega) (recL_one _ _)
   exact hg
end Tk
end Go.Proofs.YtmhinhgflehkaaaGreat

/-
 Chapter 55: worlds without failures (TopTakeoversGoOn).
-/
namespace Go.Proofs.YtmhinhgflehkaaaGreat
namespace Tk

def goL (K : Nat) : List Evt := (List.range K).map fun i : Nat => actE (2 * (i : Int)) (goA (25 * (i : Int)))
theorem actE_zero {s : Int} {a : Acn} (h : acnE a = 0) : evtE (actE s a) = 0 := by
 unfold evtE
 rw [if_neg (by show ¬ ((0 : Int) < 0 ∨ 5 < (0 : Int)); omega), if_neg (by show ¬ ((0 : Int) ≤ 2 ∧ ((1 : Int) < 1 ∨ 2 < (1 : Int)) ∨ (0 : Int) = 5 ∧ _); omega), if_neg (by rintro ⟨-, g⟩; exact g h), if_neg]
 rintro (⟨a, b⟩ | ⟨a, b⟩ | ⟨a, b⟩)
 ·exact a (by show (0 : Int) ≤ 2; omega)
 ·exact b rfl
 ·exact a rfl
def goC (K : Nat) (s : Int) : Nat := min K ((s.toNat + 1) / 2)
def goF (i : Nat) : Acn := goA (25 * ((min i 11 : Nat) : Int))
theorem goF_ok (i : Nat) : acnE (goF i) = 0 := acnE_goA (by omega) (by omega)
theorem goF_at (i : Nat) : (goF i).at_ = 25 * ((min i 11 : Nat) : Int) := rfl
def goActs (K : Nat) : List Acn := (List.range K).map fun i : Nat => goA (25 * (i : Int))
end Tk
end Go.Proofs.YtmhinhgflehkaaaGreat
