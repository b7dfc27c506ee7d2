/-
 Chapter 55 in plain: the speaker fails, and the other one takes over.
-/
import Derived.Test.YtmhinhgflehkaaaGreatGtkq
import Derived.KernelRfl
namespace Go.Proofs.YtmhinhgflehkaaaGreat
namespace Tk

def upE (k i : Int) : Evt := ⟨k, 2, i, acnN, 0⟩
theorem upE_ok {k i : Int} (h1 : 1 ≤ i) (h2 : i ≤ 2) : EvtOk (upE k i) := ⟨by show (0 : Int) ≤ 2; omega, by show (2 : Int) ≤ 5; omega, fun _ => ⟨h1, h2⟩, fun h => (by cases h), fun h => by cases h⟩
def soonL (t u : Int) : List Evt := [downE t 1, upE u 1]
theorem soonL_ok (t u : Int) : ∀ x, x ∈ soonL t u → EvtOk x := fun x hx => by
 unfold soonL at hx
 simp only [List.mem_cons, List.not_mem_nil, or_false] at hx
 rcases hx with rfl | rfl
 ·exact downE_ok (by omega) (by omega)
 ·exact upE_ok (by omega) (by omega)
theorem soonL_none {t u s : Int} (h1 : s ≠ t) (h2 : s ≠ u) : atL (soonL t u) s = [] := by
 unfold atL soonL
 rw [List.filter_cons, if_neg (show ¬ decide ((downE t 1).tick = s) = true from fun hc => h1 (show t = s from of_decide_eq_true hc).symm), List.filter_cons, if_neg (show ¬ decide ((upE u 1).tick = s) = true from fun hc => h2 (show u = s from of_decide_eq_true hc).symm), List.filter_nil]
theorem soonL_down {t u : Int} (h : t ≠ u) : atL (soonL t u) t = [downE t 1] := by
 unfold atL soonL
 rw [List.filter_cons, if_pos (show decide ((downE t 1).tick = t) = true from decide_eq_true rfl), List.filter_cons, if_neg (show ¬ decide ((upE u 1).tick = t) = true from fun hc => h (show u = t from of_decide_eq_true hc).symm), List.filter_nil]
theorem soonL_up {t u : Int} (h : t ≠ u) : atL (soonL t u) u = [upE u 1] := by
 unfold atL soonL
 rw [List.filter_cons, if_neg (show ¬ decide ((downE t 1).tick = u) = true from fun hc => h (show t = u from of_decide_eq_true hc)), List.filter_cons, if_pos (show decide ((upE u 1).tick = u) = true from decide_eq_true rfl), List.filter_nil]
theorem happen_down (w : Wld) (k : Int) : happenW w (downE k 1) = ⟨w.now, w.limit, w.delay, w.cut, ⟨w.a.node, false, w.a.quiet⟩, w.b, w.mail⟩ := by
 unfold happenW
 rw [if_pos (show (downE k 1).kind ≤ 2 by show (1 : Int) ≤ 2; omega), show (downE k 1).station = 1 from rfl, getS_1, setS_1]
 unfold happenS
 rw [if_neg (show ¬ (downE k 1).kind = 0 by show ¬ (1 : Int) = 0; omega), if_pos (show (downE k 1).kind = 1 from rfl)]
theorem happen_up {w : Wld} (h : w.a.up = false) (k : Int) : happenW w (upE k 1) = ⟨w.now, w.limit, w.delay, w.cut, ⟨⟨w.a.node.id, w.a.node.term, false, w.a.node.log, w.a.node.acked, 0⟩, true, 0⟩, w.b, w.mail⟩ := by
 unfold happenW
 rw [if_pos (show (upE k 1).kind ≤ 2 by show (2 : Int) ≤ 2; omega), show (upE k 1).station = 1 from rfl, getS_1, setS_1]
 unfold happenS
 rw [if_neg (show ¬ (upE k 1).kind = 0 by show ¬ (2 : Int) = 0; omega), if_neg (show ¬ (upE k 1).kind = 1 by show ¬ (2 : Int) = 1; omega), if_neg (by rw [h]; simp)]

def Pa (d t : Int) (x : Ltr) : Prop := d ≤ x.at_ ∧ (x.msg.kind = 0 → x.at_ ≤ t - 1 + d) ∧ (x.msg.kind ≠ 0 → x.at_ ≤ t - 1 + 2 * d)
structure PhA (d n t s : Int) (K : Nat) (w : Wld) : Prop where
 calm : Calm false 1 n s s K 1 (Pa d t) [] w
 delay : w.delay = d
 bup : w.b.up = true
 aup : w.a.up = decide (s ≤ t)
 app : ∀ p, 0 ≤ p → p < s → p < t → s ≤ p + d → ∃ x, x ∈ w.mail ∧ x.msg.kind = 0 ∧ x.at_ = p + d
 q1 : s ≤ d → w.b.quiet = s
 q2 : d < s → s ≤ t + d → w.b.quiet = 1
 q3 : t + d < s → w.b.quiet = s - (t + d) + 1
structure PhB (d n u s : Int) (K : Nat) (w : Wld) : Prop where
 calm : Calm true 2 n s s K 3 (fun _ => True) [] w
 delay : w.delay = d
 bup : w.b.up = true
 aup : w.a.up = decide (u < s)
 hush : w.a.up = true → Hush true n s w
section
variable {d n t s u : Int} {K : Nat} {w : Wld}
theorem PhA.mid (h : PhA d n t s K w) (ht1 : 0 ≤ t) (htu : t ≠ u) (hsu : s ≠ u) : ∃ v, tick1 w (atL (soonL t u) w.now) = v ∧ Calm false 1 n s s K 1 (Pa d t) [] v ∧ v.delay = d ∧ v.b = w.b ∧ v.mail = w.mail ∧ v.a.up = decide (s < t) := by
 have hnow := h.calm.now
 rw [hnow]
 by_cases hst : s = t
 ·subst hst
  rw [soonL_down htu]
  have hg := (h.calm.inv.happen (downE_ok (k := s) (i := 1) (by omega) (by omega))).1
  have hok := (happenW_ok h.calm.ok (downE_ok (k := s) (i := 1) (by omega) (by omega))).1
  rw [happen_down] at hg hok
  refine ⟨_, rfl, ?_⟩
  show Calm false 1 n s s K 1 (Pa d s) [] (happenW w (downE s 1)) ∧ _
  have e : tick1 w [downE s 1] = happenW w (downE s 1) := rfl
  rw [e, happen_down]
  exact ⟨⟨hok, h.calm.now, h.calm.limit, h.calm.cut, h.calm.sp, h.calm.term, h.calm.oth, h.calm.ot, h.calm.mail, h.calm.late, h.calm.wt, hg⟩, h.delay, rfl, rfl, (decide_eq_false (by omega)).symm⟩
 ·rw [soonL_none hst hsu]
  refine ⟨w, rfl, h.calm, h.delay, rfl, rfl, ?_⟩
  rw [h.aup]
  by_cases hc : s < t
  ·rw [decide_eq_true hc, decide_eq_true (by omega)]
  ·rw [decide_eq_false hc, decide_eq_false (by omega)]
theorem PhA.tick (h : PhA d n t s K w) (hd : 1 ≤ d) (hdn : d ≤ n) (hn : n ≤ 16) (ht1 : 1 ≤ t) (ht2 : t ≤ 100) (hK : K + 2 ≤ 256) (hs0 : 0 ≤ s) (hs : s < t + d + n - 1) (hu : u = t + d + n - 1 + 3) : PhA d n t (s + 1) (K + 2) (tickW w (atL (soonL t u) w.now)) := by
 obtain ⟨v, hv, c, cd, cb, cm, ca⟩ := h.mid (u := u) (by omega) (by omega) (by omega)
 rw [tickW_6, hv]
 have hbu : (stn v (!false)).up = true := by show v.b.up = true; rw [cb]; exact h.bup
 have hbq : (stn v (!false)).quiet = w.b.quiet := by show v.b.quiet = _; rw [cb]
 have hPm : ∀ x, x ∈ v.mail → Pa d t x ∧ s ≤ x.at_ := fun x hx => ⟨(c.mail x (List.mem_append_right _ hx)).2.1, c.late x hx⟩
 have hau : (stn v false).up = decide (s < t) := ca
 have hdue : (∃ x, x ∈ v.mail ∧ x.msg.kind = 0 ∧ x.at_ ≤ s) ↔ d ≤ s ∧ s < t + d := by
  constructor
  ·rintro ⟨x, a, b, e⟩
   obtain ⟨⟨p1, p2, -⟩, p4⟩ := hPm x a
   have := p2 b
   exact ⟨by omega, by omega⟩
  ·rintro ⟨a, b⟩
   obtain ⟨x, e1, e2, e3⟩ := h.app (s - d) (by omega) (by omega) (by omega) (by omega)
   exact ⟨x, by rw [cm]; exact e1, e2, by omega⟩
 have q1 := h.q1
 have q2 := h.q2
 have q3 := h.q3
 have hmin : min (s + v.delay) 1048576 = s + d := by rw [cd]; omega
 obtain ⟨r1, r2⟩ := c.rest (by omega) (by omega) hK (fun x hx hk hle _ m hm => by
  obtain ⟨⟨p1, p2, -⟩, p4⟩ := hPm x hx
  have := p2 hk
  rw [hmin]
  exact ⟨by show d ≤ s + d; omega, fun hc => absurd hc hm, fun _ => by show s + d ≤ _; omega⟩) (fun hup m hm => by
  rw [hau] at hup
  have := of_decide_eq_true hup
  rw [hmin]
  exact ⟨by show d ≤ s + d; omega, fun _ => by show s + d ≤ _; omega, fun hc => absurd hm hc⟩) (fun _ => by
  by_cases hc : d ≤ s ∧ s < t + d
  ·exact .inl (hdue.2 hc)
  ·right
   rw [hbq]
   by_cases h1 : s ≤ d
   ·rw [q1 h1]; omega
   ·by_cases h2 : s ≤ t + d
    ·rw [q2 (by omega) h2]; omega
    ·rw [q3 (by omega)]; omega)
 refine ⟨r1, r2.delay.trans cd, (r2.up true).trans hbu, ?_, fun p p1 p2 p3 p4 => ?_, fun hc => ?_, fun hc1 hc2 => ?_, fun hc => ?_⟩
 ·have := r2.up false
  rw [hau] at this
  refine (show (tick6 v).a.up = decide (s < t) from this).trans ?_
  by_cases hc : s < t
  ·rw [decide_eq_true hc, decide_eq_true (by omega)]
  ·rw [decide_eq_false hc, decide_eq_false (by omega)]
 ·by_cases hp : p = s
  ·obtain ⟨x, e1, e2, e3⟩ := r2.new (by rw [hau]; exact decide_eq_true (by omega))
   exact ⟨x, e1, e2, by rw [e3, hmin, hp]⟩
  ·obtain ⟨x, e1, e2, e3⟩ := h.app p p1 (by omega) p3 (by omega)
   exact ⟨x, r2.keep x (by rw [cm]; exact e1) (by omega), e2, e3⟩
 ·have := r2.quiet hbu (fun hx => by have := hdue.1 hx; omega)
  rw [hbq, q1 (by omega)] at this
  exact this
 ·exact r2.heard hbu (hdue.2 ⟨by omega, by omega⟩)
 ·have := r2.quiet hbu (fun hx => by have := hdue.1 hx; omega)
  rw [hbq] at this
  refine (show (tick6 v).b.quiet = w.b.quiet + 1 from this).trans ?_
  by_cases h2 : s ≤ t + d
  ·rw [q2 (by omega) h2]; omega
  ·rw [q3 (by omega)]; omega
theorem PhA.turn (h : PhA d n t s K w) (hd : 1 ≤ d) (hdn : d ≤ n) (hn : n ≤ 16) (ht1 : 1 ≤ t) (ht2 : t ≤ 100) (hK : 2 ≤ K) (hs : s = t + d + n - 1) (hu : u = t + d + n - 1 + 3) : PhB d n u (s + 1) (K + 2) (tickW w (atL (soonL t u) w.now)) := by
 have hev : ∀ x, x ∈ atL (soonL t u) w.now → EvtOk x := fun x hx => soonL_ok t u x (List.mem_filter.1 hx).1
 have hg := (h.calm.inv.tick (by omega) h.calm.ok hev).1
 have hnow := h.calm.now
 have hto := tickW_ok h.calm.ok hev (by omega)
 obtain ⟨v, hv, c, cd, cb, cm, ca⟩ := h.mid (u := u) (by omega) (by omega) (by omega)
 rw [tickW_6, hv] at hg hto ⊢
 have hau : (stn v false).up = false := by show v.a.up = false; rw [ca]; exact decide_eq_false (by omega)
 have hPm : ∀ x, x ∈ v.mail → Pa d t x ∧ s ≤ x.at_ := fun x hx => ⟨(c.mail x (List.mem_append_right _ hx)).2.1, c.late x hx⟩
 have hnone : ¬ ∃ x, x ∈ v.mail ∧ x.msg.kind = 0 ∧ x.at_ ≤ s := by
  rintro ⟨x, a, b, e⟩
  obtain ⟨⟨p1, p2, -⟩, p4⟩ := hPm x a
  have := p2 b
  omega
 obtain ⟨k1, k2, k3, -, -, k6⟩ := c.heard (by omega) (by omega) (fun x hx hk hle => absurd ⟨x, hx, hk, hle⟩ hnone)
 have kb : (tick3 v).b = w.b := by have : (tick3 v).b = v.b := k6 hnone; rw [this, cb]
 have ka : (stn (tick3 v) false).up = false := by rw [k3]; exact hau
 have hq : w.b.quiet = n := by
  by_cases h2 : s ≤ t + d
  ·rw [h.q2 (by omega) h2]; omega
  ·rw [h.q3 (by omega)]; omega
 have hempty : (tick3 v).mail = [] := by
  refine List.eq_nil_iff_forall_not_mem.2 fun x hx => ?_
  have h1 := k1.late x hx
  obtain ⟨-, ⟨p1, p2, p3⟩, -⟩ := k1.mail x (List.mem_append_right _ hx)
  by_cases hk : x.msg.kind = 0
  ·have := p2 hk; omega
  ·have := p3 hk; omega
 have e1 : workW (tick3 v) 1 = tick3 v := workW_off (i := false) ka
 have hbu : (stn (tick3 v) true).up = true := by show (tick3 v).b.up = true; rw [kb]; exact h.bup
 have hbs : (stn (tick3 v) true).node.speaks = false := k1.oth hbu
 have hbt : (stn (tick3 v) true).node.term ≤ 1 := k1.ot
 have hbq : (stn (tick3 v) true).quiet = n := by show (tick3 v).b.quiet = n; rw [kb]; exact hq
 have hbt0 := (stn_ok k1.ok true).node.t0
 rcases leadS_go (l := (tick3 v).limit) (stn_ok k1.ok true) (by omega) (by rw [hbq]; omega) with ⟨hl, -⟩ | ⟨-, T, h1, h2, h3, e2⟩
 ·rw [hbq, k1.limit] at hl; omega
 ·have hT : T = 2 := by
   unfold ownB at h3
   have h3 := of_decide_eq_true h3
   have : idOf true = 2 := rfl
   rw [this] at h3
   omega
  subst hT
  have e3 : tick5 v = postW (putS (tick3 v) true ⟨ledN (stn (tick3 v) true).node 2, (stn (tick3 v) true).up, 0⟩) (idOf (!true)) (sentM (ledN (stn (tick3 v) true).node 2)) := by
   show workW (workW (tick3 v) 1) 2 = _
   rw [e1]
   refine (workW_i (i := true) hbu (x := ⟨ledN (stn (tick3 v) true).node 2, (stn (tick3 v) true).up, 0⟩) (by rw [if_neg (by rw [hbs]; simp)]; exact e2)).trans ?_
   exact if_pos rfl
  rw [postW_eq (by rw [putS_cut]; exact k1.cut) (by rw [putS_mail, hempty]; exact Nat.zero_lt_succ _), putS_mail, hempty, hbu] at e3
  have f1 : (tick6 v).now = s + 1 := by rw [hto.2.1, hnow]
  have f2 : (tick6 v).limit = n := by rw [hto.2.2.1]; exact h.calm.limit
  have f3 : (tick6 v).cut = false := by show (tick5 v).cut = false; rw [e3]; exact k1.cut
  have f4 : (tick6 v).delay = d := by show (tick5 v).delay = d; rw [e3]; exact k2.trans cd
  have f5 : (tick6 v).a = (tick3 v).a := by show (tick5 v).a = _; rw [e3]; rfl
  have f6 : (tick6 v).b = ⟨ledN (stn (tick3 v) true).node 2, true, 0⟩ := by show (tick5 v).b = _; rw [e3]; rfl
  have f7 : (tick6 v).mail = [⟨1, min (s + d) 1048576, sentM (ledN (stn (tick3 v) true).node 2)⟩] := by
   show (tick5 v).mail = _
   rw [e3]
   show [] ++ [(⟨idOf (!true), min ((putS (tick3 v) true _).now + (putS (tick3 v) true _).delay) 1048576, _⟩ : Ltr)] = _
   rw [putS_now, putS_delay, k1.now, k2, cd]
   rfl
  have hua : (tick6 v).a.up = false := by rw [f5]; exact ka
  refine ⟨⟨hto.1, f1, f2, f3, by show (tick6 v).b.node.speaks = true; rw [f6]; rfl, by show (tick6 v).b.node.term = 2; rw [f6]; rfl, fun hc => ?_, ?_, fun x hx => ?_, fun x hx => ?_, ?_, hg⟩, f4, by rw [f6], ?_, fun hc => ?_⟩
  ·have : (tick6 v).a.up = true := hc
   rw [hua] at this; cases this
  ·show (tick6 v).a.node.term ≤ 2
   rw [f5]
   have : (tick3 v).a.node.term = 1 := k1.term
   omega
  ·have hx : x ∈ (tick6 v).mail := hx
   have hxo := hto.1.mail x hx
   rw [f7, List.mem_singleton] at hx
   subst hx
   exact ⟨hxo, trivial, rfl, .inl ⟨rfl, rfl⟩⟩
  ·rw [f7, List.mem_singleton] at hx
   subst hx
   show s + 1 ≤ min (s + d) 1048576
   omega
  ·rw [f7]
   show 0 + ((if (sentM (ledN (stn (tick3 v) true).node 2)).kind = 0 then 2 else 1) + 0) ≤ K + 2
   rw [if_pos (show (sentM (ledN (stn (tick3 v) true).node 2)).kind = 0 from rfl)]
   omega
  ·rw [hua, hu]; exact (decide_eq_false (by omega)).symm
  ·rw [hua] at hc; cases hc
theorem PhB.tick (h : PhB d n u s K w) (hd : 1 ≤ d) (hdn : d ≤ n) (hn : n ≤ 16) (hs0 : t < s) (hs1 : s ≤ 1000) (hK : K + 2 ≤ 256) : PhB d n u (s + 1) (K + 2) (tickW w (atL (soonL t u) w.now)) := by
 have hnow := h.calm.now
 have hmid : ∃ v, tick1 w (atL (soonL t u) w.now) = v ∧ Calm true 2 n s s K 3 (fun _ => True) [] v ∧ v.delay = d ∧ v.b.up = true ∧ v.mail = w.mail ∧ v.a.up = decide (u ≤ s) ∧ (v.a.up = true → Hush true n s v) := by
  rw [hnow]
  by_cases hsu : s = u
  ·rw [hsu, soonL_up (by omega)]
   have hau : w.a.up = false := by rw [h.aup]; exact decide_eq_false (by omega)
   have hg := (h.calm.inv.happen (upE_ok (k := u) (i := 1) (by omega) (by omega))).1
   have hok := (happenW_ok h.calm.ok (upE_ok (k := u) (i := 1) (by omega) (by omega))).1
   have e : tick1 w [upE u 1] = happenW w (upE u 1) := rfl
   rw [happen_up hau] at hg hok
   refine ⟨_, rfl, ?_⟩
   rw [e, happen_up hau, ← hsu]
   exact ⟨⟨hok, h.calm.now, h.calm.limit, h.calm.cut, h.calm.sp, h.calm.term, fun _ => rfl, h.calm.ot, h.calm.mail, h.calm.late, h.calm.wt, hg⟩, h.delay, h.bup, rfl, (decide_eq_true (Int.le_refl _)).symm, fun _ => .inl rfl⟩
  ·rw [soonL_none (by omega) hsu]
   refine ⟨w, rfl, h.calm, h.delay, h.bup, rfl, ?_, h.hush⟩
   rw [h.aup]
   by_cases hc : u < s
   ·rw [decide_eq_true hc, decide_eq_true (by omega)]
   ·rw [decide_eq_false hc, decide_eq_false (by omega)]
 obtain ⟨v, hv, c, cd, cb, cm, ca, ch⟩ := hmid
 rw [tickW_6, hv]
 have hbu : (stn v true).up = true := cb
 have hmin : min (s + v.delay) 1048576 = s + d := by rw [cd]; omega
 obtain ⟨r1, r2⟩ := c.rest (by omega) (by omega) hK (fun _ _ _ _ _ _ _ => trivial) (fun _ _ _ => trivial) (fun hup => by
  rcases ch hup with e | ⟨x, a, b, e, f⟩
  ·right
   have : (stn v (!true)).quiet = 0 := e
   omega
  ·by_cases hx : x.at_ ≤ s
   ·exact .inl ⟨x, a, b, hx⟩
   ·right; omega)
 refine ⟨r1, r2.delay.trans cd, (r2.up true).trans hbu, ?_, fun hup => ?_⟩
 ·have := r2.up false
  refine (show (tick6 v).a.up = v.a.up from this).trans ?_
  rw [ca]
  by_cases hc : u ≤ s
  ·rw [decide_eq_true hc, decide_eq_true (by omega)]
  ·rw [decide_eq_false hc, decide_eq_false (by omega)]
 ·have hva : (stn v (!true)).up = true := (r2.up false).symm.trans hup
  obtain ⟨L, l1, l2, l3⟩ := r2.new hbu
  rw [hmin] at l3
  by_cases hex : ∃ x, x ∈ v.mail ∧ x.msg.kind = 0 ∧ x.at_ ≤ s
  ·have e := r2.heard hva hex
   exact .inr ⟨L, l1, l2, by omega, by rw [e]; omega⟩
  ·have e := r2.quiet hva hex
   rcases ch hva with e0 | ⟨x, a, b, f, g⟩
   ·have e0 : (stn v (!true)).quiet = 0 := e0
    exact .inr ⟨L, l1, l2, by omega, by rw [e]; omega⟩
   ·by_cases hx : x.at_ ≤ s
    ·exact absurd ⟨x, a, b, hx⟩ hex
    ·exact .inr ⟨x, r2.keep x a (by omega), b, by omega, by rw [e]; omega⟩
end
theorem phA_seq {d n t u : Int} (hd : 1 ≤ d) (hdn : d ≤ n) (hn : n ≤ 8) (ht1 : 1 ≤ t) (ht2 : t ≤ 40) (hu : u = t + d + n - 1 + 3) : ∀ j : Nat, (j : Int) ≤ t + d + n - 1 → PhA d n t j (2 * j) (seqW (soonL t u) (newW n d).1 j)
 | 0, _ => by
  obtain ⟨c1, c2, c3, c4, c5, -⟩ := Calm.new (m := n) (d := d) (Pa d t) (by omega) (by omega) hd (by omega)
  exact ⟨c1, c2, c3 true, (c3 false).trans (decide_eq_true (by show (0 : Int) ≤ t; omega)).symm, fun p h1 h2 => by have : p < ((0 : Nat) : Int) := h2; omega, fun _ => c4, fun hc => by have : d < ((0 : Nat) : Int) := hc; omega, fun hc => by have : t + d < ((0 : Nat) : Int) := hc; omega⟩
 | j + 1, hj => (phA_seq hd hdn hn ht1 ht2 hu j (by omega)).tick hd hdn (by omega) ht1 (by omega) (by omega) (by omega) (by omega) hu
theorem phB_seq {d n t u : Int} (hd : 1 ≤ d) (hdn : d ≤ n) (hn : n ≤ 8) (ht1 : 1 ≤ t) (ht2 : t ≤ 40) (hu : u = t + d + n - 1 + 3) : ∀ j : Nat, t + d + n - 1 < (j : Int) → j ≤ 100 → PhB d n u j (2 * j) (seqW (soonL t u) (newW n d).1 j)
 | 0, hj, _ => by have : t + d + n - 1 < ((0 : Nat) : Int) := hj; omega
 | j + 1, hj, hj2 => by
  by_cases hc : (j : Int) = t + d + n - 1
  ·exact (phA_seq hd hdn hn ht1 ht2 hu j (by omega)).turn hd hdn (by omega) ht1 (by omega) (by omega) hc hu
  ·exact (phB_seq hd hdn hn ht1 ht2 hu j (by omega) (by omega)).tick hd hdn (by omega) (by omega) (by omega) (by omega)
theorem soon_all {d n t u : Int} (hd : 1 ≤ d) (hdn : d ≤ n) (hn : n ≤ 8) (ht1 : 1 ≤ t) (ht2 : t ≤ 40) (hu : u = t + d + n - 1 + 3) {N i : Nat} (hi : i < N) (hN : N ≤ 100) :
  (traceW (soonL t u) N (newW n d).1)[i]? = some (if t + d + n - 1 ≤ (i : Int) then 2 else if t ≤ (i : Int) then 0 else 1) := by
 rw [traceW_get _ _ _ _ hi]
 congr 1
 by_cases h1 : t + d + n - 1 ≤ (i : Int)
 ·rw [if_pos h1]
  have h := phB_seq hd hdn hn ht1 ht2 hu (i + 1) (by omega) (by omega)
  exact h.calm.spoken h.bup
 ·have h := phA_seq hd hdn hn ht1 ht2 hu (i + 1) (by omega)
  rw [if_neg h1]
  have ha := h.aup
  have hb : (seqW (soonL t u) (newW n d).1 (i + 1)).b.node.speaks = false := h.calm.oth h.bup
  by_cases h2 : t ≤ (i : Int)
  ·rw [if_pos h2]
   rw [decide_eq_false (by omega)] at ha
   unfold spokenW
   rw [if_neg, if_neg]
   ·rintro ⟨hc, -⟩; rw [ha] at hc; cases hc
   ·rintro ⟨-, hc, -⟩; rw [hb] at hc; cases hc
  ·rw [if_neg h2]
   rw [decide_eq_true (by omega)] at ha
   exact h.calm.spoken ha
end Tk
end Go.Proofs.YtmhinhgflehkaaaGreat

/-
 Chapter 55 in plain: the examples of the chapter.
-/
namespace Go.Proofs.YtmhinhgflehkaaaGreat
namespace Tk

def cutL (t u : Int) : List Evt := [⟨t, 3, 0, acnN, 0⟩, ⟨u, 4, 0, acnN, 0⟩]
def five (w : Wld) : Bool × Int × Bool × Int × Int := (w.a.node.speaks, w.a.node.term, w.b.node.speaks, w.b.node.term, spokenW w)
set_option maxRecDepth 100000 in
theorem cut_8 : five (runW (cutL 5 9) 8 (newW 2 1).1) = (true, 1, true, 2, 2) := by kernel_rfl
set_option maxRecDepth 100000 in
theorem cut_11 : (runW (cutL 5 9) 11 (newW 2 1).1).a.node.speaks = false ∧ (runW (cutL 5 9) 11 (newW 2 1).1).b.node.speaks = true := ⟨by kernel_rfl, by kernel_rfl⟩
end Tk
end Go.Proofs.YtmhinhgflehkaaaGreat

/-
 Chapter 55 in plain: the examples of the chapter.
-/
namespace Go.Proofs.YtmhinhgflehkaaaGreat
namespace Tk

noncomputable def aw : Wld := (newW 2 1).1
set_option maxRecDepth 100000 in
theorem aw_tr8 : traceW [] 8 aw = [1, 1, 1, 1, 1, 1, 1, 1] := by kernel_rfl
set_option maxRecDepth 100000 in
theorem aw_tr14 : traceW (soonL 5 10) 14 aw = [1, 1, 1, 1, 1, 0, 0, 2, 2, 2, 2, 2, 2, 2] := by kernel_rfl
theorem aw_ok : WldOk aw := (newW_ok (by omega) (by omega) (by omega) (by omega)).2
theorem aw_now : aw.now = 0 := by unfold aw newW; rw [if_neg (by omega)]
theorem cutE_zero {t k : Int} (h1 : k = 3 ∨ k = 4) : evtE ⟨t, k, 0, acnN, 0⟩ = 0 := by
 unfold evtE
 rw [if_neg (by show ¬ (k < 0 ∨ 5 < k); omega), if_neg (by show ¬ (k ≤ 2 ∧ _ ∨ k = 5 ∧ _); rintro (⟨h, -⟩ | ⟨h, -⟩) <;> omega), if_neg (by show ¬ (k = 0 ∧ _); rintro ⟨h, -⟩; omega), if_neg]
 rintro (⟨-, b⟩ | ⟨-, b⟩ | ⟨-, b⟩)
 ·exact b rfl
 ·exact b rfl
 ·have : sameA acnN acnN = false := b
  rw [sameA_refl] at this; cases this
theorem upE_zero {t i k : Int} (h1 : k = 1 ∨ k = 2) (hi : 1 ≤ i) (hi2 : i ≤ 2) : evtE ⟨t, k, i, acnN, 0⟩ = 0 := by
 unfold evtE
 rw [if_neg (by show ¬ (k < 0 ∨ 5 < k); omega), if_neg (by show ¬ (k ≤ 2 ∧ (i < 1 ∨ 2 < i) ∨ k = 5 ∧ _); rintro (⟨-, h⟩ | ⟨h, -⟩) <;> omega), if_neg (by show ¬ (k = 0 ∧ _); rintro ⟨h, -⟩; omega), if_neg]
 rintro (⟨a, -⟩ | ⟨-, b⟩ | ⟨-, b⟩)
 ·exact a (by show k ≤ 2; omega)
 ·exact b rfl
 ·have : sameA acnN acnN = false := b
  rw [sameA_refl] at this; cases this
theorem two_right {x y : Evt} (hx : evtE x = 0) (hy : evtE y = 0) (h0 : 0 ≤ x.tick) (h1 : x.tick ≤ y.tick) (h2 : y.tick ≤ 1048576) : evtsE [x, y] = 0 := by
 unfold evtsE
 rw [if_neg (by show ¬ (256 < 2); omega)]
 refine scan_zero _ _ fun k z hz => ?_
 match k, hz with
 | 0, hz =>
  obtain rfl : x = z := by injection hz
  unfold evtS
  rw [if_neg (by omega)]
  exact hx
 | 1, hz =>
  obtain rfl : y = z := by injection hz
  unfold evtS
  rw [if_neg (by omega)]
  show (if y.tick < x.tick then 9 else evtE y) = 0
  rw [if_neg (by omega)]
  exact hy
theorem soonL_right {t u : Int} (h0 : 0 ≤ t) (h1 : t ≤ u) (h2 : u ≤ 1048576) : evtsE (soonL t u) = 0 := two_right (upE_zero (k := 1) (.inl rfl) (by omega) (by omega)) (upE_zero (k := 2) (.inr rfl) (by omega) (by omega)) h0 h1 h2
theorem cutL_right {t u : Int} (h0 : 0 ≤ t) (h1 : t ≤ u) (h2 : u ≤ 1048576) : evtsE (cutL t u) = 0 := two_right (cutE_zero (.inl rfl)) (cutE_zero (.inr rfl)) h0 h1 h2
theorem aw_c8 : (seqW (cutL 5 9) aw 8).a.node.speaks = true ∧ (seqW (cutL 5 9) aw 8).a.node.term = 1 ∧ (seqW (cutL 5 9) aw 8).b.node.speaks = true ∧ (seqW (cutL 5 9) aw 8).b.node.term = 2 ∧ spokenW (seqW (cutL 5 9) aw 8) = 2 := by
 have h := cut_8
 rw [runW_seq] at h
 unfold five at h
 simp only [Prod.mk.injEq] at h
 exact h
set_option maxRecDepth 100000 in
theorem aw_c11 : (seqW (cutL 5 9) aw 11).a.node.speaks = false ∧ (seqW (cutL 5 9) aw 11).b.node.speaks = true := by
 have h := cut_11
 rw [runW_seq (cutL 5 9) 11 (newW 2 1).1] at h
 exact h
theorem aw_spk : speakerV (seqW (cutL 5 9) aw 8) = (2, 0) := by
 have h := (seqW_ok (fun x hx => evtsE_ok (cutL_right (t := 5) (u := 9) (by omega) (by omega) (by omega)) x hx) aw_ok 8 (by rw [aw_now]; omega)).1
 unfold speakerV
 rw [if_neg (by rw [(wldE_iff _).2 h]; simp), aw_c8.2.2.2.2]
end Tk
end Go.Proofs.YtmhinhgflehkaaaGreat

/-
 Chapter 55 in plain: some of right events are right.
-/
namespace Go.Proofs.YtmhinhgflehkaaaGreat

theorem evts_all {l : List Evt} (h : evtsE l = 0) : l.length ≤ 256 ∧ (∀ x ∈ l, (0 ≤ x.tick ∧ x.tick ≤ 1048576) ∧ evtE x = 0) ∧ l.Pairwise (fun a b => a.tick ≤ b.tick) := by
 have hlen : ¬ 256 < l.length := fun hc => by unfold evtsE at h; rw [if_pos hc] at h; cases h
 have hscan : scan evtS none l = 0 := by unfold evtsE at h; rwa [if_neg hlen] at h
 have hk := scan_ok evtS l hscan
 have h1 : ∀ k x, l[k]? = some x → (0 ≤ x.tick ∧ x.tick ≤ 1048576) ∧ evtE x = 0 ∧ (∀ p, prv l k = some p → p.tick ≤ x.tick) := by
  intro k x hx
  have hz := hk k x hx
  have ht0 : ¬ (x.tick < 0 ∨ 1048576 < x.tick) := fun hc => by unfold evtS at hz; rw [if_pos hc] at hz; cases hz
  unfold evtS at hz
  rw [if_neg ht0] at hz
  refine ⟨by omega, ?_⟩
  cases hp : prv l k with
  | none => rw [hp] at hz; exact ⟨hz, fun p hp => by cases hp⟩
  | some p =>
   rw [hp] at hz
   by_cases hc : x.tick < p.tick
   ·simp only [if_pos hc] at hz; cases hz
   ·simp only [if_neg hc] at hz
    exact ⟨hz, fun q hq => by injection hq with hq; subst hq; omega⟩
 refine ⟨by omega, fun x hx => ?_, ?_⟩
 ·obtain ⟨k, hk⟩ := List.getElem?_of_mem hx
  exact ⟨(h1 k x hk).1, (h1 k x hk).2.1⟩
 ·rw [List.pairwise_iff_getElem]
  intro i j hi hj hij
  induction j with
  | zero => omega
  | succ j ih =>
   have h2 := (h1 (j + 1) l[j + 1] (List.getElem?_eq_getElem hj)).2.2 l[j] (by rw [prv_succ, List.getElem?_eq_getElem])
   by_cases hc : i = j
   ·subst hc; exact h2
   ·have := ih (by omega) (by omega); omega
theorem evts_of {l : List Evt} (h1 : l.length ≤ 256) (h2 : ∀ x ∈ l, (0 ≤ x.tick ∧ x.tick ≤ 1048576) ∧ evtE x = 0) (h3 : l.Pairwise (fun a b => a.tick ≤ b.tick)) : evtsE l = 0 := by
 unfold evtsE
 rw [if_neg (by omega)]
 refine scan_zero _ _ fun k x hx => ?_
 obtain ⟨h4, h5⟩ := h2 x (List.mem_of_getElem? hx)
 unfold evtS
 rw [if_neg (by omega)]
 cases k with
 | zero => exact h5
 | succ k =>
  obtain ⟨hk, hxe⟩ := List.getElem?_eq_some_iff.1 hx
  rw [prv_succ, List.getElem?_eq_getElem (by omega)]
  rw [List.pairwise_iff_getElem] at h3
  have := h3 k (k + 1) (by omega) hk (by omega)
  rw [hxe] at this
  show (if x.tick < _ then (9 : Int) else evtE x) = 0
  rw [if_neg (by omega)]; exact h5
theorem evtsE_filter {l : List Evt} (h : evtsE l = 0) (q : Evt → Bool) : evtsE (l.filter q) = 0 := by
 obtain ⟨h1, h2, h3⟩ := evts_all h
 exact evts_of (Nat.le_trans (List.length_filter_le _ _) h1) (fun x hx => h2 x (List.mem_filter.1 hx).1) (h3.filter q)
theorem filter_at (l : List Evt) (t : Int) : (l.filter fun m => !(m.tick != t)) = atL l t := by
 unfold atL
 refine List.filter_congr fun x _ => ?_
 by_cases h : x.tick = t
 ·rw [h]; simp
 ·simp [h]
end Go.Proofs.YtmhinhgflehkaaaGreat
