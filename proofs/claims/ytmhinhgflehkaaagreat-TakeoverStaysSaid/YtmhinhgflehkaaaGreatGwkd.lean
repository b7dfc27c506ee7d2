/-
 Chapter 55: the letters of a world are copied and divided.
-/
import Derived.Test.YtmhinhgflehkaaaGreatGwka
import Derived.Test.YtmhinhgflehkaaaGreatGrpj
import Derived.Test.YtmhinhgflehkaaaGreatGstay
import Derived.Test.YtmhinhgflehkaaaGreatGtkp
set_option maxHeartbeats 6400000
set_option maxRecDepth 100000
namespace Go.Proofs.YtmhinhgflehkaaaGreat
open Go.RowKit

theorem Stay.slE {T1 T2 : TypeId} {W W' : World} {A : Option Addr} {l : List Evt} (h : Stay T1 T2 W W') (hs : Sl W A 48 (l.map evtR)) : Sl W' A 48 (l.map evtR) :=
 ⟨fun i row hr => by
  obtain ⟨h1, b, o, h2, h3⟩ := hs.at_ i row hr
  refine ⟨h1, b, o, h2, fun j v hv => h.cell (h3 j v hv) fun ob hb hm => ?_⟩
  obtain ⟨cs, T, fr, rfl, -, hno⟩ := hm
  rw [List.getElem?_map] at hr
  cases hl : l[i]? with
  | none => rw [hl] at hr; cases hr
  | some r =>
   rw [hl] at hr
   injection hr with hr
   have h4 : row[6]? = some (.string r.act.cue) := by rw [← hr]; rfl
   have := h3 6 _ h4
   rw [cell_of_row W b _ cs T fr hb] at this
   exact hno _ _ this⟩
theorem Own.turnW {w0 W V : World} {g : Nat} {cs : List Value} {M : Option Addr} {n m : Nat} {rows : List (List Value)} (h : Own w0 W 145 8 M n m rows) (hb : BoxAt W g cs 30) (ht : W.grownBy V (some g)) : Own w0 V 145 8 M n m rows := by
 refine ⟨h.len, h.row, h.one, h.le, h.cap, ?_⟩
 rcases h.at_ with h0 | ⟨k, cur, h1, h2, h3, h4⟩
 ·exact .inl h0
 ·refine .inr ⟨k, cur, h1, h2, ?_, h4⟩
  rw [ht.block k (Array.getElem?_eq_some_iff.1 h3).1 fun e => ?_]
  ·exact h3
  ·injection e with e
   subst e
   unfold BoxAt at hb
   rw [h3] at hb
   injection hb with hb
   injection hb with e1 e2
   cases e2
theorem OwnM.older {w0 w1 W : World} {E : TypeId} {size : Nat} {A : Option Addr} {n k : Nat} {rows : List (List Value)} (h : OwnM w1 W E size A n k rows) (hx : w0.heap.size ≤ w1.heap.size) : OwnM w0 W E size A n k rows := by
 refine ⟨⟨h.own.len, h.own.row, h.own.one, h.own.le, h.own.cap, ?_⟩, h.mute, h.low⟩
 rcases h.own.at_ with h0 | ⟨g, cur, h1, h2, h3⟩
 ·exact .inl h0
 ·exact .inr ⟨g, cur, h1, Nat.le_trans hx h2, h3⟩
theorem OwnM.since {w0 W : World} {E : TypeId} {size : Nat} {A : Option Addr} {n k : Nat} {rows : List (List Value)} (h : OwnM w0 W E size A n k rows) (hr : A = none ∨ k ≠ 0) : ∀ p, A = some p → w0.heap.size ≤ p.block := fun p hp => by
 rcases h.own.at_ with h0 | ⟨g, cur, h1, h2, -⟩
 ·rcases hr with hr | hr
  ·rw [hr] at hp; cases hp
  ·exact absurd h0 hr
 ·rw [h1] at hp
  injection hp with hp
  subst hp
  exact h2
@[go_sem] theorem nil_Ltr (A : Option Addr) (n c n' c' : Nat) (w : World) : (binOp .eql 28 (.slice A n c) (.slice none n' c')).run Tryz.prog w = .ok (.bool A.isNone) w := Lib.run_eql_slice_nil w _ _ A n c n' c' Tryz.underlying28
theorem Clone_L (A : Option Addr) (k n : Nat) (xs : List (Ltr × Option Addr × Nat)) (w : World) (hn : xs.length = n) (hs : Sl w A 8 (xs.map ltrR)) (hl : n ≤ 1000000) : Calls Tryz.prog 120 #[.slice A n k] w fun e w' => ∃ D K, e = .returned (.slice D n K) ∧ Ext w w' ∧ Own w w' 145 8 D n K (xs.map ltrR) := by
 subst hn
 cases A with
 | none =>
  have hnil : xs = [] := by simpa using hs.none_nil
  subst hnil
  go_enter Tryz.func120, Tryz.ntmps120
  go_wp2
  go_ret
  exact ⟨_, _, rfl, ex, Own.nil _⟩
 | some a =>
  go_enter Tryz.func120, Tryz.ntmps120
  go_wp2_with (at_builtin; refine wpList_append_mine (w0 := w) rfl _ _ 28 28 rfl 145 145 8 80 Tryz.underlying28 Tryz.underlying28 info_Ltr (by decide) (ex) _ 0 0 [] rfl (Own.nil _) (some a) xs.length _ (xs.map ltrR) rfl (hs.mono (ex)) (by simp) (ltrR_one xs) (by unfold maxLen; omega) (by omega) xs.length (by omega) (xs.map ltrR) rfl ?_; intro A' k' w1 hx1 hown hg hA; have HO := Lib.hid hown; obtain ⟨y, rfl⟩ := hx1.get; clear hown hx1 hg hA)
  go_ret
  exact ⟨_, _, rfl, ex, HO.out⟩
theorem tak_tick1 (x : Ltr) (D : Option Addr) (K : Nat) (pw g : Nat) (now : Int) (w : World) (hp : w.cell? ⟨pw, 0, none⟩ = some (.pointer (some ⟨g, 0, none⟩))) (hg : w.cell? ⟨g, 0, none⟩ = some (.int .i64 now)) : Calls Tryz.prog 123 #[.agg (Ll x D K), .pointer (some ⟨pw, 0, none⟩)] w fun e w' => e = .returned (.bool (decide (x.at_ ≤ now))) ∧ Ext w w' := by
 go_enter Tryz.func123, Tryz.ntmps123
 go_wp2
 (refine wp_region_grows (by kernel_rfl) (by kernel_rfl) ?_; (repeat (go_big_quiet_step (fail))); refine wpQuiet_nil ?_; rintro _ ⟨y, rfl⟩)
 go_wp2
 go_ret
 exact ⟨rfl, ex⟩
section
variable {P : Program} {ops : Array Oper} {rest : List Oper} {o : Oper} {a : Act} {Q : Exit → Act → World → Prop} {w0 W : World}
theorem wpList_append_let (hgd : o.guard = none) (T2 : TypeId) (s x : Operand) (t tx : TypeId) (ho : o.op = .call { callee := .builtin .append, args := #[s, x], argTypes := #[t, tx] }) (E e' : TypeId) (size bytes : Nat) (ht : P.underlying t = some (.slice E)) (htx : P.underlying tx = some (.slice e'))
  (hI : infoOk P E size bytes = true) (hZ : zeroMute P E = true) (hpos : 0 < size) (hx : Ext w0 W) (A : Option Addr) (n k : Nat) (rows : List (List Value)) (hs : a.eval s = .slice A n k) (hown : OwnM w0 W E size A n k rows) (hAk : A = none ∨ k ≠ 0) (hrs : ∀ r ∈ rows, ∀ u ∈ r, noStr u = true)
  (B : Option Addr) (m c : Nat) (news : List (List Value)) (hxv : a.eval x = .slice B m c) (hsl : Sl W B size news) (hm : news.length = m) (hmp : 0 < m) (hn1 : ∀ r ∈ news, ∀ u ∈ r, u.oneCell' = true) (hns : ∀ r ∈ news, ∀ u ∈ r, noStr u = true) (h63 : n + m ≤ maxLen) (hbytes : (n + m) * bytes ≤ 140737488355328) (N : Nat) (hN : n + m = N) (all : List (List Value)) (hall : rows ++ news = all)
  (h : ∀ A' k' w', Ext w0 w' → OwnM w0 w' E size A' N k' all → k' ≠ 0 → Stay E T2 W w' → W.grownBy w' (A.map (·.block)) → (A' = A ∨ A' = some ⟨W.heap.size, 0, none⟩) → wpList P ops Q rest (a.put o.dst (.slice A' N k')) w') : wpList P ops Q (o :: rest) a W :=
 wpList_plain hgd fun _ hK => wp_append_mute T2 s x t tx ho E e' size bytes ht htx hI hZ hpos hx A n k rows hs hown hAk hrs B m c news hxv hsl hm hmp hn1 hns h63 hbytes N hN all hall fun A' k' w' h1 h2 h3 h4 h5 h6 => hK _ _ (h A' k' w' h1 h2 h3 h4 h5 h6)
end
structure Two2 (w W : World) (Y : Option Addr) (ky : Nat) (ys : List (Ltr × Option Addr × Nat)) (N : Option Addr) (kn : Nat) (ns : List (Ltr × Option Addr × Nat)) : Prop where
 yes : OwnM w W 145 8 Y ys.length ky (ys.map ltrR)
 yr : Y = none ∨ ky ≠ 0
 no : OwnM w W 145 8 N ns.length kn (ns.map ltrR)
 nr : N = none ∨ kn ≠ 0
 apart : ∀ p q, Y = some p → N = some q → p.block ≠ q.block
theorem Two2.mono {w W V : World} {Y N : Option Addr} {ky kn : Nat} {ys ns : List (Ltr × Option Addr × Nat)} (h : Two2 w W Y ky ys N kn ns) (hx : Ext W V) : Two2 w V Y ky ys N kn ns := ⟨h.yes.mono hx, h.yr, h.no.mono hx, h.nr, h.apart⟩
theorem Two2.nil (w W : World) : Two2 w W none 0 [] none 0 [] := ⟨OwnM.nil _ _ _ _, .inl rfl, OwnM.nil _ _ _ _, .inl rfl, fun _ _ h => by cases h⟩
theorem Two2.more {w W V : World} {Y N Y' : Option Addr} {ky kn k' : Nat} {ys ns : List (Ltr × Option Addr × Nat)} {x : Ltr × Option Addr × Nat} (h : Two2 w W Y ky ys N kn ns) (ho : OwnM w V 145 8 Y' (ys.length + 1) k' (ys.map ltrR ++ [ltrR x])) (hk : k' ≠ 0) (hg : W.grownBy V (Y.map (·.block))) (hA : Y' = Y ∨ Y' = some ⟨W.heap.size, 0, none⟩) : Two2 w V Y' k' (ys ++ [x]) N kn ns := by
 have e1 : ys.map ltrR ++ [ltrR x] = (ys ++ [x]).map ltrR := by rw [List.map_append]; rfl
 rw [e1] at ho
 refine ⟨by rw [List.length_append]; exact ho, .inr hk, h.no.kept hg (fun q hq e => ?_), h.nr, fun p q hp hq e => ?_⟩
 ·cases hY : Y with
  | none => rw [hY] at e; cases e
  | some p =>
   rw [hY] at e
   simp only [Option.map_some, Option.some.injEq] at e
   exact h.apart p q hY hq e.symm
 ·rcases hA with rfl | rfl
  ·exact h.apart p q hp hq e
  ·injection hp with hp
   subst hp
   have := h.no.low q hq
   simp only at e
   omega
theorem Two2.swap {w W : World} {Y N : Option Addr} {ky kn : Nat} {ys ns : List (Ltr × Option Addr × Nat)} (h : Two2 w W Y ky ys N kn ns) : Two2 w W N kn ns Y ky ys := ⟨h.no, h.nr, h.yes, h.yr, fun p q hp hq e => h.apart q p hq hp e.symm⟩
def dueP (now : Int) (x : Ltr × Option Addr × Nat) : Bool := decide (x.1.at_ ≤ now)
theorem filter_take {α : Type} {p : α → Bool} {l : List α} {k : Nat} {x : α} (h : l[k]? = some x) : (l.take (k + 1)).filter p = if p x = true then (l.take k).filter p ++ [x] else (l.take k).filter p := by
 obtain ⟨hk, rfl⟩ := List.getElem?_eq_some_iff.1 h
 rw [List.take_succ_eq_append_getElem hk, List.filter_append]
 split
 ·rename_i hp; rw [List.filter_cons, if_pos hp, List.filter_nil]
 ·rename_i hp; rw [List.filter_cons, if_neg hp, List.filter_nil, List.append_nil]
theorem tak_dividedL (A : Option Addr) (c : Nat) (xs : List (Ltr × Option Addr × Nat)) (pw g : Nat) (now : Int) (w : World) (hs : Sl w A 8 (xs.map ltrR)) (hx : xs.length ≤ 1000000) (hr : ∀ x ∈ xs, x.1.msg.recs.length ≤ 9223372036854775807) (hp : w.cell? ⟨pw, 0, none⟩ = some (.pointer (some ⟨g, 0, none⟩))) (hg : w.cell? ⟨g, 0, none⟩ = some (.int .i64 now)) :
  Calls Tryz.prog 122 #[.slice A xs.length c, .func (Fn.func 123) #[] #[.pointer (some ⟨pw, 0, none⟩)]] w fun e w' => ∃ Y ky N kn, e = .returned (.tuple #[.slice Y (xs.filter (dueP now)).length ky, .slice N (xs.filter fun x => !dueP now x).length kn]) ∧ Ext w w' ∧ Two2 w w' Y ky (xs.filter (dueP now)) N kn (xs.filter fun x => !dueP now x) := by
 have HS := Lib.hid hs
 have HR := Lib.hid hr
 have HP := Lib.hid hp
 have HG := Lib.hid hg
 clear hs hr hp hg
 go_enter Tryz.func122, Tryz.ntmps122
 go_wp2
 go_loopw [12, 6, 7] (fun i y n wr => ∃ k : Nat, k ≤ xs.length ∧ i = .int .i64 k ∧ Ext w wr ∧ ∃ Y ky ys N kn ns, y = .slice Y ys.length ky ∧ n = .slice N ns.length kn ∧ Hid (ys = (xs.take k).filter (dueP now) ∧ ns = (xs.take k).filter fun x => !dueP now x) ∧ Hid (Two2 w wr Y ky ys N kn ns)) (fun i _ _ _ => xs.length - (intOf i).toNat)
 case atStart => exact ⟨0, by omega, rfl, ex, none, 0, [], none, 0, [], rfl, rfl, Lib.hid ⟨rfl, rfl⟩, Lib.hid (Two2.nil _ _)⟩
 case round =>
  obtain ⟨k, hk, rfl, hxx, Y, ky, ys, N, kn, ns, rfl, rfl, HE, HT⟩ := hrel
  obtain ⟨y0, rfl⟩ := hxx.get
  clear hxx
  by_cases hlt : k < xs.length
  ·obtain ⟨x, hxk⟩ : ∃ x, xs[k]? = some x := ⟨_, List.getElem?_eq_getElem hlt⟩
   have hrl := HR.out x (List.mem_of_getElem? hxk)
   have HK := Lib.hid hxk
   obtain ⟨b, o, rfl, c0, c1, c2, c3, c4, c5, c6, c7⟩ := HS.out.row8 (i := k) (by rw [List.getElem?_map, hxk]; rfl)
   have hb0 : (0 : Int) ≤ (k : Int) := by omega
   have hb2 : (k : Int) < (xs.length : Int) := by omega
   have hyl : ys.length ≤ 1000000 := by rw [HE.out.1]; exact Nat.le_trans (List.length_filter_le _ _) (by rw [List.length_take]; omega)
   have hnl : ns.length ≤ 1000000 := by rw [HE.out.2]; exact Nat.le_trans (List.length_filter_le _ _) (by rw [List.length_take]; omega)
   clear hxk
   by_cases hd : x.1.at_ ≤ now
   ·have hd1 : decide (x.1.at_ ≤ now) = true := decide_eq_true hd
    have HD := Lib.hid hd1
    clear hd
    go_wp2_with (first
     | (go_at_call 123; refine (tak_tick1 x.1 x.2.1 x.2.2 pw g now _ (Ext.cell (ex) HP.out) (Ext.cell (ex) HG.out)).mono ?_; rintro e w' ⟨rfl, hx⟩; obtain ⟨y, rfl⟩ := hx.get; clear hx)
     | (at_builtin; refine wpList_append_let (w0 := w) rfl 30 _ _ 28 28 rfl 145 145 8 80 Tryz.underlying28 Tryz.underlying28 info_Ltr zero_Ltr (by decide) (ex) Y ys.length ky (ys.map ltrR) rfl (HT.out.yes.mono (ex)) HT.out.yr (ltrR_mute _) _ 1 1 [ltrR x] rfl (Sl.alloc' (by simp [go_sem]) rfl (by simp [ltrR])) rfl (by decide) (ltrR_one [x]) (ltrR_mute [x]) (by unfold maxLen; omega) (by omega) _ rfl _ rfl ?_; intro A' k' w1 hx1 hown hk0 hst hgr hA; have HT2 := Lib.hid (Two2.more (HT.out.mono (ex)) hown hk0 hgr hA); obtain ⟨y1, rfl⟩ := hx1.get; clear hown hx1 hgr hA hst hk0))
    go_light
    refine ⟨⟨k + 1, by omega, by go_num, ex, _, _, _, _, _, _, by rw [List.length_append]; rfl, rfl, Lib.hid ⟨?_, ?_⟩, HT2⟩, by simp [intOf]; omega⟩
    ·rw [filter_take HK.out, if_pos (show dueP now x = true from HD.out), ← HE.out.1]
    ·rw [filter_take HK.out, if_neg (by unfold dueP; rw [HD.out]; simp), ← HE.out.2]
   ·have hd1 : decide (x.1.at_ ≤ now) = false := decide_eq_false hd
    have HD := Lib.hid hd1
    clear hd
    go_wp2_with (first
     | (go_at_call 123; refine (tak_tick1 x.1 x.2.1 x.2.2 pw g now _ (Ext.cell (ex) HP.out) (Ext.cell (ex) HG.out)).mono ?_; rintro e w' ⟨rfl, hx⟩; obtain ⟨y, rfl⟩ := hx.get; clear hx)
     | (at_builtin; refine wpList_append_let (w0 := w) rfl 30 _ _ 28 28 rfl 145 145 8 80 Tryz.underlying28 Tryz.underlying28 info_Ltr zero_Ltr (by decide) (ex) N ns.length kn (ns.map ltrR) rfl (HT.out.no.mono (ex)) HT.out.nr (ltrR_mute _) _ 1 1 [ltrR x] rfl (Sl.alloc' (by simp [go_sem]) rfl (by simp [ltrR])) rfl (by decide) (ltrR_one [x]) (ltrR_mute [x]) (by unfold maxLen; omega) (by omega) _ rfl _ rfl ?_; intro A' k' w1 hx1 hown hk0 hst hgr hA; have HT2 := Lib.hid (Two2.more (HT.out.swap.mono (ex)) hown hk0 hgr hA).swap; obtain ⟨y1, rfl⟩ := hx1.get; clear hown hx1 hgr hA hst hk0))
    go_light
    refine ⟨⟨k + 1, by omega, by go_num, ex, _, _, _, _, _, _, rfl, by rw [List.length_append]; rfl, Lib.hid ⟨?_, ?_⟩, HT2⟩, by simp [intOf]; omega⟩
    ·rw [filter_take HK.out, if_neg (by unfold dueP; rw [HD.out]; simp), ← HE.out.1]
    ·rw [filter_take HK.out, if_pos (by unfold dueP; rw [HD.out]; rfl), ← HE.out.2]
  ·have e1 : ys = xs.filter (dueP now) := by rw [HE.out.1, List.take_of_length_le (by omega)]
   have e2 : ns = xs.filter fun x => !dueP now x := by rw [HE.out.2, List.take_of_length_le (by omega)]
   subst e1 e2
   go_wp2
   go_ret2
   exact ⟨_, _, _, _, rfl, ex, HT.out.mono (ex)⟩
end Go.Proofs.YtmhinhgflehkaaaGreat

/-
 Chapter 55: the closures of happen.
-/
namespace Go.Proofs.YtmhinhgflehkaaaGreat
open Go.RowKit

section
variable {w0 W : World} {g : Nat} {w : Wld} {A B M : Option Addr} {a b m : Nat} {xs : List (Ltr × Option Addr × Nat)}
theorem StepC.of {v : Wld} {V W' : World} {e : Ending} (hx : Ext W V) (h : StepC w0 V g v M m e W') : StepC w0 W g v M m e W' := ⟨h.1, grown_trans (hx.grown _) h.2.1, h.2.2⟩
theorem EvtAt.mono {V : World} {b o : Nat} {x : Evt} (h : EvtAt W b o x) (hx : Ext W V) : EvtAt V b o x := ⟨rowQ_ext hx h.row, rowQ_ext hx h.act, hx.cell h.tick, hx.cell h.kind, hx.cell h.station, hx.cell h.delay⟩
theorem EvtAt.new (b : Nat) (hb : W.heap.size = b) (x : Evt) (T : TypeId) : EvtAt (W.alloc (.cells (evtR x).toArray T)) b 0 x := EvtAt.of (rangeAt_new W hb (evtR x) T)
theorem tak_hap2_a (h : WldC w0 W g w A a B b M m) {be : Nat} {x : Evt} (he : EvtAt W be 0 x) (ha : AcnAt w0 x.act) {n : Nod} {er : Int} {bu : Bool} (hv : actV w.a.node x.act = (n, er)) (hu : w.a.up = bu) {v : Wld} (hv1 : bu = true → er = 0 → v = ⟨w.now, w.limit, w.delay, w.cut, ⟨n, true, w.a.quiet⟩, w.b, w.mail⟩) (hv0 : ¬ (bu = true ∧ er = 0) → v = w) : Calls Tryz.prog 156 #[.pointer (some ⟨g, 4, none⟩), .pointer (some ⟨be, 0, none⟩)] W (StepC w0 W g v M m) := by
 have HC := Lib.hid h
 have HV1 := Lib.hid hv1
 have HV0 := Lib.hid hv0
 clear hv1 hv0
 have hla := (h.qa.recs h.ext (Ext.refl W)).len
 have hlb := (h.qb.recs h.ext (Ext.refl W)).len
 have HA := Lib.hid (fun (V : World) (hx : Ext W V) => (rep_Act w.a.node A a x.act V (h.qa.recs h.ext hx) (ha.mono (h.ext.trans hx))).mono fun _ _ q => RetNod.parts q hv (w0 := w0) (by have := actV_log (R := fun r => AcnAt w0 r.act) w.a.node x.act h.qa.el ha; rwa [hv] at this))
 have hr := he.act
 have c0:=h.box.c 0 rfl;have c1:=h.box.c 1 rfl;have c2:=h.box.c 2 rfl;have c3:=h.box.c 3 rfl;have c4:=h.box.c 4 rfl;have c5:=h.box.c 5 rfl;have c6:=h.box.c 6 rfl;have c7:=h.box.c 7 rfl;have c8:=h.box.c 8 rfl;have c9:=h.box.c 9 rfl;have c10:=h.box.c 10 rfl;have c11:=h.box.c 11 rfl;have c12:=h.box.c 12 rfl;have c13:=h.box.c 13 rfl;have c14:=h.box.c 14 rfl;have c15:=h.box.c 15 rfl;have c16:=h.box.c 16 rfl;have c17:=h.box.c 17 rfl;have c18:=h.box.c 18 rfl;have c19:=h.box.c 19 rfl;have c20:=h.box.c 20 rfl
 rw [hu] at c10
 have HU := Lib.hid hu
 clear hu
 have hgl : g < W.heap.size := h.box.lt
 clear h hv he ha
 go_enter Tryz.func156, Tryz.ntmps156
 go_wp2_with fail
 refine wp_name (fun W9 hW9 => ?_)
 have x9 : Ext W W9 := by rw [hW9]; exact (ex)
 have h9 := HC.out.mono x9
 replace hr := rowQ_ext x9 hr
 have hs9 : W.heap.size ≤ W9.heap.size := x9.size
 clear hW9 c0 c1 c2 c3 c4 c5 c6 c7 c8 c9 c10 c11 c12 c13 c14 c15 c16 c17 c18 c19 c20
 have c0:=h9.box.c 0 rfl;have c1:=h9.box.c 1 rfl;have c2:=h9.box.c 2 rfl;have c3:=h9.box.c 3 rfl;have c4:=h9.box.c 4 rfl;have c5:=h9.box.c 5 rfl;have c6:=h9.box.c 6 rfl;have c7:=h9.box.c 7 rfl;have c8:=h9.box.c 8 rfl;have c9:=h9.box.c 9 rfl;have c10:=h9.box.c 10 rfl;have c11:=h9.box.c 11 rfl;have c12:=h9.box.c 12 rfl;have c13:=h9.box.c 13 rfl;have c14:=h9.box.c 14 rfl;have c15:=h9.box.c 15 rfl;have c16:=h9.box.c 16 rfl;have c17:=h9.box.c 17 rfl;have c18:=h9.box.c 18 rfl;have c19:=h9.box.c 19 rfl;have c20:=h9.box.c 20 rfl
 rw [HU.out] at c10
 refine wp_region_stab 11 [9] [Stab.is (.pointer (some ⟨g, 4, none⟩)), Stab.is (.pointer (some ⟨g, 4, none⟩)), Stab.is (.pointer (some ⟨g, 4, none⟩)), Stab.is (.agg (Ln w.a.node A a)), Stab.is (.pointer (some ⟨be, 3, none⟩)), Stab.is (.agg (acnR x.act).toArray), Stab.gotn w0 n er, Stab.gotn w0 n er, Stab.nod w0 n, Stab.is (.int .i64 er), Stab.box W9.heap.size Zn 24] (fun u => by (simp only [putAll, List.take_succ_cons, List.take_zero, Act.put, Nat.zero_add, Nat.reduceAdd]); (try simp only [List.setIfInBounds_toArray]); (repeat (first | simp only [List.set_cons_succ] | simp only [List.set_cons_zero])); exact rfl) (by kernel_rfl) (by kernel_rfl) (fun _ _ _ _ _ h => h) ?_ ?_
 ·refine ⟨?_, ?_, ?_, ?_, ?_, ?_, ?_, ?_, ?_, ?_, ?_, trivial⟩
  ·(show SlotA _ _ _ _ _ _ _); intro u w1 hx1 hd; obtain ⟨y9, rfl⟩ := hx1.get; clear hx1
   refine slot_run rfl rfl rfl ?_; intro K9 hK
   go_simp; exact hK _ _ rfl (ex) rfl
  ·(show SlotA _ _ _ _ _ _ _); intro u w1 hx1 hd; obtain ⟨y9, rfl⟩ := hx1.get; clear hx1
   have e0 : u 0 = .pointer (some ⟨g, 4, none⟩) := hd 0 (by kernel_rfl)
   simp only [e0]
   refine slot_run rfl rfl rfl ?_; intro K9 hK
   go_simp; exact hK _ _ rfl (ex) rfl
  ·(show SlotA _ _ _ _ _ _ _); intro u w1 hx1 hd; obtain ⟨y9, rfl⟩ := hx1.get; clear hx1
   have e1 : u 1 = .pointer (some ⟨g, 4, none⟩) := hd 1 (by kernel_rfl)
   simp only [e1]
   refine slot_run rfl rfl rfl ?_; intro K9 hK
   go_simp; exact hK _ _ rfl (ex) rfl
  ·(show SlotA _ _ _ _ _ _ _); intro u w1 hx1 hd; obtain ⟨y9, rfl⟩ := hx1.get; clear hx1
   have e2 : u 2 = .pointer (some ⟨g, 4, none⟩) := hd 2 (by kernel_rfl)
   simp only [e2]
   refine slot_run rfl rfl rfl ?_; intro K9 hK
   go_simp; exact hK _ _ rfl (ex) rfl
  ·(show SlotA _ _ _ _ _ _ _); intro u w1 hx1 hd; obtain ⟨y9, rfl⟩ := hx1.get; clear hx1
   refine slot_run rfl rfl rfl ?_; intro K9 hK
   go_simp; exact hK _ _ rfl (ex) rfl
  ·(show SlotA _ _ _ _ _ _ _); intro u w1 hx1 hd; obtain ⟨y9, rfl⟩ := hx1.get; clear hx1
   have e4 : u 4 = .pointer (some ⟨be, 3, none⟩) := hd 4 (by kernel_rfl)
   simp only [e4]
   refine slot_run rfl rfl rfl ?_; intro K9 hK
   go_simp; exact hK _ _ rfl (ex) rfl
  ·(show SlotA _ _ _ _ _ _ _); intro u w1 hx1 hd; obtain ⟨y9, rfl⟩ := hx1.get; clear hx1
   have e3 : u 3 = .agg (Ln w.a.node A a) := hd 3 (by kernel_rfl)
   have e5 : u 5 = .agg (acnR x.act).toArray := hd 5 (by kernel_rfl)
   simp only [e3, e5]
   refine slot_run rfl rfl rfl ?_; intro K9 hK
   go_simp; go_at_call 99; refine (HA.out _ (x9.trans (ex))).mono ?_; rintro e w' ⟨D, K, rfl, hx, hl⟩; exact hK _ _ rfl hx ⟨D, K, rfl, hl⟩
  ·(show SlotA _ _ _ _ _ _ _); intro u w1 hx1 hd; obtain ⟨y9, rfl⟩ := hx1.get; clear hx1
   obtain ⟨D6, K6, e6, h6⟩ := hd 6 (by kernel_rfl)
   simp only [e6]
   refine slot_run rfl rfl rfl ?_; intro K9 hK
   go_simp; exact hK _ _ rfl (ex) ⟨D6, K6, rfl, h6⟩
  ·(show SlotA _ _ _ _ _ _ _); intro u w1 hx1 hd; obtain ⟨y9, rfl⟩ := hx1.get; clear hx1
   obtain ⟨D6, K6, e7, h6⟩ := hd 7 (by kernel_rfl)
   simp only [e7]
   refine slot_run rfl rfl rfl ?_; intro K9 hK
   go_simp; exact hK _ _ rfl (ex) ⟨D6, K6, rfl, h6⟩
  ·(show PureA _ _ _ _ _ _); intro u w1 hx1 hd; obtain ⟨y9, rfl⟩ := hx1.get; clear hx1
   obtain ⟨D6, K6, e7, h6⟩ := hd 7 (by kernel_rfl)
   simp only [e7]
   refine pure_run (v := .int .i64 er) rfl rfl (fun w9 => ?_) rfl
   go_simp
  ·(show SlotA _ _ _ _ _ _ _); intro u w1 hx1 hd; obtain ⟨y9, rfl⟩ := hx1.get; clear hx1
   refine slot_run rfl rfl rfl ?_; intro K9 hK
   go_simp; exact hK _ _ rfl (ex) ⟨_, rfl, (by first | exact Nat.le_refl _ | omega | (simp [go_sem]; done) | (simp [go_sem]; omega)), BoxAt.new (by first | rfl | simp [go_sem]) _ _⟩
 ·intro u w2 hx2 hT; obtain ⟨t0, t1, t2, t3, t4, t5, t6, t7, t8, t9, t10, -⟩ := hT; obtain ⟨y9, rfl⟩ := hx2.get; clear hx2
  obtain ⟨D8, K8, e8, h8⟩ := t8
  have e9 : u 9 = .int .i64 er := t9
  obtain ⟨g10, e10, hg10, b10⟩ := t10
  simp only [e8, e9, e10]
  clear e8 e9 e10 t0 t1 t2 t3 t4 t5 t6 t7 t9
  simp only [List.drop_succ_cons, List.drop_zero]
  have hxx : Ext W9 (xt W9.drew y9) := ex
  by_cases hc : bu = true ∧ er = 0
  rotate_left
  ·have hve := (HV0.out hc).symm
   subst hve
   cases bu with
   | false =>
    go_wp2_with (refine wpList_store_at rfl 24 (.tmp 3) (.tmp 13) rfl b10 rfl (Ln n D8 K8) rfl rfl (show 6 < 44 by decide) (by kernel_rfl) (nodl_one n D8 K8) ?_; intro W1 ht1 hb1; have x1 : Ext W9 W1 := ht1.ext hxx hg10; have h1 := h9.mono x1; clear c0 c1 c2 c3 c4 c5 c6 c7 c8 c9 c10 c11 c12 c13 c14 c15 c16 c17 c18 c19 c20; obtain ⟨d0, d1, d2, d3, d4, d5⟩ := hb1.six; have c10:=h1.box.c 10 rfl; rw [HU.out] at c10)
    (first | go_end0 | (refine bodyPost_ret (results_none rfl _ _ _) rfl ?_))
    exact ⟨rfl, grown_trans ((x9.trans x1).grown _) (Ext.grown (by exact ex) _), _, _, _, _, h1.mono (by exact ex)⟩
   | true =>
    have hz : (er == 0) = false := by simpa using hc
    clear hc
    go_wp2_with (refine wpList_store_at rfl 24 (.tmp 3) (.tmp 13) rfl b10 rfl (Ln n D8 K8) rfl rfl (show 6 < 44 by decide) (by kernel_rfl) (nodl_one n D8 K8) ?_; intro W1 ht1 hb1; have x1 : Ext W9 W1 := ht1.ext hxx hg10; have h1 := h9.mono x1; clear c0 c1 c2 c3 c4 c5 c6 c7 c8 c9 c10 c11 c12 c13 c14 c15 c16 c17 c18 c19 c20; obtain ⟨d0, d1, d2, d3, d4, d5⟩ := hb1.six; have c10:=h1.box.c 10 rfl; rw [HU.out] at c10)
    (first | go_end0 | (refine bodyPost_ret (results_none rfl _ _ _) rfl ?_))
    exact ⟨rfl, grown_trans ((x9.trans x1).grown _) (Ext.grown (by exact ex) _), _, _, _, _, h1.mono (by exact ex)⟩
  obtain ⟨hc1, hc2⟩ := hc
  subst hc1
  subst hc2
  have hve := HV1.out rfl rfl
  subst hve
  go_wp2_with (first
   | (refine wpList_store_at rfl 24 (.tmp 3) (.tmp 13) rfl b10 rfl (Ln n D8 K8) rfl rfl (show 6 < 44 by decide) (by kernel_rfl) (nodl_one n D8 K8) ?_; intro W1 ht1 hb1; have x1 : Ext W9 W1 := ht1.ext hxx hg10; have h1 := h9.mono x1; clear c0 c1 c2 c3 c4 c5 c6 c7 c8 c9 c10 c11 c12 c13 c14 c15 c16 c17 c18 c19 c20; obtain ⟨d0, d1, d2, d3, d4, d5⟩ := hb1.six; have c10:=h1.box.c 10 rfl; rw [HU.out] at c10; have hbo : BoxAt W1 g (Lv w w.a.node A a true w.a.quiet w.b.node B b w.b.up w.b.quiet M m) 30 := (by have := h1.box; rw [HU.out] at this; exact this))
   | (refine wpList_store_part rfl 24 (.tmp 26) (.tmp 24) rfl (hbo.mono (ex)) 4 rfl (Ln n D8 K8) rfl (show 10 ≤ 21 by decide) (show 21 < 44 by decide) (by kernel_rfl) (nodl_one n D8 K8) (Lv w n D8 K8 true w.a.quiet w.b.node B b w.b.up w.b.quiet M m) rfl ?_; intro W5 ht5 hb5))
  (first | go_end0 | (refine bodyPost_ret (results_none rfl _ _ _) rfl ?_))
  exact ⟨rfl, grown_trans ((x9.trans x1).grown _) (grown_trans (Ext.grown (by exact ex) _) ht5.grown), _, _, _, _, ⟨ht5.ext (h1.ext.trans (by exact ex)) h1.ge, h1.ge, hb5, ((h8.turn ht1).mono (by exact ex)).turn ht5, (h1.qb.mono (by exact ex)).turn ht5⟩⟩
theorem tak_hap2_b (h : WldC w0 W g w A a B b M m) {be : Nat} {x : Evt} (he : EvtAt W be 0 x) (ha : AcnAt w0 x.act) {n : Nod} {er : Int} {bu : Bool} (hv : actV w.b.node x.act = (n, er)) (hu : w.b.up = bu) {v : Wld} (hv1 : bu = true → er = 0 → v = ⟨w.now, w.limit, w.delay, w.cut, w.a, ⟨n, true, w.b.quiet⟩, w.mail⟩) (hv0 : ¬ (bu = true ∧ er = 0) → v = w) : Calls Tryz.prog 156 #[.pointer (some ⟨g, 12, none⟩), .pointer (some ⟨be, 0, none⟩)] W (StepC w0 W g v M m) := by
 have HC := Lib.hid h
 have HV1 := Lib.hid hv1
 have HV0 := Lib.hid hv0
 clear hv1 hv0
 have hla := (h.qa.recs h.ext (Ext.refl W)).len
 have hlb := (h.qb.recs h.ext (Ext.refl W)).len
 have HA := Lib.hid (fun (V : World) (hx : Ext W V) => (rep_Act w.b.node B b x.act V (h.qb.recs h.ext hx) (ha.mono (h.ext.trans hx))).mono fun _ _ q => RetNod.parts q hv (w0 := w0) (by have := actV_log (R := fun r => AcnAt w0 r.act) w.b.node x.act h.qb.el ha; rwa [hv] at this))
 have hr := he.act
 have c0:=h.box.c 0 rfl;have c1:=h.box.c 1 rfl;have c2:=h.box.c 2 rfl;have c3:=h.box.c 3 rfl;have c4:=h.box.c 4 rfl;have c5:=h.box.c 5 rfl;have c6:=h.box.c 6 rfl;have c7:=h.box.c 7 rfl;have c8:=h.box.c 8 rfl;have c9:=h.box.c 9 rfl;have c10:=h.box.c 10 rfl;have c11:=h.box.c 11 rfl;have c12:=h.box.c 12 rfl;have c13:=h.box.c 13 rfl;have c14:=h.box.c 14 rfl;have c15:=h.box.c 15 rfl;have c16:=h.box.c 16 rfl;have c17:=h.box.c 17 rfl;have c18:=h.box.c 18 rfl;have c19:=h.box.c 19 rfl;have c20:=h.box.c 20 rfl
 rw [hu] at c18
 have HU := Lib.hid hu
 clear hu
 have hgl : g < W.heap.size := h.box.lt
 clear h hv he ha
 go_enter Tryz.func156, Tryz.ntmps156
 go_wp2_with fail
 refine wp_name (fun W9 hW9 => ?_)
 have x9 : Ext W W9 := by rw [hW9]; exact (ex)
 have h9 := HC.out.mono x9
 replace hr := rowQ_ext x9 hr
 have hs9 : W.heap.size ≤ W9.heap.size := x9.size
 clear hW9 c0 c1 c2 c3 c4 c5 c6 c7 c8 c9 c10 c11 c12 c13 c14 c15 c16 c17 c18 c19 c20
 have c0:=h9.box.c 0 rfl;have c1:=h9.box.c 1 rfl;have c2:=h9.box.c 2 rfl;have c3:=h9.box.c 3 rfl;have c4:=h9.box.c 4 rfl;have c5:=h9.box.c 5 rfl;have c6:=h9.box.c 6 rfl;have c7:=h9.box.c 7 rfl;have c8:=h9.box.c 8 rfl;have c9:=h9.box.c 9 rfl;have c10:=h9.box.c 10 rfl;have c11:=h9.box.c 11 rfl;have c12:=h9.box.c 12 rfl;have c13:=h9.box.c 13 rfl;have c14:=h9.box.c 14 rfl;have c15:=h9.box.c 15 rfl;have c16:=h9.box.c 16 rfl;have c17:=h9.box.c 17 rfl;have c18:=h9.box.c 18 rfl;have c19:=h9.box.c 19 rfl;have c20:=h9.box.c 20 rfl
 rw [HU.out] at c18
 refine wp_region_stab 11 [9] [Stab.is (.pointer (some ⟨g, 12, none⟩)), Stab.is (.pointer (some ⟨g, 12, none⟩)), Stab.is (.pointer (some ⟨g, 12, none⟩)), Stab.is (.agg (Ln w.b.node B b)), Stab.is (.pointer (some ⟨be, 3, none⟩)), Stab.is (.agg (acnR x.act).toArray), Stab.gotn w0 n er, Stab.gotn w0 n er, Stab.nod w0 n, Stab.is (.int .i64 er), Stab.box W9.heap.size Zn 24] (fun u => by (simp only [putAll, List.take_succ_cons, List.take_zero, Act.put, Nat.zero_add, Nat.reduceAdd]); (try simp only [List.setIfInBounds_toArray]); (repeat (first | simp only [List.set_cons_succ] | simp only [List.set_cons_zero])); exact rfl) (by kernel_rfl) (by kernel_rfl) (fun _ _ _ _ _ h => h) ?_ ?_
 ·refine ⟨?_, ?_, ?_, ?_, ?_, ?_, ?_, ?_, ?_, ?_, ?_, trivial⟩
  ·(show SlotA _ _ _ _ _ _ _); intro u w1 hx1 hd; obtain ⟨y9, rfl⟩ := hx1.get; clear hx1
   refine slot_run rfl rfl rfl ?_; intro K9 hK
   go_simp; exact hK _ _ rfl (ex) rfl
  ·(show SlotA _ _ _ _ _ _ _); intro u w1 hx1 hd; obtain ⟨y9, rfl⟩ := hx1.get; clear hx1
   have e0 : u 0 = .pointer (some ⟨g, 12, none⟩) := hd 0 (by kernel_rfl)
   simp only [e0]
   refine slot_run rfl rfl rfl ?_; intro K9 hK
   go_simp; exact hK _ _ rfl (ex) rfl
  ·(show SlotA _ _ _ _ _ _ _); intro u w1 hx1 hd; obtain ⟨y9, rfl⟩ := hx1.get; clear hx1
   have e1 : u 1 = .pointer (some ⟨g, 12, none⟩) := hd 1 (by kernel_rfl)
   simp only [e1]
   refine slot_run rfl rfl rfl ?_; intro K9 hK
   go_simp; exact hK _ _ rfl (ex) rfl
  ·(show SlotA _ _ _ _ _ _ _); intro u w1 hx1 hd; obtain ⟨y9, rfl⟩ := hx1.get; clear hx1
   have e2 : u 2 = .pointer (some ⟨g, 12, none⟩) := hd 2 (by kernel_rfl)
   simp only [e2]
   refine slot_run rfl rfl rfl ?_; intro K9 hK
   go_simp; exact hK _ _ rfl (ex) rfl
  ·(show SlotA _ _ _ _ _ _ _); intro u w1 hx1 hd; obtain ⟨y9, rfl⟩ := hx1.get; clear hx1
   refine slot_run rfl rfl rfl ?_; intro K9 hK
   go_simp; exact hK _ _ rfl (ex) rfl
  ·(show SlotA _ _ _ _ _ _ _); intro u w1 hx1 hd; obtain ⟨y9, rfl⟩ := hx1.get; clear hx1
   have e4 : u 4 = .pointer (some ⟨be, 3, none⟩) := hd 4 (by kernel_rfl)
   simp only [e4]
   refine slot_run rfl rfl rfl ?_; intro K9 hK
   go_simp; exact hK _ _ rfl (ex) rfl
  ·(show SlotA _ _ _ _ _ _ _); intro u w1 hx1 hd; obtain ⟨y9, rfl⟩ := hx1.get; clear hx1
   have e3 : u 3 = .agg (Ln w.b.node B b) := hd 3 (by kernel_rfl)
   have e5 : u 5 = .agg (acnR x.act).toArray := hd 5 (by kernel_rfl)
   simp only [e3, e5]
   refine slot_run rfl rfl rfl ?_; intro K9 hK
   go_simp; go_at_call 99; refine (HA.out _ (x9.trans (ex))).mono ?_; rintro e w' ⟨D, K, rfl, hx, hl⟩; exact hK _ _ rfl hx ⟨D, K, rfl, hl⟩
  ·(show SlotA _ _ _ _ _ _ _); intro u w1 hx1 hd; obtain ⟨y9, rfl⟩ := hx1.get; clear hx1
   obtain ⟨D6, K6, e6, h6⟩ := hd 6 (by kernel_rfl)
   simp only [e6]
   refine slot_run rfl rfl rfl ?_; intro K9 hK
   go_simp; exact hK _ _ rfl (ex) ⟨D6, K6, rfl, h6⟩
  ·(show SlotA _ _ _ _ _ _ _); intro u w1 hx1 hd; obtain ⟨y9, rfl⟩ := hx1.get; clear hx1
   obtain ⟨D6, K6, e7, h6⟩ := hd 7 (by kernel_rfl)
   simp only [e7]
   refine slot_run rfl rfl rfl ?_; intro K9 hK
   go_simp; exact hK _ _ rfl (ex) ⟨D6, K6, rfl, h6⟩
  ·(show PureA _ _ _ _ _ _); intro u w1 hx1 hd; obtain ⟨y9, rfl⟩ := hx1.get; clear hx1
   obtain ⟨D6, K6, e7, h6⟩ := hd 7 (by kernel_rfl)
   simp only [e7]
   refine pure_run (v := .int .i64 er) rfl rfl (fun w9 => ?_) rfl
   go_simp
  ·(show SlotA _ _ _ _ _ _ _); intro u w1 hx1 hd; obtain ⟨y9, rfl⟩ := hx1.get; clear hx1
   refine slot_run rfl rfl rfl ?_; intro K9 hK
   go_simp; exact hK _ _ rfl (ex) ⟨_, rfl, (by first | exact Nat.le_refl _ | omega | (simp [go_sem]; done) | (simp [go_sem]; omega)), BoxAt.new (by first | rfl | simp [go_sem]) _ _⟩
 ·intro u w2 hx2 hT; obtain ⟨t0, t1, t2, t3, t4, t5, t6, t7, t8, t9, t10, -⟩ := hT; obtain ⟨y9, rfl⟩ := hx2.get; clear hx2
  obtain ⟨D8, K8, e8, h8⟩ := t8
  have e9 : u 9 = .int .i64 er := t9
  obtain ⟨g10, e10, hg10, b10⟩ := t10
  simp only [e8, e9, e10]
  clear e8 e9 e10 t0 t1 t2 t3 t4 t5 t6 t7 t9
  simp only [List.drop_succ_cons, List.drop_zero]
  have hxx : Ext W9 (xt W9.drew y9) := ex
  by_cases hc : bu = true ∧ er = 0
  rotate_left
  ·have hve := (HV0.out hc).symm
   subst hve
   cases bu with
   | false =>
    go_wp2_with (refine wpList_store_at rfl 24 (.tmp 3) (.tmp 13) rfl b10 rfl (Ln n D8 K8) rfl rfl (show 6 < 44 by decide) (by kernel_rfl) (nodl_one n D8 K8) ?_; intro W1 ht1 hb1; have x1 : Ext W9 W1 := ht1.ext hxx hg10; have h1 := h9.mono x1; clear c0 c1 c2 c3 c4 c5 c6 c7 c8 c9 c10 c11 c12 c13 c14 c15 c16 c17 c18 c19 c20; obtain ⟨d0, d1, d2, d3, d4, d5⟩ := hb1.six; have c18:=h1.box.c 18 rfl; rw [HU.out] at c18)
    (first | go_end0 | (refine bodyPost_ret (results_none rfl _ _ _) rfl ?_))
    exact ⟨rfl, grown_trans ((x9.trans x1).grown _) (Ext.grown (by exact ex) _), _, _, _, _, h1.mono (by exact ex)⟩
   | true =>
    have hz : (er == 0) = false := by simpa using hc
    clear hc
    go_wp2_with (refine wpList_store_at rfl 24 (.tmp 3) (.tmp 13) rfl b10 rfl (Ln n D8 K8) rfl rfl (show 6 < 44 by decide) (by kernel_rfl) (nodl_one n D8 K8) ?_; intro W1 ht1 hb1; have x1 : Ext W9 W1 := ht1.ext hxx hg10; have h1 := h9.mono x1; clear c0 c1 c2 c3 c4 c5 c6 c7 c8 c9 c10 c11 c12 c13 c14 c15 c16 c17 c18 c19 c20; obtain ⟨d0, d1, d2, d3, d4, d5⟩ := hb1.six; have c18:=h1.box.c 18 rfl; rw [HU.out] at c18)
    (first | go_end0 | (refine bodyPost_ret (results_none rfl _ _ _) rfl ?_))
    exact ⟨rfl, grown_trans ((x9.trans x1).grown _) (Ext.grown (by exact ex) _), _, _, _, _, h1.mono (by exact ex)⟩
  obtain ⟨hc1, hc2⟩ := hc
  subst hc1
  subst hc2
  have hve := HV1.out rfl rfl
  subst hve
  go_wp2_with (first
   | (refine wpList_store_at rfl 24 (.tmp 3) (.tmp 13) rfl b10 rfl (Ln n D8 K8) rfl rfl (show 6 < 44 by decide) (by kernel_rfl) (nodl_one n D8 K8) ?_; intro W1 ht1 hb1; have x1 : Ext W9 W1 := ht1.ext hxx hg10; have h1 := h9.mono x1; clear c0 c1 c2 c3 c4 c5 c6 c7 c8 c9 c10 c11 c12 c13 c14 c15 c16 c17 c18 c19 c20; obtain ⟨d0, d1, d2, d3, d4, d5⟩ := hb1.six; have c18:=h1.box.c 18 rfl; rw [HU.out] at c18; have hbo : BoxAt W1 g (Lv w w.a.node A a w.a.up w.a.quiet w.b.node B b true w.b.quiet M m) 30 := (by have := h1.box; rw [HU.out] at this; exact this))
   | (refine wpList_store_part rfl 24 (.tmp 26) (.tmp 24) rfl (hbo.mono (ex)) 12 rfl (Ln n D8 K8) rfl (show 18 ≤ 21 by decide) (show 21 < 44 by decide) (by kernel_rfl) (nodl_one n D8 K8) (Lv w w.a.node A a w.a.up w.a.quiet n D8 K8 true w.b.quiet M m) rfl ?_; intro W5 ht5 hb5))
  (first | go_end0 | (refine bodyPost_ret (results_none rfl _ _ _) rfl ?_))
  exact ⟨rfl, grown_trans ((x9.trans x1).grown _) (grown_trans (Ext.grown (by exact ex) _) ht5.grown), _, _, _, _, ⟨ht5.ext (h1.ext.trans (by exact ex)) h1.ge, h1.ge, hb5, (h1.qa.mono (by exact ex)).turn ht5, ((h8.turn ht1).mono (by exact ex)).turn ht5⟩⟩
theorem tak_hap3_a (h : WldC w0 W g w A a B b M m) : Calls Tryz.prog 157 #[.pointer (some ⟨g, 4, none⟩)] W (StepC w0 W g ⟨w.now, w.limit, w.delay, w.cut, ⟨w.a.node, false, w.a.quiet⟩, w.b, w.mail⟩ M m) := by
 have HC := Lib.hid h
 clear h
 go_enter Tryz.func157, Tryz.ntmps157
 go_wp2_with (refine wpList_store_cell rfl 4 (.tmp 4) (.const (.bool false)) rfl (HC.out.box.mono (ex)) 10 rfl (.bool false) rfl (show 10 < 21 by decide) (show 21 < 44 by decide) (by kernel_rfl) rfl (Lv w w.a.node A a false w.a.quiet w.b.node B b w.b.up w.b.quiet M m) rfl ?_; intro W1 ht1 hb1)
 (first | go_end0 | (refine bodyPost_ret (results_none rfl _ _ _) rfl ?_))
 exact ⟨rfl, grown_trans (Ext.grown (by exact ex) _) ht1.grown, _, _, _, _, ⟨(ht1.ext (HC.out.ext.trans (by exact ex)) HC.out.ge), HC.out.ge, hb1, (HC.out.qa.mono (by exact ex)).turn ht1, (HC.out.qb.mono (by exact ex)).turn ht1⟩⟩
theorem tak_hap4_a_true (h : WldC w0 W g w A a B b M m) (hu : w.a.up = true) : Calls Tryz.prog 158 #[.pointer (some ⟨g, 4, none⟩)] W (StepC w0 W g w M m) := by
 have HC := Lib.hid h
 have c10:=h.box.c 10 rfl
 rw [hu] at c10
 clear h hu
 go_enter Tryz.func158, Tryz.ntmps158
 go_wp2
 (first | go_end0 | (refine bodyPost_ret (results_none rfl _ _ _) rfl ?_))
 exact ⟨rfl, Ext.grown (by exact ex) _, _, _, _, _, HC.out.mono (by exact ex)⟩
theorem tak_hap4_a_false (h : WldC w0 W g w A a B b M m) (hu : w.a.up = false) : Calls Tryz.prog 158 #[.pointer (some ⟨g, 4, none⟩)] W (StepC w0 W g ⟨w.now, w.limit, w.delay, w.cut, ⟨⟨w.a.node.id, w.a.node.term, false, w.a.node.log, w.a.node.acked, 0⟩, true, 0⟩, w.b, w.mail⟩ M m) := by
 have HC := Lib.hid h
 have c10:=h.box.c 10 rfl
 rw [hu] at c10
 clear h hu
 go_enter Tryz.func158, Tryz.ntmps158
 go_wp2_with (first
  | (refine wpList_store_cell rfl 4 (.tmp 10) (.const (.bool true)) rfl (HC.out.box.mono (ex)) 10 rfl (.bool true) rfl (show 10 < 21 by decide) (show 21 < 44 by decide) (by kernel_rfl) rfl (Lv w w.a.node A a true w.a.quiet w.b.node B b w.b.up w.b.quiet M m) rfl ?_; intro W1 ht1 hb1)
  | (refine wpList_store_cell rfl 3 (.tmp 12) (.const (.int .i64 0)) rfl (hb1.mono (ex)) 11 rfl (.int .i64 0) rfl (show 11 < 21 by decide) (show 21 < 44 by decide) (by kernel_rfl) rfl (Lv w w.a.node A a true 0 w.b.node B b w.b.up w.b.quiet M m) rfl ?_; intro W2 ht2 hb2)
  | (refine wpList_store_cell rfl 4 (.tmp 17) (.const (.bool false)) rfl (hb2.mono (ex)) 6 rfl (.bool false) rfl (show 6 < 21 by decide) (show 21 < 44 by decide) (by kernel_rfl) rfl [.int .i64 w.now, .int .i64 w.limit, .int .i64 w.delay, .bool w.cut, .int .i64 w.a.node.id, .int .i64 w.a.node.term, .bool false, .slice A w.a.node.log.length a, .int .i64 w.a.node.acked, .int .i64 w.a.node.next, .bool true, .int .i64 0, .int .i64 w.b.node.id, .int .i64 w.b.node.term, .bool w.b.node.speaks, .slice B w.b.node.log.length b, .int .i64 w.b.node.acked, .int .i64 w.b.node.next, .bool w.b.up, .int .i64 w.b.quiet, .slice M w.mail.length m] rfl ?_; intro W3 ht3 hb3)
  | (refine wpList_store_cell rfl 3 (.tmp 20) (.const (.int .i64 0)) rfl (hb3.mono (ex)) 9 rfl (.int .i64 0) rfl (show 9 < 21 by decide) (show 21 < 44 by decide) (by kernel_rfl) rfl [.int .i64 w.now, .int .i64 w.limit, .int .i64 w.delay, .bool w.cut, .int .i64 w.a.node.id, .int .i64 w.a.node.term, .bool false, .slice A w.a.node.log.length a, .int .i64 w.a.node.acked, .int .i64 0, .bool true, .int .i64 0, .int .i64 w.b.node.id, .int .i64 w.b.node.term, .bool w.b.node.speaks, .slice B w.b.node.log.length b, .int .i64 w.b.node.acked, .int .i64 w.b.node.next, .bool w.b.up, .int .i64 w.b.quiet, .slice M w.mail.length m] rfl ?_; intro W4 ht4 hb4))
 (first | go_end0 | (refine bodyPost_ret (results_none rfl _ _ _) rfl ?_))
 have f1 : WldC w0 W1 g ⟨w.now, w.limit, w.delay, w.cut, ⟨w.a.node, true, w.a.quiet⟩, w.b, w.mail⟩ A a B b M m := ⟨ht1.ext (HC.out.ext.trans (by exact ex)) HC.out.ge, HC.out.ge, hb1, (HC.out.qa.mono (by exact ex)).turn ht1, (HC.out.qb.mono (by exact ex)).turn ht1⟩
 have f2 : WldC w0 W2 g ⟨w.now, w.limit, w.delay, w.cut, ⟨w.a.node, true, 0⟩, w.b, w.mail⟩ A a B b M m := ⟨ht2.ext (f1.ext.trans (by exact ex)) f1.ge, f1.ge, hb2, (f1.qa.mono (by exact ex)).turn ht2, (f1.qb.mono (by exact ex)).turn ht2⟩
 have f3 : WldC w0 W3 g ⟨w.now, w.limit, w.delay, w.cut, ⟨⟨w.a.node.id, w.a.node.term, false, w.a.node.log, w.a.node.acked, w.a.node.next⟩, true, 0⟩, w.b, w.mail⟩ A a B b M m := ⟨ht3.ext (f2.ext.trans (by exact ex)) f2.ge, f2.ge, hb3, (f2.qa.mono (by exact ex)).turn ht3, (f2.qb.mono (by exact ex)).turn ht3⟩
 exact ⟨rfl, grown_trans (Ext.grown (by exact ex) _) (grown_trans ht1.grown (grown_trans (Ext.grown (by exact ex) _) (grown_trans ht2.grown (grown_trans (Ext.grown (by exact ex) _) (grown_trans ht3.grown (grown_trans (Ext.grown (by exact ex) _) ht4.grown)))))), _, _, _, _, ⟨ht4.ext (f3.ext.trans (by exact ex)) f3.ge, f3.ge, hb4, (f3.qa.mono (by exact ex)).turn ht4, (f3.qb.mono (by exact ex)).turn ht4⟩⟩
theorem tak_hap3_b (h : WldC w0 W g w A a B b M m) : Calls Tryz.prog 157 #[.pointer (some ⟨g, 12, none⟩)] W (StepC w0 W g ⟨w.now, w.limit, w.delay, w.cut, w.a, ⟨w.b.node, false, w.b.quiet⟩, w.mail⟩ M m) := by
 have HC := Lib.hid h
 clear h
 go_enter Tryz.func157, Tryz.ntmps157
 go_wp2_with (refine wpList_store_cell rfl 4 (.tmp 4) (.const (.bool false)) rfl (HC.out.box.mono (ex)) 18 rfl (.bool false) rfl (show 18 < 21 by decide) (show 21 < 44 by decide) (by kernel_rfl) rfl (Lv w w.a.node A a w.a.up w.a.quiet w.b.node B b false w.b.quiet M m) rfl ?_; intro W1 ht1 hb1)
 (first | go_end0 | (refine bodyPost_ret (results_none rfl _ _ _) rfl ?_))
 exact ⟨rfl, grown_trans (Ext.grown (by exact ex) _) ht1.grown, _, _, _, _, ⟨(ht1.ext (HC.out.ext.trans (by exact ex)) HC.out.ge), HC.out.ge, hb1, (HC.out.qa.mono (by exact ex)).turn ht1, (HC.out.qb.mono (by exact ex)).turn ht1⟩⟩
theorem tak_hap4_b_true (h : WldC w0 W g w A a B b M m) (hu : w.b.up = true) : Calls Tryz.prog 158 #[.pointer (some ⟨g, 12, none⟩)] W (StepC w0 W g w M m) := by
 have HC := Lib.hid h
 have c18:=h.box.c 18 rfl
 rw [hu] at c18
 clear h hu
 go_enter Tryz.func158, Tryz.ntmps158
 go_wp2
 (first | go_end0 | (refine bodyPost_ret (results_none rfl _ _ _) rfl ?_))
 exact ⟨rfl, Ext.grown (by exact ex) _, _, _, _, _, HC.out.mono (by exact ex)⟩
theorem tak_hap4_b_false (h : WldC w0 W g w A a B b M m) (hu : w.b.up = false) : Calls Tryz.prog 158 #[.pointer (some ⟨g, 12, none⟩)] W (StepC w0 W g ⟨w.now, w.limit, w.delay, w.cut, w.a, ⟨⟨w.b.node.id, w.b.node.term, false, w.b.node.log, w.b.node.acked, 0⟩, true, 0⟩, w.mail⟩ M m) := by
 have HC := Lib.hid h
 have c18:=h.box.c 18 rfl
 rw [hu] at c18
 clear h hu
 go_enter Tryz.func158, Tryz.ntmps158
 go_wp2_with (first
  | (refine wpList_store_cell rfl 4 (.tmp 10) (.const (.bool true)) rfl (HC.out.box.mono (ex)) 18 rfl (.bool true) rfl (show 18 < 21 by decide) (show 21 < 44 by decide) (by kernel_rfl) rfl (Lv w w.a.node A a w.a.up w.a.quiet w.b.node B b true w.b.quiet M m) rfl ?_; intro W1 ht1 hb1)
  | (refine wpList_store_cell rfl 3 (.tmp 12) (.const (.int .i64 0)) rfl (hb1.mono (ex)) 19 rfl (.int .i64 0) rfl (show 19 < 21 by decide) (show 21 < 44 by decide) (by kernel_rfl) rfl (Lv w w.a.node A a w.a.up w.a.quiet w.b.node B b true 0 M m) rfl ?_; intro W2 ht2 hb2)
  | (refine wpList_store_cell rfl 4 (.tmp 17) (.const (.bool false)) rfl (hb2.mono (ex)) 14 rfl (.bool false) rfl (show 14 < 21 by decide) (show 21 < 44 by decide) (by kernel_rfl) rfl [.int .i64 w.now, .int .i64 w.limit, .int .i64 w.delay, .bool w.cut, .int .i64 w.a.node.id, .int .i64 w.a.node.term, .bool w.a.node.speaks, .slice A w.a.node.log.length a, .int .i64 w.a.node.acked, .int .i64 w.a.node.next, .bool w.a.up, .int .i64 w.a.quiet, .int .i64 w.b.node.id, .int .i64 w.b.node.term, .bool false, .slice B w.b.node.log.length b, .int .i64 w.b.node.acked, .int .i64 w.b.node.next, .bool true, .int .i64 0, .slice M w.mail.length m] rfl ?_; intro W3 ht3 hb3)
  | (refine wpList_store_cell rfl 3 (.tmp 20) (.const (.int .i64 0)) rfl (hb3.mono (ex)) 17 rfl (.int .i64 0) rfl (show 17 < 21 by decide) (show 21 < 44 by decide) (by kernel_rfl) rfl [.int .i64 w.now, .int .i64 w.limit, .int .i64 w.delay, .bool w.cut, .int .i64 w.a.node.id, .int .i64 w.a.node.term, .bool w.a.node.speaks, .slice A w.a.node.log.length a, .int .i64 w.a.node.acked, .int .i64 w.a.node.next, .bool w.a.up, .int .i64 w.a.quiet, .int .i64 w.b.node.id, .int .i64 w.b.node.term, .bool false, .slice B w.b.node.log.length b, .int .i64 w.b.node.acked, .int .i64 0, .bool true, .int .i64 0, .slice M w.mail.length m] rfl ?_; intro W4 ht4 hb4))
 (first | go_end0 | (refine bodyPost_ret (results_none rfl _ _ _) rfl ?_))
 have f1 : WldC w0 W1 g ⟨w.now, w.limit, w.delay, w.cut, w.a, ⟨w.b.node, true, w.b.quiet⟩, w.mail⟩ A a B b M m := ⟨ht1.ext (HC.out.ext.trans (by exact ex)) HC.out.ge, HC.out.ge, hb1, (HC.out.qa.mono (by exact ex)).turn ht1, (HC.out.qb.mono (by exact ex)).turn ht1⟩
 have f2 : WldC w0 W2 g ⟨w.now, w.limit, w.delay, w.cut, w.a, ⟨w.b.node, true, 0⟩, w.mail⟩ A a B b M m := ⟨ht2.ext (f1.ext.trans (by exact ex)) f1.ge, f1.ge, hb2, (f1.qa.mono (by exact ex)).turn ht2, (f1.qb.mono (by exact ex)).turn ht2⟩
 have f3 : WldC w0 W3 g ⟨w.now, w.limit, w.delay, w.cut, w.a, ⟨⟨w.b.node.id, w.b.node.term, false, w.b.node.log, w.b.node.acked, w.b.node.next⟩, true, 0⟩, w.mail⟩ A a B b M m := ⟨ht3.ext (f2.ext.trans (by exact ex)) f2.ge, f2.ge, hb3, (f2.qa.mono (by exact ex)).turn ht3, (f2.qb.mono (by exact ex)).turn ht3⟩
 exact ⟨rfl, grown_trans (Ext.grown (by exact ex) _) (grown_trans ht1.grown (grown_trans (Ext.grown (by exact ex) _) (grown_trans ht2.grown (grown_trans (Ext.grown (by exact ex) _) (grown_trans ht3.grown (grown_trans (Ext.grown (by exact ex) _) ht4.grown)))))), _, _, _, _, ⟨ht4.ext (f3.ext.trans (by exact ex)) f3.ge, f3.ge, hb4, (f3.qa.mono (by exact ex)).turn ht4, (f3.qb.mono (by exact ex)).turn ht4⟩⟩
theorem tak_hap5 (h : WldC w0 W g w A a B b M m) {bw : Nat} (hb : W.cell? ⟨bw, 0, none⟩ = some (.pointer (some ⟨g, 0, none⟩))) : Calls Tryz.prog 159 #[.pointer (some ⟨bw, 0, none⟩)] W (StepC w0 W g ⟨w.now, w.limit, w.delay, true, w.a, w.b, w.mail⟩ M m) := by
 have HC := Lib.hid h
 clear h
 go_enter Tryz.func159, Tryz.ntmps159
 go_wp2_with (refine wpList_store_cell rfl 4 (.tmp 3) (.const (.bool true)) rfl (HC.out.box.mono (ex)) 3 rfl (.bool true) rfl (show 3 < 21 by decide) (show 21 < 44 by decide) (by kernel_rfl) rfl [.int .i64 w.now, .int .i64 w.limit, .int .i64 w.delay, .bool true, .int .i64 w.a.node.id, .int .i64 w.a.node.term, .bool w.a.node.speaks, .slice A w.a.node.log.length a, .int .i64 w.a.node.acked, .int .i64 w.a.node.next, .bool w.a.up, .int .i64 w.a.quiet, .int .i64 w.b.node.id, .int .i64 w.b.node.term, .bool w.b.node.speaks, .slice B w.b.node.log.length b, .int .i64 w.b.node.acked, .int .i64 w.b.node.next, .bool w.b.up, .int .i64 w.b.quiet, .slice M w.mail.length m] rfl ?_; intro W1 ht1 hb1)
 (first | go_end0 | (refine bodyPost_ret (results_none rfl _ _ _) rfl ?_))
 exact ⟨rfl, grown_trans (Ext.grown (by exact ex) _) ht1.grown, _, _, _, _, ⟨(ht1.ext (HC.out.ext.trans (by exact ex)) HC.out.ge), HC.out.ge, hb1, (HC.out.qa.mono (by exact ex)).turn ht1, (HC.out.qb.mono (by exact ex)).turn ht1⟩⟩
theorem tak_hap6 (h : WldC w0 W g w A a B b M m) {bw : Nat} (hb : W.cell? ⟨bw, 0, none⟩ = some (.pointer (some ⟨g, 0, none⟩))) : Calls Tryz.prog 160 #[.pointer (some ⟨bw, 0, none⟩)] W (StepC w0 W g ⟨w.now, w.limit, w.delay, false, w.a, w.b, w.mail⟩ M m) := by
 have HC := Lib.hid h
 clear h
 go_enter Tryz.func160, Tryz.ntmps160
 go_wp2_with (refine wpList_store_cell rfl 4 (.tmp 3) (.const (.bool false)) rfl (HC.out.box.mono (ex)) 3 rfl (.bool false) rfl (show 3 < 21 by decide) (show 21 < 44 by decide) (by kernel_rfl) rfl [.int .i64 w.now, .int .i64 w.limit, .int .i64 w.delay, .bool false, .int .i64 w.a.node.id, .int .i64 w.a.node.term, .bool w.a.node.speaks, .slice A w.a.node.log.length a, .int .i64 w.a.node.acked, .int .i64 w.a.node.next, .bool w.a.up, .int .i64 w.a.quiet, .int .i64 w.b.node.id, .int .i64 w.b.node.term, .bool w.b.node.speaks, .slice B w.b.node.log.length b, .int .i64 w.b.node.acked, .int .i64 w.b.node.next, .bool w.b.up, .int .i64 w.b.quiet, .slice M w.mail.length m] rfl ?_; intro W1 ht1 hb1)
 (first | go_end0 | (refine bodyPost_ret (results_none rfl _ _ _) rfl ?_))
 exact ⟨rfl, grown_trans (Ext.grown (by exact ex) _) ht1.grown, _, _, _, _, ⟨(ht1.ext (HC.out.ext.trans (by exact ex)) HC.out.ge), HC.out.ge, hb1, (HC.out.qa.mono (by exact ex)).turn ht1, (HC.out.qb.mono (by exact ex)).turn ht1⟩⟩
theorem tak_hap7 (h : WldC w0 W g w A a B b M m) {bw be : Nat} {x : Evt} (hb : W.cell? ⟨bw, 0, none⟩ = some (.pointer (some ⟨g, 0, none⟩))) (he : EvtAt W be 0 x) : Calls Tryz.prog 161 #[.pointer (some ⟨be, 0, none⟩), .pointer (some ⟨bw, 0, none⟩)] W (StepC w0 W g ⟨w.now, w.limit, x.delay, w.cut, w.a, w.b, w.mail⟩ M m) := by
 have HC := Lib.hid h
 have hd := he.delay
 simp only [Nat.zero_add] at hd
 clear h he
 go_enter Tryz.func161, Tryz.ntmps161
 go_wp2_with (refine wpList_store_cell rfl 3 (.tmp 6) (.tmp 4) rfl (HC.out.box.mono (ex)) 2 rfl (.int .i64 x.delay) rfl (show 2 < 21 by decide) (show 21 < 44 by decide) (by kernel_rfl) rfl [.int .i64 w.now, .int .i64 w.limit, .int .i64 x.delay, .bool w.cut, .int .i64 w.a.node.id, .int .i64 w.a.node.term, .bool w.a.node.speaks, .slice A w.a.node.log.length a, .int .i64 w.a.node.acked, .int .i64 w.a.node.next, .bool w.a.up, .int .i64 w.a.quiet, .int .i64 w.b.node.id, .int .i64 w.b.node.term, .bool w.b.node.speaks, .slice B w.b.node.log.length b, .int .i64 w.b.node.acked, .int .i64 w.b.node.next, .bool w.b.up, .int .i64 w.b.quiet, .slice M w.mail.length m] rfl ?_; intro W1 ht1 hb1)
 (first | go_end0 | (refine bodyPost_ret (results_none rfl _ _ _) rfl ?_))
 exact ⟨rfl, grown_trans (Ext.grown (by exact ex) _) ht1.grown, _, _, _, _, ⟨(ht1.ext (HC.out.ext.trans (by exact ex)) HC.out.ge), HC.out.ge, hb1, (HC.out.qa.mono (by exact ex)).turn ht1, (HC.out.qb.mono (by exact ex)).turn ht1⟩⟩
theorem tak_own (fv : Value) (hf : fv.oneCell' = true) (bw be : Nat) (W : World) : Calls Tryz.prog 154 #[fv, .pointer (some ⟨bw, 0, none⟩), .pointer (some ⟨be, 0, none⟩)] W fun e W' => e = .returned (.func (Fn.func 155) #[] #[.pointer (some ⟨W.heap.size, 0, none⟩), .pointer (some ⟨bw, 0, none⟩), .pointer (some ⟨be, 0, none⟩)]) ∧ W' = W.alloc (.cells #[fv] 244) := by
 go_enter Tryz.func154, Tryz.ntmps154
 go_wp2
 go_ret
 exact ⟨rfl, rfl⟩
section
variable {v : Wld} {bf bw be : Nat}
theorem tak_hap1_2a (hK : ∀ V, Ext W V → Calls Tryz.prog 156 #[.pointer (some ⟨g, 4, none⟩), .pointer (some ⟨be, 0, none⟩)] V (StepC w0 V g v M m)) (hF : W.cell? ⟨bf, 0, none⟩ = some (.func (Fn.func 156) #[] #[.pointer (some ⟨be, 0, none⟩)])) (hb : W.cell? ⟨bw, 0, none⟩ = some (.pointer (some ⟨g, 0, none⟩))) (he : W.cell? ⟨be, 2, none⟩ = some (.int .i64 1)) : Calls Tryz.prog 155 #[.pointer (some ⟨bf, 0, none⟩), .pointer (some ⟨bw, 0, none⟩), .pointer (some ⟨be, 0, none⟩)] W (StepC w0 W g v M m) := by
 have HK := Lib.hid hK
 clear hK
 go_enter Tryz.func155, Tryz.ntmps155
 go_wp2
 (refine wp_region_tail 8 (by kernel_rfl) (by kernel_rfl) ?_; simp only [List.take_succ_cons, List.take_zero, List.drop_succ_cons, List.drop_zero]; (repeat (go_big_quiet_step (fail))); refine wpQuiet_nil ?_; rintro _ ⟨y, rfl⟩)
 go_wp2_with (go_at_call 156; refine (HK.out _ (ex)).mono ?_; rintro e w' ⟨rfl, hS⟩)
 (first | go_end0 | (refine bodyPost_ret (results_none rfl _ _ _) rfl ?_))
 exact StepC.of (by exact ex) ⟨rfl, hS⟩
theorem tak_hap1_2b (hK : ∀ V, Ext W V → Calls Tryz.prog 156 #[.pointer (some ⟨g, 12, none⟩), .pointer (some ⟨be, 0, none⟩)] V (StepC w0 V g v M m)) (hF : W.cell? ⟨bf, 0, none⟩ = some (.func (Fn.func 156) #[] #[.pointer (some ⟨be, 0, none⟩)])) (hb : W.cell? ⟨bw, 0, none⟩ = some (.pointer (some ⟨g, 0, none⟩))) (he : W.cell? ⟨be, 2, none⟩ = some (.int .i64 2)) : Calls Tryz.prog 155 #[.pointer (some ⟨bf, 0, none⟩), .pointer (some ⟨bw, 0, none⟩), .pointer (some ⟨be, 0, none⟩)] W (StepC w0 W g v M m) := by
 have HK := Lib.hid hK
 clear hK
 go_enter Tryz.func155, Tryz.ntmps155
 go_wp2
 (refine wp_region_tail 8 (by kernel_rfl) (by kernel_rfl) ?_; simp only [List.take_succ_cons, List.take_zero, List.drop_succ_cons, List.drop_zero]; (repeat (go_big_quiet_step (fail))); refine wpQuiet_nil ?_; rintro _ ⟨y, rfl⟩)
 go_wp2_with (go_at_call 156; refine (HK.out _ (ex)).mono ?_; rintro e w' ⟨rfl, hS⟩)
 (first | go_end0 | (refine bodyPost_ret (results_none rfl _ _ _) rfl ?_))
 exact StepC.of (by exact ex) ⟨rfl, hS⟩
theorem tak_hap1_3a (hK : ∀ V, Ext W V → Calls Tryz.prog 157 #[.pointer (some ⟨g, 4, none⟩)] V (StepC w0 V g v M m)) (hF : W.cell? ⟨bf, 0, none⟩ = some (.func (Fn.func 157) #[] #[])) (hb : W.cell? ⟨bw, 0, none⟩ = some (.pointer (some ⟨g, 0, none⟩))) (he : W.cell? ⟨be, 2, none⟩ = some (.int .i64 1)) : Calls Tryz.prog 155 #[.pointer (some ⟨bf, 0, none⟩), .pointer (some ⟨bw, 0, none⟩), .pointer (some ⟨be, 0, none⟩)] W (StepC w0 W g v M m) := by
 have HK := Lib.hid hK
 clear hK
 go_enter Tryz.func155, Tryz.ntmps155
 go_wp2
 (refine wp_region_tail 8 (by kernel_rfl) (by kernel_rfl) ?_; simp only [List.take_succ_cons, List.take_zero, List.drop_succ_cons, List.drop_zero]; (repeat (go_big_quiet_step (fail))); refine wpQuiet_nil ?_; rintro _ ⟨y, rfl⟩)
 go_wp2_with (go_at_call 157; refine (HK.out _ (ex)).mono ?_; rintro e w' ⟨rfl, hS⟩)
 (first | go_end0 | (refine bodyPost_ret (results_none rfl _ _ _) rfl ?_))
 exact StepC.of (by exact ex) ⟨rfl, hS⟩
theorem tak_hap1_3b (hK : ∀ V, Ext W V → Calls Tryz.prog 157 #[.pointer (some ⟨g, 12, none⟩)] V (StepC w0 V g v M m)) (hF : W.cell? ⟨bf, 0, none⟩ = some (.func (Fn.func 157) #[] #[])) (hb : W.cell? ⟨bw, 0, none⟩ = some (.pointer (some ⟨g, 0, none⟩))) (he : W.cell? ⟨be, 2, none⟩ = some (.int .i64 2)) : Calls Tryz.prog 155 #[.pointer (some ⟨bf, 0, none⟩), .pointer (some ⟨bw, 0, none⟩), .pointer (some ⟨be, 0, none⟩)] W (StepC w0 W g v M m) := by
 have HK := Lib.hid hK
 clear hK
 go_enter Tryz.func155, Tryz.ntmps155
 go_wp2
 (refine wp_region_tail 8 (by kernel_rfl) (by kernel_rfl) ?_; simp only [List.take_succ_cons, List.take_zero, List.drop_succ_cons, List.drop_zero]; (repeat (go_big_quiet_step (fail))); refine wpQuiet_nil ?_; rintro _ ⟨y, rfl⟩)
 go_wp2_with (go_at_call 157; refine (HK.out _ (ex)).mono ?_; rintro e w' ⟨rfl, hS⟩)
 (first | go_end0 | (refine bodyPost_ret (results_none rfl _ _ _) rfl ?_))
 exact StepC.of (by exact ex) ⟨rfl, hS⟩
theorem tak_hap1_4a (hK : ∀ V, Ext W V → Calls Tryz.prog 158 #[.pointer (some ⟨g, 4, none⟩)] V (StepC w0 V g v M m)) (hF : W.cell? ⟨bf, 0, none⟩ = some (.func (Fn.func 158) #[] #[])) (hb : W.cell? ⟨bw, 0, none⟩ = some (.pointer (some ⟨g, 0, none⟩))) (he : W.cell? ⟨be, 2, none⟩ = some (.int .i64 1)) : Calls Tryz.prog 155 #[.pointer (some ⟨bf, 0, none⟩), .pointer (some ⟨bw, 0, none⟩), .pointer (some ⟨be, 0, none⟩)] W (StepC w0 W g v M m) := by
 have HK := Lib.hid hK
 clear hK
 go_enter Tryz.func155, Tryz.ntmps155
 go_wp2
 (refine wp_region_tail 8 (by kernel_rfl) (by kernel_rfl) ?_; simp only [List.take_succ_cons, List.take_zero, List.drop_succ_cons, List.drop_zero]; (repeat (go_big_quiet_step (fail))); refine wpQuiet_nil ?_; rintro _ ⟨y, rfl⟩)
 go_wp2_with (go_at_call 158; refine (HK.out _ (ex)).mono ?_; rintro e w' ⟨rfl, hS⟩)
 (first | go_end0 | (refine bodyPost_ret (results_none rfl _ _ _) rfl ?_))
 exact StepC.of (by exact ex) ⟨rfl, hS⟩
theorem tak_hap1_4b (hK : ∀ V, Ext W V → Calls Tryz.prog 158 #[.pointer (some ⟨g, 12, none⟩)] V (StepC w0 V g v M m)) (hF : W.cell? ⟨bf, 0, none⟩ = some (.func (Fn.func 158) #[] #[])) (hb : W.cell? ⟨bw, 0, none⟩ = some (.pointer (some ⟨g, 0, none⟩))) (he : W.cell? ⟨be, 2, none⟩ = some (.int .i64 2)) : Calls Tryz.prog 155 #[.pointer (some ⟨bf, 0, none⟩), .pointer (some ⟨bw, 0, none⟩), .pointer (some ⟨be, 0, none⟩)] W (StepC w0 W g v M m) := by
 have HK := Lib.hid hK
 clear hK
 go_enter Tryz.func155, Tryz.ntmps155
 go_wp2
 (refine wp_region_tail 8 (by kernel_rfl) (by kernel_rfl) ?_; simp only [List.take_succ_cons, List.take_zero, List.drop_succ_cons, List.drop_zero]; (repeat (go_big_quiet_step (fail))); refine wpQuiet_nil ?_; rintro _ ⟨y, rfl⟩)
 go_wp2_with (go_at_call 158; refine (HK.out _ (ex)).mono ?_; rintro e w' ⟨rfl, hS⟩)
 (first | go_end0 | (refine bodyPost_ret (results_none rfl _ _ _) rfl ?_))
 exact StepC.of (by exact ex) ⟨rfl, hS⟩
end
end
end Go.Proofs.YtmhinhgflehkaaaGreat

/-
 Chapter 55: what an event does.
-/
namespace Go.Proofs.YtmhinhgflehkaaaGreat
open Go.RowKit

section
variable {w0 W : World} {g : Nat} {w : Wld} {A B M : Option Addr} {a b m : Nat} {xs : List (Ltr × Option Addr × Nat)}
theorem tak_happen_0a (h : WldC w0 W g w A a B b M m) {x : Evt} (ha : AcnAt w0 x.act) (hk : x.kind = 0) (hs : x.station = 1) {n : Nod} {er : Int} {u : Bool} (hv : actV w.a.node x.act = (n, er)) (hu : w.a.up = u) {v : Wld} (hv1 : u = true → er = 0 → v = ⟨w.now, w.limit, w.delay, w.cut, ⟨n, true, w.a.quiet⟩, w.b, w.mail⟩) (hv0 : ¬ (u = true ∧ er = 0) → v = w) : Calls Tryz.prog 121 #[.pointer (some ⟨g, 0, none⟩), .agg (evtR x).toArray] W (StepC w0 W g v M m) := by
 have HC := Lib.hid h
 have HA := Lib.hid ha
 have HV := Lib.hid hv
 have HU := Lib.hid hu
 have HV1 := Lib.hid hv1
 have HV0 := Lib.hid hv0
 clear hv hu hv1 hv0
 have HE := Lib.hid (fun (V : World) (hx : Ext ((W.alloc (.cells #[.pointer (some ⟨g, 0, none⟩)] 167)).alloc (.cells (evtR x).toArray 89)) V) => (EvtAt.new (W.heap.size + 1) (by simp) x 89).mono hx)
 have HST := Lib.hid (fun (V : World) (hx : Ext ((W.alloc (.cells #[.pointer (some ⟨g, 0, none⟩)] 167)).alloc (.cells (evtR x).toArray 89)) V) => (show V.cell? ⟨W.heap.size + 1, 2, none⟩ = some (.int .i64 1) from by have := (HE.out V hx).station; rw [hs] at this; exact this))
 clear hs
 clear h ha
 go_enter Tryz.func121, Tryz.ntmps121
 go_wp2_with (first
  | (go_at_call 154; refine (tak_own _ rfl _ _ _).mono ?_; rintro e w' ⟨rfl, rfl⟩)
  | (go_at_call 155; refine (tak_hap1_2a (g := g) (w0 := w0) (fun V hx => tak_hap2_a (HC.out.mono (by repeat (first | exact Ext.refl _ | assumption | apply Ext.xt | apply Ext.alloc | apply Ext.drew | apply Ext.drewN | refine Ext.trans ?_ (by assumption)))) (HE.out _ (by repeat (first | exact Ext.refl _ | assumption | apply Ext.xt | apply Ext.alloc | apply Ext.drew | apply Ext.drewN | refine Ext.trans ?_ (by assumption)))) HA.out HV.out HU.out HV1.out HV0.out) (by simp [go_sem]) (by simp [go_sem]) (HST.out _ (ex))).mono ?_; rintro e w' ⟨rfl, hS⟩))
 (first | go_end0 | (refine bodyPost_ret (results_none rfl _ _ _) rfl ?_))
 exact StepC.of (by exact ex) ⟨rfl, hS⟩
theorem tak_happen_0b (h : WldC w0 W g w A a B b M m) {x : Evt} (ha : AcnAt w0 x.act) (hk : x.kind = 0) (hs : x.station = 2) {n : Nod} {er : Int} {u : Bool} (hv : actV w.b.node x.act = (n, er)) (hu : w.b.up = u) {v : Wld} (hv1 : u = true → er = 0 → v = ⟨w.now, w.limit, w.delay, w.cut, w.a, ⟨n, true, w.b.quiet⟩, w.mail⟩) (hv0 : ¬ (u = true ∧ er = 0) → v = w) : Calls Tryz.prog 121 #[.pointer (some ⟨g, 0, none⟩), .agg (evtR x).toArray] W (StepC w0 W g v M m) := by
 have HC := Lib.hid h
 have HA := Lib.hid ha
 have HV := Lib.hid hv
 have HU := Lib.hid hu
 have HV1 := Lib.hid hv1
 have HV0 := Lib.hid hv0
 clear hv hu hv1 hv0
 have HE := Lib.hid (fun (V : World) (hx : Ext ((W.alloc (.cells #[.pointer (some ⟨g, 0, none⟩)] 167)).alloc (.cells (evtR x).toArray 89)) V) => (EvtAt.new (W.heap.size + 1) (by simp) x 89).mono hx)
 have HST := Lib.hid (fun (V : World) (hx : Ext ((W.alloc (.cells #[.pointer (some ⟨g, 0, none⟩)] 167)).alloc (.cells (evtR x).toArray 89)) V) => (show V.cell? ⟨W.heap.size + 1, 2, none⟩ = some (.int .i64 2) from by have := (HE.out V hx).station; rw [hs] at this; exact this))
 clear hs
 clear h ha
 go_enter Tryz.func121, Tryz.ntmps121
 go_wp2_with (first
  | (go_at_call 154; refine (tak_own _ rfl _ _ _).mono ?_; rintro e w' ⟨rfl, rfl⟩)
  | (go_at_call 155; refine (tak_hap1_2b (g := g) (w0 := w0) (fun V hx => tak_hap2_b (HC.out.mono (by repeat (first | exact Ext.refl _ | assumption | apply Ext.xt | apply Ext.alloc | apply Ext.drew | apply Ext.drewN | refine Ext.trans ?_ (by assumption)))) (HE.out _ (by repeat (first | exact Ext.refl _ | assumption | apply Ext.xt | apply Ext.alloc | apply Ext.drew | apply Ext.drewN | refine Ext.trans ?_ (by assumption)))) HA.out HV.out HU.out HV1.out HV0.out) (by simp [go_sem]) (by simp [go_sem]) (HST.out _ (ex))).mono ?_; rintro e w' ⟨rfl, hS⟩))
 (first | go_end0 | (refine bodyPost_ret (results_none rfl _ _ _) rfl ?_))
 exact StepC.of (by exact ex) ⟨rfl, hS⟩
theorem tak_happen_1a (h : WldC w0 W g w A a B b M m) {x : Evt} (ha : AcnAt w0 x.act) (hk : x.kind = 1) (hs : x.station = 1) : Calls Tryz.prog 121 #[.pointer (some ⟨g, 0, none⟩), .agg (evtR x).toArray] W (StepC w0 W g ⟨w.now, w.limit, w.delay, w.cut, ⟨w.a.node, false, w.a.quiet⟩, w.b, w.mail⟩ M m) := by
 have HC := Lib.hid h
 have HA := Lib.hid ha
 have HE := Lib.hid (fun (V : World) (hx : Ext ((W.alloc (.cells #[.pointer (some ⟨g, 0, none⟩)] 167)).alloc (.cells (evtR x).toArray 89)) V) => (EvtAt.new (W.heap.size + 1) (by simp) x 89).mono hx)
 have HST := Lib.hid (fun (V : World) (hx : Ext ((W.alloc (.cells #[.pointer (some ⟨g, 0, none⟩)] 167)).alloc (.cells (evtR x).toArray 89)) V) => (show V.cell? ⟨W.heap.size + 1, 2, none⟩ = some (.int .i64 1) from by have := (HE.out V hx).station; rw [hs] at this; exact this))
 clear hs
 clear h ha
 go_enter Tryz.func121, Tryz.ntmps121
 go_wp2_with (first
  | (go_at_call 154; refine (tak_own _ rfl _ _ _).mono ?_; rintro e w' ⟨rfl, rfl⟩)
  | (go_at_call 155; refine (tak_hap1_3a (g := g) (w0 := w0) (fun V hx => tak_hap3_a (HC.out.mono (by repeat (first | exact Ext.refl _ | assumption | apply Ext.xt | apply Ext.alloc | apply Ext.drew | apply Ext.drewN | refine Ext.trans ?_ (by assumption))))) (by simp [go_sem]) (by simp [go_sem]) (HST.out _ (ex))).mono ?_; rintro e w' ⟨rfl, hS⟩))
 (first | go_end0 | (refine bodyPost_ret (results_none rfl _ _ _) rfl ?_))
 exact StepC.of (by exact ex) ⟨rfl, hS⟩
theorem tak_happen_2a_true (h : WldC w0 W g w A a B b M m) {x : Evt} (ha : AcnAt w0 x.act) (hk : x.kind = 2) (hs : x.station = 1) (hu : w.a.up = true) : Calls Tryz.prog 121 #[.pointer (some ⟨g, 0, none⟩), .agg (evtR x).toArray] W (StepC w0 W g w M m) := by
 have HC := Lib.hid h
 have HA := Lib.hid ha
 have HU := Lib.hid hu
 clear hu
 have HE := Lib.hid (fun (V : World) (hx : Ext ((W.alloc (.cells #[.pointer (some ⟨g, 0, none⟩)] 167)).alloc (.cells (evtR x).toArray 89)) V) => (EvtAt.new (W.heap.size + 1) (by simp) x 89).mono hx)
 have HST := Lib.hid (fun (V : World) (hx : Ext ((W.alloc (.cells #[.pointer (some ⟨g, 0, none⟩)] 167)).alloc (.cells (evtR x).toArray 89)) V) => (show V.cell? ⟨W.heap.size + 1, 2, none⟩ = some (.int .i64 1) from by have := (HE.out V hx).station; rw [hs] at this; exact this))
 clear hs
 clear h ha
 go_enter Tryz.func121, Tryz.ntmps121
 go_wp2_with (first
  | (go_at_call 154; refine (tak_own _ rfl _ _ _).mono ?_; rintro e w' ⟨rfl, rfl⟩)
  | (go_at_call 155; refine (tak_hap1_4a (g := g) (w0 := w0) (fun V hx => tak_hap4_a_true (HC.out.mono (by repeat (first | exact Ext.refl _ | assumption | apply Ext.xt | apply Ext.alloc | apply Ext.drew | apply Ext.drewN | refine Ext.trans ?_ (by assumption)))) HU.out) (by simp [go_sem]) (by simp [go_sem]) (HST.out _ (ex))).mono ?_; rintro e w' ⟨rfl, hS⟩))
 (first | go_end0 | (refine bodyPost_ret (results_none rfl _ _ _) rfl ?_))
 exact StepC.of (by exact ex) ⟨rfl, hS⟩
theorem tak_happen_2a_false (h : WldC w0 W g w A a B b M m) {x : Evt} (ha : AcnAt w0 x.act) (hk : x.kind = 2) (hs : x.station = 1) (hu : w.a.up = false) : Calls Tryz.prog 121 #[.pointer (some ⟨g, 0, none⟩), .agg (evtR x).toArray] W (StepC w0 W g ⟨w.now, w.limit, w.delay, w.cut, ⟨⟨w.a.node.id, w.a.node.term, false, w.a.node.log, w.a.node.acked, 0⟩, true, 0⟩, w.b, w.mail⟩ M m) := by
 have HC := Lib.hid h
 have HA := Lib.hid ha
 have HU := Lib.hid hu
 clear hu
 have HE := Lib.hid (fun (V : World) (hx : Ext ((W.alloc (.cells #[.pointer (some ⟨g, 0, none⟩)] 167)).alloc (.cells (evtR x).toArray 89)) V) => (EvtAt.new (W.heap.size + 1) (by simp) x 89).mono hx)
 have HST := Lib.hid (fun (V : World) (hx : Ext ((W.alloc (.cells #[.pointer (some ⟨g, 0, none⟩)] 167)).alloc (.cells (evtR x).toArray 89)) V) => (show V.cell? ⟨W.heap.size + 1, 2, none⟩ = some (.int .i64 1) from by have := (HE.out V hx).station; rw [hs] at this; exact this))
 clear hs
 clear h ha
 go_enter Tryz.func121, Tryz.ntmps121
 go_wp2_with (first
  | (go_at_call 154; refine (tak_own _ rfl _ _ _).mono ?_; rintro e w' ⟨rfl, rfl⟩)
  | (go_at_call 155; refine (tak_hap1_4a (g := g) (w0 := w0) (fun V hx => tak_hap4_a_false (HC.out.mono (by repeat (first | exact Ext.refl _ | assumption | apply Ext.xt | apply Ext.alloc | apply Ext.drew | apply Ext.drewN | refine Ext.trans ?_ (by assumption)))) HU.out) (by simp [go_sem]) (by simp [go_sem]) (HST.out _ (ex))).mono ?_; rintro e w' ⟨rfl, hS⟩))
 (first | go_end0 | (refine bodyPost_ret (results_none rfl _ _ _) rfl ?_))
 exact StepC.of (by exact ex) ⟨rfl, hS⟩
theorem tak_happen_1b (h : WldC w0 W g w A a B b M m) {x : Evt} (ha : AcnAt w0 x.act) (hk : x.kind = 1) (hs : x.station = 2) : Calls Tryz.prog 121 #[.pointer (some ⟨g, 0, none⟩), .agg (evtR x).toArray] W (StepC w0 W g ⟨w.now, w.limit, w.delay, w.cut, w.a, ⟨w.b.node, false, w.b.quiet⟩, w.mail⟩ M m) := by
 have HC := Lib.hid h
 have HA := Lib.hid ha
 have HE := Lib.hid (fun (V : World) (hx : Ext ((W.alloc (.cells #[.pointer (some ⟨g, 0, none⟩)] 167)).alloc (.cells (evtR x).toArray 89)) V) => (EvtAt.new (W.heap.size + 1) (by simp) x 89).mono hx)
 have HST := Lib.hid (fun (V : World) (hx : Ext ((W.alloc (.cells #[.pointer (some ⟨g, 0, none⟩)] 167)).alloc (.cells (evtR x).toArray 89)) V) => (show V.cell? ⟨W.heap.size + 1, 2, none⟩ = some (.int .i64 2) from by have := (HE.out V hx).station; rw [hs] at this; exact this))
 clear hs
 clear h ha
 go_enter Tryz.func121, Tryz.ntmps121
 go_wp2_with (first
  | (go_at_call 154; refine (tak_own _ rfl _ _ _).mono ?_; rintro e w' ⟨rfl, rfl⟩)
  | (go_at_call 155; refine (tak_hap1_3b (g := g) (w0 := w0) (fun V hx => tak_hap3_b (HC.out.mono (by repeat (first | exact Ext.refl _ | assumption | apply Ext.xt | apply Ext.alloc | apply Ext.drew | apply Ext.drewN | refine Ext.trans ?_ (by assumption))))) (by simp [go_sem]) (by simp [go_sem]) (HST.out _ (ex))).mono ?_; rintro e w' ⟨rfl, hS⟩))
 (first | go_end0 | (refine bodyPost_ret (results_none rfl _ _ _) rfl ?_))
 exact StepC.of (by exact ex) ⟨rfl, hS⟩
theorem tak_happen_2b_true (h : WldC w0 W g w A a B b M m) {x : Evt} (ha : AcnAt w0 x.act) (hk : x.kind = 2) (hs : x.station = 2) (hu : w.b.up = true) : Calls Tryz.prog 121 #[.pointer (some ⟨g, 0, none⟩), .agg (evtR x).toArray] W (StepC w0 W g w M m) := by
 have HC := Lib.hid h
 have HA := Lib.hid ha
 have HU := Lib.hid hu
 clear hu
 have HE := Lib.hid (fun (V : World) (hx : Ext ((W.alloc (.cells #[.pointer (some ⟨g, 0, none⟩)] 167)).alloc (.cells (evtR x).toArray 89)) V) => (EvtAt.new (W.heap.size + 1) (by simp) x 89).mono hx)
 have HST := Lib.hid (fun (V : World) (hx : Ext ((W.alloc (.cells #[.pointer (some ⟨g, 0, none⟩)] 167)).alloc (.cells (evtR x).toArray 89)) V) => (show V.cell? ⟨W.heap.size + 1, 2, none⟩ = some (.int .i64 2) from by have := (HE.out V hx).station; rw [hs] at this; exact this))
 clear hs
 clear h ha
 go_enter Tryz.func121, Tryz.ntmps121
 go_wp2_with (first
  | (go_at_call 154; refine (tak_own _ rfl _ _ _).mono ?_; rintro e w' ⟨rfl, rfl⟩)
  | (go_at_call 155; refine (tak_hap1_4b (g := g) (w0 := w0) (fun V hx => tak_hap4_b_true (HC.out.mono (by repeat (first | exact Ext.refl _ | assumption | apply Ext.xt | apply Ext.alloc | apply Ext.drew | apply Ext.drewN | refine Ext.trans ?_ (by assumption)))) HU.out) (by simp [go_sem]) (by simp [go_sem]) (HST.out _ (ex))).mono ?_; rintro e w' ⟨rfl, hS⟩))
 (first | go_end0 | (refine bodyPost_ret (results_none rfl _ _ _) rfl ?_))
 exact StepC.of (by exact ex) ⟨rfl, hS⟩
theorem tak_happen_2b_false (h : WldC w0 W g w A a B b M m) {x : Evt} (ha : AcnAt w0 x.act) (hk : x.kind = 2) (hs : x.station = 2) (hu : w.b.up = false) : Calls Tryz.prog 121 #[.pointer (some ⟨g, 0, none⟩), .agg (evtR x).toArray] W (StepC w0 W g ⟨w.now, w.limit, w.delay, w.cut, w.a, ⟨⟨w.b.node.id, w.b.node.term, false, w.b.node.log, w.b.node.acked, 0⟩, true, 0⟩, w.mail⟩ M m) := by
 have HC := Lib.hid h
 have HA := Lib.hid ha
 have HU := Lib.hid hu
 clear hu
 have HE := Lib.hid (fun (V : World) (hx : Ext ((W.alloc (.cells #[.pointer (some ⟨g, 0, none⟩)] 167)).alloc (.cells (evtR x).toArray 89)) V) => (EvtAt.new (W.heap.size + 1) (by simp) x 89).mono hx)
 have HST := Lib.hid (fun (V : World) (hx : Ext ((W.alloc (.cells #[.pointer (some ⟨g, 0, none⟩)] 167)).alloc (.cells (evtR x).toArray 89)) V) => (show V.cell? ⟨W.heap.size + 1, 2, none⟩ = some (.int .i64 2) from by have := (HE.out V hx).station; rw [hs] at this; exact this))
 clear hs
 clear h ha
 go_enter Tryz.func121, Tryz.ntmps121
 go_wp2_with (first
  | (go_at_call 154; refine (tak_own _ rfl _ _ _).mono ?_; rintro e w' ⟨rfl, rfl⟩)
  | (go_at_call 155; refine (tak_hap1_4b (g := g) (w0 := w0) (fun V hx => tak_hap4_b_false (HC.out.mono (by repeat (first | exact Ext.refl _ | assumption | apply Ext.xt | apply Ext.alloc | apply Ext.drew | apply Ext.drewN | refine Ext.trans ?_ (by assumption)))) HU.out) (by simp [go_sem]) (by simp [go_sem]) (HST.out _ (ex))).mono ?_; rintro e w' ⟨rfl, hS⟩))
 (first | go_end0 | (refine bodyPost_ret (results_none rfl _ _ _) rfl ?_))
 exact StepC.of (by exact ex) ⟨rfl, hS⟩
theorem tak_happen_3 (h : WldC w0 W g w A a B b M m) {x : Evt} (ha : AcnAt w0 x.act) (hk : x.kind = 3) : Calls Tryz.prog 121 #[.pointer (some ⟨g, 0, none⟩), .agg (evtR x).toArray] W (StepC w0 W g ⟨w.now, w.limit, w.delay, true, w.a, w.b, w.mail⟩ M m) := by
 have HC := Lib.hid h
 have HA := Lib.hid ha
 have HE := Lib.hid (fun (V : World) (hx : Ext ((W.alloc (.cells #[.pointer (some ⟨g, 0, none⟩)] 167)).alloc (.cells (evtR x).toArray 89)) V) => (EvtAt.new (W.heap.size + 1) (by simp) x 89).mono hx)
 clear h ha
 go_enter Tryz.func121, Tryz.ntmps121
 go_wp2_with (first
  | (go_at_call 154; refine (tak_own _ rfl _ _ _).mono ?_; rintro e w' ⟨rfl, rfl⟩)
  | (go_at_call 159; refine (tak_hap5 (HC.out.mono (ex)) (by simp [go_sem])).mono ?_; rintro e w' ⟨rfl, hS⟩))
 (first | go_end0 | (refine bodyPost_ret (results_none rfl _ _ _) rfl ?_))
 exact StepC.of (by exact ex) ⟨rfl, hS⟩
theorem tak_happen_4 (h : WldC w0 W g w A a B b M m) {x : Evt} (ha : AcnAt w0 x.act) (hk : x.kind = 4) : Calls Tryz.prog 121 #[.pointer (some ⟨g, 0, none⟩), .agg (evtR x).toArray] W (StepC w0 W g ⟨w.now, w.limit, w.delay, false, w.a, w.b, w.mail⟩ M m) := by
 have HC := Lib.hid h
 have HA := Lib.hid ha
 have HE := Lib.hid (fun (V : World) (hx : Ext ((W.alloc (.cells #[.pointer (some ⟨g, 0, none⟩)] 167)).alloc (.cells (evtR x).toArray 89)) V) => (EvtAt.new (W.heap.size + 1) (by simp) x 89).mono hx)
 clear h ha
 go_enter Tryz.func121, Tryz.ntmps121
 go_wp2_with (first
  | (go_at_call 154; refine (tak_own _ rfl _ _ _).mono ?_; rintro e w' ⟨rfl, rfl⟩)
  | (go_at_call 160; refine (tak_hap6 (HC.out.mono (ex)) (by simp [go_sem])).mono ?_; rintro e w' ⟨rfl, hS⟩))
 (first | go_end0 | (refine bodyPost_ret (results_none rfl _ _ _) rfl ?_))
 exact StepC.of (by exact ex) ⟨rfl, hS⟩
theorem tak_happen_5 (h : WldC w0 W g w A a B b M m) {x : Evt} (ha : AcnAt w0 x.act) (hk : x.kind = 5) : Calls Tryz.prog 121 #[.pointer (some ⟨g, 0, none⟩), .agg (evtR x).toArray] W (StepC w0 W g ⟨w.now, w.limit, x.delay, w.cut, w.a, w.b, w.mail⟩ M m) := by
 have HC := Lib.hid h
 have HA := Lib.hid ha
 have HE := Lib.hid (fun (V : World) (hx : Ext ((W.alloc (.cells #[.pointer (some ⟨g, 0, none⟩)] 167)).alloc (.cells (evtR x).toArray 89)) V) => (EvtAt.new (W.heap.size + 1) (by simp) x 89).mono hx)
 clear h ha
 go_enter Tryz.func121, Tryz.ntmps121
 go_wp2_with (first
  | (go_at_call 154; refine (tak_own _ rfl _ _ _).mono ?_; rintro e w' ⟨rfl, rfl⟩)
  | (go_at_call 161; refine (tak_hap7 (HC.out.mono (ex)) (by simp [go_sem]) (HE.out _ (ex))).mono ?_; rintro e w' ⟨rfl, hS⟩))
 (first | go_end0 | (refine bodyPost_ret (results_none rfl _ _ _) rfl ?_))
 exact StepC.of (by exact ex) ⟨rfl, hS⟩
theorem happenW_st (x : Evt) {i : Int} (hk : x.kind ≤ 2) (hs : x.station = i) : happenW w x = setS w i (happenS (getS w i) x) := by unfold happenW; rw [if_pos hk, hs]
theorem happenS_0 (s : Sta) (x : Evt) (hk : x.kind = 0) : happenS s x = if s.up = true ∧ (actV s.node x.act).2 = 0 then ⟨(actV s.node x.act).1, s.up, s.quiet⟩ else s := by unfold happenS; rw [if_pos hk]
theorem happenS_1 (s : Sta) (x : Evt) (hk : x.kind = 1) : happenS s x = ⟨s.node, false, s.quiet⟩ := by unfold happenS; rw [if_neg (by omega), if_pos hk]
theorem happenS_2 (s : Sta) (x : Evt) (hk : x.kind = 2) : happenS s x = if s.up = true then s else ⟨⟨s.node.id, s.node.term, false, s.node.log, s.node.acked, 0⟩, true, 0⟩ := by unfold happenS; rw [if_neg (by omega), if_neg (by omega)]
theorem tak_happen (h : WldC w0 W g w A a B b M m) {x : Evt} (ha : AcnAt w0 x.act) (hx : EvtOk x) : Calls Tryz.prog 121 #[.pointer (some ⟨g, 0, none⟩), .agg (evtR x).toArray] W (StepC w0 W g (happenW w x) M m) := by
 have h0 := hx.k0
 have h1 := hx.k1
 by_cases hk2 : x.kind ≤ 2
 ·obtain ⟨s1, s2⟩ := hx.st hk2
  have hs : x.station = 1 ∨ x.station = 2 := by omega
  have hk : x.kind = 0 ∨ x.kind = 1 ∨ x.kind = 2 := by omega
  rcases hs with hs | hs
  ·have e := happenW_st (w := w) x hk2 hs
   rw [getS_1, setS_1] at e
   rcases hk with hk | hk | hk
   ·rw [happenS_0 _ _ hk] at e
    obtain ⟨n, er, hv⟩ : ∃ n er, actV w.a.node x.act = (n, er) := ⟨_, _, rfl⟩
    rw [hv] at e
    refine tak_happen_0a h ha hk hs hv rfl (fun hu her => ?_) (fun hc => ?_)
    ·rw [e, if_pos ⟨hu, her⟩, hu]
    ·rw [e, if_neg hc]
   ·rw [happenS_1 _ _ hk] at e
    rw [e]; exact tak_happen_1a h ha hk hs
   ·rw [happenS_2 _ _ hk] at e
    cases hu : w.a.up with
    | true =>
     rw [if_pos hu] at e
     rw [e]; exact tak_happen_2a_true h ha hk hs hu
    | false =>
     rw [if_neg (by rw [hu]; simp)] at e
     rw [e]; exact tak_happen_2a_false h ha hk hs hu
  ·have e := happenW_st (w := w) x hk2 hs
   rw [getS_2, setS_2] at e
   rcases hk with hk | hk | hk
   ·rw [happenS_0 _ _ hk] at e
    obtain ⟨n, er, hv⟩ : ∃ n er, actV w.b.node x.act = (n, er) := ⟨_, _, rfl⟩
    rw [hv] at e
    refine tak_happen_0b h ha hk hs hv rfl (fun hu her => ?_) (fun hc => ?_)
    ·rw [e, if_pos ⟨hu, her⟩, hu]
    ·rw [e, if_neg hc]
   ·rw [happenS_1 _ _ hk] at e
    rw [e]; exact tak_happen_1b h ha hk hs
   ·rw [happenS_2 _ _ hk] at e
    cases hu : w.b.up with
    | true =>
     rw [if_pos hu] at e
     rw [e]; exact tak_happen_2b_true h ha hk hs hu
    | false =>
     rw [if_neg (by rw [hu]; simp)] at e
     rw [e]; exact tak_happen_2b_false h ha hk hs hu
 ·have hk : x.kind = 3 ∨ x.kind = 4 ∨ x.kind = 5 := by omega
  have e : happenW w x = if x.kind = 3 then ⟨w.now, w.limit, w.delay, true, w.a, w.b, w.mail⟩ else if x.kind = 4 then ⟨w.now, w.limit, w.delay, false, w.a, w.b, w.mail⟩ else ⟨w.now, w.limit, x.delay, w.cut, w.a, w.b, w.mail⟩ := by unfold happenW; rw [if_neg hk2]
  rcases hk with hk | hk | hk
  ·rw [if_pos hk] at e; rw [e]; exact tak_happen_3 h ha hk
  ·rw [if_neg (by omega), if_pos hk] at e; rw [e]; exact tak_happen_4 h ha hk
  ·rw [if_neg (by omega), if_neg (by omega)] at e; rw [e]; exact tak_happen_5 h ha hk
end
end Go.Proofs.YtmhinhgflehkaaaGreat
