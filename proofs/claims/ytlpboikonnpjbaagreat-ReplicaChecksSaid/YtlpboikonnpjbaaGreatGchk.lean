/-
  Arguments opened: two nodes of chapter 54 in an array.
-/
import Derived.Test.YtlpboikonnpjbaaGreatGrpr
import Derived.OpenShut
import Derived.Test.YtlpboikonnpjbaaGreatGact
import Derived.Test.YtlpboikonnpjbaaGreatGrpn
import Derived.Test.YtlpboikonnpjbaaGreatGrpj
import Derived.Test.YtlpboikonnpjbaaGreatGrpm
namespace Go.Proofs.YtlpboikonnpjbaaGreat
open Go.ChangeShapes Go.WideShapes Go.ChangeAt Go.RowKit Go.Joins Go.Deep

section
variable {H : Type} {enc : TypeId × Value → H} {P : Program} {w : World} {base : Nat} {spare : Nat → Bool} {held : Bool} {r : Reach} {b0 : Nat}
theorem okWide_array {t e : TypeId} {n : Nat} {v : Value} (ht : P.underlying t = some (.array n e)) (h : Value.okWide P w r b0 t v) : ∃ cs, v = .agg cs ∧ cs.size = P.cellsOf t := by
  simp only [Value.okWide, ht] at h
  obtain ⟨cs, h1, h2, _⟩ := h
  exact ⟨cs, h1, h2⟩
theorem weights_mem_all {e : TypeId} : ∀ {ds : List (DataW H)} {j : Nat} {d : DataW H}, ds[j]? = some d → ∀ n ∈ d.weights P e, n ∈ DataW.weightsAll P e ds
  | [], j, d, h, _, _ => by simp at h
  | x :: xs, 0, d, h, n, hn => by
    obtain rfl : x = d := by simpa using h
    simp only [DataW.weightsAll, List.mem_append]
    exact Or.inl hn
  | x :: xs, j + 1, d, h, n, hn => by
    simp only [DataW.weightsAll, List.mem_append]
    exact Or.inr (weights_mem_all (ds := xs) (j := j) (by simpa using h) n hn)
/-- An array's element: what it reads as, and its weights. -/
theorem elem_weights {t e : TypeId} {n : Nat} (hu : P.underlying t = some (.array n e)) {cs : Array Value} {d : DataW H} {p : List MemPlace} (h : DataW.Trod enc P w base spare held t (.agg cs) d p) {j : Nat} (hj : j < n) :
    ∃ (m : Nat) (y : DataW H × List MemPlace), DataW.trod enc P w base spare held m e ((cs.toList.drop (j * P.cellsOf e)).take (P.cellsOf e)) = some y ∧ ∀ x ∈ y.1.weights P e, x ∈ d.weights P t := by
  obtain ⟨fuel, h⟩ := h
  have hc : (Value.agg cs).cells.toList = cs.toList := rfl
  rw [hc] at h
  obtain ⟨xs, m, -, hx, -, hl, hg⟩ := DataW.trod_array hu h
  have hy : xs[j]? = some (xs[j]'(by omega)) := List.getElem?_eq_getElem (by omega)
  refine ⟨m, xs[j]'(by omega), by rw [hg j hj, hy], fun x hx2 => ?_⟩
  have : d = .agg (xs.map (·.1)) := by injection hx
  subst this
  simp only [DataW.weights, hu]
  exact weights_mem_all (j := j) (by rw [List.getElem?_map, hy]; rfl) x hx2
end
section
variable {H : Type} {enc : TypeId × Value → H} {w : World} {base : Nat} {spare : Nat → Bool} {held : Bool} {r : Reach} {b0 : Nat} {v : Value} {d : DataW H} {p : List MemPlace}
theorem cells_Nod : Tryz.prog.cellsOf 55 = 6 := by kernel_rfl
theorem cells_Pair : Tryz.prog.cellsOf 97 = 12 := by kernel_rfl
set_option maxRecDepth 100000 in
theorem open_pair (hv : Value.okWide Tryz.prog w r b0 97 v) (h : DataW.Trod enc Tryz.prog w base spare held 97 v d p) :
    ∃ (a : Nod) (A : Option Addr) (c : Nat) (b : Nod) (B : Option Addr) (k : Nat), v = .agg #[.int .i64 a.id, .int .i64 a.term, .bool a.speaks, .slice A a.log.length c, .int .i64 a.acked, .int .i64 a.next, .int .i64 b.id, .int .i64 b.term, .bool b.speaks, .slice B b.log.length k, .int .i64 b.acked, .int .i64 b.next] ∧ RecsAt w A c a.log ∧ RecsAt w B k b.log ∧
      ((∀ x ∈ d.weights Tryz.prog 97, x ≤ reachBytes) → a.log.length * 552 ≤ 140737488355328 ∧ b.log.length * 552 ≤ 140737488355328) := by
  obtain ⟨cs, rfl, hsz⟩ := okWide_array Tryz.underlying97 hv
  rw [cells_Pair] at hsz
  obtain ⟨m0, y0, h0, g0⟩ := elem_weights Tryz.underlying97 h (j := 0) (by decide)
  obtain ⟨m1, y1, h1, g1⟩ := elem_weights Tryz.underlying97 h (j := 1) (by decide)
  rw [cells_Nod] at h0 h1
  have hlen : cs.toList.length = 12 := by simpa using hsz
  obtain ⟨l0, q0⟩ := open_leaves 6 _ [3, 3, 4, 53, 3, 3] m0 _ y0 (by kernel_rfl) (by rw [cells_Nod]; simp [hlen]) h0
  obtain ⟨l1, q1⟩ := open_leaves 6 _ [3, 3, 4, 53, 3, 3] m1 _ y1 (by kernel_rfl) (by rw [cells_Nod]; simp [hlen]) h1
  obtain ⟨a, A, c, e0, r0⟩ := node_of l0 q0
  obtain ⟨b, B, k, e1, r1⟩ := node_of l1 q1
  have e0' : (cs.toList.drop (0 * 6)).take 6 = [.int .i64 a.id, .int .i64 a.term, .bool a.speaks, .slice A a.log.length c, .int .i64 a.acked, .int .i64 a.next] := by have := congrArg Array.toList e0; simpa using this
  have e1' : (cs.toList.drop (1 * 6)).take 6 = [.int .i64 b.id, .int .i64 b.term, .bool b.speaks, .slice B b.log.length k, .int .i64 b.acked, .int .i64 b.next] := by have := congrArg Array.toList e1; simpa using this
  have hcs : cs.toList = [.int .i64 a.id, .int .i64 a.term, .bool a.speaks, .slice A a.log.length c, .int .i64 a.acked, .int .i64 a.next] ++ [.int .i64 b.id, .int .i64 b.term, .bool b.speaks, .slice B b.log.length k, .int .i64 b.acked, .int .i64 b.next] := by
    rw [← e0', ← e1']
    have h2 : (cs.toList.drop (1 * 6)).take 6 = cs.toList.drop 6 := List.take_of_length_le (by simp [hlen])
    rw [h2]
    exact (List.take_append_drop 6 cs.toList).symm
  have t0 : DataW.Trod enc Tryz.prog w base spare held 55 (.agg #[.int .i64 a.id, .int .i64 a.term, .bool a.speaks, .slice A a.log.length c, .int .i64 a.acked, .int .i64 a.next]) y0.1 y0.2 := ⟨m0, by rw [e0'] at h0; exact h0⟩
  have t1 : DataW.Trod enc Tryz.prog w base spare held 55 (.agg #[.int .i64 b.id, .int .i64 b.term, .bool b.speaks, .slice B b.log.length k, .int .i64 b.acked, .int .i64 b.next]) y1.1 y1.2 := ⟨m1, by rw [e1'] at h1; exact h1⟩
  refine ⟨a, A, c, b, B, k, ?_, r0, r1, fun hr => ⟨node_reach t0 (fun x hx => hr x (g0 x hx)), node_reach t1 (fun x hx => hr x (g1 x hx))⟩⟩
  have h3 := congrArg List.toArray hcs
  simp only [Array.toArray_toList] at h3
  rw [h3]
  rfl
end
end Go.Proofs.YtlpboikonnpjbaaGreat

/-
  ReplicaChecks.
-/
namespace Go.Proofs.YtlpboikonnpjbaaGreat
open Go.RowKit

theorem few_pair (a : Nod) (A : Option Addr) (c : Nat) (b : Nod) (B : Option Addr) (d : Nat) (X : Option Addr) (W : World) (hs : Sl W X 6 ([(a, A, c), (b, B, d)].map nodR)) (h1 : RecsAt W A c a.log) (h2 : RecsAt W B d b.log) (hb1 : a.log.length * 552 ≤ 140737488355328) (hb2 : b.log.length * 552 ≤ 140737488355328) :
    Calls Tryz.prog 17 #[.slice X 2 2] W (FewNs W [(a, A, c), (b, B, d)]) := by
  refine l54_few X 2 [(a, A, c), (b, B, d)] W hs (by simp) (fun x hx => ?_) (fun x hx => ?_)
  · simp only [List.mem_cons, List.not_mem_nil, or_false] at hx
    rcases hx with rfl | rfl
    · exact h1
    · exact h2
  · simp only [List.mem_cons, List.not_mem_nil, or_false] at hx
    rcases hx with rfl | rfl
    · exact hb1
    · exact hb2
theorem newV_log (id : Int) : (newV id).1.log = [] := by unfold newV; split <;> rfl
section
variable (a : Nod) (A : Option Addr) (c : Nat) (b : Nod) (B : Option Addr) (d : Nat) (m : Msg) (M : Option Addr) (q : Nat) (id : Int) (w : World) (hs : RecsAt w A c a.log) (hm : RecsAt w B d b.log) (hg : RecsAt w M q m.recs) (hb1 : a.log.length * 552 ≤ 140737488355328) (hb2 : b.log.length * 552 ≤ 140737488355328) (hb3 : m.recs.length * 552 ≤ 140737488355328)
include hs hm hg hb1 hb2 hb3
set_option maxHeartbeats 6400000 in
set_option maxRecDepth 100000 in
theorem l54_Checks : Calls Tryz.prog 7 #[.agg #[.int .i64 a.id, .int .i64 a.term, .bool a.speaks, .slice A a.log.length c, .int .i64 a.acked, .int .i64 a.next, .int .i64 b.id, .int .i64 b.term, .bool b.speaks, .slice B b.log.length d, .int .i64 b.acked, .int .i64 b.next], .agg #[.int .i64 m.kind, .int .i64 m.term, .int .i64 m.at_, .int .i64 m.before, .slice M m.recs.length q, .int .i64 m.acked], .int .i64 id] w fun e w' => e = .returned (.bool true) ∧ Ext w w' := by
  have HS := Lib.hid hs
  have HM := Lib.hid hm
  have HG := Lib.hid hg
  have hla := hs.len
  have hlb := hm.len
  have hlm := hg.len
  obtain ⟨⟨x1, e1⟩, hv1⟩ : ∃ v, newV id = v := ⟨_, rfl⟩
  have hxl : x1.log = [] := by have := newV_log id; rwa [hv1] at this
  have he1 : ∀ r ∈ x1.log, AcnAt w r.act := by rw [hxl]; simp
  have hb4 : x1.log.length * 552 ≤ 140737488355328 := by rw [hxl]; simp
  have HE1 := Lib.hid he1
  have HN1 := Lib.hid (fun (W : World) => (rep_New id W).mono fun _ _ h => RetNod.parts (w0 := w) h hv1 he1)
  have HN2 := Lib.hid (fun (W : World) => (r54_New id W).mono fun _ _ h => RetNod.parts (w0 := w) h hv1 he1)
  obtain ⟨sb, hsb⟩ : ∃ s, sameN a b = s := ⟨_, rfl⟩
  obtain ⟨en, hen⟩ : ∃ s, nodE a = s := ⟨_, rfl⟩
  obtain ⟨em, hem⟩ : ∃ s, msgE m = s := ⟨_, rfl⟩
  have HP1 := Lib.hid (fun (W : World) (hx : Ext w W) => by have := rep_Same a b A c B d W (hs.mono hx) (hm.mono hx); rwa [hsb] at this)
  have HP2 := Lib.hid (fun (W : World) (D : Option Addr) (K : Nat) (E : Option Addr) (J : Nat) (h1 : RecsAt W D K a.log) (h2 : RecsAt W E J b.log) => by have := r54_Same a b D K E J W h1 h2; rwa [hsb] at this)
  have HP3 := Lib.hid (fun (W : World) (hx : Ext w W) => by have := rep_Same a a A c A c W (hs.mono hx) (hs.mono hx); rwa [sameN_refl] at this)
  have HC1 := Lib.hid (fun (W : World) (hx : Ext w W) => by have := rep_Check a A c W (hs.mono hx); rwa [hen] at this)
  have HC2 := Lib.hid (fun (W : World) (D : Option Addr) (K : Nat) (h1 : RecsAt W D K a.log) => by have := r54_Check a D K W h1; rwa [hen] at this)
  have HR1 := Lib.hid (fun (W : World) (hx : Ext w W) => by have := rep_Right m M q W (hg.mono hx); rwa [hem] at this)
  have HR2 := Lib.hid (fun (W : World) (D : Option Addr) (K : Nat) (h1 : RecsAt W D K m.recs) => by have := r54_Right m D K W h1; rwa [hem] at this)
  clear hv1 hxl he1 hsb hen hem hs hm hg
  go_enter Tryz.func7, Tryz.ntmps7
  go_wp2_with (first
    | (go_at_call 17; refine (few_pair a A c b B d _ _ (Sl.alloc' (by simp [go_sem]) (by simp [nodR]) (by simp [nodR])) (HS.out.mono (by repeat (first | exact Ext.refl _ | assumption | apply Ext.xt | apply Ext.alloc | apply Ext.drew | apply Ext.drewN))) (HM.out.mono (by repeat (first | exact Ext.refl _ | assumption | apply Ext.xt | apply Ext.alloc | apply Ext.drew | apply Ext.drewN))) hb1 hb2).mono ?_; rintro e w' ⟨⟨bb, rfl, hbb⟩, hx⟩; have HBB := Lib.hid hbb; obtain ⟨ya, rfl⟩ := hx.get; clear hx hbb)
    | (go_at_call 19; refine (l54_records M q m.recs _ (HG.out.mono (by repeat (first | exact Ext.refl _ | assumption | apply Ext.xt | apply Ext.alloc | apply Ext.drew | apply Ext.drewN))) hb3).mono ?_; rintro e w' ⟨D, n', rfl, hx, hown⟩; have HO := Lib.hid hown; obtain ⟨yc, rfl⟩ := hx.get; clear hx hown)
    | (go_at_call 18; refine (r54_FewRecords D n' _ m.recs rfl _ (Own.recs (HO.out.mono (by repeat (first | exact Ext.refl _ | assumption | apply Ext.xt | apply Ext.alloc | apply Ext.drew | apply Ext.drewN))) rfl (fun r hr => (HG.out.el r hr).mono (by repeat (first | exact Ext.refl _ | assumption | apply Ext.xt | apply Ext.alloc | apply Ext.drew | apply Ext.drewN))))).mono ?_; rintro e w' ⟨⟨b2, rfl, -⟩, hx⟩; obtain ⟨yd, rfl⟩ := hx.get; clear hx)
    | (go_at_call 20; refine (l54_awake _).mono ?_; rintro e w' ⟨rfl, hx⟩; obtain ⟨y, rfl⟩ := hx.get; clear hx))
  all_goals try (go_ret; exact ⟨rfl, by repeat (first | exact Ext.refl _ | assumption | apply Ext.xt | apply Ext.alloc | apply Ext.drew | apply Ext.drewN)⟩)
  go_at_call 41; refine (HN1.out _).mono ?_; rintro e w' ⟨D, K, rfl, hx, hl⟩; have HLa := Lib.hid hl; obtain ⟨ye, rfl⟩ := hx.get; clear hx hl
  go_wp2_with fail
  go_at_call 42; refine (HN2.out _).mono ?_; rintro e w' ⟨D2, K2, rfl, hx, hl⟩; have HLb := Lib.hid hl; obtain ⟨yf, rfl⟩ := hx.get; clear hx hl
  go_wp2_with fail
  refine wp_name (fun W9 hW9 => ?_)
  have k3 : BoxAt W9 w.heap.size [.int .i64 a.id, .int .i64 a.term, .bool a.speaks, .slice A a.log.length c, .int .i64 a.acked, .int .i64 a.next, .int .i64 b.id, .int .i64 b.term, .bool b.speaks, .slice B b.log.length d, .int .i64 b.acked, .int .i64 b.next] 97 := by rw [hW9]; exact (by repeat (first | exact BoxAt.new (by first | rfl | (simp [go_sem]; done) | (simp [go_sem]; omega)) _ _ | apply BoxAt.xt | apply BoxAt.drew | apply BoxAt.drewN | apply BoxAt.alloc))
  have k4 : BoxAt W9 (w.heap.size + 1) [.int .i64 m.kind, .int .i64 m.term, .int .i64 m.at_, .int .i64 m.before, .slice M m.recs.length q, .int .i64 m.acked] 57 := by rw [hW9]; exact (by repeat (first | exact BoxAt.new (by first | rfl | (simp [go_sem]; done) | (simp [go_sem]; omega)) _ _ | apply BoxAt.xt | apply BoxAt.drew | apply BoxAt.drewN | apply BoxAt.alloc))
  have k7 : BoxAt W9 (w.heap.size + 1 + 1 + 1 + ya.n + yc.n + yd.n + ye.n) [.int .i64 x1.id, .int .i64 x1.term, .bool x1.speaks, .slice D x1.log.length K, .int .i64 x1.acked, .int .i64 x1.next] 55 := by rw [hW9]; exact (by repeat (first | exact BoxAt.new (by first | rfl | (simp [go_sem]; done) | (simp [go_sem]; omega)) _ _ | apply BoxAt.xt | apply BoxAt.drew | apply BoxAt.drewN | apply BoxAt.alloc))
  have k9 : BoxAt W9 (w.heap.size + 1 + 1 + 1 + ya.n + yc.n + yd.n + ye.n + 1 + yf.n) [.int .i64 x1.id, .int .i64 x1.term, .bool x1.speaks, .slice D2 x1.log.length K2, .int .i64 x1.acked, .int .i64 x1.next] 65 := by rw [hW9]; exact (by repeat (first | exact BoxAt.new (by first | rfl | (simp [go_sem]; done) | (simp [go_sem]; omega)) _ _ | apply BoxAt.xt | apply BoxAt.drew | apply BoxAt.drewN | apply BoxAt.alloc))
  have hex : Ext w W9 := by rw [hW9]; exact (by repeat (first | exact Ext.refl _ | assumption | apply Ext.xt | apply Ext.alloc | apply Ext.drew | apply Ext.drewN))
  have l7 : LogW w W9 D x1.log.length K x1.log := by rw [hW9]; exact HLa.out.mono (by repeat (first | exact Ext.refl _ | assumption | apply Ext.xt | apply Ext.alloc | apply Ext.drew | apply Ext.drewN))
  have l9 : LogW w W9 D2 x1.log.length K2 x1.log := by rw [hW9]; exact HLb.out.mono (by repeat (first | exact Ext.refl _ | assumption | apply Ext.xt | apply Ext.alloc | apply Ext.drew | apply Ext.drewN))
  clear hW9 HLa HLb
  obtain ⟨c0, c1, c2, c3, c4, c5⟩ := k7.six
  obtain ⟨d0, d1, d2, d3, d4, d5⟩ := k9.six
  obtain ⟨m0, m1, m2, m3, m4, m5⟩ := k4.six
  have p0 := k3.cell (i := 0) rfl
  have p1 := k3.cell (i := 1) rfl
  have p2 := k3.cell (i := 2) rfl
  have p3 := k3.cell (i := 3) rfl
  have p4 := k3.cell (i := 4) rfl
  have p5 := k3.cell (i := 5) rfl
  have p6 := k3.cell (i := 6) rfl
  have p7 := k3.cell (i := 7) rfl
  have p8 := k3.cell (i := 8) rfl
  have p9 := k3.cell (i := 9) rfl
  have p10 := k3.cell (i := 10) rfl
  have p11 := k3.cell (i := 11) rfl
  refine wp_region_stab 33 [] [Stab.is (.agg #[.int .i64 x1.id, .int .i64 x1.term, .bool x1.speaks, .slice D x1.log.length K, .int .i64 x1.acked, .int .i64 x1.next]), Stab.nodS x1, Stab.is (.agg #[.int .i64 x1.id, .int .i64 x1.term, .bool x1.speaks, .slice D2 x1.log.length K2, .int .i64 x1.acked, .int .i64 x1.next]), Stab.is (.bool true), Stab.is (.bool false), Stab.is (.bool false), Stab.is (.int .i64 e1), Stab.is (.int .i64 e1), Stab.is (.bool false), Stab.is (.bool false), Stab.is (.bool false), Stab.is (.pointer (some ⟨w.heap.size, 0, none⟩)), Stab.is (.agg #[.int .i64 a.id, .int .i64 a.term, .bool a.speaks, .slice A a.log.length c, .int .i64 a.acked, .int .i64 a.next]), Stab.is (.pointer (some ⟨w.heap.size, 6, none⟩)), Stab.is (.agg #[.int .i64 b.id, .int .i64 b.term, .bool b.speaks, .slice B b.log.length d, .int .i64 b.acked, .int .i64 b.next]), Stab.is (.bool sb), Stab.is (.pointer (some ⟨w.heap.size, 0, none⟩)), Stab.is (.agg #[.int .i64 a.id, .int .i64 a.term, .bool a.speaks, .slice A a.log.length c, .int .i64 a.acked, .int .i64 a.next]), Stab.nodS a, Stab.is (.pointer (some ⟨w.heap.size, 6, none⟩)), Stab.is (.agg #[.int .i64 b.id, .int .i64 b.term, .bool b.speaks, .slice B b.log.length d, .int .i64 b.acked, .int .i64 b.next]), Stab.nodS b, Stab.is (.bool sb), Stab.is (.bool false), Stab.is (.bool false), Stab.is (.bool false), Stab.is (.pointer (some ⟨w.heap.size, 0, none⟩)), Stab.is (.agg #[.int .i64 a.id, .int .i64 a.term, .bool a.speaks, .slice A a.log.length c, .int .i64 a.acked, .int .i64 a.next]), Stab.is (.pointer (some ⟨w.heap.size, 0, none⟩)), Stab.is (.agg #[.int .i64 a.id, .int .i64 a.term, .bool a.speaks, .slice A a.log.length c, .int .i64 a.acked, .int .i64 a.next]), Stab.is (.bool true), Stab.is (.bool false), Stab.is (.bool false)] (fun u => by (simp only [putAll, List.take_succ_cons, List.take_zero, Act.put, Nat.zero_add, Nat.reduceAdd]); (try simp only [List.setIfInBounds_toArray]); (repeat (first | simp only [List.set_cons_succ] | simp only [List.set_cons_zero])); exact rfl) (by kernel_rfl) (by kernel_rfl) (fun _ _ _ _ _ h => h) ?_ ?_
  · refine ⟨?_, ?_, ?_, ?_, ?_, ?_, ?_, ?_, ?_, ?_, ?_, ?_, ?_, ?_, ?_, ?_, ?_, ?_, ?_, ?_, ?_, ?_, ?_, ?_, ?_, ?_, ?_, ?_, ?_, ?_, ?_, ?_, ?_, trivial⟩
    · (show SlotA _ _ _ _ _ _ _); intro u w1 hx1 hd; obtain ⟨y9, rfl⟩ := hx1.get; clear hx1
      refine slot_run rfl rfl rfl ?_; intro K9 hK
      go_simp; exact hK _ _ rfl (by repeat (first | exact Ext.refl _ | assumption | apply Ext.xt | apply Ext.alloc | apply Ext.drew | apply Ext.drewN)) rfl
    · (show SlotA _ _ _ _ _ _ _); intro u w1 hx1 hd; obtain ⟨y9, rfl⟩ := hx1.get; clear hx1
      have e0 : u 0 = .agg #[.int .i64 x1.id, .int .i64 x1.term, .bool x1.speaks, .slice D x1.log.length K, .int .i64 x1.acked, .int .i64 x1.next] := hd 0 (by kernel_rfl)
      simp only [e0]
      refine slot_run rfl rfl rfl ?_; intro K9 hK
      go_simp; go_at_call 23; refine (l54_Of x1 D K _ (l7.recs hex (by repeat (first | exact Ext.refl _ | assumption | apply Ext.xt | apply Ext.alloc | apply Ext.drew | apply Ext.drewN))) hb4).mono ?_; rintro e w' ⟨D, K, rfl, hx, hown⟩; exact hK _ _ rfl hx ⟨D, K, rfl, Own.recs hown rfl (fun r hr => (HE1.out r hr).mono (hex.trans (Ext.trans (by repeat (first | exact Ext.refl _ | assumption | apply Ext.xt | apply Ext.alloc | apply Ext.drew | apply Ext.drewN)) hx)))⟩
    · (show SlotA _ _ _ _ _ _ _); intro u w1 hx1 hd; obtain ⟨y9, rfl⟩ := hx1.get; clear hx1
      refine slot_run rfl rfl rfl ?_; intro K9 hK
      go_simp; exact hK _ _ rfl (by repeat (first | exact Ext.refl _ | assumption | apply Ext.xt | apply Ext.alloc | apply Ext.drew | apply Ext.drewN)) rfl
    · (show SlotA _ _ _ _ _ _ _); intro u w1 hx1 hd; obtain ⟨y9, rfl⟩ := hx1.get; clear hx1
      obtain ⟨D1, K1, e1, h1⟩ := hd 1 (by kernel_rfl)
      have e2 : u 2 = .agg #[.int .i64 x1.id, .int .i64 x1.term, .bool x1.speaks, .slice D2 x1.log.length K2, .int .i64 x1.acked, .int .i64 x1.next] := hd 2 (by kernel_rfl)
      simp only [e1, e2]
      refine slot_run rfl rfl rfl ?_; intro K9 hK
      go_simp; go_at_call 25; refine (r54_Same_me x1 D1 K1 D2 K2 _ (h1.mono (by repeat (first | exact Ext.refl _ | assumption | apply Ext.xt | apply Ext.alloc | apply Ext.drew | apply Ext.drewN))) (l9.recs hex (by repeat (first | exact Ext.refl _ | assumption | apply Ext.xt | apply Ext.alloc | apply Ext.drew | apply Ext.drewN)))).mono ?_; rintro e w' ⟨rfl, hx⟩; exact hK _ _ rfl hx rfl
    · (show SlotA _ _ _ _ _ _ _); intro u w1 hx1 hd; obtain ⟨y9, rfl⟩ := hx1.get; clear hx1
      have e3 : u 3 = .bool true := hd 3 (by kernel_rfl)
      simp only [e3]
      refine slot_run rfl rfl rfl ?_; intro K9 hK
      go_simp; exact hK _ _ rfl (by repeat (first | exact Ext.refl _ | assumption | apply Ext.xt | apply Ext.alloc | apply Ext.drew | apply Ext.drewN)) rfl
    · (show SlotA _ _ _ _ _ _ _); intro u w1 hx1 hd; obtain ⟨y9, rfl⟩ := hx1.get; clear hx1
      have e4 : u 4 = .bool false := hd 4 (by kernel_rfl)
      simp only [e4]
      refine slot_run rfl rfl rfl ?_; intro K9 hK
      go_simp; exact hK _ _ rfl (by repeat (first | exact Ext.refl _ | assumption | apply Ext.xt | apply Ext.alloc | apply Ext.drew | apply Ext.drewN)) rfl
    · (show SlotA _ _ _ _ _ _ _); intro u w1 hx1 hd; obtain ⟨y9, rfl⟩ := hx1.get; clear hx1
      have e5 : u 5 = .bool false := hd 5 (by kernel_rfl)
      simp only [e5]
      refine slot_run rfl rfl rfl ?_; intro K9 hK
      go_simp; exact hK _ _ rfl (by repeat (first | exact Ext.refl _ | assumption | apply Ext.xt | apply Ext.alloc | apply Ext.drew | apply Ext.drewN)) rfl
    · (show SlotA _ _ _ _ _ _ _); intro u w1 hx1 hd; obtain ⟨y9, rfl⟩ := hx1.get; clear hx1
      have e5 : u 5 = .bool false := hd 5 (by kernel_rfl)
      simp only [e5]
      refine slot_run rfl rfl rfl ?_; intro K9 hK
      go_simp; exact hK _ _ rfl (by repeat (first | exact Ext.refl _ | assumption | apply Ext.xt | apply Ext.alloc | apply Ext.drew | apply Ext.drewN)) rfl
    · (show SlotA _ _ _ _ _ _ _); intro u w1 hx1 hd; obtain ⟨y9, rfl⟩ := hx1.get; clear hx1
      have e5 : u 5 = .bool false := hd 5 (by kernel_rfl)
      have e6 : u 6 = .int .i64 e1 := hd 6 (by kernel_rfl)
      have e7 : u 7 = .int .i64 e1 := hd 7 (by kernel_rfl)
      simp only [e5, e6, e7]
      refine slot_run rfl rfl rfl ?_; intro K9 hK
      go_simp; exact hK _ _ rfl (by repeat (first | exact Ext.refl _ | assumption | apply Ext.xt | apply Ext.alloc | apply Ext.drew | apply Ext.drewN)) rfl
    · (show SlotA _ _ _ _ _ _ _); intro u w1 hx1 hd; obtain ⟨y9, rfl⟩ := hx1.get; clear hx1
      have e5 : u 5 = .bool false := hd 5 (by kernel_rfl)
      have e8 : u 8 = .bool false := hd 8 (by kernel_rfl)
      simp only [e5, e8]
      refine slot_run rfl rfl rfl ?_; intro K9 hK
      go_simp; exact hK _ _ rfl (by repeat (first | exact Ext.refl _ | assumption | apply Ext.xt | apply Ext.alloc | apply Ext.drew | apply Ext.drewN)) rfl
    · (show SlotA _ _ _ _ _ _ _); intro u w1 hx1 hd; obtain ⟨y9, rfl⟩ := hx1.get; clear hx1
      have e9 : u 9 = .bool false := hd 9 (by kernel_rfl)
      simp only [e9]
      refine slot_run rfl rfl rfl ?_; intro K9 hK
      go_simp; exact hK _ _ rfl (by repeat (first | exact Ext.refl _ | assumption | apply Ext.xt | apply Ext.alloc | apply Ext.drew | apply Ext.drewN)) rfl
    · (show SlotA _ _ _ _ _ _ _); intro u w1 hx1 hd; obtain ⟨y9, rfl⟩ := hx1.get; clear hx1
      have e10 : u 10 = .bool false := hd 10 (by kernel_rfl)
      simp only [e10]
      refine slot_run rfl rfl rfl ?_; intro K9 hK
      go_simp; exact hK _ _ rfl (by repeat (first | exact Ext.refl _ | assumption | apply Ext.xt | apply Ext.alloc | apply Ext.drew | apply Ext.drewN)) rfl
    · (show SlotA _ _ _ _ _ _ _); intro u w1 hx1 hd; obtain ⟨y9, rfl⟩ := hx1.get; clear hx1
      have e10 : u 10 = .bool false := hd 10 (by kernel_rfl)
      have e11 : u 11 = .pointer (some ⟨w.heap.size, 0, none⟩) := hd 11 (by kernel_rfl)
      simp only [e10, e11]
      refine slot_run rfl rfl rfl ?_; intro K9 hK
      go_simp; exact hK _ _ rfl (by repeat (first | exact Ext.refl _ | assumption | apply Ext.xt | apply Ext.alloc | apply Ext.drew | apply Ext.drewN)) rfl
    · (show SlotA _ _ _ _ _ _ _); intro u w1 hx1 hd; obtain ⟨y9, rfl⟩ := hx1.get; clear hx1
      have e10 : u 10 = .bool false := hd 10 (by kernel_rfl)
      simp only [e10]
      refine slot_run rfl rfl rfl ?_; intro K9 hK
      go_simp; exact hK _ _ rfl (by repeat (first | exact Ext.refl _ | assumption | apply Ext.xt | apply Ext.alloc | apply Ext.drew | apply Ext.drewN)) rfl
    · (show SlotA _ _ _ _ _ _ _); intro u w1 hx1 hd; obtain ⟨y9, rfl⟩ := hx1.get; clear hx1
      have e10 : u 10 = .bool false := hd 10 (by kernel_rfl)
      have e13 : u 13 = .pointer (some ⟨w.heap.size, 6, none⟩) := hd 13 (by kernel_rfl)
      simp only [e10, e13]
      refine slot_run rfl rfl rfl ?_; intro K9 hK
      go_simp; exact hK _ _ rfl (by repeat (first | exact Ext.refl _ | assumption | apply Ext.xt | apply Ext.alloc | apply Ext.drew | apply Ext.drewN)) rfl
    · (show SlotA _ _ _ _ _ _ _); intro u w1 hx1 hd; obtain ⟨y9, rfl⟩ := hx1.get; clear hx1
      have e10 : u 10 = .bool false := hd 10 (by kernel_rfl)
      have e12 : u 12 = .agg #[.int .i64 a.id, .int .i64 a.term, .bool a.speaks, .slice A a.log.length c, .int .i64 a.acked, .int .i64 a.next] := hd 12 (by kernel_rfl)
      have e14 : u 14 = .agg #[.int .i64 b.id, .int .i64 b.term, .bool b.speaks, .slice B b.log.length d, .int .i64 b.acked, .int .i64 b.next] := hd 14 (by kernel_rfl)
      simp only [e10, e12, e14]
      refine slot_run rfl rfl rfl ?_; intro K9 hK
      go_simp; go_at_call 43; refine (HP1.out _ (hex.trans (by repeat (first | exact Ext.refl _ | assumption | apply Ext.xt | apply Ext.alloc | apply Ext.drew | apply Ext.drewN)))).mono ?_; rintro e w' ⟨rfl, hx⟩; exact hK _ _ rfl hx rfl
    · (show SlotA _ _ _ _ _ _ _); intro u w1 hx1 hd; obtain ⟨y9, rfl⟩ := hx1.get; clear hx1
      have e10 : u 10 = .bool false := hd 10 (by kernel_rfl)
      simp only [e10]
      refine slot_run rfl rfl rfl ?_; intro K9 hK
      go_simp; exact hK _ _ rfl (by repeat (first | exact Ext.refl _ | assumption | apply Ext.xt | apply Ext.alloc | apply Ext.drew | apply Ext.drewN)) rfl
    · (show SlotA _ _ _ _ _ _ _); intro u w1 hx1 hd; obtain ⟨y9, rfl⟩ := hx1.get; clear hx1
      have e10 : u 10 = .bool false := hd 10 (by kernel_rfl)
      have e16 : u 16 = .pointer (some ⟨w.heap.size, 0, none⟩) := hd 16 (by kernel_rfl)
      simp only [e10, e16]
      refine slot_run rfl rfl rfl ?_; intro K9 hK
      go_simp; exact hK _ _ rfl (by repeat (first | exact Ext.refl _ | assumption | apply Ext.xt | apply Ext.alloc | apply Ext.drew | apply Ext.drewN)) rfl
    · (show SlotA _ _ _ _ _ _ _); intro u w1 hx1 hd; obtain ⟨y9, rfl⟩ := hx1.get; clear hx1
      have e10 : u 10 = .bool false := hd 10 (by kernel_rfl)
      have e17 : u 17 = .agg #[.int .i64 a.id, .int .i64 a.term, .bool a.speaks, .slice A a.log.length c, .int .i64 a.acked, .int .i64 a.next] := hd 17 (by kernel_rfl)
      simp only [e10, e17]
      refine slot_run rfl rfl rfl ?_; intro K9 hK
      go_simp; go_at_call 23; refine (l54_Of a A c _ ((HS.out.mono hex).mono (by repeat (first | exact Ext.refl _ | assumption | apply Ext.xt | apply Ext.alloc | apply Ext.drew | apply Ext.drewN))) hb1).mono ?_; rintro e w' ⟨D, K, rfl, hx, hown⟩; exact hK _ _ rfl hx ⟨D, K, rfl, Own.recs hown rfl (fun r hr => (HS.out.el r hr).mono (hex.trans (Ext.trans (by repeat (first | exact Ext.refl _ | assumption | apply Ext.xt | apply Ext.alloc | apply Ext.drew | apply Ext.drewN)) hx)))⟩
    · (show SlotA _ _ _ _ _ _ _); intro u w1 hx1 hd; obtain ⟨y9, rfl⟩ := hx1.get; clear hx1
      have e10 : u 10 = .bool false := hd 10 (by kernel_rfl)
      simp only [e10]
      refine slot_run rfl rfl rfl ?_; intro K9 hK
      go_simp; exact hK _ _ rfl (by repeat (first | exact Ext.refl _ | assumption | apply Ext.xt | apply Ext.alloc | apply Ext.drew | apply Ext.drewN)) rfl
    · (show SlotA _ _ _ _ _ _ _); intro u w1 hx1 hd; obtain ⟨y9, rfl⟩ := hx1.get; clear hx1
      have e10 : u 10 = .bool false := hd 10 (by kernel_rfl)
      have e19 : u 19 = .pointer (some ⟨w.heap.size, 6, none⟩) := hd 19 (by kernel_rfl)
      simp only [e10, e19]
      refine slot_run rfl rfl rfl ?_; intro K9 hK
      go_simp; exact hK _ _ rfl (by repeat (first | exact Ext.refl _ | assumption | apply Ext.xt | apply Ext.alloc | apply Ext.drew | apply Ext.drewN)) rfl
    · (show SlotA _ _ _ _ _ _ _); intro u w1 hx1 hd; obtain ⟨y9, rfl⟩ := hx1.get; clear hx1
      have e10 : u 10 = .bool false := hd 10 (by kernel_rfl)
      have e20 : u 20 = .agg #[.int .i64 b.id, .int .i64 b.term, .bool b.speaks, .slice B b.log.length d, .int .i64 b.acked, .int .i64 b.next] := hd 20 (by kernel_rfl)
      simp only [e10, e20]
      refine slot_run rfl rfl rfl ?_; intro K9 hK
      go_simp; go_at_call 23; refine (l54_Of b B d _ ((HM.out.mono hex).mono (by repeat (first | exact Ext.refl _ | assumption | apply Ext.xt | apply Ext.alloc | apply Ext.drew | apply Ext.drewN))) hb2).mono ?_; rintro e w' ⟨D, K, rfl, hx, hown⟩; exact hK _ _ rfl hx ⟨D, K, rfl, Own.recs hown rfl (fun r hr => (HM.out.el r hr).mono (hex.trans (Ext.trans (by repeat (first | exact Ext.refl _ | assumption | apply Ext.xt | apply Ext.alloc | apply Ext.drew | apply Ext.drewN)) hx)))⟩
    · (show SlotA _ _ _ _ _ _ _); intro u w1 hx1 hd; obtain ⟨y9, rfl⟩ := hx1.get; clear hx1
      have e10 : u 10 = .bool false := hd 10 (by kernel_rfl)
      obtain ⟨D18, K18, e18, h18⟩ := hd 18 (by kernel_rfl)
      obtain ⟨D21, K21, e21, h21⟩ := hd 21 (by kernel_rfl)
      simp only [e10, e18, e21]
      refine slot_run rfl rfl rfl ?_; intro K9 hK
      go_simp; go_at_call 25; refine (HP2.out _ D18 K18 D21 K21 (h18.mono (by repeat (first | exact Ext.refl _ | assumption | apply Ext.xt | apply Ext.alloc | apply Ext.drew | apply Ext.drewN))) (h21.mono (by repeat (first | exact Ext.refl _ | assumption | apply Ext.xt | apply Ext.alloc | apply Ext.drew | apply Ext.drewN)))).mono ?_; rintro e w' ⟨rfl, hx⟩; exact hK _ _ rfl hx rfl
    · (show SlotA _ _ _ _ _ _ _); intro u w1 hx1 hd; obtain ⟨y9, rfl⟩ := hx1.get; clear hx1
      have e10 : u 10 = .bool false := hd 10 (by kernel_rfl)
      have e15 : u 15 = .bool sb := hd 15 (by kernel_rfl)
      have e22 : u 22 = .bool sb := hd 22 (by kernel_rfl)
      simp only [e10, e15, e22]
      refine slot_run rfl rfl rfl ?_; intro K9 hK
      cases sb <;> (go_simp; exact hK _ _ rfl (by repeat (first | exact Ext.refl _ | assumption | apply Ext.xt | apply Ext.alloc | apply Ext.drew | apply Ext.drewN)) rfl)
    · (show SlotA _ _ _ _ _ _ _); intro u w1 hx1 hd; obtain ⟨y9, rfl⟩ := hx1.get; clear hx1
      have e10 : u 10 = .bool false := hd 10 (by kernel_rfl)
      have e23 : u 23 = .bool false := hd 23 (by kernel_rfl)
      simp only [e10, e23]
      refine slot_run rfl rfl rfl ?_; intro K9 hK
      go_simp; exact hK _ _ rfl (by repeat (first | exact Ext.refl _ | assumption | apply Ext.xt | apply Ext.alloc | apply Ext.drew | apply Ext.drewN)) rfl
    · (show SlotA _ _ _ _ _ _ _); intro u w1 hx1 hd; obtain ⟨y9, rfl⟩ := hx1.get; clear hx1
      have e24 : u 24 = .bool false := hd 24 (by kernel_rfl)
      simp only [e24]
      refine slot_run rfl rfl rfl ?_; intro K9 hK
      go_simp; exact hK _ _ rfl (by repeat (first | exact Ext.refl _ | assumption | apply Ext.xt | apply Ext.alloc | apply Ext.drew | apply Ext.drewN)) rfl
    · (show SlotA _ _ _ _ _ _ _); intro u w1 hx1 hd; obtain ⟨y9, rfl⟩ := hx1.get; clear hx1
      have e25 : u 25 = .bool false := hd 25 (by kernel_rfl)
      simp only [e25]
      refine slot_run rfl rfl rfl ?_; intro K9 hK
      go_simp; exact hK _ _ rfl (by repeat (first | exact Ext.refl _ | assumption | apply Ext.xt | apply Ext.alloc | apply Ext.drew | apply Ext.drewN)) rfl
    · (show SlotA _ _ _ _ _ _ _); intro u w1 hx1 hd; obtain ⟨y9, rfl⟩ := hx1.get; clear hx1
      have e25 : u 25 = .bool false := hd 25 (by kernel_rfl)
      have e26 : u 26 = .pointer (some ⟨w.heap.size, 0, none⟩) := hd 26 (by kernel_rfl)
      simp only [e25, e26]
      refine slot_run rfl rfl rfl ?_; intro K9 hK
      go_simp; exact hK _ _ rfl (by repeat (first | exact Ext.refl _ | assumption | apply Ext.xt | apply Ext.alloc | apply Ext.drew | apply Ext.drewN)) rfl
    · (show SlotA _ _ _ _ _ _ _); intro u w1 hx1 hd; obtain ⟨y9, rfl⟩ := hx1.get; clear hx1
      have e25 : u 25 = .bool false := hd 25 (by kernel_rfl)
      simp only [e25]
      refine slot_run rfl rfl rfl ?_; intro K9 hK
      go_simp; exact hK _ _ rfl (by repeat (first | exact Ext.refl _ | assumption | apply Ext.xt | apply Ext.alloc | apply Ext.drew | apply Ext.drewN)) rfl
    · (show SlotA _ _ _ _ _ _ _); intro u w1 hx1 hd; obtain ⟨y9, rfl⟩ := hx1.get; clear hx1
      have e25 : u 25 = .bool false := hd 25 (by kernel_rfl)
      have e28 : u 28 = .pointer (some ⟨w.heap.size, 0, none⟩) := hd 28 (by kernel_rfl)
      simp only [e25, e28]
      refine slot_run rfl rfl rfl ?_; intro K9 hK
      go_simp; exact hK _ _ rfl (by repeat (first | exact Ext.refl _ | assumption | apply Ext.xt | apply Ext.alloc | apply Ext.drew | apply Ext.drewN)) rfl
    · (show SlotA _ _ _ _ _ _ _); intro u w1 hx1 hd; obtain ⟨y9, rfl⟩ := hx1.get; clear hx1
      have e25 : u 25 = .bool false := hd 25 (by kernel_rfl)
      have e27 : u 27 = .agg #[.int .i64 a.id, .int .i64 a.term, .bool a.speaks, .slice A a.log.length c, .int .i64 a.acked, .int .i64 a.next] := hd 27 (by kernel_rfl)
      have e29 : u 29 = .agg #[.int .i64 a.id, .int .i64 a.term, .bool a.speaks, .slice A a.log.length c, .int .i64 a.acked, .int .i64 a.next] := hd 29 (by kernel_rfl)
      simp only [e25, e27, e29]
      refine slot_run rfl rfl rfl ?_; intro K9 hK
      go_simp; go_at_call 43; refine (HP3.out _ (hex.trans (by repeat (first | exact Ext.refl _ | assumption | apply Ext.xt | apply Ext.alloc | apply Ext.drew | apply Ext.drewN)))).mono ?_; rintro e w' ⟨rfl, hx⟩; exact hK _ _ rfl hx rfl
    · (show SlotA _ _ _ _ _ _ _); intro u w1 hx1 hd; obtain ⟨y9, rfl⟩ := hx1.get; clear hx1
      have e25 : u 25 = .bool false := hd 25 (by kernel_rfl)
      have e30 : u 30 = .bool true := hd 30 (by kernel_rfl)
      simp only [e25, e30]
      refine slot_run rfl rfl rfl ?_; intro K9 hK
      go_simp; exact hK _ _ rfl (by repeat (first | exact Ext.refl _ | assumption | apply Ext.xt | apply Ext.alloc | apply Ext.drew | apply Ext.drewN)) rfl
    · (show SlotA _ _ _ _ _ _ _); intro u w1 hx1 hd; obtain ⟨y9, rfl⟩ := hx1.get; clear hx1
      have e25 : u 25 = .bool false := hd 25 (by kernel_rfl)
      have e31 : u 31 = .bool false := hd 31 (by kernel_rfl)
      simp only [e25, e31]
      refine slot_run rfl rfl rfl ?_; intro K9 hK
      go_simp; exact hK _ _ rfl (by repeat (first | exact Ext.refl _ | assumption | apply Ext.xt | apply Ext.alloc | apply Ext.drew | apply Ext.drewN)) rfl
  · intro u w2 hx2 hT; obtain ⟨t0, t1, t2, t3, t4, t5, t6, t7, t8, t9, t10, t11, t12, t13, t14, t15, t16, t17, t18, t19, t20, t21, t22, t23, t24, t25, t26, t27, t28, t29, t30, t31, t32, -⟩ := hT; obtain ⟨y9, rfl⟩ := hx2.get; clear hx2
    have e32 : u 32 = .bool false := t32
    simp only [e32]
    clear e32 t0 t1 t2 t3 t4 t5 t6 t7 t8 t9 t10 t11 t12 t13 t14 t15 t16 t17 t18 t19 t20 t21 t22 t23 t24 t25 t26 t27 t28 t29 t30 t31 t32
    simp only [List.drop_succ_cons, List.drop_zero]
    refine wpList_nil ?_
    clear c0 c1 c2 c3 c4 c5 d0 d1 d2 d3 d4 d5
    go_wp2_with fail
    refine wp_name (fun W2 hW2 => ?_)
    have hex2 : Ext W9 W2 := by rw [hW2]; exact (by repeat (first | exact Ext.refl _ | assumption | apply Ext.xt | apply Ext.alloc | apply Ext.drew | apply Ext.drewN))
    have n4 := (k4.mono hex2).six
    have n3 := k3.mono hex2
    have hexb := hex.trans hex2
    clear hW2 m0 m1 m2 m3 m4 m5 p0 p1 p2 p3 p4 p5 p6 p7 p8 p9 p10 p11
    obtain ⟨m0, m1, m2, m3, m4, m5⟩ := n4
    have p0 := n3.cell (i := 0) rfl
    have p1 := n3.cell (i := 1) rfl
    have p2 := n3.cell (i := 2) rfl
    have p3 := n3.cell (i := 3) rfl
    have p4 := n3.cell (i := 4) rfl
    have p5 := n3.cell (i := 5) rfl
    have p6 := n3.cell (i := 6) rfl
    have p7 := n3.cell (i := 7) rfl
    have p8 := n3.cell (i := 8) rfl
    have p9 := n3.cell (i := 9) rfl
    have p10 := n3.cell (i := 10) rfl
    have p11 := n3.cell (i := 11) rfl
    refine wp_region_stab 19 [] [Stab.is (.pointer (some ⟨w.heap.size, 0, none⟩)), Stab.is (.agg #[.int .i64 a.id, .int .i64 a.term, .bool a.speaks, .slice A a.log.length c, .int .i64 a.acked, .int .i64 a.next]), Stab.is (.int .i64 en), Stab.is (.pointer (some ⟨w.heap.size, 0, none⟩)), Stab.is (.agg #[.int .i64 a.id, .int .i64 a.term, .bool a.speaks, .slice A a.log.length c, .int .i64 a.acked, .int .i64 a.next]), Stab.nodS a, Stab.is (.int .i64 en), Stab.is (.bool true), Stab.is (.bool true), Stab.is (.agg #[.int .i64 m.kind, .int .i64 m.term, .int .i64 m.at_, .int .i64 m.before, .slice M m.recs.length q, .int .i64 m.acked]), Stab.is (.int .i64 em), Stab.is (.agg #[.int .i64 m.kind, .int .i64 m.term, .int .i64 m.at_, .int .i64 m.before, .slice M m.recs.length q, .int .i64 m.acked]), Stab.msg m, Stab.is (.int .i64 em), Stab.is (.bool true), Stab.is (.bool true), Stab.is (.bool true), Stab.is (.bool true), Stab.is (.bool true)] (fun u => by (simp only [putAll, List.take_succ_cons, List.take_zero, Act.put, Nat.zero_add, Nat.reduceAdd]); (try simp only [List.setIfInBounds_toArray]); (repeat (first | simp only [List.set_cons_succ] | simp only [List.set_cons_zero])); exact rfl) (by kernel_rfl) (by kernel_rfl) (fun _ _ _ _ _ h => h) ?_ ?_
    · refine ⟨?_, ?_, ?_, ?_, ?_, ?_, ?_, ?_, ?_, ?_, ?_, ?_, ?_, ?_, ?_, ?_, ?_, ?_, ?_, trivial⟩
      · (show SlotA _ _ _ _ _ _ _); intro u w1 hx1 hd; obtain ⟨y9, rfl⟩ := hx1.get; clear hx1
        refine slot_run rfl rfl rfl ?_; intro K9 hK
        go_simp; exact hK _ _ rfl (by repeat (first | exact Ext.refl _ | assumption | apply Ext.xt | apply Ext.alloc | apply Ext.drew | apply Ext.drewN)) rfl
      · (show SlotA _ _ _ _ _ _ _); intro u w1 hx1 hd; obtain ⟨y9, rfl⟩ := hx1.get; clear hx1
        have e0 : u 0 = .pointer (some ⟨w.heap.size, 0, none⟩) := hd 0 (by kernel_rfl)
        simp only [e0]
        refine slot_run rfl rfl rfl ?_; intro K9 hK
        go_simp; exact hK _ _ rfl (by repeat (first | exact Ext.refl _ | assumption | apply Ext.xt | apply Ext.alloc | apply Ext.drew | apply Ext.drewN)) rfl
      · (show SlotA _ _ _ _ _ _ _); intro u w1 hx1 hd; obtain ⟨y9, rfl⟩ := hx1.get; clear hx1
        have e1 : u 1 = .agg #[.int .i64 a.id, .int .i64 a.term, .bool a.speaks, .slice A a.log.length c, .int .i64 a.acked, .int .i64 a.next] := hd 1 (by kernel_rfl)
        simp only [e1]
        refine slot_run rfl rfl rfl ?_; intro K9 hK
        go_simp; go_at_call 29; refine (HC1.out _ (hexb.trans (by repeat (first | exact Ext.refl _ | assumption | apply Ext.xt | apply Ext.alloc | apply Ext.drew | apply Ext.drewN)))).mono ?_; rintro e w' ⟨rfl, hx⟩; exact hK _ _ rfl hx rfl
      · (show SlotA _ _ _ _ _ _ _); intro u w1 hx1 hd; obtain ⟨y9, rfl⟩ := hx1.get; clear hx1
        refine slot_run rfl rfl rfl ?_; intro K9 hK
        go_simp; exact hK _ _ rfl (by repeat (first | exact Ext.refl _ | assumption | apply Ext.xt | apply Ext.alloc | apply Ext.drew | apply Ext.drewN)) rfl
      · (show SlotA _ _ _ _ _ _ _); intro u w1 hx1 hd; obtain ⟨y9, rfl⟩ := hx1.get; clear hx1
        have e3 : u 3 = .pointer (some ⟨w.heap.size, 0, none⟩) := hd 3 (by kernel_rfl)
        simp only [e3]
        refine slot_run rfl rfl rfl ?_; intro K9 hK
        go_simp; exact hK _ _ rfl (by repeat (first | exact Ext.refl _ | assumption | apply Ext.xt | apply Ext.alloc | apply Ext.drew | apply Ext.drewN)) rfl
      · (show SlotA _ _ _ _ _ _ _); intro u w1 hx1 hd; obtain ⟨y9, rfl⟩ := hx1.get; clear hx1
        have e4 : u 4 = .agg #[.int .i64 a.id, .int .i64 a.term, .bool a.speaks, .slice A a.log.length c, .int .i64 a.acked, .int .i64 a.next] := hd 4 (by kernel_rfl)
        simp only [e4]
        refine slot_run rfl rfl rfl ?_; intro K9 hK
        go_simp; go_at_call 23; refine (l54_Of a A c _ ((HS.out.mono hexb).mono (by repeat (first | exact Ext.refl _ | assumption | apply Ext.xt | apply Ext.alloc | apply Ext.drew | apply Ext.drewN))) hb1).mono ?_; rintro e w' ⟨D, K, rfl, hx, hown⟩; exact hK _ _ rfl hx ⟨D, K, rfl, Own.recs hown rfl (fun r hr => (HS.out.el r hr).mono (hexb.trans (Ext.trans (by repeat (first | exact Ext.refl _ | assumption | apply Ext.xt | apply Ext.alloc | apply Ext.drew | apply Ext.drewN)) hx)))⟩
      · (show SlotA _ _ _ _ _ _ _); intro u w1 hx1 hd; obtain ⟨y9, rfl⟩ := hx1.get; clear hx1
        obtain ⟨D5, K5, e5, h5⟩ := hd 5 (by kernel_rfl)
        simp only [e5]
        refine slot_run rfl rfl rfl ?_; intro K9 hK
        go_simp; go_at_call 27; refine (HC2.out _ D5 K5 (h5.mono (by repeat (first | exact Ext.refl _ | assumption | apply Ext.xt | apply Ext.alloc | apply Ext.drew | apply Ext.drewN)))).mono ?_; rintro e w' ⟨rfl, hx⟩; exact hK _ _ rfl hx rfl
      · (show SlotA _ _ _ _ _ _ _); intro u w1 hx1 hd; obtain ⟨y9, rfl⟩ := hx1.get; clear hx1
        have e2 : u 2 = .int .i64 en := hd 2 (by kernel_rfl)
        have e6 : u 6 = .int .i64 en := hd 6 (by kernel_rfl)
        simp only [e2, e6]
        refine slot_run rfl rfl rfl ?_; intro K9 hK
        go_simp; exact hK _ _ rfl (by repeat (first | exact Ext.refl _ | assumption | apply Ext.xt | apply Ext.alloc | apply Ext.drew | apply Ext.drewN)) rfl
      · (show SlotA _ _ _ _ _ _ _); intro u w1 hx1 hd; obtain ⟨y9, rfl⟩ := hx1.get; clear hx1
        have e7 : u 7 = .bool true := hd 7 (by kernel_rfl)
        simp only [e7]
        refine slot_run rfl rfl rfl ?_; intro K9 hK
        go_simp; exact hK _ _ rfl (by repeat (first | exact Ext.refl _ | assumption | apply Ext.xt | apply Ext.alloc | apply Ext.drew | apply Ext.drewN)) rfl
      · (show SlotA _ _ _ _ _ _ _); intro u w1 hx1 hd; obtain ⟨y9, rfl⟩ := hx1.get; clear hx1
        have e8 : u 8 = .bool true := hd 8 (by kernel_rfl)
        simp only [e8]
        refine slot_run rfl rfl rfl ?_; intro K9 hK
        go_simp; exact hK _ _ rfl (by repeat (first | exact Ext.refl _ | assumption | apply Ext.xt | apply Ext.alloc | apply Ext.drew | apply Ext.drewN)) rfl
      · (show SlotA _ _ _ _ _ _ _); intro u w1 hx1 hd; obtain ⟨y9, rfl⟩ := hx1.get; clear hx1
        have e8 : u 8 = .bool true := hd 8 (by kernel_rfl)
        have e9 : u 9 = .agg #[.int .i64 m.kind, .int .i64 m.term, .int .i64 m.at_, .int .i64 m.before, .slice M m.recs.length q, .int .i64 m.acked] := hd 9 (by kernel_rfl)
        simp only [e8, e9]
        refine slot_run rfl rfl rfl ?_; intro K9 hK
        go_simp; go_at_call 31; refine (HR1.out _ (hexb.trans (by repeat (first | exact Ext.refl _ | assumption | apply Ext.xt | apply Ext.alloc | apply Ext.drew | apply Ext.drewN)))).mono ?_; rintro e w' ⟨rfl, hx⟩; exact hK _ _ rfl hx rfl
      · (show SlotA _ _ _ _ _ _ _); intro u w1 hx1 hd; obtain ⟨y9, rfl⟩ := hx1.get; clear hx1
        have e8 : u 8 = .bool true := hd 8 (by kernel_rfl)
        simp only [e8]
        refine slot_run rfl rfl rfl ?_; intro K9 hK
        go_simp; exact hK _ _ rfl (by repeat (first | exact Ext.refl _ | assumption | apply Ext.xt | apply Ext.alloc | apply Ext.drew | apply Ext.drewN)) rfl
      · (show SlotA _ _ _ _ _ _ _); intro u w1 hx1 hd; obtain ⟨y9, rfl⟩ := hx1.get; clear hx1
        have e8 : u 8 = .bool true := hd 8 (by kernel_rfl)
        have e11 : u 11 = .agg #[.int .i64 m.kind, .int .i64 m.term, .int .i64 m.at_, .int .i64 m.before, .slice M m.recs.length q, .int .i64 m.acked] := hd 11 (by kernel_rfl)
        simp only [e8, e11]
        refine slot_run rfl rfl rfl ?_; intro K9 hK
        go_simp; go_at_call 24; refine (l54_Said m M q _ ((HG.out.mono hexb).mono (by repeat (first | exact Ext.refl _ | assumption | apply Ext.xt | apply Ext.alloc | apply Ext.drew | apply Ext.drewN))) hb3).mono ?_; rintro e w' ⟨D, K, rfl, hx, hown⟩; exact hK _ _ rfl hx ⟨D, K, rfl, Own.recs hown rfl (fun r hr => (HG.out.el r hr).mono (hexb.trans (Ext.trans (by repeat (first | exact Ext.refl _ | assumption | apply Ext.xt | apply Ext.alloc | apply Ext.drew | apply Ext.drewN)) hx)))⟩
      · (show SlotA _ _ _ _ _ _ _); intro u w1 hx1 hd; obtain ⟨y9, rfl⟩ := hx1.get; clear hx1
        have e8 : u 8 = .bool true := hd 8 (by kernel_rfl)
        obtain ⟨D12, K12, e12, h12⟩ := hd 12 (by kernel_rfl)
        simp only [e8, e12]
        refine slot_run rfl rfl rfl ?_; intro K9 hK
        go_simp; go_at_call 28; refine (HR2.out _ D12 K12 (h12.mono (by repeat (first | exact Ext.refl _ | assumption | apply Ext.xt | apply Ext.alloc | apply Ext.drew | apply Ext.drewN)))).mono ?_; rintro e w' ⟨rfl, hx⟩; exact hK _ _ rfl hx rfl
      · (show SlotA _ _ _ _ _ _ _); intro u w1 hx1 hd; obtain ⟨y9, rfl⟩ := hx1.get; clear hx1
        have e8 : u 8 = .bool true := hd 8 (by kernel_rfl)
        have e10 : u 10 = .int .i64 em := hd 10 (by kernel_rfl)
        have e13 : u 13 = .int .i64 em := hd 13 (by kernel_rfl)
        simp only [e8, e10, e13]
        refine slot_run rfl rfl rfl ?_; intro K9 hK
        go_simp; exact hK _ _ rfl (by repeat (first | exact Ext.refl _ | assumption | apply Ext.xt | apply Ext.alloc | apply Ext.drew | apply Ext.drewN)) rfl
      · (show SlotA _ _ _ _ _ _ _); intro u w1 hx1 hd; obtain ⟨y9, rfl⟩ := hx1.get; clear hx1
        have e8 : u 8 = .bool true := hd 8 (by kernel_rfl)
        have e14 : u 14 = .bool true := hd 14 (by kernel_rfl)
        simp only [e8, e14]
        refine slot_run rfl rfl rfl ?_; intro K9 hK
        go_simp; exact hK _ _ rfl (by repeat (first | exact Ext.refl _ | assumption | apply Ext.xt | apply Ext.alloc | apply Ext.drew | apply Ext.drewN)) rfl
      · (show SlotA _ _ _ _ _ _ _); intro u w1 hx1 hd; obtain ⟨y9, rfl⟩ := hx1.get; clear hx1
        have e15 : u 15 = .bool true := hd 15 (by kernel_rfl)
        simp only [e15]
        refine slot_run rfl rfl rfl ?_; intro K9 hK
        go_simp; exact hK _ _ rfl (by repeat (first | exact Ext.refl _ | assumption | apply Ext.xt | apply Ext.alloc | apply Ext.drew | apply Ext.drewN)) rfl
      · (show SlotA _ _ _ _ _ _ _); intro u w1 hx1 hd; obtain ⟨y9, rfl⟩ := hx1.get; clear hx1
        have e16 : u 16 = .bool true := hd 16 (by kernel_rfl)
        simp only [e16]
        refine slot_run rfl rfl rfl ?_; intro K9 hK
        go_simp; go_at_call 20; refine (l54_awake _).mono ?_; rintro e w' ⟨rfl, hx⟩; exact hK _ _ rfl hx rfl
      · (show SlotA _ _ _ _ _ _ _); intro u w1 hx1 hd; obtain ⟨y9, rfl⟩ := hx1.get; clear hx1
        have e16 : u 16 = .bool true := hd 16 (by kernel_rfl)
        have e17 : u 17 = .bool true := hd 17 (by kernel_rfl)
        simp only [e16, e17]
        refine slot_run rfl rfl rfl ?_; intro K9 hK
        go_simp; exact hK _ _ rfl (by repeat (first | exact Ext.refl _ | assumption | apply Ext.xt | apply Ext.alloc | apply Ext.drew | apply Ext.drewN)) rfl
    · intro u w2 hx2 hT; obtain ⟨t0, t1, t2, t3, t4, t5, t6, t7, t8, t9, t10, t11, t12, t13, t14, t15, t16, t17, t18, -⟩ := hT; obtain ⟨y9, rfl⟩ := hx2.get; clear hx2
      have e18 : u 18 = .bool true := t18
      simp only [e18]
      clear e18 t0 t1 t2 t3 t4 t5 t6 t7 t8 t9 t10 t11 t12 t13 t14 t15 t16 t17 t18
      simp only [List.drop_succ_cons, List.drop_zero]
      go_wp2
      go_ret
      exact ⟨rfl, hexb.trans (by repeat (first | exact Ext.refl _ | assumption | apply Ext.xt | apply Ext.alloc | apply Ext.drew | apply Ext.drewN))⟩
end
end Go.Proofs.YtlpboikonnpjbaaGreat
