/-
 Two nodes and their mail, in plain: what they do, and what holds of them whatever they do.
-/
import Derived.Test.YtmhinhgflehkaaaGreatGrag
import Derived.Test.YtmhinhgflehkaaaGreatGtkp
namespace Go.Proofs.YtmhinhgflehkaaaGreat

structure CW where
 n : Bool → Nod
 mail : Bool → List Msg
 time : Int
def setN (w : CW) (i : Bool) (x : Nod) : CW := ⟨fun j => if j = i then x else w.n j, w.mail, w.time⟩
def postM (w : CW) (i : Bool) (m : Msg) : CW := ⟨w.n, fun j => if j = i then w.mail j ++ [m] else w.mail j, w.time⟩
def setT (w : CW) (t : Int) : CW := ⟨w.n, w.mail, t⟩
def idOf (i : Bool) : Int := if i then 2 else 1
def Mat (G : Int → Option (List Rec)) (X : List Rec) : Prop := ∀ k r, X[k]? = some r → ∃ Y, G r.term = some Y ∧ X.take (k + 1) = Y.take (k + 1)
structure App (G : Int → Option (List Rec)) (i : Bool) (m : Msg) : Prop where
 own : ownB (idOf (!i)) m.term = true
 log : ∃ Y, G m.term = some Y ∧ m.at_.toNat + m.recs.length ≤ Y.length ∧ m.recs = (Y.drop m.at_.toNat).take m.recs.length ∧ (0 < m.at_ → m.before = termAt Y (m.at_ - 1))
structure Ackd (a b : Nod) (m : Msg) : Prop where
 old : m.term ≤ a.term
 log : a.speaks = true → a.term = m.term → m.at_ ≤ a.log.length ∧ m.at_ ≤ b.log.length ∧ a.log.take m.at_.toNat = b.log.take m.at_.toNat
structure Fine (G : Int → Option (List Rec)) (K : Nat) (t : Int) (X : List Rec) : Prop where
 len : X.length ≤ K
 mat : Mat G X
 time : ∀ r ∈ X, r.act.at_ ≤ t
structure Inv (G : Int → Option (List Rec)) (K : Nat) (w : CW) : Prop where
 node : ∀ i, NodOk (w.n i)
 id : ∀ i, (w.n i).id = idOf i
 now : ∀ i, (w.n i).speaks = true → G (w.n i).term = some (w.n i).log
 led : ∀ i T Y, G T = some Y → ownB (idOf i) T = true → T ≤ (w.n i).term
 gen : ∀ T Y, G T = some Y → 1 ≤ T ∧ RecsOk 1 T Y ∧ Fine G K w.time Y
 log : ∀ i, Fine G K w.time (w.n i).log
 pre : ∀ i T Y, G T = some Y → ownB (idOf i) T = true → (w.n (!i)).term ≤ T → Y <+: (w.n i).log
 com : ∀ i, (w.n i).acked ≤ (w.n (!i)).log.length ∧ (w.n i).log.take (w.n i).acked.toNat = (w.n (!i)).log.take (w.n i).acked.toNat
 terms : ∀ i, (w.n i).term ≤ 2 * K
 t0 : 0 ≤ w.time
 t1 : w.time ≤ 255 * K
 mail : ∀ i m, m ∈ w.mail i → MsgOk m ∧ m.term ≤ 2 * K ∧ (m.kind = 0 → App G i m) ∧ (m.kind = 1 → Ackd (w.n i) (w.n (!i)) m)

structure Next (G : Int → Option (List Rec)) (K : Nat) (w : CW) (i : Bool) (x : Nod) : Prop where
 node : NodOk x
 id : x.id = idOf i
 term : (w.n i).term ≤ x.term
 top : x.term ≤ 2 * K
 speaks : x.speaks = true → (w.n i).speaks = true ∧ x.term = (w.n i).term ∧ x.log = (w.n i).log
 log : Fine G K w.time x.log
 pre : ∀ T Y, G T = some Y → ownB (idOf i) T = true → (w.n (!i)).term ≤ T → Y <+: x.log
 com : x.acked ≤ (w.n (!i)).log.length ∧ x.log.take x.acked.toNat = (w.n (!i)).log.take x.acked.toNat
 safe : ∀ c : Int, 0 ≤ c → c ≤ (w.n i).log.length → (w.n i).log.take c.toNat = (w.n (!i)).log.take c.toNat → c ≤ (w.n (!i)).log.length → c ≤ x.log.length ∧ x.log.take c.toNat = (w.n i).log.take c.toNat
/-! ### To receive -/
structure Fits (Y L : List Rec) (m : Msg) (X : List Rec) : Prop where
 pre : X <+: Y ∨ X = L
 end_ : X.take (m.at_.toNat + m.recs.length) = Y.take (m.at_.toNat + m.recs.length)
 long : m.at_.toNat + m.recs.length ≤ X.length
 safe : ∀ c : Nat, c ≤ L.length → (∀ k, k < c → k < Y.length → L[k]? = Y[k]?) → c ≤ X.length ∧ X.take c = L.take c
 keep : keepN (L.drop m.at_.toNat) m.recs < m.recs.length → ∀ c : Nat, c ≤ L.length → (∀ k, k < c → k < Y.length → L[k]? = Y[k]?) → c ≤ m.at_.toNat + keepN (L.drop m.at_.toNat) m.recs
/-! ### To lead, to act, to send -/
def nextTerm (n : Nod) : Int := if (n.term + 1) % 2 = n.id % 2 then n.term + 1 else n.term + 2
def addG (G : Int → Option (List Rec)) (T : Int) (X : List Rec) : Int → Option (List Rec) := fun t => if t = T then some X else G t
end Go.Proofs.YtmhinhgflehkaaaGreat

/-
 Two nodes and their mail, in plain, without times: for chapter 55.
-/
namespace Go.Proofs.YtmhinhgflehkaaaGreat
namespace Tk

structure Fine (G : Int → Option (List Rec)) (X : List Rec) : Prop where
 len : X.length ≤ 256
 mat : Mat G X
structure Inv (G : Int → Option (List Rec)) (K : Nat) (w : CW) : Prop where
 node : ∀ i, NodOk (w.n i)
 id : ∀ i, (w.n i).id = idOf i
 now : ∀ i, (w.n i).speaks = true → G (w.n i).term = some (w.n i).log
 led : ∀ i T Y, G T = some Y → ownB (idOf i) T = true → T ≤ (w.n i).term
 gen : ∀ T Y, G T = some Y → 1 ≤ T ∧ RecsOk 1 T Y ∧ Fine G Y
 log : ∀ i, Fine G (w.n i).log
 pre : ∀ i T Y, G T = some Y → ownB (idOf i) T = true → (w.n (!i)).term ≤ T → Y <+: (w.n i).log
 com : ∀ i, (w.n i).acked ≤ (w.n (!i)).log.length ∧ (w.n i).log.take (w.n i).acked.toNat = (w.n (!i)).log.take (w.n i).acked.toNat
 terms : ∀ i, (w.n i).term ≤ 2 * K
 mail : ∀ i m, m ∈ w.mail i → MsgOk m ∧ m.term ≤ 2 * K ∧ (m.kind = 0 → App G i m) ∧ (m.kind = 1 → Ackd (w.n i) (w.n (!i)) m)

structure Next (G : Int → Option (List Rec)) (K : Nat) (w : CW) (i : Bool) (x : Nod) : Prop where
 node : NodOk x
 id : x.id = idOf i
 term : (w.n i).term ≤ x.term
 top : x.term ≤ 2 * K
 speaks : x.speaks = true → (w.n i).speaks = true ∧ x.term = (w.n i).term ∧ x.log = (w.n i).log
 log : Fine G x.log
 pre : ∀ T Y, G T = some Y → ownB (idOf i) T = true → (w.n (!i)).term ≤ T → Y <+: x.log
 com : x.acked ≤ (w.n (!i)).log.length ∧ x.log.take x.acked.toNat = (w.n (!i)).log.take x.acked.toNat
 safe : ∀ c : Int, 0 ≤ c → c ≤ (w.n i).log.length → (w.n i).log.take c.toNat = (w.n (!i)).log.take c.toNat → c ≤ (w.n (!i)).log.length → c ≤ x.log.length ∧ x.log.take c.toNat = (w.n i).log.take c.toNat
/-! ### To receive -/
structure Fits (Y L : List Rec) (m : Msg) (X : List Rec) : Prop where
 pre : X <+: Y ∨ X = L
 end_ : X.take (m.at_.toNat + m.recs.length) = Y.take (m.at_.toNat + m.recs.length)
 long : m.at_.toNat + m.recs.length ≤ X.length
 safe : ∀ c : Nat, c ≤ L.length → (∀ k, k < c → k < Y.length → L[k]? = Y[k]?) → c ≤ X.length ∧ X.take c = L.take c
 keep : keepN (L.drop m.at_.toNat) m.recs < m.recs.length → ∀ c : Nat, c ≤ L.length → (∀ k, k < c → k < Y.length → L[k]? = Y[k]?) → c ≤ m.at_.toNat + keepN (L.drop m.at_.toNat) m.recs
/-! ### To lead, to act, to send -/
def nextTerm (n : Nod) : Int := if (n.term + 1) % 2 = n.id % 2 then n.term + 1 else n.term + 2
def addG (G : Int → Option (List Rec)) (T : Int) (X : List Rec) : Int → Option (List Rec) := fun t => if t = T then some X else G t
end Tk
end Go.Proofs.YtmhinhgflehkaaaGreat

/-
 Chapter 55 in plain: whatever happens, what a station knows to be at both is at both, and is never lost.
-/
namespace Go.Proofs.YtmhinhgflehkaaaGreat

/-! ### Stations by a sign -/
def stn (w : Wld) (i : Bool) : Sta := if i then w.b else w.a
def putS (w : Wld) (i : Bool) (s : Sta) : Wld := if i then ⟨w.now, w.limit, w.delay, w.cut, w.a, s, w.mail⟩ else ⟨w.now, w.limit, w.delay, w.cut, s, w.b, w.mail⟩
structure NodTo (n x : Nod) : Prop where
 term : n.term ≤ x.term
 acked : n.acked ≤ x.acked
 log : x.log.take n.acked.toNat = n.log.take n.acked.toNat
 len : n.acked ≤ x.log.length
namespace Tk
def ltrsTo (i : Bool) (l : List Ltr) : List Msg := (l.filter fun x => decide (x.dst = idOf i)).map (·.msg)
def cwx (r : List Ltr) (w : Wld) : CW := ⟨fun i => (stn w i).node, fun i => ltrsTo i (r ++ w.mail), 0⟩
def WG (K : Nat) (r : List Ltr) (w : Wld) : Prop := ∃ G, Inv G K (cwx r w)
end Tk
end Go.Proofs.YtmhinhgflehkaaaGreat

/-
 Chapter 55 in plain: one station speaks, and the other one hears it.
-/
namespace Go.Proofs.YtmhinhgflehkaaaGreat
namespace Tk

def wt : List Ltr → Nat
 | [] => 0
 | x :: l => (if x.msg.kind = 0 then 2 else 1) + wt l
structure DelTo (j : Bool) (w w' : Wld) (x : Ltr) (q : Int) : Prop where
 now : w'.now = w.now
 limit : w'.limit = w.limit
 delay : w'.delay = w.delay
 cut : w'.cut = w.cut
 self : stn w' j = ⟨(recvV (stn w j).node x.msg).1, true, q⟩
 other : stn w' (!j) = stn w (!j)
 mail : w'.mail = w.mail ∨ ((recvV (stn w j).node x.msg).2.2.1 = true ∧ w'.mail = w.mail ++ [⟨idOf (!j), min (w.now + w.delay) 1048576, (recvV (stn w j).node x.msg).2.1⟩])
 post : (recvV (stn w j).node x.msg).2.2.1 = true → w.cut = false → w.mail.length < 256 → w'.mail = w.mail ++ [⟨idOf (!j), min (w.now + w.delay) 1048576, (recvV (stn w j).node x.msg).2.1⟩]
structure Calm (i : Bool) (T n s lo : Int) (K KG : Nat) (P : Ltr → Prop) (r : List Ltr) (w : Wld) : Prop where
 ok : WldOk w
 now : w.now = s
 limit : w.limit = n
 cut : w.cut = false
 sp : (stn w i).node.speaks = true
 term : (stn w i).node.term = T
 oth : (stn w (!i)).up = true → (stn w (!i)).node.speaks = false
 ot : (stn w (!i)).node.term ≤ T
 mail : ∀ x, x ∈ r ++ w.mail → LtrOk x ∧ P x ∧ x.msg.term = T ∧ (x.msg.kind = 0 ∧ x.dst = idOf (!i) ∨ x.msg.kind ≠ 0 ∧ x.dst = idOf i)
 late : ∀ x, x ∈ w.mail → lo ≤ x.at_
 wt : wt r + wt w.mail ≤ K
 inv : WG KG r w
section
variable {i : Bool} {T n s lo : Int} {K KG : Nat} {P : Ltr → Prop} {r : List Ltr} {w : Wld}
noncomputable def tick6 (v : Wld) : Wld := ⟨(tick5 v).now + 1, (tick5 v).limit, (tick5 v).delay, (tick5 v).cut, (tick5 v).a, (tick5 v).b, (tick5 v).mail⟩
structure Gone (i : Bool) (n s : Int) (v v' : Wld) : Prop where
 delay : v'.delay = v.delay
 up : ∀ j, (stn v' j).up = (stn v j).up
 heard : (stn v (!i)).up = true → (∃ x, x ∈ v.mail ∧ x.msg.kind = 0 ∧ x.at_ ≤ s) → (stn v' (!i)).quiet = 1
 quiet : (stn v (!i)).up = true → (¬ ∃ x, x ∈ v.mail ∧ x.msg.kind = 0 ∧ x.at_ ≤ s) → (stn v' (!i)).quiet = (stn v (!i)).quiet + 1
 keep : ∀ x, x ∈ v.mail → s < x.at_ → x ∈ v'.mail
 new : (stn v i).up = true → ∃ x, x ∈ v'.mail ∧ x.msg.kind = 0 ∧ x.at_ = min (s + v.delay) 1048576
/-! ### Nothing fails -/
def Mild (n : Int) (x : Evt) : Prop := EvtOk x ∧ (x.kind = 0 ∨ x.kind = 5 ∧ x.delay ≤ n)
def Hush (i : Bool) (n s : Int) (w : Wld) : Prop := (stn w (!i)).quiet = 0 ∨ ∃ x, x ∈ w.mail ∧ x.msg.kind = 0 ∧ s ≤ x.at_ ∧ (stn w (!i)).quiet + (x.at_ - s) ≤ n
end
end Tk
end Go.Proofs.YtmhinhgflehkaaaGreat
