import Derived.Test.YtnpdghjpcnjokaaGreatGrpn
namespace Go.Proofs.YtnpdghjpcnjokaaGreat
open Go.RowKit
section
variable {P:Program} {w0 W:World} {E:TypeId} {size:Nat} {A:Option Addr} {n k:Nat} {rows news:List (List Value)}
end
section
variable {P:Program} {ops:Array Oper} {rest:List Oper} {o:Oper} {a:Act} {Q:Exit→Act→World→Prop} {w0 W:World}
end
section
variable {w0 w:World} {E:TypeId} {size:Nat} {A:Option Addr} {n k:Nat} {rows:List (List Value)}
end
section
variable {P:Program} {ops:Array Oper} {rest:List Oper} {o:Oper} {a:Act} {Q:Exit→Act→World→Prop} {w0 W:World}
end
section
variable (b:Nat) (W R:ByteArray) (p:Bool) (w:World) (h0:w.cell? ⟨b,0,none⟩=some (.string W)) (h1:w.cell? ⟨b,1,none⟩=some (.string R)) (h2:w.cell? ⟨b,2,none⟩=some (.bool p))
include h0 in
include h1 h2 in
include h0 in
end
section
variable {P:Program} {ops:Array Oper} {rest:List Oper} {o:Oper} {a:Act} {Q:Exit→Act→World→Prop} {W w0:World}
end
section
variable {P:Program} {ops:Array Oper} {Q:Exit→Act→World→Prop}
end
section
variable (a:Acn) (w:World)
end
