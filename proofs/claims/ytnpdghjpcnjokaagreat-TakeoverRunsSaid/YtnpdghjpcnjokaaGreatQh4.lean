import Derived.Test.YtnpdghjpcnjokaaGreatQh3
set_option linter.all false
namespace Go.Proofs.YtnpdghjpcnjokaaGreat
open Go.RowKit Go.Proofs.Tryz

def RetTk (W:World) (v:Wld×Int) (e:Ending) (W':World):Prop:=∃A a B b M m xs,e=.returned (.tuple #[.agg (Lw v.1 A a B b M m),v.2])∧Ext W W'∧WldAt W' v.1 A a B b M m xs
theorem RetTk.err {W W':World}{v:Wld×Int}{x:Int}(h:v=(wld0,x))(hx:Ext W W'):RetTk W v (.returned (.tuple #[.agg (Zz:List Value).toArray,x])) W':=by subst h;exact⟨none,0,none,0,none,0,[],rfl,hx,za3.nil _,za3.nil _,zrG.nil _,rfl⟩
section
variable {w:Wld} {W:World} {A B M:Option Addr} {c d k:Nat} {xs:List (Ltr×Option Addr×Nat)} {E:Option Addr} {ce:Nat} {l:List Evt}
theorem r55_Ticked_as {w0:World}(h:WldW w0 W w A c B d M k xs)(hw:WldOk w)(hs:Sl W E 48 (l.map evtR))(hel:∀x∈l,AcnAt w0 x.act)(hll:l.length≤1000000)(hev:∀x∈l,EvtOk x)(hn:w.now<1048576){u:Wld}(hu:tickW w l=u):Calls prog 58 #[.agg (Lw w A c B d M k),.slice E l.length ce] W (RetW w0 W M xs u):=by rw[←hu];exact r55_Ticked h hw hs hel hll hev hn
end
