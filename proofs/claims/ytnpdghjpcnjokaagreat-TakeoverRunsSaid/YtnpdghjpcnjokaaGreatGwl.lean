import Derived.Test.YtnpdghjpcnjokaaGreatGown
import Derived.Great.CaseRows
import Derived.Test.YtnpdghjpcnjokaaGreatGrow
namespace Go.Proofs.YtnpdghjpcnjokaaGreat
open Go.RowKit Go.Proofs.Tryz

section
variable {P:Program} {ops:Array Oper} {rest:List Oper} {o:Oper} {a:Act} {Q:Exit→Act→World→Prop} {W w0:World}
theorem zcI (hw:Region.wanted o (yielded ops a.tmps)=true) {w:World} (t:TypeId) (ps:List (Nat×Operand)) (ho:o.op=.build t ps.toArray) (vals:List (Nat×Value)) (hv:ps.map (fun p=>(p.1,a.eval p.2))=vals) (cells:Array Value) (hc:P.built t vals=some cells)
  (h:wpList P ops Q rest (a.put o.dst (.agg cells)) w):wpList P ops Q (o::rest) a w:=by
 have hv':((ps.toArray).map fun(i,x)=>(i,a.eval x)).toList=vals:=by rw[←hv];simp
 exact BigFrame.wpList_want hw fun _ hK=>wp_build t ps.toArray ho (by rw[hv',hc];rfl) (by rw[hv',hc];exact hK _ _ h)
end

noncomputable def rowOf (w:World) (b o n:Nat):List Value:=(List.range n).map fun j=>(w.cell? ⟨b,o+j,none⟩).getD undef
noncomputable def zpv (w:World) (b o n:Nat):Bool:=(List.range n).all fun j=>(w.cell? ⟨b,o+j,none⟩).isSome
theorem zDw {w:World}{b o n:Nat}(h:zpv w b o n=true){j:Nat}(hj:j<n):(w.cell? ⟨b,o+j,none⟩).isSome=true:=
 List.all_eq_true.1 h j (List.mem_range.2 hj)
theorem zl7 (w:World)(b o n:Nat):(rowOf w b o n).length=n:=by simp[rowOf]
theorem zjZ {w:World}{b o n:Nat}(h:zpv w b o n=true):w.rangeAt b o (rowOf w b o n):=fun j v hv=>by
 have hj:j<n:=by rw[←zl7 w b o n];exact(List.getElem?_eq_some_iff.1 hv).1
 obtain⟨u,hu⟩:=Option.isSome_iff_exists.1 (zDw h hj);have:(rowOf w b o n)[j]?=some u:=by simp[rowOf,hj,hu]
 rw[this] at hv;rw[hu];exact hv
theorem zvs {w:World}{b o n:Nat}{cs:List Value}(h:w.rangeAt b o cs)(hn:cs.length=n):zpv w b o n=true:=by subst hn;refine List.all_eq_true.2 fun j hj=> ?_;have hj:=List.mem_range.1 hj;rw[h j _ (List.getElem?_eq_getElem hj)];rfl
theorem zAt {w:World}{b o n:Nat}{cs:List Value}(h:w.rangeAt b o cs)(hn:cs.length=n):rowOf w b o n=cs:=by subst hn;refine List.ext_getElem (by simp[rowOf]) fun j h1 h2=> ?_;simp[rowOf,h j _ (List.getElem?_eq_getElem h2)]
open Classical in
noncomputable def rowQ (w:World) (b o n:Nat):Option (List Value):=if zpv w b o n=true then some (rowOf w b o n) else none
noncomputable def xtRow (w:World) (y:Gr) (b o n:Nat):Option (List Value):=rowQ (xt w y) b o n
noncomputable def newRow' (w:World) (x:Obj) (b o n:Nat):Option (List Value):=rowQ (w.alloc x) b o n
theorem zcg {w:World}{b o n:Nat}{cs:List Value}(h:w.rangeAt b o cs)(hn:cs.length=n):rowQ w b o n=some cs:=by unfold rowQ;rw[if_pos (zvs h hn),zAt h hn]
theorem zfr {w:World}{b o n:Nat}{cs:List Value}(h:rowQ w b o n=some cs):w.rangeAt b o cs∧cs.length=n:=by
 unfold rowQ at h;split at h
 ·rename_i h1;injection h with h;subst h;exact⟨zjZ h1,zl7 _ _ _ _⟩
 ·cases h
theorem zfq {w w':World}(hx:Ext w w'){b o n:Nat}{cs:List Value}(h:rowQ w b o n=some cs):rowQ w' b o n=some cs:=
 zcg (za4 (zfr h).1 hx) (zfr h).2
theorem zF0 {w w':World}(hx:Ext w w')(b o n:Nat):rowQ w' b o n=(rowQ w b o n).or (rowQ w' b o n):=by
 cases h:rowQ w b o n with
 |none=>rfl
 |some cs=>rw[zfq hx h];rfl
theorem rowQ_xt (w:World)(y:Gr)(b o n:Nat):rowQ (xt w y) b o n=(rowQ w b o n).or (xtRow w y b o n):=zF0 ((Ext.refl w).xt y) b o n
theorem zBX (w:World)(x:Obj)(b o n:Nat):rowQ (w.alloc x) b o n=(rowQ w b o n).or (newRow' w x b o n):=zF0 ((Ext.refl w).alloc x) b o n
@[go_sem] theorem rowQ_drew (w : World) (b o n : Nat) : rowQ w.drew b o n = rowQ w b o n:=by
 cases h:rowQ w b o n with
 |some cs=>exact zfq (Ext.refl w).drew h
 |none=>
  cases h2:rowQ w.drew b o n with
  |none=>rfl
  |some cs=>obtain⟨h3,h4⟩:=zfr h2;have:rowQ w b o n=some cs:=zcg (fun j v hv=>by have:=h3 j v hv;simpa [go_sem] using this) h4;rw[h] at this;cases this
attribute [go_sem low] rowQ_xt zBX
def loadA (v:Value):Sem Value:=Instr.loadAt 99 v
def loadA' (v:Value):Sem Value:=Instr.loadAt 99 v
@[go_sem ↓ high] theorem loadA_at (v : Value) : Instr.loadAt 99 v = loadA v:=rfl
@[go_sem] theorem loadA_run (w : World) (b o : Nat) : (loadA (.pointer (some ⟨b,o,none⟩))).run prog w = match rowQ w b o 44 with | some cs => .ok (.agg cs.toArray) w | none => (loadA' (.pointer (some ⟨b,o,none⟩))).run prog w:=by
 split
 ·rename_i cs h;obtain⟨h1,h2⟩:=zfr h;exact run_loadAt_mid w b o _ cs _ h1 underlying99 rfl (by rw[h2];kernel_rfl)
 ·rfl
theorem zdn {P:Program}(w:World)(t e:TypeId)(cs:Array Value)(n:Nat)(hu:P.underlying t=some (.slice e))(hsz:(P.info? e).map (·.size)=some n)(hz:((P.info? e).bind (·.zero)).isSome=true)(hn:cs.size=n)(hpos:0<n)(hsmall:n≤2 ^ 24):
  (Instr.buildSlice t 1 #[(0,.agg cs)]).run P w=.ok (.slice (some ⟨w.heap.size,0,none⟩) 1 1) (w.alloc (.cells cs e)):=by
 subst hn;cases hie:P.info? e with
 |none=>simp[hie] at hsz
 |some ie=>simp only[hie,Option.map_some,Option.some.injEq,Option.bind_some] at hsz hz;obtain⟨z,hzz⟩:=Option.isSome_iff_exists.1 hz;refine run_buildSlice w t e 1 #[(0,.agg cs)] cs ie z hu hie hzz (by rw[hsz];omega) (by rw[hsz];omega) ?_;have:=Great.fill_whole hpos [Value.agg cs] ((Array.range (1 * cs.size)).map (z.cells[· % z.cells.size]!)) (by simp[Value.cells]) (by simp);rw[hsz];simpa [Value.cells] using this
