import Derived.Test.YtnpdghjpcnjokaaGreatGqf
import Derived.Test.YtnpdghjpcnjokaaGreatRq4
set_option linter.all false
namespace Go.Proofs.YtnpdghjpcnjokaaGreat
set_option maxHeartbeats 12800000
set_option maxRecDepth 100000
open Go.RowKit Go.Proofs.Tryz

theorem sameLts_at (l m:List Ltr)(k:Nat){x y:Ltr}(h1:l[k]?=some x)(h2:m[k]?=some y):zF5 (l.drop k) (m.drop k)=(sameLt x y && zF5 (l.drop (k+1)) (m.drop (k+1))):=by obtain⟨hk,hx⟩:=List.getElem?_eq_some_iff.1 h1;obtain⟨hk2,hy⟩:=List.getElem?_eq_some_iff.1 h2;rw[List.drop_eq_getElem_cons hk,List.drop_eq_getElem_cons hk2,hx,hy];rfl
theorem sameLts_end (l m:List Ltr)(k:Nat)(h1:l.length≤k)(h2:m.length≤k):zF5 (l.drop k) (m.drop k)=true:=by rw[List.drop_eq_nil_of_le h1,List.drop_eq_nil_of_le h2];rfl
theorem sameLts_len:∀(l m:List Ltr),l.length≠m.length→zF5 l m=false
 |[],[],h=>absurd rfl h
 |[],_::_,_=>rfl
 |_::_,[],_=>rfl
 |x::l,y::m,h=>by unfold zF5;rw[sameLts_len l m (fun e=>h (by simp[e])),Bool.and_false]
theorem alloc_S5 (ev:Operand→Value)(o:Oper)(w:World)(h:o.op=.alloc 42):(execOp ev o).run prog w=.ok (.value (.pointer (some ⟨w.heap.size,0,none⟩))) (w.alloc (.cells [.int .i64 0,.int .i64 0,.bool false,.slice none 0 0,.int .i64 0,.int .i64 0,.bool false,.int .i64 0].toArray 42)):=by simp[execOp,h,go_sem]
theorem alloc_L5 (ev:Operand→Value)(o:Oper)(w:World)(h:o.op=.alloc 120):(execOp ev o).run prog w=.ok (.value (.pointer (some ⟨w.heap.size,0,none⟩))) (w.alloc (.cells [.int .i64 0,.int .i64 0,.int .i64 0,.int .i64 0,.int .i64 0,.int .i64 0,.slice none 0 0,.int .i64 0].toArray 120)):=by simp[execOp,h,go_sem]
theorem sameWl_no {w v:Wld}(h:¬(w.now=v.now∧w.limit=v.limit∧w.delay=v.delay∧w.cut=v.cut∧w.mail.length=v.mail.length)):false=sameWl w v:=by
 unfold sameWl;by_cases h0:w.now=v.now
 ·by_cases h1:w.limit=v.limit
  ·by_cases h2:w.delay=v.delay
   ·by_cases h3:w.cut=v.cut
    ·rw[sameLts_len _ _ (fun e=>h ⟨h0,h1,h2,h3,e⟩),Bool.and_false]
    ·simp[h3]
   ·simp[h2]
  ·simp[h1]
 ·simp[h0]
section
variable {w v:Wld} {W W':World} {A B M A2 B2 M2:Option Addr} {c d k c2 d2 k2:Nat} {xs ys:List (Ltr×Option Addr×Nat)}
theorem r55_Same (h1:WldAt W w A c B d M k xs)(h2:WldAt W v A2 c2 B2 d2 M2 k2 ys):Calls prog 19 #[.agg (Lw w A c B d M k),.agg (Lw v A2 c2 B2 d2 M2 k2)] W fun e W'=>e=.returned (.bool (sameWl w v))∧Ext W W':=by
 have hla:=h1.a.len;have hlb:=h1.b.len;have hla2:=h2.a.len;have hlb2:=h2.b.len;have hml:w.mail.length≤9223372036854775807:=by have e1:=h1.mail.le;have e2:=h1.mail.cap;rw[h1.len] at e1;unfold maxLen at e2;omega
 have hml2:v.mail.length≤9223372036854775807:=by have e1:=h2.mail.le;have e2:=h2.mail.cap;rw[h2.len] at e1;unfold maxLen at e2;omega
 have HRA:=zh h1.a;have HRB:=zh h1.b;have HSL:=zh h1.mail.sl;have HEL:=zh h1.mail.el;have HIS:=zh h1.is;have HLM:=zh h1.len;have HRA2:=zh h2.a;have HRB2:=zh h2.b;have HSL2:=zh h2.mail.sl;have HEL2:=zh h2.mail.el;have HIS2:=zh h2.is;have HLM2:=zh h2.len;clear h1 h2;have HZ:=zh (fun(h:¬(w.now=v.now∧w.limit=v.limit∧w.delay=v.delay∧w.cut=v.cut∧w.mail.length=v.mail.length))=>sameWl_no h);go_enter func19,ntmps19;go_wp2
 all_goals
  first
   |(go_ret;refine⟨ret_b ?_,ex⟩;go_light;refine HZ.out (fun h=> ?_);first|exact absurd h.1 ‹_›|exact absurd h.2.1 ‹_›|exact absurd h.2.2.1 ‹_›|exact absurd h.2.2.2.1 ‹_›|(have:=‹((w.mail.length:Int) !=(v.mail.length:Int))=true›;rw[bne_iff_ne] at this;exact this (by rw[h.2.2.2.2])))
   |skip
 rename_i e0 e1 e2 e3 e5 _ _;have e4:w.mail.length=v.mail.length:=by have:=e5;rw[bne_eq_false_iff_eq] at this;omega
 have HD:=zh (show sameWl w v=(sameSt w.a v.a && sameSt w.b v.b && zF5 w.mail v.mail) by unfold sameWl;simp[e0,e1,e2,e3]);have HE4:=zh e4;clear e0 e1 e2 e3 e4 e5;go_loopw [5] (fun i wr=>Ext ((W.alloc (.cells #[v.now,v.limit,v.delay,v.cut,w.a.node.id,w.a.node.term,w.a.node.speaks,.slice A w.a.node.log.length c,w.a.node.acked,w.a.node.next,w.a.up,w.a.quiet,w.b.node.id,w.b.node.term,w.b.node.speaks,.slice B w.b.node.log.length d,w.b.node.acked,w.b.node.next,w.b.up,w.b.quiet,.slice M w.mail.length k] 46)).alloc (.cells (Lw v A2 c2 B2 d2 M2 k2) 46)) wr∧(i=.int .i64 0∨(i=.int .i64 1∧Hid (sameSt w.a v.a=true))∨(i=.int .i64 2∧Hid (sameSt w.a v.a=true)∧Hid (sameSt w.b v.b=true)))) (fun i _=>2 - (intOf i).toNat)
 case atStart => exact ⟨ex,.inl rfl⟩
 case round =>
  obtain⟨hx,hrel⟩:=hrel;rcases hrel with rfl|⟨rfl,HS0⟩|⟨rfl,HS0,HS1⟩
  ·go_wp2_with fail;refine zaG (fun W3 hW3=> ?_);have x3:Ext ((W.alloc (.cells #[v.now,v.limit,v.delay,v.cut,w.a.node.id,w.a.node.term,w.a.node.speaks,.slice A w.a.node.log.length c,w.a.node.acked,w.a.node.next,w.a.up,w.a.quiet,w.b.node.id,w.b.node.term,w.b.node.speaks,.slice B w.b.node.log.length d,w.b.node.acked,w.b.node.next,w.b.up,w.b.quiet,.slice M w.mail.length k] 46)).alloc (.cells (Lw v A2 c2 B2 d2 M2 k2) 46)) W3:=by rw[hW3];exact hx.trans ex
   have ka:=((BoxAt.new rfl [v.now,v.limit,v.delay,v.cut,w.a.node.id,w.a.node.term,w.a.node.speaks,.slice A w.a.node.log.length c,w.a.node.acked,w.a.node.next,w.a.up,w.a.quiet,w.b.node.id,w.b.node.term,w.b.node.speaks,.slice B w.b.node.log.length d,w.b.node.acked,w.b.node.next,w.b.up,w.b.quiet,.slice M w.mail.length k] 46 :BoxAt (W.alloc _) W.heap.size _ _).alloc (.cells (Lw v A2 c2 B2 d2 M2 k2) 46)).mono x3;have kb:=(BoxAt.new (by simp) (Lw v A2 c2 B2 d2 M2 k2) 46 :BoxAt (World.alloc _ _) (W.heap.size+1) _ _).mono x3;have c4:=ka.c 4 rfl;have c5:=ka.c 5 rfl;have c6:=ka.c 6 rfl;have c7:=ka.c 7 rfl;have c8:=ka.c 8 rfl;have c9:=ka.c 9 rfl;have c10:=ka.c 10 rfl;have c11:=ka.c 11 rfl;have d4:=kb.c 4 rfl;have d5:=kb.c 5 rfl;have d6:=kb.c 6 rfl;have d7:=kb.c 7 rfl;have d8:=kb.c 8 rfl;have d9:=kb.c 9 rfl;have d10:=kb.c 10 rfl;have d11:=kb.c 11 rfl;have hsz3:=x3.size;have hW3x:Ext W W3:=(Ext.alloc (Ext.alloc (Ext.refl _) _) _).trans x3;clear hW3 ka kb;refine wp_region_pair (vs:=[zI,.pointer (some ⟨W.heap.size,4,none⟩),.pointer (some ⟨W.heap.size,4,none⟩),.agg (Ls w.a A c),zI,.pointer (some ⟨(W.heap.size+1),4,none⟩),.pointer (some ⟨(W.heap.size+1),4,none⟩),.agg (Ls v.a A2 c2)]) (ty:=42) (d1:=6) (d2:=7) (e1:=53) (e2:=57) (zs:=[zI,zI,.bool false,.slice none 0 0,zI,zI,.bool false,zI]) (c1:=(Ls w.a A c)) (c2:=(Ls v.a A2 c2)) kr kr rfl rfl rfl rfl dk alloc_S5 (fun g1 g2=>by(simp only[zHs,stepA,List.getElem?_toArray,List.getElem?_cons_succ,List.getElem?_cons_zero,Nat.zero_add,Nat.reduceAdd,Act.put]);(try simp only[lsT,lsS,lsZ]);exact rfl) (fun _ _=>by exact rfl) (fun _ _=>by exact rfl) (fun _ _=>by exact rfl) (fun _ _=>by exact rfl) rfl rfl dk kr (cells_one _ rfl) (cells_one _ rfl) (fun _ _ _ _ _ h=>h) ?_ ?_
   ·refine⟨?_,?_,?_,?_,?_,?_,?_,?_,trivial⟩
    all_goals
     show YieldsIf _ _ _ _ _ _
     (try simp only[stepA,List.getElem?_toArray,List.getElem?_cons_succ,List.getElem?_cons_zero,Nat.zero_add,Nat.reduceAdd,Act.put]);(try simp only[lsT,lsS,lsZ])
     refine Or.inl ⟨by rfl,fun w9 hw9=> ?_⟩;obtain⟨y9,rfl⟩:=(show Ext _ w9 from hw9).get;go_simp
   ·intro W5 g8 g9 hx5 hg8 hg9 hne b8 b9;refine b8.cA fun p0 p1 p2 p3 p4 p5 p6 p7=>?_;refine b9.cA fun r0 r1 r2 r3 r4 r5 r6 r7=>?_;have x5:Ext ((W.alloc (.cells #[v.now,v.limit,v.delay,v.cut,w.a.node.id,w.a.node.term,w.a.node.speaks,.slice A w.a.node.log.length c,w.a.node.acked,w.a.node.next,w.a.up,w.a.quiet,w.b.node.id,w.b.node.term,w.b.node.speaks,.slice B w.b.node.log.length d,w.b.node.acked,w.b.node.next,w.b.up,w.b.quiet,.slice M w.mail.length k] 46)).alloc (.cells (Lw v A2 c2 B2 d2 M2 k2) 46)) W5:=x3.trans hx5;have x0:Ext W W5:=(Ext.alloc (Ext.alloc (Ext.refl _) _) _).trans x5;clear b8 b9 x3 hW3x hx c4 d4 c5 d5 c6 d6 c7 d7 c8 d8 c9 d9 c10 d10 c11 d11;have HU:=zh (fun(h:¬w.a.up=v.a.up)=>show false=sameWl w v by rw[HD.out,show sameSt w.a v.a=false by unfold sameSt;simp[h]];simp);have HQ:=zh (fun(h:¬w.a.quiet=v.a.quiet)=>show false=sameWl w v by rw[HD.out,show sameSt w.a v.a=false by unfold sameSt;simp[h]];simp);have HE:=zh (fun(b:Bool) (h1:w.a.up=v.a.up) (h2:w.a.quiet=v.a.quiet) (h3:sameN w.a.node v.a.node=b)=>show sameSt w.a v.a=b by unfold sameSt;simp[h1,h2,h3]);have HF:=zh (fun(h:sameSt w.a v.a=false)=>show false=sameWl w v by rw[HD.out,h];simp);obtain⟨bb,hbb⟩:∃bb,sameN w.a.node v.a.node=bb:=⟨_,rfl⟩
    have HBB:=zh hbb;clear hbb;cases bb
    ·go_wp2_with (go_at_call 55;refine(ztS w.a.node v.a.node A c A2 c2 _ (HRA.out.mono (x0.trans ex)) (HRA2.out.mono (x0.trans ex))).mono ?_;rintro e w' ⟨he,hx⟩;rw[HBB.out] at he;subst he;obtain⟨yk,rfl⟩:=hx.get;clear hx)
     all_goals
      go_ret;refine⟨ret_b ?_,x0.trans ex⟩;go_light
      first|exact HU.out ‹_›|exact HQ.out ‹_›|exact HF.out (HE.out false ‹_› ‹_› HBB.out)
    ·go_wp2_with (go_at_call 55;refine(ztS w.a.node v.a.node A c A2 c2 _ (HRA.out.mono (x0.trans ex)) (HRA2.out.mono (x0.trans ex))).mono ?_;rintro e w' ⟨he,hx⟩;rw[HBB.out] at he;subst he;obtain⟨yk,rfl⟩:=hx.get;clear hx)
     all_goals
      first
       |(go_ret;refine⟨ret_b ?_,x0.trans ex⟩;go_light;first|exact HU.out ‹_›|exact HQ.out ‹_›)
       |(have HS0:=zh (HE.out true ‹_› ‹_› HBB.out);go_light;refine⟨?_,by simp[intOf]⟩;simp only[‹w.a.up=v.a.up›,‹w.a.quiet=v.a.quiet›] at x5 ⊢;repeat(first|exact⟨⟨x5.trans ex,.inr (.inl ⟨rfl,HS0⟩)⟩,rfl⟩|apply Exists.intro))
  ·go_wp2_with fail;refine zaG (fun W3 hW3=> ?_);have x3:Ext ((W.alloc (.cells #[v.now,v.limit,v.delay,v.cut,w.a.node.id,w.a.node.term,w.a.node.speaks,.slice A w.a.node.log.length c,w.a.node.acked,w.a.node.next,w.a.up,w.a.quiet,w.b.node.id,w.b.node.term,w.b.node.speaks,.slice B w.b.node.log.length d,w.b.node.acked,w.b.node.next,w.b.up,w.b.quiet,.slice M w.mail.length k] 46)).alloc (.cells (Lw v A2 c2 B2 d2 M2 k2) 46)) W3:=by rw[hW3];exact hx.trans ex
   have ka:=((BoxAt.new rfl [v.now,v.limit,v.delay,v.cut,w.a.node.id,w.a.node.term,w.a.node.speaks,.slice A w.a.node.log.length c,w.a.node.acked,w.a.node.next,w.a.up,w.a.quiet,w.b.node.id,w.b.node.term,w.b.node.speaks,.slice B w.b.node.log.length d,w.b.node.acked,w.b.node.next,w.b.up,w.b.quiet,.slice M w.mail.length k] 46 :BoxAt (W.alloc _) W.heap.size _ _).alloc (.cells (Lw v A2 c2 B2 d2 M2 k2) 46)).mono x3;have kb:=(BoxAt.new (by simp) (Lw v A2 c2 B2 d2 M2 k2) 46 :BoxAt (World.alloc _ _) (W.heap.size+1) _ _).mono x3;have c12:=ka.c 12 rfl;have c13:=ka.c 13 rfl;have c14:=ka.c 14 rfl;have c15:=ka.c 15 rfl;have c16:=ka.c 16 rfl;have c17:=ka.c 17 rfl;have c18:=ka.c 18 rfl;have c19:=ka.c 19 rfl;have d12:=kb.c 12 rfl;have d13:=kb.c 13 rfl;have d14:=kb.c 14 rfl;have d15:=kb.c 15 rfl;have d16:=kb.c 16 rfl;have d17:=kb.c 17 rfl;have d18:=kb.c 18 rfl;have d19:=kb.c 19 rfl;have hsz3:=x3.size;have hW3x:Ext W W3:=(Ext.alloc (Ext.alloc (Ext.refl _) _) _).trans x3;clear hW3 ka kb;refine wp_region_pair (vs:=[.int .i64 1,.pointer (some ⟨W.heap.size,4,none⟩),.pointer (some ⟨W.heap.size,12,none⟩),.agg (Ls w.b B d),.int .i64 1,.pointer (some ⟨(W.heap.size+1),4,none⟩),.pointer (some ⟨(W.heap.size+1),12,none⟩),.agg (Ls v.b B2 d2)]) (ty:=42) (d1:=6) (d2:=7) (e1:=53) (e2:=57) (zs:=[zI,zI,.bool false,.slice none 0 0,zI,zI,.bool false,zI]) (c1:=(Ls w.b B d)) (c2:=(Ls v.b B2 d2)) kr kr rfl rfl rfl rfl dk alloc_S5 (fun g1 g2=>by(simp only[zHs,stepA,List.getElem?_toArray,List.getElem?_cons_succ,List.getElem?_cons_zero,Nat.zero_add,Nat.reduceAdd,Act.put]);(try simp only[lsT,lsS,lsZ]);exact rfl) (fun _ _=>by exact rfl) (fun _ _=>by exact rfl) (fun _ _=>by exact rfl) (fun _ _=>by exact rfl) rfl rfl dk kr (cells_one _ rfl) (cells_one _ rfl) (fun _ _ _ _ _ h=>h) ?_ ?_
   ·refine⟨?_,?_,?_,?_,?_,?_,?_,?_,trivial⟩
    all_goals
     show YieldsIf _ _ _ _ _ _
     (try simp only[stepA,List.getElem?_toArray,List.getElem?_cons_succ,List.getElem?_cons_zero,Nat.zero_add,Nat.reduceAdd,Act.put]);(try simp only[lsT,lsS,lsZ])
     refine Or.inl ⟨by rfl,fun w9 hw9=> ?_⟩;obtain⟨y9,rfl⟩:=(show Ext _ w9 from hw9).get;go_simp
   ·intro W5 g8 g9 hx5 hg8 hg9 hne b8 b9;refine b8.cA fun p0 p1 p2 p3 p4 p5 p6 p7=>?_;refine b9.cA fun r0 r1 r2 r3 r4 r5 r6 r7=>?_;have x5:Ext ((W.alloc (.cells #[v.now,v.limit,v.delay,v.cut,w.a.node.id,w.a.node.term,w.a.node.speaks,.slice A w.a.node.log.length c,w.a.node.acked,w.a.node.next,w.a.up,w.a.quiet,w.b.node.id,w.b.node.term,w.b.node.speaks,.slice B w.b.node.log.length d,w.b.node.acked,w.b.node.next,w.b.up,w.b.quiet,.slice M w.mail.length k] 46)).alloc (.cells (Lw v A2 c2 B2 d2 M2 k2) 46)) W5:=x3.trans hx5;have x0:Ext W W5:=(Ext.alloc (Ext.alloc (Ext.refl _) _) _).trans x5;clear b8 b9 x3 hW3x hx c12 d12 c13 d13 c14 d14 c15 d15 c16 d16 c17 d17 c18 d18 c19 d19;have HU:=zh (fun(h:¬w.b.up=v.b.up)=>show false=sameWl w v by rw[HD.out,HS0.out,show sameSt w.b v.b=false by unfold sameSt;simp[h]];simp);have HQ:=zh (fun(h:¬w.b.quiet=v.b.quiet)=>show false=sameWl w v by rw[HD.out,HS0.out,show sameSt w.b v.b=false by unfold sameSt;simp[h]];simp);have HE:=zh (fun(b:Bool) (h1:w.b.up=v.b.up) (h2:w.b.quiet=v.b.quiet) (h3:sameN w.b.node v.b.node=b)=>show sameSt w.b v.b=b by unfold sameSt;simp[h1,h2,h3]);have HF:=zh (fun(h:sameSt w.b v.b=false)=>show false=sameWl w v by rw[HD.out,HS0.out,h];simp);obtain⟨bb,hbb⟩:∃bb,sameN w.b.node v.b.node=bb:=⟨_,rfl⟩
    have HBB:=zh hbb;clear hbb;cases bb
    ·go_wp2_with (go_at_call 55;refine(ztS w.b.node v.b.node B d B2 d2 _ (HRB.out.mono (x0.trans ex)) (HRB2.out.mono (x0.trans ex))).mono ?_;rintro e w' ⟨he,hx⟩;rw[HBB.out] at he;subst he;obtain⟨yk,rfl⟩:=hx.get;clear hx)
     all_goals
      go_ret;refine⟨ret_b ?_,x0.trans ex⟩;go_light
      first|exact HU.out ‹_›|exact HQ.out ‹_›|exact HF.out (HE.out false ‹_› ‹_› HBB.out)
    ·go_wp2_with (go_at_call 55;refine(ztS w.b.node v.b.node B d B2 d2 _ (HRB.out.mono (x0.trans ex)) (HRB2.out.mono (x0.trans ex))).mono ?_;rintro e w' ⟨he,hx⟩;rw[HBB.out] at he;subst he;obtain⟨yk,rfl⟩:=hx.get;clear hx)
     all_goals
      first
       |(go_ret;refine⟨ret_b ?_,x0.trans ex⟩;go_light;first|exact HU.out ‹_›|exact HQ.out ‹_›)
       |(have HS1:=zh (HE.out true ‹_› ‹_› HBB.out);go_light;refine⟨?_,by simp[intOf]⟩;simp only[‹w.b.up=v.b.up›,‹w.b.quiet=v.b.quiet›] at x5 ⊢;repeat(first|exact⟨⟨x5.trans ex,.inr (.inr ⟨rfl,HS0,HS1⟩)⟩,rfl⟩|apply Exists.intro))
  ·obtain⟨y0,rfl⟩:=hx.get;clear hx;go_wp2;go_loopw [8] (fun i wr=> ∃j:Nat,j≤w.mail.length∧i=.int .i64 j∧Ext ((W.alloc (.cells #[v.now,v.limit,v.delay,v.cut,w.a.node.id,w.a.node.term,w.a.node.speaks,.slice A w.a.node.log.length c,w.a.node.acked,w.a.node.next,w.a.up,w.a.quiet,w.b.node.id,w.b.node.term,w.b.node.speaks,.slice B w.b.node.log.length d,w.b.node.acked,w.b.node.next,w.b.up,w.b.quiet,.slice M w.mail.length k] 46)).alloc (.cells (Lw v A2 c2 B2 d2 M2 k2) 46)) wr∧Hid (zF5 w.mail v.mail=zF5 (w.mail.drop j) (v.mail.drop j))) (fun i _=>w.mail.length - (intOf i).toNat)
   case atStart => exact ⟨0,by omega,rfl,ex,zh rfl⟩
   case round =>
    obtain⟨j,hj,rfl,hx,HM⟩:=hrel;by_cases hlt:j<w.mail.length
    ·have hlt2:j<v.mail.length:=by rw[←HE4.out];exact hlt
     obtain⟨x,hxj⟩:∃x,xs[j]?=some x:=⟨_,List.getElem?_eq_getElem (by rw[HLM.out];exact hlt)⟩
     obtain⟨y,hyj⟩:∃y,ys[j]?=some y:=⟨_,List.getElem?_eq_getElem (by rw[HLM2.out];exact hlt2)⟩
     have HL:=zh (HEL.out x (List.mem_of_getElem? hxj));have HL2:=zh (HEL2.out y (List.mem_of_getElem? hyj));have hxl:=HL.out.len;have hyl:=HL2.out.len;have HN:=zh (HM.out.trans (sameLts_at w.mail v.mail j (x:=x.1) (y:=y.1) (by rw[←HIS.out,List.getElem?_map,hxj];rfl) (by rw[←HIS2.out,List.getElem?_map,hyj];rfl)));have hb0:(0:Int)≤(j:Int):=by omega
     have hb1:(j:Int)<(w.mail.length:Int):=by omega
     have hb2:(j:Int)<(v.mail.length:Int):=by omega
     have qa:=(((BoxAt.new rfl [v.now,v.limit,v.delay,v.cut,w.a.node.id,w.a.node.term,w.a.node.speaks,.slice A w.a.node.log.length c,w.a.node.acked,w.a.node.next,w.a.up,w.a.quiet,w.b.node.id,w.b.node.term,w.b.node.speaks,.slice B w.b.node.log.length d,w.b.node.acked,w.b.node.next,w.b.up,w.b.quiet,.slice M w.mail.length k] 46 :BoxAt (W.alloc _) W.heap.size _ _).alloc (.cells (Lw v A2 c2 B2 d2 M2 k2) 46)).mono hx).cell (i:=20) rfl;go_wp2_with fail;refine zaG (fun W3 hW3=> ?_);have x3:Ext ((W.alloc (.cells #[v.now,v.limit,v.delay,v.cut,w.a.node.id,w.a.node.term,w.a.node.speaks,.slice A w.a.node.log.length c,w.a.node.acked,w.a.node.next,w.a.up,w.a.quiet,w.b.node.id,w.b.node.term,w.b.node.speaks,.slice B w.b.node.log.length d,w.b.node.acked,w.b.node.next,w.b.up,w.b.quiet,.slice M w.mail.length k] 46)).alloc (.cells (Lw v A2 c2 B2 d2 M2 k2) 46)) W3:=by rw[hW3];exact hx.trans ex
     have ka:=((BoxAt.new rfl [v.now,v.limit,v.delay,v.cut,w.a.node.id,w.a.node.term,w.a.node.speaks,.slice A w.a.node.log.length c,w.a.node.acked,w.a.node.next,w.a.up,w.a.quiet,w.b.node.id,w.b.node.term,w.b.node.speaks,.slice B w.b.node.log.length d,w.b.node.acked,w.b.node.next,w.b.up,w.b.quiet,.slice M w.mail.length k] 46 :BoxAt (W.alloc _) W.heap.size _ _).alloc (.cells (Lw v A2 c2 B2 d2 M2 k2) 46)).mono x3;have kb:=(BoxAt.new (by simp) (Lw v A2 c2 B2 d2 M2 k2) 46 :BoxAt (World.alloc _ _) (W.heap.size+1) _ _).mono x3;have c20:=ka.c 20 rfl;have d20:=kb.c 20 rfl;have hsz3:=x3.size;have hW3x:Ext W W3:=(Ext.alloc (Ext.alloc (Ext.refl _) _) _).trans x3;obtain⟨b,o,rfl,c0,c1,c2_,c3,c4,c5,c6,c7⟩:=(HSL.out.mono hW3x).row8 (i:=j) (by rw[List.getElem?_map,hxj];rfl);obtain⟨b_,o_,rfl,d0,d1,d2_,d3,d4,d5,d6,d7⟩:=(HSL2.out.mono hW3x).row8 (i:=j) (by rw[List.getElem?_map,hyj];rfl);clear hW3 ka kb hxj hyj qa;refine wp_region_pair (vs:=[.pointer (some ⟨W.heap.size,20,none⟩),.slice (some ⟨b,o,none⟩) w.mail.length k,.int .i64 (j:Int),.pointer (some ⟨b,o+j * 8,none⟩),.agg #[x.1.dst,x.1.at_,x.1.msg.kind,x.1.msg.term,x.1.msg.at_,x.1.msg.before,.slice x.2.1 x.1.msg.recs.length x.2.2,x.1.msg.acked],.pointer (some ⟨(W.heap.size+1),20,none⟩),.slice (some ⟨b_,o_,none⟩) v.mail.length k2,.int .i64 (j:Int),.pointer (some ⟨b_,o_+j * 8,none⟩),.agg #[y.1.dst,y.1.at_,y.1.msg.kind,y.1.msg.term,y.1.msg.at_,y.1.msg.before,.slice y.2.1 y.1.msg.recs.length y.2.2,y.1.msg.acked]]) (ty:=120) (d1:=9) (d2:=10) (e1:=89) (e2:=94) (zs:=[zI,zI,zI,zI,zI,zI,.slice none 0 0,zI]) (c1:=[x.1.dst,x.1.at_,x.1.msg.kind,x.1.msg.term,x.1.msg.at_,x.1.msg.before,.slice x.2.1 x.1.msg.recs.length x.2.2,x.1.msg.acked]) (c2:=[y.1.dst,y.1.at_,y.1.msg.kind,y.1.msg.term,y.1.msg.at_,y.1.msg.before,.slice y.2.1 y.1.msg.recs.length y.2.2,y.1.msg.acked]) kr kr rfl rfl rfl rfl dk alloc_L5 (fun g1 g2=>by(simp only[zHs,stepA,List.getElem?_toArray,List.getElem?_cons_succ,List.getElem?_cons_zero,Nat.zero_add,Nat.reduceAdd,Act.put]);(try simp only[lsT,lsS,lsZ]);exact rfl) (fun _ _=>by exact rfl) (fun _ _=>by exact rfl) (fun _ _=>by exact rfl) (fun _ _=>by exact rfl) rfl rfl dk kr (cells_one _ rfl) (cells_one _ rfl) (fun _ _ _ _ _ h=>h) ?_ ?_
     ·refine⟨?_,?_,?_,?_,?_,?_,?_,?_,?_,?_,trivial⟩
      all_goals
       show YieldsIf _ _ _ _ _ _
       (try simp only[stepA,List.getElem?_toArray,List.getElem?_cons_succ,List.getElem?_cons_zero,Nat.zero_add,Nat.reduceAdd,Act.put]);(try simp only[lsT,lsS,lsZ])
       refine Or.inl ⟨by rfl,fun w9 hw9=> ?_⟩;obtain⟨y9,rfl⟩:=(show Ext _ w9 from hw9).get;go_simp
     ·intro W5 g10 g11 hx5 hg10 hg11 hne b8 b9;refine b8.cA fun p0 p1 p2 p3 p4 p5 p6 p7=>?_;refine b9.cA fun r0 r1 r2 r3 r4 r5 r6 r7=>?_;have x5:=x3.trans hx5;have x0:Ext W W5:=(Ext.alloc (Ext.alloc (Ext.refl _) _) _).trans x5;clear b8 b9 x3 hW3x hx c0 c1 c2_ c3 c4 c5 c6 c7 d0 d1 d2_ d3 d4 d5 d6 d7 c20 d20;have HU:=zh (fun(h:sameLt x.1 y.1=false)=>show false=sameWl w v by rw[HD.out,HN.out,h,Bool.false_and,Bool.and_false]);have HE:=zh (fun(b:Bool) (h1:x.1.dst=y.1.dst) (h2:x.1.at_=y.1.at_) (h3:sameM x.1.msg y.1.msg=b)=>show sameLt x.1 y.1=b by unfold sameLt;simp[h1,h2,h3]);have HI:=zh (fun(h:¬x.1.dst=y.1.dst)=>show sameLt x.1 y.1=false by unfold sameLt;simp[h]);have HJ:=zh (fun(h:¬x.1.at_=y.1.at_)=>show sameLt x.1 y.1=false by unfold sameLt;simp[h]);obtain⟨bb,hbb⟩:∃bb,sameM x.1.msg y.1.msg=bb:=⟨_,rfl⟩
      have HBB:=zh hbb;clear hbb;cases bb
      ·go_wp2_with (go_at_call 56;refine(zii x.1.msg y.1.msg x.2.1 x.2.2 y.2.1 y.2.2 _ (HL.out.mono (x0.trans ex)) (HL2.out.mono (x0.trans ex))).mono ?_;rintro e w' ⟨he,hx⟩;rw[HBB.out] at he;subst he;obtain⟨yk,rfl⟩:=hx.get;clear hx)
       all_goals
        go_ret;refine⟨ret_b ?_,x0.trans ex⟩;go_light
        first|exact HU.out (HI.out ‹_›)|exact HU.out (HJ.out ‹_›)|exact HU.out (HE.out false ‹_› ‹_› HBB.out)
      ·go_wp2_with (go_at_call 56;refine(zii x.1.msg y.1.msg x.2.1 x.2.2 y.2.1 y.2.2 _ (HL.out.mono (x0.trans ex)) (HL2.out.mono (x0.trans ex))).mono ?_;rintro e w' ⟨he,hx⟩;rw[HBB.out] at he;subst he;obtain⟨yk,rfl⟩:=hx.get;clear hx)
       all_goals
        first
         |(go_ret;refine⟨ret_b ?_,x0.trans ex⟩;go_light;first|exact HU.out (HI.out ‹_›)|exact HU.out (HJ.out ‹_›))
         |(have HO:=zh (HN.out.trans (by rw[HE.out true ‹_› ‹_› HBB.out,Bool.true_and]:_=zF5 (w.mail.drop (j+1)) (v.mail.drop (j+1))));go_light;exact⟨⟨j+1,by omega,by go_num,x5.trans ex,HO⟩,by simp[intOf];omega⟩)
    ·have HV:=zh (show sameWl w v=true by rw[HD.out,HS0.out,HS1.out,HM.out,sameLts_end _ _ _ om (by rw[←HE4.out];omega)];rfl);have hd:decide ((j:Int)<(w.mail.length:Int))=false:=decide_eq_false om;obtain⟨y1,rfl⟩:=hx.get;clear hx;go_wp2;go_ret;exact⟨ret_b HV.out.symm,ex⟩
end
