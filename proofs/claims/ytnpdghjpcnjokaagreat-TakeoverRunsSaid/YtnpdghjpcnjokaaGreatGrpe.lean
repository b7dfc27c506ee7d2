import Derived.Test.YtnpdghjpcnjokaaGreatGrpc
set_option maxHeartbeats 6400000
set_option maxRecDepth 100000
set_option linter.all false
namespace Go.Proofs.YtnpdghjpcnjokaaGreat
open Go.RowKit Go.Proofs.Tryz

theorem zgN (b:Nat)(t k a:Int)(w:World)(hc:w.cell? ⟨b,1,none⟩=some (.int .i64 t)):
  Calls prog 186 #[.pointer (some ⟨b,0,none⟩),k,a] w fun e w'=>e=.returned (.tuple #[.agg #[k,t,a,zI,.slice none 0 0,zI],.bool true,zI])∧Ext w w':=by
 go_enter func186,ntmps186;go_wp2;exact bodyPost_ret (v:=.tuple #[.agg #[k,t,a,zI,.slice none 0 0,zI],.bool true,zI]) (by simp[results,results186,go_sem]) rfl ⟨rfl,ex⟩
theorem Own.along {X X' W:World}{y:Gr}{E:TypeId}{size:Nat}{A:Option Addr}{n k:Nat}{rows:List (List Value)}(h:Own X (xt X y) E size A n k rows)(hx:Ext (xt X' y) W)(hs:X.heap.size=X'.heap.size):Own X' W E size A n k rows:=(h.shift hs).mono hx
def LogIn (w X W:World) (D:Option Addr) (N K:Nat) (l:List Rec):Prop:=za3 w D K l∨(Own X W 180 45 D N K (l.map recR)∧∀r∈l,AcnAt w r.act)
theorem LogIn.recs {w X W:World}{D:Option Addr}{N K:Nat}{l:List Rec}(h:LogIn w X W D N K l)(hn:l.length=N)(hx:Ext w W):za3 W D K l:=by
 rcases h with h|⟨h,he⟩
 ·exact h.mono hx
 ·exact Own.recs h hn fun r hr=>(he r hr).mono hx
theorem LogIn.base {w X X' W:World}{D:Option Addr}{N K:Nat}{l:List Rec}(h:LogIn w X' W D N K l)(hs:X.heap.size≤X'.heap.size):LogIn w X W D N K l:=by
 rcases h with h|⟨h,he⟩
 ·exact .inl h
 ·refine .inr ⟨⟨h.len,h.row,h.one,h.le,h.cap,?_⟩,he⟩;rcases h.at_ with h0|⟨g,cur,h1,h2,h3⟩
  ·exact .inl h0
  ·exact .inr ⟨g,cur,h1,by omega,h3⟩
theorem LogIn.mono {w X W W':World}{D:Option Addr}{N K:Nat}{l:List Rec}(h:LogIn w X W D N K l)(hx:Ext W W'):LogIn w X W' D N K l:=by
 rcases h with h|⟨h,he⟩
 ·exact .inl h
 ·exact .inr ⟨h.mono hx,he⟩
theorem LogIn.along {w X X' W:World}{y:Gr}{D:Option Addr}{N K:Nat}{l:List Rec}(h:LogIn w X (xt X y) D N K l)(hx:Ext (xt X' y) W)(hs:X.heap.size=X'.heap.size):LogIn w X' W D N K l:=by
 rcases h with h|⟨h,he⟩
 ·exact .inl h
 ·exact .inr ⟨h.along hx hs,he⟩
def zbg (w W:World) (v:Nod×Msg×Bool×Int) (e:Ending) (w':World):Prop:=∃A c,e=.returned (.tuple #[.agg (La v.2.1),v.2.2.1,v.2.2.2])∧Ext (W.setCells w.heap.size 0 (Array.toList (Ln v.1 A c))) w'∧LogIn w W w' A v.1.log.length c v.1.log
theorem zrR (w:World)(cs cs':Array Value)(y:Gr)(h:cs.size=cs'.size):(xt (w.alloc (.cells cs 24)) y).setCells w.heap.size 0 cs'.toList=xt (w.alloc (.cells cs' 24)) y:=by rw[zhm _ _ _ _ _ (by simp),zeO _ _ _ _ h]
theorem zbg.of {w w':World}{cs:Array Value}{y:Gr}{v:Nod×Msg×Bool×Int}{n:Nod}{k t a:Int}{ok:Bool}{x:Int}(hv:v=(n,⟨k,t,a,0,[],0⟩,ok,x)){A:Option Addr}{c:Nat}(hx:Ext (xt (w.alloc (.cells (Ln n A c) 24)) y) w')(hr:LogIn w (xt (w.alloc (.cells cs 24)) y) w' A n.log.length c n.log)(hcs:cs.size=6:=by rfl):
  zbg w (xt (w.alloc (.cells cs 24)) y) v (.returned (.tuple #[.agg #[k,t,a,zI,.slice none 0 0,zI],ok,x])) w':=by
 subst hv;refine⟨A,c,rfl,?_,hr⟩;have e:=zrR w cs (Ln n A c) y hcs;show Ext (World.setCells (xt (w.alloc (.cells cs 24)) y) w.heap.size 0 (Array.toList (Ln n A c))) w';rw[e];exact hx
theorem zbg.fin {w w':World}{cs:Array Value}{y:Gr}{v:Nod×Msg×Bool×Int}{A:Option Addr}{c:Nat}(hx:Ext (xt (w.alloc (.cells (Ln v.1 A c) 24)) y) w')(hr:LogIn w (xt (w.alloc (.cells cs 24)) y) w' A v.1.log.length c v.1.log)(hcs:cs.size=6:=by rfl):
  zbg w (xt (w.alloc (.cells cs 24)) y) v (.returned (.tuple #[.agg (La v.2.1),v.2.2.1,v.2.2.2])) w':=by
 refine⟨A,c,rfl,?_,hr⟩;have e:=zrR w cs (Ln v.1 A c) y hcs;show Ext (World.setCells (xt (w.alloc (.cells cs 24)) y) w.heap.size 0 (Array.toList (Ln v.1 A c))) w';rw[e];exact hx
theorem zsi (n:Nod)(A:Option Addr)(c:Nat)(m:Msg)(B:Option Addr)(d:Nat)(w W:World)(hs:za3 w A c n.log)(hx:Ext (w.alloc (.cells (Ln n A c) 24)) W):
  Calls prog 189 #[.pointer (some ⟨w.heap.size,0,none⟩),.agg (Lm m B d)] W (zbg w W (zar n m,msg0,false,0)):=by
 obtain⟨y0,rfl⟩:=hx.get;have HS:=zh hs;obtain⟨b,hb⟩:∃b,n.speaks=b:=⟨_,rfl⟩
 cases b with
 |false=>have HR:=zh (show zar n m=n by unfold zar;rw[if_neg (by rw[hb];simp)]);have HB:=zh hb;rw[hb];clear hx hs hb;go_enter func189,ntmps189;go_wp2;refine bodyPost_ret (v:=.tuple #[.agg Zm,.bool false,zI]) (by simp[results,results189,go_sem]) rfl ?_;refine zbg.of (A:=A) (c:=c) (n:=n) (by rw[HR.out];rfl) ?_ (.inl HS.out);rw[HB.out];exact ex
 |true=>have HR:=zh (show zar n m=⟨n.id,n.term,true,n.log,n.acked,max (min n.next m.at_) n.acked⟩ by unfold zar;rw[if_pos hb,hb]);rw[hb];clear hx hs hb;go_enter func189,ntmps189;go_wp2;(refine zrE 13 kr kr ?_;simp only[List.take_succ_cons,List.take_zero,List.drop_succ_cons,List.drop_zero];(repeat(go_big_quiet_step (fail)));refine wqN fun y=>?_);go_wp2_with fail;refine bodyPost_ret (v:=.tuple #[.agg Zm,.bool false,zI]) (by simp[results,results189,go_sem]) rfl ?_;exact zbg.of (A:=A) (c:=c) (n:=⟨n.id,n.term,true,n.log,n.acked,max (min n.next m.at_) n.acked⟩) (by rw[HR.out];rfl) ex (.inl HS.out)

theorem zEY (n:Nod)(A:Option Addr)(c:Nat)(m:Msg)(B:Option Addr)(d:Nat)(w W:World)(hs:za3 w A c n.log)(hx:Ext (w.alloc (.cells (Ln n A c) 24)) W):
  Calls prog 188 #[.pointer (some ⟨w.heap.size,0,none⟩),.agg (Lm m B d)] W (zbg w W (ackN n m,msg0,false,0)):=by
 obtain⟨y0,rfl⟩:=hx.get;have hl:=hs.len;have HS:=zh hs;obtain⟨b,hb⟩:∃b,n.speaks=b:=⟨_,rfl⟩
 cases b with
 |false=>have HR:=zh (show ackN n m=n by unfold ackN;rw[if_neg (by rw[hb];simp)]);have HB:=zh hb;rw[hb];clear hx hs hb;go_enter func188,ntmps188;go_wp2;(refine zcL kr kr ?_;(repeat(go_big_quiet_step (fail)));refine wqN fun y=>?_);go_wp2;refine bodyPost_ret (v:=.tuple #[.agg Zm,.bool false,zI]) (by simp[results,results188,go_sem]) rfl ?_;refine zbg.of (A:=A) (c:=c) (n:=n) (by rw[HR.out];rfl) ?_ (.inl HS.out);rw[HB.out];exact ex
 |true=>
  by_cases hle:m.at_≤n.log.length
  ·have HR:=zh (show ackN n m=⟨n.id,n.term,true,n.log,max n.acked m.at_,max n.next m.at_⟩ by unfold ackN;rw[if_pos ⟨hb,hle⟩,hb]);have hd:decide (m.at_≤(n.log.length:Int))=true:=decide_eq_true hle;rw[hb];clear hx hs hb;go_enter func188,ntmps188;go_wp2;(refine zcL kr kr ?_;(repeat(go_big_quiet_step (fail)));refine wqN fun y=>?_);go_wp2;refine zaw (S:=SS 18 21 (fun w'=>w'.cell? ⟨w.heap.size,5,none⟩=some (.int .i64 n.next)) (fun w'=>w'.cell? ⟨w.heap.size,4,none⟩=some (.int .i64 n.acked)) (fun w'=>w'.cell? ⟨w.heap.size+1+y0.n,2,none⟩=some (.int .i64 m.at_))) kr ⟨fun _=>by simp[go_sem],fun _=>by simp[go_sem],by simp[go_sem]⟩ (fun hcl hS=> ?_);refine wtg 0 (T:=(fun _=>True)) ?_ rfl (fun _ _ _ _ _=>trivial) ?_ hcl hS ?_;rotate_left
   ·(intro w' hw';(try dsimp only at hw');go_simp;try with_reducible rfl)
   clear hcl hS;intro hcl hS
   (try simp only[Act.put,lsT,lsS,lsZ])
   refine wtg 1 (T:=(fun _=>True)) ?_ rfl (fun _ _ _ _ _=>trivial) ?_ hcl hS ?_;rotate_left
   ·(intro w' hw';(try dsimp only at hw');go_simp;try with_reducible rfl)
   clear hcl hS;intro hcl hS
   (try simp only[Act.put,lsT,lsS,lsZ])
   refine wtg 2 (T:=(fun _=>True)) ?_ rfl (fun _ _ _ _ _=>trivial) ?_ hcl hS ?_;rotate_left
   ·(intro w' hw';(try dsimp only at hw');go_simp;try with_reducible rfl)
   clear hcl hS;intro hcl hS
   (try simp only[Act.put,lsT,lsS,lsZ])
   refine wtg 3 (T:=(fun _=>True)) ?_ rfl (fun _ _ _ _ _=>trivial) ?_ hcl hS ?_;rotate_left
   ·(intro w' hw';(try dsimp only at hw');go_simp;try with_reducible rfl)
   clear hcl hS;intro hcl hS
   (try simp only[Act.put,lsT,lsS,lsZ])
   refine wtg 4 (T:=(fun _=>True)) ?_ rfl (fun _ _ _ _ _=>trivial) ?_ hcl hS ?_;rotate_left
   ·(intro w' hw';(try dsimp only at hw');go_simp;try with_reducible rfl)
   clear hcl hS;intro hcl hS
   (try simp only[Act.put,lsT,lsS,lsZ])
   refine wtg 5 (T:=(fun w'=>w'.cell? ⟨w.heap.size,5,none⟩=some (.int .i64 n.next))) ?_ rfl (fun _ _ hc hi hS=>hS.1 (hc.not (k:=18) kr hi)) ?_ hcl hS ?_;rotate_left
   ·(intro w' hw';(try dsimp only at hw');go_simp;try with_reducible rfl)
   clear hcl hS;intro hcl hS
   (try simp only[Act.put,lsT,lsS,lsZ])
   refine wtg 6 (T:=(fun _=>True)) ?_ rfl (fun _ _ _ _ _=>trivial) ?_ hcl hS ?_;rotate_left
   ·(intro w' hw';(try dsimp only at hw');go_simp;try with_reducible rfl)
   clear hcl hS;intro hcl hS
   (try simp only[Act.put,lsT,lsS,lsZ])
   refine wtg 7 (T:=(fun w'=>w'.cell? ⟨w.heap.size+1+y0.n,2,none⟩=some (.int .i64 m.at_))) ?_ rfl (fun _ _ _ _ hS=>hS.2.2) ?_ hcl hS ?_;rotate_left
   ·(intro w' hw';(try dsimp only at hw');go_simp;try with_reducible rfl)
   clear hcl hS;intro hcl hS
   (try simp only[Act.put,lsT,lsS,lsZ])
   refine wtg 8 (T:=(fun _=>True)) ?_ rfl (fun _ _ _ _ _=>trivial) ?_ hcl hS ?_;rotate_left
   ·(intro w' hw';(try dsimp only at hw');go_simp;try with_reducible rfl)
   clear hcl hS;intro hcl hS
   (try simp only[Act.put,lsT,lsS,lsZ])
   refine wtg 9 (T:=(fun _=>True)) ?_ rfl (fun _ _ _ _ _=>trivial) ?_ hcl hS ?_;rotate_left
   ·(intro w' hw';(try dsimp only at hw');go_simp;try with_reducible rfl)
   clear hcl hS;intro hcl hS
   (try simp only[Act.put,lsT,lsS,lsZ])
   refine wtg 10 (T:=(fun _=>True)) ?_ rfl (fun _ _ _ _ _=>trivial) ?_ hcl hS ?_;rotate_left
   ·(intro w' hw';(try dsimp only at hw');go_simp;try with_reducible rfl)
   clear hcl hS;intro hcl hS
   (try simp only[Act.put,lsT,lsS,lsZ])
   refine wtg 11 (T:=(fun _=>True)) ?_ rfl (fun _ _ _ _ _=>trivial) ?_ hcl hS ?_;rotate_left
   ·(intro w' hw';(try dsimp only at hw');go_simp;try with_reducible rfl)
   clear hcl hS;intro hcl hS
   (try simp only[Act.put,lsT,lsS,lsZ])
   refine wtg 12 (T:=(fun w'=>w'.cell? ⟨w.heap.size,4,none⟩=some (.int .i64 n.acked))) ?_ rfl (fun _ _ hc hi hS=>hS.2.1 (hc.not (k:=21) kr hi)) ?_ hcl hS ?_;rotate_left
   ·(intro w' hw';(try dsimp only at hw');go_simp;try with_reducible rfl)
   clear hcl hS;intro hcl hS
   (try simp only[Act.put,lsT,lsS,lsZ])
   refine wtg 13 (T:=(fun _=>True)) ?_ rfl (fun _ _ _ _ _=>trivial) ?_ hcl hS ?_;rotate_left
   ·(intro w' hw';(try dsimp only at hw');go_simp;try with_reducible rfl)
   clear hcl hS;intro hcl hS
   (try simp only[Act.put,lsT,lsS,lsZ])
   refine wtg 14 (T:=(fun w'=>w'.cell? ⟨w.heap.size+1+y0.n,2,none⟩=some (.int .i64 m.at_))) ?_ rfl (fun _ _ _ _ hS=>hS.2.2) ?_ hcl hS ?_;rotate_left
   ·(intro w' hw';(try dsimp only at hw');go_simp;try with_reducible rfl)
   clear hcl hS;intro hcl hS
   (try simp only[Act.put,lsT,lsS,lsZ])
   refine wtg 15 (T:=(fun _=>True)) ?_ rfl (fun _ _ _ _ _=>trivial) ?_ hcl hS ?_;rotate_left
   ·(intro w' hw';(try dsimp only at hw');go_simp;try with_reducible rfl)
   clear hcl hS;intro hcl hS
   (try simp only[Act.put,lsT,lsS,lsZ])
   refine wtg 16 (T:=(fun _=>True)) ?_ rfl (fun _ _ _ _ _=>trivial) ?_ hcl hS ?_;rotate_left
   ·(intro w' hw';(try dsimp only at hw');go_simp;try with_reducible rfl)
   clear hcl hS;intro hcl hS
   (try simp only[Act.put,lsT,lsS,lsZ])
   refine wtg 17 (T:=(fun _=>True)) ?_ rfl (fun _ _ _ _ _=>trivial) ?_ hcl hS ?_;rotate_left
   ·(intro w' hw';(try dsimp only at hw');go_simp;try with_reducible rfl)
   clear hcl hS;intro hcl hS
   (try simp only[Act.put,lsT,lsS,lsZ])
   refine za9 (i:=18) kr rfl rfl hcl (fun K hK=> ?_);go_simp;clear hS hcl;refine hK _ _ ⟨fun hh=>absurd hh dk,fun _=>by simp[go_sem],by simp[go_sem]⟩ (fun hcl hS=> ?_);clear hK;refine wtg 19 (T:=(fun _=>True)) ?_ rfl (fun _ _ _ _ _=>trivial) ?_ hcl hS ?_;rotate_left
   ·(intro w' hw';(try dsimp only at hw');go_simp;try with_reducible rfl)
   clear hcl hS;intro hcl hS
   (try simp only[Act.put,lsT,lsS,lsZ])
   refine wtg 20 (T:=(fun _=>True)) ?_ rfl (fun _ _ _ _ _=>trivial) ?_ hcl hS ?_;rotate_left
   ·(intro w' hw';(try dsimp only at hw');go_simp;try with_reducible rfl)
   clear hcl hS;intro hcl hS
   (try simp only[Act.put,lsT,lsS,lsZ])
   refine za9 (i:=21) kr rfl rfl hcl (fun K hK=> ?_);go_simp;clear hS hcl;refine hK _ _ ⟨fun hh=>absurd hh dk,fun hh=>absurd hh dk,by simp[go_sem]⟩ (fun hcl hS=> ?_);clear hK hcl hS;refine zas kr ?_ _;go_wp2_with fail;refine bodyPost_ret (v:=.tuple #[.agg Zm,.bool false,zI]) (by simp[results,results188,go_sem]) rfl ?_;exact zbg.of (A:=A) (c:=c) (n:=⟨n.id,n.term,true,n.log,max n.acked m.at_,max n.next m.at_⟩) (by rw[HR.out];rfl) ex (.inl HS.out)
  ·have HR:=zh (show ackN n m=n by unfold ackN;rw[if_neg (fun h=>hle h.2)]);have hd:decide (m.at_≤(n.log.length:Int))=false:=decide_eq_false hle;have HB:=zh hb;rw[hb];clear hx hs hb;go_enter func188,ntmps188;go_wp2;(refine zcL kr kr ?_;(repeat(go_big_quiet_step (fail)));refine wqN fun y=>?_);go_wp2;refine bodyPost_ret (v:=.tuple #[.agg Zm,.bool false,zI]) (by simp[results,results188,go_sem]) rfl ?_;refine zbg.of (A:=A) (c:=c) (n:=n) (by rw[HR.out];rfl) ?_ (.inl HS.out);rw[HB.out];exact ex
