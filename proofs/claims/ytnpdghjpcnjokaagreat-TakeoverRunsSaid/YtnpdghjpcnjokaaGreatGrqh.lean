import Derived.Test.YtnpdghjpcnjokaaGreatGrqe
set_option maxHeartbeats 12800000
set_option maxRecDepth 100000
set_option linter.all false
namespace Go.Proofs.YtnpdghjpcnjokaaGreat
open Go.RowKit Go.Proofs.Tryz

noncomputable def rcvdV (n:Nod) (m:Msg):Nod×Msg×Bool×Int:=if m.term<n.term then(n,ansM n 2 0,m.kind==0,0) else recdV n m
def zb4 (w W:World) (v:Nod×Msg×Bool×Int) (e:Ending) (w':World):Prop:=∃A c,e=.returned (.tuple #[.agg (Ln v.1 A c),.agg (La v.2.1),v.2.2.1,v.2.2.2])∧Ext W w'∧LogQ w W w' A v.1.log.length c v.1.log
theorem zb4.old {w W w':World}{v:Nod×Msg×Bool×Int}{n:Nod}{k t a:Int}{ok:Bool}{x:Int}(hv:v=(n,⟨k,t,a,0,[],0⟩,ok,x)){A:Option Addr}{c:Nat}(hx:Ext W w')(hr:za3 w A c n.log):
  zb4 w W v (.returned (.tuple #[.agg (Ln n A c),.agg #[k,t,a,zI,.slice none 0 0,zI],ok,x])) w':=by
 subst hv;exact⟨A,c,rfl,hx,.inl hr⟩
theorem zb4.err {w W w':World}{v:Nod×Msg×Bool×Int}{x:Int}(h:v=(nod0,msg0,false,x))(hx:Ext W w'):
  zb4 w W v (.returned (.tuple #[.agg Zn,.agg Zm,.bool false,x])) w':=by
 subst h;exact⟨none,0,rfl,hx,.inl (za3.nil _)⟩
theorem LogQ.turn {b:Nat}{w X W W':World}{D:Option Addr}{N K:Nat}{l:List Rec}(ht:Turn b W W')(h:LogQ w X W D N K l):LogQ w X W' D N K l:=by
 rcases h with h|⟨h,he⟩
 ·exact .inl h
 ·exact .inr ⟨h.turn2 ht,he⟩
theorem zui (n:Nod)(m:Msg):((takeV n m).2.2.2==0)=(takeV n m).2.2.1:=by
 unfold takeV;simp only
 repeat' split
 all_goals first|rfl|(simp;done)
theorem zq4 (x:Nod)(A:Option Addr)(c:Nat)(m:Msg)(B:Option Addr)(d:Nat)(w W:World)(hx:Ext w W)(hs:za3 w A c x.log)(hm:za3 w B d m.recs)(h256:x.log.length≤256)(hrl:m.recs.length≤16)(ha:0≤m.at_)(hk:m.kind=0)(v:Nod×Msg×Bool×Int)(hv:takeV x m=v):
  Calls prog 214 #[.agg (Ln x A c),.agg #[zI,m.term,m.at_,m.before,.slice B m.recs.length d,m.acked]] W (zd7 w W v):=by
 subst hv;have:=r54_take x A c m B d w W hx hs hm h256 hrl ha;rwa [hk] at this
section
variable (n:Nod) (A:Option Addr) (c:Nat) (m:Msg) (B:Option Addr) (d:Nat) (w:World) (y0:Gr)
theorem rcvd_old (hs:za3 w A c n.log)(_hm:za3 w B d m.recs)(_h256:n.log.length≤256)(_hrl:m.kind=0→m.recs.length≤16)(_ha:0≤m.at_)(k:Int)(hk:m.kind=k)(ht:m.term<n.term):Calls prog 185 #[.agg (Ln n A c),.agg #[k,m.term,m.at_,m.before,.slice B m.recs.length d,m.acked]] (xt w y0) (zb4 w (xt w y0) (rcvdV n m)):=by
 have hl:=hs.len;have HS:=zh hs;have hd:decide (m.term<n.term)=true:=decide_eq_true ht;have HR:=zh (show rcvdV n m=(n,ansM n 2 0,k==0,0) by unfold rcvdV;rw[if_pos ht,hk]);clear hs _hm hk _hrl;go_enter func185,ntmps185;go_wp2;have k1:BoxAt (((((xt w y0).alloc (.cells (Ln n A c) 40)).alloc (.cells #[k,m.term,m.at_,m.before,.slice B m.recs.length d,m.acked] 117)).alloc (.cells Zn 40)).alloc (.cells Zm 117)) (w.heap.size+y0.n) (Ln n A c) 40:=by repeat(first|exact BoxAt.new (by first|rfl|(simp[go_sem];done)|(simp[go_sem];omega)) _ _|apply BoxAt.xt|apply BoxAt.drew|apply BoxAt.drewN|apply BoxAt.alloc)
 have k2:BoxAt (((((xt w y0).alloc (.cells (Ln n A c) 40)).alloc (.cells #[k,m.term,m.at_,m.before,.slice B m.recs.length d,m.acked] 117)).alloc (.cells Zn 40)).alloc (.cells Zm 117)) (w.heap.size+y0.n+1) [k,m.term,m.at_,m.before,.slice B m.recs.length d,m.acked] 117:=by repeat(first|exact BoxAt.new (by first|rfl|(simp[go_sem];done)|(simp[go_sem];omega)) _ _|apply BoxAt.xt|apply BoxAt.drew|apply BoxAt.drewN|apply BoxAt.alloc)
 have k3:BoxAt (((((xt w y0).alloc (.cells (Ln n A c) 40)).alloc (.cells #[k,m.term,m.at_,m.before,.slice B m.recs.length d,m.acked] 117)).alloc (.cells Zn 40)).alloc (.cells Zm 117)) (w.heap.size+y0.n+1+1) Zn 40:=by repeat(first|exact BoxAt.new (by first|rfl|(simp[go_sem];done)|(simp[go_sem];omega)) _ _|apply BoxAt.xt|apply BoxAt.drew|apply BoxAt.drewN|apply BoxAt.alloc)
 have k4:BoxAt (((((xt w y0).alloc (.cells (Ln n A c) 40)).alloc (.cells #[k,m.term,m.at_,m.before,.slice B m.recs.length d,m.acked] 117)).alloc (.cells Zn 40)).alloc (.cells Zm 117)) (w.heap.size+y0.n+1+1+1) Zm 117:=by repeat(first|exact BoxAt.new (by first|rfl|(simp[go_sem];done)|(simp[go_sem];omega)) _ _|apply BoxAt.xt|apply BoxAt.drew|apply BoxAt.drewN|apply BoxAt.alloc)
 refine zaw (S:=SS 99 99 (fun _=>True) (fun _=>True) (fun w9=>BoxAt w9 (w.heap.size+y0.n) (Ln n A c) 40 ∧BoxAt w9 (w.heap.size+y0.n+1) [k,m.term,m.at_,m.before,.slice B m.recs.length d,m.acked] 117)) kr ⟨fun _=>trivial,fun _=>trivial,k1.mono ex,k2.mono ex⟩ (fun hcl hS=> ?_);refine wtg 0 (T:=(fun w9=>BoxAt w9 (w.heap.size+y0.n) (Ln n A c) 40)) ?_ rfl (fun _ _ _ _ hS=>hS.2.2.1) ?_ hcl hS ?_;rotate_left
 ·(intro w9 hw9;(try dsimp only at hw9);obtain⟨g0,g1,g2,g3,g4,g5⟩:=hw9.six;go_simp;try with_reducible rfl)
 clear hcl hS;intro hcl hS
 (try simp only[Act.put,lsT,lsS,lsZ])
 refine wtg 1 (T:=(fun w9=>BoxAt w9 (w.heap.size+y0.n) (Ln n A c) 40)) ?_ rfl (fun _ _ _ _ hS=>hS.2.2.1) ?_ hcl hS ?_;rotate_left
 ·(intro w9 hw9;(try dsimp only at hw9);obtain⟨g0,g1,g2,g3,g4,g5⟩:=hw9.six;go_simp;try with_reducible rfl)
 clear hcl hS;intro hcl hS
 (try simp only[Act.put,lsT,lsS,lsZ])
 refine wtk 3 rfl hcl hS ?_;clear hcl hS;intro hcl hS
 (try simp only[Act.put,lsT,lsS,lsZ])
 refine wtg 4 (T:=(fun w9=>BoxAt w9 (w.heap.size+y0.n+1) [k,m.term,m.at_,m.before,.slice B m.recs.length d,m.acked] 117)) ?_ rfl (fun _ _ _ _ hS=>hS.2.2.2) ?_ hcl hS ?_;rotate_left
 ·(intro w9 hw9;(try dsimp only at hw9);obtain⟨g0,g1,g2,g3,g4,g5⟩:=hw9.six;go_simp;try with_reducible rfl)
 clear hcl hS;intro hcl hS
 (try simp only[Act.put,lsT,lsS,lsZ])
 refine wtk 5 rfl hcl hS ?_;clear hcl hS;intro hcl hS
 (try simp only[Act.put,lsT,lsS,lsZ])
 refine za9 (i:=2) kr rfl rfl hcl (fun K9 hK9=> ?_);have hp9:=hS.2.2.1;have hq9:=hS.2.2.2;clear hS hcl;go_simp;go_at_call 213;refine(zgI _ _ _ _ _ _ _ _ _ _ _).mono ?_;rintro e w' ⟨rfl,hx⟩;replace hp9:=hp9.mono hx;replace hq9:=hq9.mono hx;obtain⟨yh0,rfl⟩:=hx.get;clear hx;refine hK9 _ _ ⟨fun _=>trivial,fun _=>trivial,hp9,hq9⟩ (fun hcl hS=> ?_);clear hK9 hp9 hq9 K9;have hp9:=hS.2.2.1;have hq9:=hS.2.2.2;clear hS;refine zao (i:=6) kr rfl rfl hcl 40 (.tmp 4) (.tmp 16) rfl (k3.mono ex) rfl (Ln n A c) rfl rfl (show 6<44 by decide) kr (zaa n A c) ?_;intro W1 ht1 hb1;replace hp9:=hp9.turn ht1 om;replace hq9:=hq9.turn ht1 om;refine⟨⟨fun _=>trivial,fun _=>trivial,hp9,hq9⟩,fun hcl hS=> ?_⟩;clear hp9 hq9;have hp9:=hS.2.2.1;have hq9:=hS.2.2.2;clear hS;refine zao (i:=7) kr rfl rfl hcl 117 (.tmp 5) (.tmp 18) rfl ((k4.mono ex).turn ht1 om) rfl [.int .i64 2,n.term,zI,zI,.slice none 0 0,zI] rfl rfl (show 6<44 by decide) kr (zaT ⟨2,n.term,0,0,[],0⟩) ?_;intro W2 ht2 hb2;replace hp9:=hp9.turn ht2 om;replace hq9:=hq9.turn ht2 om;refine⟨⟨fun _=>trivial,fun _=>trivial,hp9,hq9⟩,fun hcl hS=> ?_⟩;clear hp9 hq9;refine za9 (i:=8) kr rfl rfl hcl (fun K9 hK9=> ?_);have hp9:=hS.2.2.1;have hq9:=hS.2.2.2;clear hS hcl;go_simp;refine hK9 _ _ ⟨fun _=>trivial,fun _=>trivial,hp9,hq9⟩ (fun hcl hS=> ?_);clear hK9 hp9 hq9 K9;refine za9 (i:=9) kr rfl rfl hcl (fun K9 hK9=> ?_);have hp9:=hS.2.2.1;have hq9:=hS.2.2.2;clear hS hcl;go_simp;refine hK9 _ _ ⟨fun _=>trivial,fun _=>trivial,hp9,hq9⟩ (fun hcl hS=> ?_);clear hK9 hp9 hq9 K9;clear hcl hS;refine zas kr ?_ _;go_wp2_with fail;obtain⟨q0,q1,q2,q3,q4,q5⟩:=(hb1.turn ht2 om).six;obtain⟨r0,r1,r2,r3,r4,r5⟩:=hb2.six;refine bodyPost_ret (v:=.tuple #[.agg (Ln n A c),.agg #[.int .i64 2,n.term,zI,zI,.slice none 0 0,zI],.bool (k==0),zI]) (by simp[results,results185,go_sem,q0,q1,q2,q3,q4,q5,r0,r1,r2,r3,r4,r5]) rfl ?_;exact zb4.old HR.out (ht2.ext (ht1.ext ex (by first|(simp[go_sem];done)|(simp[go_sem];omega))) (by first|(simp[go_sem];done)|(simp[go_sem];omega))) HS.out
theorem zyP (hs:za3 w A c n.log)(hm:za3 w B d m.recs)(h256:n.log.length≤256)(hrl:m.kind=0→m.recs.length≤16)(ha:0≤m.at_)(hk:m.kind=0)(ht:n.term=m.term):Calls prog 185 #[.agg (Ln n A c),.agg #[zI,m.term,m.at_,m.before,.slice B m.recs.length d,m.acked]] (xt w y0) (zb4 w (xt w y0) (rcvdV n m)):=by
 have hl:=hs.len;have HS:=zh hs;have hd1:decide (m.term<n.term)=false:=decide_eq_false om;have hd2:decide (n.term<m.term)=false:=decide_eq_false om;have h1:¬m.term<n.term:=by omega
 have h2:¬n.term<m.term:=by omega
 obtain⟨v,hv⟩:∃v,takeV n m=v:=⟨_,rfl⟩
 have HR:=zh (show rcvdV n m=v by rw[←hv];have hi:inTerm n m=n:=zb5 ht;unfold rcvdV recdV;rw[if_neg h1,if_neg h1,hi,if_pos hk])
 have hz:=zh (zui n m);rw[hv] at hz;have HC:=zh (fun(W:World) (hx:Ext w W)=>zq4 n A c m B d w W hx hs hm h256 (hrl hk) ha hk v hv);clear hs hm hk hv hrl ha h256 ht;go_enter func185,ntmps185;go_wp2_with (go_at_call 214;refine(HC.out _ ex).mono ?_;rintro e w' ⟨D,K,rfl,hx,hr⟩;have HRR:=zh hr;obtain⟨y9,rfl⟩:=hx.get;clear hx hr);refine zaG (fun W9 hW9=> ?_);have k8:BoxAt W9 (w.heap.size+y0.n+1+1+1+1+y9.n) (Ln v.1 D K) 40:=by rw[hW9];exact bxA
 have k9:BoxAt W9 (w.heap.size+y0.n+1+1+1+1+y9.n+1) (La v.2.1) 117:=by rw[hW9];exact bxA
 have k3:BoxAt W9 (w.heap.size+y0.n+1+1) Zn 40:=by rw[hW9];exact bxA
 have k4:BoxAt W9 (w.heap.size+y0.n+1+1+1) Zm 117:=by rw[hW9];exact bxA
 have hsz:w.heap.size+y0.n+4≤W9.heap.size:=by rw[hW9];simp[go_sem];omega
 have hex:Ext (xt w y0) W9:=by rw[hW9];exact ex
 have hlg:LogQ w (xt w y0) W9 D v.1.log.length K v.1.log:=by rw[hW9];exact LogQ.base (LogQ.along HRR.out ex sg) (by simp[go_sem]<;>omega)
 clear hW9;refine zaw (S:=SS 99 99 (fun _=>True) (fun _=>True) (fun w9=>BoxAt w9 (w.heap.size+y0.n+1+1+1+1+y9.n) (Ln v.1 D K) 40 ∧BoxAt w9 (w.heap.size+y0.n+1+1+1+1+y9.n+1) (La v.2.1) 117)) kr ⟨fun _=>trivial,fun _=>trivial,k8.mono ex,k9.mono ex⟩ (fun hcl hS=> ?_);refine wtg 0 (T:=(fun w9=>BoxAt w9 (w.heap.size+y0.n+1+1+1+1+y9.n) (Ln v.1 D K) 40)) ?_ rfl (fun _ _ _ _ hS=>hS.2.2.1) ?_ hcl hS ?_;rotate_left
 ·(intro w9 hw9;(try dsimp only at hw9);obtain⟨g0,g1,g2,g3,g4,g5⟩:=hw9.six;go_simp;try with_reducible rfl)
 clear hcl hS;intro hcl hS
 (try simp only[Act.put,lsT,lsS,lsZ])
 refine wtg 1 (T:=(fun w9=>BoxAt w9 (w.heap.size+y0.n+1+1+1+1+y9.n+1) (La v.2.1) 117)) ?_ rfl (fun _ _ _ _ hS=>hS.2.2.2) ?_ hcl hS ?_;rotate_left
 ·(intro w9 hw9;(try dsimp only at hw9);obtain⟨g0,g1,g2,g3,g4,g5⟩:=hw9.six;go_simp;try with_reducible rfl)
 clear hcl hS;intro hcl hS
 (try simp only[Act.put,lsT,lsS,lsZ])
 refine wtk 2 rfl hcl hS ?_;clear hcl hS;intro hcl hS
 (try simp only[Act.put,lsT,lsS,lsZ])
 refine wtk 3 rfl hcl hS ?_;clear hcl hS;intro hcl hS
 (try simp only[Act.put,lsT,lsS,lsZ])
 refine wtk 4 rfl hcl hS ?_;clear hcl hS;intro hcl hS
 (try simp only[Act.put,lsT,lsS,lsZ])
 have hp9:=hS.2.2.1;have hq9:=hS.2.2.2;clear hS;refine zao (i:=5) kr rfl rfl hcl 40 (.tmp 4) (.tmp 43) rfl (k3.mono ex) rfl (Ln v.1 D K) rfl rfl (show 6<44 by decide) kr (zaa v.1 D K) ?_;intro W1 ht1 hb1;replace hp9:=hp9.turn ht1 om;replace hq9:=hq9.turn ht1 om;refine⟨⟨fun _=>trivial,fun _=>trivial,hp9,hq9⟩,fun hcl hS=> ?_⟩;clear hp9 hq9;have hp9:=hS.2.2.1;have hq9:=hS.2.2.2;clear hS;refine zao (i:=6) kr rfl rfl hcl 117 (.tmp 5) (.tmp 44) rfl ((k4.mono ex).turn ht1 om) rfl (La v.2.1) rfl rfl (show 6<44 by decide) kr (zaT v.2.1) ?_;intro W2 ht2 hb2;replace hp9:=hp9.turn ht2 om;replace hq9:=hq9.turn ht2 om;refine⟨⟨fun _=>trivial,fun _=>trivial,hp9,hq9⟩,fun hcl hS=> ?_⟩;clear hp9 hq9;refine za9 (i:=7) kr rfl rfl hcl (fun K9 hK9=> ?_);have hp9:=hS.2.2.1;have hq9:=hS.2.2.2;clear hS hcl;go_simp;refine hK9 _ _ ⟨fun _=>trivial,fun _=>trivial,hp9,hq9⟩ (fun hcl hS=> ?_);clear hK9 hp9 hq9 K9;refine za9 (i:=8) kr rfl rfl hcl (fun K9 hK9=> ?_);have hp9:=hS.2.2.1;have hq9:=hS.2.2.2;clear hS hcl;go_simp;refine hK9 _ _ ⟨fun _=>trivial,fun _=>trivial,hp9,hq9⟩ (fun hcl hS=> ?_);clear hK9 hp9 hq9 K9;clear hcl hS;refine zas kr ?_ _;go_wp2_with fail;obtain⟨q0,q1,q2,q3,q4,q5⟩:=(hb1.turn ht2 om).six;obtain⟨r0,r1,r2,r3,r4,r5⟩:=hb2.six;refine bodyPost_ret (v:=.tuple #[.agg (Ln v.1 D K),.agg (La v.2.1),v.2.2.1,v.2.2.2]) (by simp[results,results185,go_sem,hz.out,q0,q1,q2,q3,q4,q5,r0,r1,r2,r3,r4,r5]) rfl ?_;rw[HR.out];exact⟨D,K,rfl,ht2.ext (ht1.ext (hex.trans ex) (by first|(simp[go_sem];done)|(simp[go_sem];omega))) (by first|(simp[go_sem];done)|(simp[go_sem];omega)),((hlg.mono ex).turn ht1).turn ht2⟩
theorem zEG (hs:za3 w A c n.log)(hm:za3 w B d m.recs)(h256:n.log.length≤256)(hrl:m.kind=0→m.recs.length≤16)(ha:0≤m.at_)(hk:m.kind=0)(ht:n.term<m.term):Calls prog 185 #[.agg (Ln n A c),.agg #[zI,m.term,m.at_,m.before,.slice B m.recs.length d,m.acked]] (xt w y0) (zb4 w (xt w y0) (rcvdV n m)):=by
 have hl:=hs.len;have HS:=zh hs;have hd1:decide (m.term<n.term)=false:=decide_eq_false om;have hd2:decide (n.term<m.term)=true:=decide_eq_true ht;have h1:¬m.term<n.term:=by omega
 skip
 obtain⟨v,hv⟩:∃v,takeV ⟨n.id,m.term,false,n.log,n.acked,0⟩ m=v:=⟨_,rfl⟩
 have HR:=zh (show rcvdV n m=v by
  rw[←hv];have hi:inTerm n m=⟨n.id,m.term,false,n.log,n.acked,0⟩:=by unfold inTerm;rw[if_pos ht]
  unfold rcvdV recdV;rw[if_neg h1,if_neg h1,hi,if_pos hk])
 have hz:=zh (zui ⟨n.id,m.term,false,n.log,n.acked,0⟩ m);rw[hv] at hz;have HC:=zh (fun(W:World) (hx:Ext w W)=>zq4 ⟨n.id,m.term,false,n.log,n.acked,0⟩ A c m B d w W hx hs hm h256 (hrl hk) ha hk v hv);clear hs hm hk hv hrl ha h256;go_enter func185,ntmps185;go_wp2_with (go_at_call 214;refine(HC.out _ ex).mono ?_;rintro e w' ⟨D,K,rfl,hx,hr⟩;have HRR:=zh hr;obtain⟨y9,rfl⟩:=hx.get;clear hx hr);refine zaG (fun W9 hW9=> ?_);have k8:BoxAt W9 (w.heap.size+y0.n+1+1+1+1+y9.n) (Ln v.1 D K) 40:=by rw[hW9];exact bxA
 have k9:BoxAt W9 (w.heap.size+y0.n+1+1+1+1+y9.n+1) (La v.2.1) 117:=by rw[hW9];exact bxA
 have k3:BoxAt W9 (w.heap.size+y0.n+1+1) Zn 40:=by rw[hW9];exact bxA
 have k4:BoxAt W9 (w.heap.size+y0.n+1+1+1) Zm 117:=by rw[hW9];exact bxA
 have hsz:w.heap.size+y0.n+4≤W9.heap.size:=by rw[hW9];simp[go_sem];omega
 have hex:Ext (xt w y0) W9:=by rw[hW9];exact ex
 have hlg:LogQ w (xt w y0) W9 D v.1.log.length K v.1.log:=by rw[hW9];exact LogQ.base (LogQ.along HRR.out ex sg) (by simp[go_sem]<;>omega)
 clear hW9;refine zaw (S:=SS 99 99 (fun _=>True) (fun _=>True) (fun w9=>BoxAt w9 (w.heap.size+y0.n+1+1+1+1+y9.n) (Ln v.1 D K) 40 ∧BoxAt w9 (w.heap.size+y0.n+1+1+1+1+y9.n+1) (La v.2.1) 117)) kr ⟨fun _=>trivial,fun _=>trivial,k8.mono ex,k9.mono ex⟩ (fun hcl hS=> ?_);refine wtg 0 (T:=(fun w9=>BoxAt w9 (w.heap.size+y0.n+1+1+1+1+y9.n) (Ln v.1 D K) 40)) ?_ rfl (fun _ _ _ _ hS=>hS.2.2.1) ?_ hcl hS ?_;rotate_left
 ·(intro w9 hw9;(try dsimp only at hw9);obtain⟨g0,g1,g2,g3,g4,g5⟩:=hw9.six;go_simp;try with_reducible rfl)
 clear hcl hS;intro hcl hS
 (try simp only[Act.put,lsT,lsS,lsZ])
 refine wtg 1 (T:=(fun w9=>BoxAt w9 (w.heap.size+y0.n+1+1+1+1+y9.n+1) (La v.2.1) 117)) ?_ rfl (fun _ _ _ _ hS=>hS.2.2.2) ?_ hcl hS ?_;rotate_left
 ·(intro w9 hw9;(try dsimp only at hw9);obtain⟨g0,g1,g2,g3,g4,g5⟩:=hw9.six;go_simp;try with_reducible rfl)
 clear hcl hS;intro hcl hS
 (try simp only[Act.put,lsT,lsS,lsZ])
 refine wtk 2 rfl hcl hS ?_;clear hcl hS;intro hcl hS
 (try simp only[Act.put,lsT,lsS,lsZ])
 refine wtk 3 rfl hcl hS ?_;clear hcl hS;intro hcl hS
 (try simp only[Act.put,lsT,lsS,lsZ])
 refine wtk 4 rfl hcl hS ?_;clear hcl hS;intro hcl hS
 (try simp only[Act.put,lsT,lsS,lsZ])
 have hp9:=hS.2.2.1;have hq9:=hS.2.2.2;clear hS;refine zao (i:=5) kr rfl rfl hcl 40 (.tmp 4) (.tmp 43) rfl (k3.mono ex) rfl (Ln v.1 D K) rfl rfl (show 6<44 by decide) kr (zaa v.1 D K) ?_;intro W1 ht1 hb1;replace hp9:=hp9.turn ht1 om;replace hq9:=hq9.turn ht1 om;refine⟨⟨fun _=>trivial,fun _=>trivial,hp9,hq9⟩,fun hcl hS=> ?_⟩;clear hp9 hq9;have hp9:=hS.2.2.1;have hq9:=hS.2.2.2;clear hS;refine zao (i:=6) kr rfl rfl hcl 117 (.tmp 5) (.tmp 44) rfl ((k4.mono ex).turn ht1 om) rfl (La v.2.1) rfl rfl (show 6<44 by decide) kr (zaT v.2.1) ?_;intro W2 ht2 hb2;replace hp9:=hp9.turn ht2 om;replace hq9:=hq9.turn ht2 om;refine⟨⟨fun _=>trivial,fun _=>trivial,hp9,hq9⟩,fun hcl hS=> ?_⟩;clear hp9 hq9;refine za9 (i:=7) kr rfl rfl hcl (fun K9 hK9=> ?_);have hp9:=hS.2.2.1;have hq9:=hS.2.2.2;clear hS hcl;go_simp;refine hK9 _ _ ⟨fun _=>trivial,fun _=>trivial,hp9,hq9⟩ (fun hcl hS=> ?_);clear hK9 hp9 hq9 K9;refine za9 (i:=8) kr rfl rfl hcl (fun K9 hK9=> ?_);have hp9:=hS.2.2.1;have hq9:=hS.2.2.2;clear hS hcl;go_simp;refine hK9 _ _ ⟨fun _=>trivial,fun _=>trivial,hp9,hq9⟩ (fun hcl hS=> ?_);clear hK9 hp9 hq9 K9;clear hcl hS;refine zas kr ?_ _;go_wp2_with fail;obtain⟨q0,q1,q2,q3,q4,q5⟩:=(hb1.turn ht2 om).six;obtain⟨r0,r1,r2,r3,r4,r5⟩:=hb2.six;refine bodyPost_ret (v:=.tuple #[.agg (Ln v.1 D K),.agg (La v.2.1),v.2.2.1,v.2.2.2]) (by simp[results,results185,go_sem,hz.out,q0,q1,q2,q3,q4,q5,r0,r1,r2,r3,r4,r5]) rfl ?_;rw[HR.out];exact⟨D,K,rfl,ht2.ext (ht1.ext (hex.trans ex) (by first|(simp[go_sem];done)|(simp[go_sem];omega))) (by first|(simp[go_sem];done)|(simp[go_sem];omega)),((hlg.mono ex).turn ht1).turn ht2⟩
theorem zEH (hs:za3 w A c n.log)(_hm:za3 w B d m.recs)(_h256:n.log.length≤256)(_hrl:m.kind=0→m.recs.length≤16)(_ha:0≤m.at_)(hk:m.kind=1)(ht:n.term<m.term):Calls prog 185 #[.agg (Ln n A c),.agg #[.int .i64 1,m.term,m.at_,m.before,.slice B m.recs.length d,m.acked]] (xt w y0) (zb4 w (xt w y0) (rcvdV n m)):=by
 have hl:=hs.len;have HS:=zh hs;have hd1:decide (m.term<n.term)=false:=decide_eq_false om;have hd2:decide (n.term<m.term)=true:=decide_eq_true ht;have h1:¬m.term<n.term:=by omega
 have HR:=zh (show rcvdV n m=(⟨n.id,m.term,false,n.log,n.acked,0⟩,msg0,false,0) by
  have hi:inTerm n m=⟨n.id,m.term,false,n.log,n.acked,0⟩:=by unfold inTerm;rw[if_pos ht]
  unfold rcvdV recdV;rw[if_neg h1,if_neg h1,hi,if_neg om,if_pos hk];rfl)
 clear hs _hm hk _hrl _ha _h256;go_enter func185,ntmps185;go_wp2;refine bodyPost_ret (v:=.tuple #[.agg #[n.id,m.term,.bool false,.slice A n.log.length c,n.acked,zI],.agg Zm,.bool false,zI]) (by simp[results,results185,go_sem]) rfl ?_;exact zb4.old (n:=⟨n.id,m.term,false,n.log,n.acked,0⟩) HR.out ex HS.out
theorem zEI (hs:za3 w A c n.log)(_hm:za3 w B d m.recs)(_h256:n.log.length≤256)(_hrl:m.kind=0→m.recs.length≤16)(_ha:0≤m.at_)(hk:m.kind=2)(ht:n.term<m.term):Calls prog 185 #[.agg (Ln n A c),.agg #[.int .i64 2,m.term,m.at_,m.before,.slice B m.recs.length d,m.acked]] (xt w y0) (zb4 w (xt w y0) (rcvdV n m)):=by
 have hl:=hs.len;have HS:=zh hs;have hd1:decide (m.term<n.term)=false:=decide_eq_false om;have hd2:decide (n.term<m.term)=true:=decide_eq_true ht;have h1:¬m.term<n.term:=by omega
 have HR:=zh (show rcvdV n m=(⟨n.id,m.term,false,n.log,n.acked,0⟩,msg0,false,0) by
  have hi:inTerm n m=⟨n.id,m.term,false,n.log,n.acked,0⟩:=by unfold inTerm;rw[if_pos ht]
  unfold rcvdV recdV;rw[if_neg h1,if_neg h1,hi,if_neg om,if_neg om];rfl)
 clear hs _hm hk _hrl _ha _h256;go_enter func185,ntmps185;go_wp2;refine bodyPost_ret (v:=.tuple #[.agg #[n.id,m.term,.bool false,.slice A n.log.length c,n.acked,zI],.agg Zm,.bool false,zI]) (by simp[results,results185,go_sem]) rfl ?_;exact zb4.old (n:=⟨n.id,m.term,false,n.log,n.acked,0⟩) HR.out ex HS.out
theorem ztU (hs:za3 w A c n.log)(_hm:za3 w B d m.recs)(_h256:n.log.length≤256)(_hrl:m.kind=0→m.recs.length≤16)(_ha:0≤m.at_)(hk:m.kind=1)(ht:n.term=m.term)(hsp:n.speaks=false):Calls prog 185 #[.agg #[n.id,n.term,.bool false,.slice A n.log.length c,n.acked,n.next],.agg #[.int .i64 1,m.term,m.at_,m.before,.slice B m.recs.length d,m.acked]] (xt w y0) (zb4 w (xt w y0) (rcvdV n m)):=by
 have hl:=hs.len;have HS:=zh hs;have hd1:decide (m.term<n.term)=false:=decide_eq_false om;have hd2:decide (n.term<m.term)=false:=decide_eq_false om;have h1:¬m.term<n.term:=by omega
 have h2:¬n.term<m.term:=by omega
 have HR:=zh (show rcvdV n m=(⟨n.id,n.term,false,n.log,n.acked,n.next⟩,msg0,false,0) by
  have hi:inTerm n m=n:=zb5 ht;have hf:ackN n m=⟨n.id,n.term,false,n.log,n.acked,n.next⟩:=by show ackN n m=_;unfold ackN;rw[if_neg (fun h=>by rw[hsp] at h;cases h.1),←hsp]
  unfold rcvdV recdV;rw[if_neg h1,if_neg h1,hi,if_neg om,if_pos hk,hf])
 clear hs _hm hk _hrl _ha _h256 hsp ht;go_enter func185,ntmps185;go_wp2;refine bodyPost_ret (v:=.tuple #[.agg #[n.id,n.term,.bool false,.slice A n.log.length c,n.acked,n.next],.agg Zm,.bool false,zI]) (by simp[results,results185,go_sem]) rfl ?_;exact zb4.old (n:=⟨n.id,n.term,false,n.log,n.acked,n.next⟩) HR.out ex HS.out
theorem zry (hs:za3 w A c n.log)(_hm:za3 w B d m.recs)(_h256:n.log.length≤256)(_hrl:m.kind=0→m.recs.length≤16)(_ha:0≤m.at_)(hk:m.kind=1)(ht:n.term=m.term)(hsp:n.speaks=true)(hle:m.at_≤n.log.length):Calls prog 185 #[.agg #[n.id,n.term,.bool true,.slice A n.log.length c,n.acked,n.next],.agg #[.int .i64 1,m.term,m.at_,m.before,.slice B m.recs.length d,m.acked]] (xt w y0) (zb4 w (xt w y0) (rcvdV n m)):=by
 have hl:=hs.len;have HS:=zh hs;have hd1:decide (m.term<n.term)=false:=decide_eq_false om;have hd2:decide (n.term<m.term)=false:=decide_eq_false om;have h1:¬m.term<n.term:=by omega
 have h2:¬n.term<m.term:=by omega
 have HR:=zh (show rcvdV n m=(⟨n.id,n.term,true,n.log,max n.acked m.at_,max n.next m.at_⟩,msg0,false,0) by
  have hi:inTerm n m=n:=zb5 ht;have hf:ackN n m=⟨n.id,n.term,true,n.log,max n.acked m.at_,max n.next m.at_⟩:=by show ackN n m=_;unfold ackN;rw[if_pos ⟨hsp,hle⟩,hsp]
  unfold rcvdV recdV;rw[if_neg h1,if_neg h1,hi,if_neg om,if_pos hk,hf])
 clear hs _hm hk _hrl _ha _h256 hsp ht;go_enter func185,ntmps185;go_wp2;refine zaw (S:=SS 11 13 (fun w'=>w'.cell? ⟨w.heap.size+y0.n,5,none⟩=some (.int .i64 n.next)) (fun w'=>w'.cell? ⟨w.heap.size+y0.n,4,none⟩=some (.int .i64 n.acked)) (fun w'=>w'.cell? ⟨w.heap.size+y0.n+1,2,none⟩=some (.int .i64 m.at_))) kr ⟨fun _=>by simp[go_sem],fun _=>by simp[go_sem],by simp[go_sem]⟩ (fun hcl hS=> ?_);refine wtg 0 (T:=(fun _=>True)) ?_ rfl (fun _ _ _ _ _=>trivial) ?_ hcl hS ?_;rotate_left
 ·(intro w' hw';(try dsimp only at hw');go_simp;try with_reducible rfl)
 clear hcl hS;intro hcl hS
 (try simp only[Act.put,lsT,lsS,lsZ])
 refine wtg 1 (T:=(fun w'=>w'.cell? ⟨w.heap.size+y0.n,5,none⟩=some (.int .i64 n.next))) ?_ rfl (fun _ _ hc hi hS=>hS.1 (hc.not (k:=11) kr hi)) ?_ hcl hS ?_;rotate_left
 ·(intro w' hw';(try dsimp only at hw');go_simp;try with_reducible rfl)
 clear hcl hS;intro hcl hS
 (try simp only[Act.put,lsT,lsS,lsZ])
 refine wtg 2 (T:=(fun _=>True)) ?_ rfl (fun _ _ _ _ _=>trivial) ?_ hcl hS ?_;rotate_left
 ·(intro w' hw';(try dsimp only at hw');go_simp;try with_reducible rfl)
 clear hcl hS;intro hcl hS
 (try simp only[Act.put,lsT,lsS,lsZ])
 refine wtg 3 (T:=(fun w'=>w'.cell? ⟨w.heap.size+y0.n+1,2,none⟩=some (.int .i64 m.at_))) ?_ rfl (fun _ _ _ _ hS=>hS.2.2) ?_ hcl hS ?_;rotate_left
 ·(intro w' hw';(try dsimp only at hw');go_simp;try with_reducible rfl)
 clear hcl hS;intro hcl hS
 (try simp only[Act.put,lsT,lsS,lsZ])
 refine wtg 4 (T:=(fun _=>True)) ?_ rfl (fun _ _ _ _ _=>trivial) ?_ hcl hS ?_;rotate_left
 ·(intro w' hw';(try dsimp only at hw');go_simp;try with_reducible rfl)
 clear hcl hS;intro hcl hS
 (try simp only[Act.put,lsT,lsS,lsZ])
 refine wtg 5 (T:=(fun _=>True)) ?_ rfl (fun _ _ _ _ _=>trivial) ?_ hcl hS ?_;rotate_left
 ·(intro w' hw';(try dsimp only at hw');go_simp;try with_reducible rfl)
 clear hcl hS;intro hcl hS
 (try simp only[Act.put,lsT,lsS,lsZ])
 refine wtg 6 (T:=(fun w'=>w'.cell? ⟨w.heap.size+y0.n,4,none⟩=some (.int .i64 n.acked))) ?_ rfl (fun _ _ hc hi hS=>hS.2.1 (hc.not (k:=13) kr hi)) ?_ hcl hS ?_;rotate_left
 ·(intro w' hw';(try dsimp only at hw');go_simp;try with_reducible rfl)
 clear hcl hS;intro hcl hS
 (try simp only[Act.put,lsT,lsS,lsZ])
 refine wtg 7 (T:=(fun _=>True)) ?_ rfl (fun _ _ _ _ _=>trivial) ?_ hcl hS ?_;rotate_left
 ·(intro w' hw';(try dsimp only at hw');go_simp;try with_reducible rfl)
 clear hcl hS;intro hcl hS
 (try simp only[Act.put,lsT,lsS,lsZ])
 refine wtg 8 (T:=(fun w'=>w'.cell? ⟨w.heap.size+y0.n+1,2,none⟩=some (.int .i64 m.at_))) ?_ rfl (fun _ _ _ _ hS=>hS.2.2) ?_ hcl hS ?_;rotate_left
 ·(intro w' hw';(try dsimp only at hw');go_simp;try with_reducible rfl)
 clear hcl hS;intro hcl hS
 (try simp only[Act.put,lsT,lsS,lsZ])
 refine wtg 9 (T:=(fun _=>True)) ?_ rfl (fun _ _ _ _ _=>trivial) ?_ hcl hS ?_;rotate_left
 ·(intro w' hw';(try dsimp only at hw');go_simp;try with_reducible rfl)
 clear hcl hS;intro hcl hS
 (try simp only[Act.put,lsT,lsS,lsZ])
 refine wtg 10 (T:=(fun _=>True)) ?_ rfl (fun _ _ _ _ _=>trivial) ?_ hcl hS ?_;rotate_left
 ·(intro w' hw';(try dsimp only at hw');go_simp;try with_reducible rfl)
 clear hcl hS;intro hcl hS
 (try simp only[Act.put,lsT,lsS,lsZ])
 refine za9 (i:=11) kr rfl rfl hcl (fun K hK=> ?_);go_simp;clear hS hcl;refine hK _ _ ⟨fun hh=>absurd hh dk,fun _=>by simp[go_sem],by simp[go_sem]⟩ (fun hcl hS=> ?_);clear hK;refine wtg 12 (T:=(fun _=>True)) ?_ rfl (fun _ _ _ _ _=>trivial) ?_ hcl hS ?_;rotate_left
 ·(intro w' hw';(try dsimp only at hw');go_simp;try with_reducible rfl)
 clear hcl hS;intro hcl hS
 (try simp only[Act.put,lsT,lsS,lsZ])
 refine za9 (i:=13) kr rfl rfl hcl (fun K hK=> ?_);go_simp;clear hS hcl;refine hK _ _ ⟨fun hh=>absurd hh dk,fun hh=>absurd hh dk,by simp[go_sem]⟩ (fun hcl hS=> ?_);clear hK hcl hS;refine zas kr ?_ _;go_wp2_with fail;refine bodyPost_ret (v:=.tuple #[.agg #[n.id,n.term,.bool true,.slice A n.log.length c,.int .i64 (max n.acked m.at_),.int .i64 (max n.next m.at_)],.agg Zm,.bool false,zI]) (by simp[results,results185,go_sem]) rfl ?_;exact zb4.old (n:=⟨n.id,n.term,true,n.log,max n.acked m.at_,max n.next m.at_⟩) HR.out ex HS.out
theorem zrx (hs:za3 w A c n.log)(_hm:za3 w B d m.recs)(_h256:n.log.length≤256)(_hrl:m.kind=0→m.recs.length≤16)(_ha:0≤m.at_)(hk:m.kind=1)(ht:n.term=m.term)(hsp:n.speaks=true)(hle:¬m.at_≤n.log.length):Calls prog 185 #[.agg #[n.id,n.term,.bool true,.slice A n.log.length c,n.acked,n.next],.agg #[.int .i64 1,m.term,m.at_,m.before,.slice B m.recs.length d,m.acked]] (xt w y0) (zb4 w (xt w y0) (rcvdV n m)):=by
 have hl:=hs.len;have HS:=zh hs;have hd1:decide (m.term<n.term)=false:=decide_eq_false om;have hd2:decide (n.term<m.term)=false:=decide_eq_false om;have h1:¬m.term<n.term:=by omega
 have h2:¬n.term<m.term:=by omega
 have HR:=zh (show rcvdV n m=(⟨n.id,n.term,true,n.log,n.acked,n.next⟩,msg0,false,0) by
  have hi:inTerm n m=n:=zb5 ht;have hf:ackN n m=⟨n.id,n.term,true,n.log,n.acked,n.next⟩:=by show ackN n m=_;unfold ackN;rw[if_neg (fun h=>hle h.2),←hsp]
  unfold rcvdV recdV;rw[if_neg h1,if_neg h1,hi,if_neg om,if_pos hk,hf])
 clear hs _hm hk _hrl _ha _h256 hsp ht;go_enter func185,ntmps185;go_wp2;refine bodyPost_ret (v:=.tuple #[.agg #[n.id,n.term,.bool true,.slice A n.log.length c,n.acked,n.next],.agg Zm,.bool false,zI]) (by simp[results,results185,go_sem]) rfl ?_;exact zb4.old (n:=⟨n.id,n.term,true,n.log,n.acked,n.next⟩) HR.out ex HS.out
theorem ztV (hs:za3 w A c n.log)(_hm:za3 w B d m.recs)(_h256:n.log.length≤256)(_hrl:m.kind=0→m.recs.length≤16)(_ha:0≤m.at_)(hk:m.kind=2)(ht:n.term=m.term)(hsp:n.speaks=false):Calls prog 185 #[.agg #[n.id,n.term,.bool false,.slice A n.log.length c,n.acked,n.next],.agg #[.int .i64 2,m.term,m.at_,m.before,.slice B m.recs.length d,m.acked]] (xt w y0) (zb4 w (xt w y0) (rcvdV n m)):=by
 have hl:=hs.len;have HS:=zh hs;have hd1:decide (m.term<n.term)=false:=decide_eq_false om;have hd2:decide (n.term<m.term)=false:=decide_eq_false om;have h1:¬m.term<n.term:=by omega
 have h2:¬n.term<m.term:=by omega
 have HR:=zh (show rcvdV n m=(⟨n.id,n.term,false,n.log,n.acked,n.next⟩,msg0,false,0) by
  have hi:inTerm n m=n:=zb5 ht;have hf:zar n m=⟨n.id,n.term,false,n.log,n.acked,n.next⟩:=by show zar n m=_;unfold zar;rw[if_neg (by rw[hsp];simp),←hsp]
  unfold rcvdV recdV;rw[if_neg h1,if_neg h1,hi,if_neg om,if_neg om,hf])
 clear hs _hm hk _hrl _ha _h256 hsp ht;go_enter func185,ntmps185;go_wp2;refine bodyPost_ret (v:=.tuple #[.agg #[n.id,n.term,.bool false,.slice A n.log.length c,n.acked,n.next],.agg Zm,.bool false,zI]) (by simp[results,results185,go_sem]) rfl ?_;exact zb4.old (n:=⟨n.id,n.term,false,n.log,n.acked,n.next⟩) HR.out ex HS.out
theorem ztW (hs:za3 w A c n.log)(_hm:za3 w B d m.recs)(_h256:n.log.length≤256)(_hrl:m.kind=0→m.recs.length≤16)(_ha:0≤m.at_)(hk:m.kind=2)(ht:n.term=m.term)(hsp:n.speaks=true):Calls prog 185 #[.agg #[n.id,n.term,.bool true,.slice A n.log.length c,n.acked,n.next],.agg #[.int .i64 2,m.term,m.at_,m.before,.slice B m.recs.length d,m.acked]] (xt w y0) (zb4 w (xt w y0) (rcvdV n m)):=by
 have hl:=hs.len;have HS:=zh hs;have hd1:decide (m.term<n.term)=false:=decide_eq_false om;have hd2:decide (n.term<m.term)=false:=decide_eq_false om;have h1:¬m.term<n.term:=by omega
 have h2:¬n.term<m.term:=by omega
 have HR:=zh (show rcvdV n m=(⟨n.id,n.term,true,n.log,n.acked,max (min n.next m.at_) n.acked⟩,msg0,false,0) by
  have hi:inTerm n m=n:=zb5 ht;have hf:zar n m=⟨n.id,n.term,true,n.log,n.acked,max (min n.next m.at_) n.acked⟩:=by show zar n m=_;unfold zar;rw[if_pos hsp,hsp]
  unfold rcvdV recdV;rw[if_neg h1,if_neg h1,hi,if_neg om,if_neg om,hf])
 clear hs _hm hk _hrl _ha _h256 hsp ht;go_enter func185,ntmps185;go_wp2;refine bodyPost_ret (v:=.tuple #[.agg #[n.id,n.term,.bool true,.slice A n.log.length c,n.acked,.int .i64 (max (min n.next m.at_) n.acked)],.agg Zm,.bool false,zI]) (by simp[results,results185,go_sem]) rfl ?_;exact zb4.old (n:=⟨n.id,n.term,true,n.log,n.acked,max (min n.next m.at_) n.acked⟩) HR.out ex HS.out
end
theorem zw4 (n:Nod)(A:Option Addr)(c:Nat)(m:Msg)(B:Option Addr)(d:Nat)(w W:World)(hx:Ext w W)(hs:za3 w A c n.log)(hm:za3 w B d m.recs)(h256:n.log.length≤256)(hok:MsgOk m):
  Calls prog 185 #[.agg (Ln n A c),.agg (Lm m B d)] W (zb4 w W (rcvdV n m)):=by
 obtain⟨y0,rfl⟩:=hx.get;have ha:=hok.at0;have hrl:m.kind=0→m.recs.length≤16:=fun h=>(hok.app h).len;have k0:=hok.k0;have k1:=hok.k1;by_cases ht:m.term<n.term
 ·exact rcvd_old n A c m B d w y0 hs hm h256 hrl ha m.kind rfl ht
 ·have hk:m.kind=0∨m.kind=1∨m.kind=2:=by omega
  by_cases he:n.term=m.term
  ·rcases hk with hk|hk|hk<;>rw[hk]
   ·exact zyP n A c m B d w y0 hs hm h256 hrl ha hk he
   ·obtain⟨s,hsp⟩:∃s,n.speaks=s:=⟨_,rfl⟩
    rw[hsp];cases s with
    |false=>exact ztU n A c m B d w y0 hs hm h256 hrl ha hk he hsp
    |true=>
     by_cases hle:m.at_≤n.log.length
     ·exact zry n A c m B d w y0 hs hm h256 hrl ha hk he hsp hle
     ·exact zrx n A c m B d w y0 hs hm h256 hrl ha hk he hsp hle
   ·obtain⟨s,hsp⟩:∃s,n.speaks=s:=⟨_,rfl⟩
    rw[hsp];cases s with
    |false=>exact ztV n A c m B d w y0 hs hm h256 hrl ha hk he hsp
    |true=>exact ztW n A c m B d w y0 hs hm h256 hrl ha hk he hsp
  ·have hl:n.term<m.term:=by omega
   rcases hk with hk|hk|hk<;>rw[hk]
   ·exact zEG n A c m B d w y0 hs hm h256 hrl ha hk hl
   ·exact zEH n A c m B d w y0 hs hm h256 hrl ha hk hl
   ·exact zEI n A c m B d w y0 hs hm h256 hrl ha hk hl

theorem zgJ (n:Nod)(m:Msg):(rcvdV n m).2.2.2=(recdV n m).2.2.2∧(rcvdV n m).1=(recdV n m).1∧(rcvdV n m).2.2.1=(recdV n m).2.2.1∧((recdV n m).2.2.1=true→(rcvdV n m).2.1=(recdV n m).2.1)∧((recdV n m).2.2.1=false→(recdV n m).2.2.2=0→(recdV n m).2.1=msg0):=by
 unfold rcvdV;by_cases ht:m.term<n.term
 ·unfold recdV;rw[if_pos ht,if_pos ht];by_cases hk:m.kind=0
  ·rw[if_pos hk];refine⟨rfl,rfl,?_,fun _=>rfl,(fun h=>by cases h)⟩;simpa using hk
  ·rw[if_neg hk];refine⟨rfl,rfl,?_,(fun h=>by cases h),fun _ _=>rfl⟩;simpa using hk
 ·rw[if_neg ht];refine⟨rfl,rfl,rfl,fun _=>rfl,?_⟩;unfold recdV;rw[if_neg ht];by_cases hk:m.kind=0
  ·rw[if_pos hk];intro h1 h2;have:=zui (inTerm n m) m;rw[h1,h2] at this;cases this
  ·rw[if_neg hk];split<;>exact fun _ _=>rfl
theorem zcE (n:Nod)(A:Option Addr)(c:Nat)(m:Msg)(B:Option Addr)(d:Nat)(w W:World)(hx:Ext w W)(hs:za3 w A c n.log)(hm:za3 w B d m.recs)(h256:n.log.length≤256)(hok:MsgOk m)(v:Nod×Msg×Bool×Int)(hv:rcvdV n m=v)(b:Bool)(hb:v.2.2.1=b):
  Calls prog 185 #[.agg (Ln n A c),.agg (Lm m B d)] W fun e w'=> ∃D K,e=.returned (.tuple #[.agg (Ln v.1 D K),.agg (La v.2.1),b,v.2.2.2])∧Ext W w'∧LogQ w W w' D v.1.log.length K v.1.log:=by
 subst hv hb;exact zw4 n A c m B d w W hx hs hm h256 hok
section
variable (n:Nod) (A:Option Addr) (c:Nat) (m:Msg) (B:Option Addr) (d:Nat) (w:World)
theorem zjo (hs:za3 w A c n.log)(hm:za3 w B d m.recs)(h:nodE n≠0∨msgE m≠0):Calls prog 137 #[.agg (Ln n A c),.agg (Lm m B d)] w (zb4 w w (recvV n m)):=by
 have HS:=zh hs;have HM:=zh hm;clear hs hm;by_cases h1:nodE n=0
 ·have h2:msgE m≠0:=by rcases h with h|h;exact absurd h1 h;exact h
  have HR:=zh (zEQ h1 h2);have hz:(nodE n !=0)=false:=by simpa using h1
  have hz2:(msgE m !=0)=true:=by simpa using h2
  clear h h1 h2;go_enter func137,ntmps137;go_wp2_with (first|(go_at_call 49;refine zzg (zay n A c _ (HS.out.mono ex)) fun y=>?_)|(go_at_call 50;refine zzg (zdR m B d _ (HM.out.mono ex)) fun y=>?_));exact bodyPost_ret (v:=.tuple #[.agg Zn,.agg Zm,.bool false,.int .i64 (msgE m)]) (by simp[results,results137,go_sem]) rfl (zb4.err HR.out ex)
 ·have HR:=zh (zEP (m:=m) h1);have hz:(nodE n !=0)=true:=by simpa using h1
  clear h h1;go_enter func137,ntmps137;go_wp2_with (go_at_call 49;refine zzg (zay n A c _ (HS.out.mono ex)) fun y=>?_);exact bodyPost_ret (v:=.tuple #[.agg Zn,.agg Zm,.bool false,.int .i64 (nodE n)]) (by simp[results,results137,go_sem]) rfl (zb4.err HR.out ex)
theorem zvT (hs:za3 w A c n.log)(hm:za3 w B d m.recs)(h1:nodE n=0)(h2:msgE m=0)(h3:m.kind=0∧ownB n.id m.term=true):Calls prog 137 #[.agg (Ln n A c),.agg (Lm m B d)] w (zb4 w w (recvV n m)):=by
 have HS:=zh hs;have HM:=zh hm;have hn:=(zal n).1 h1;have hk:=(zcp m).1 h2;have i1:=hn.id1;have i2:=hn.id2;have i3:=hk.t0;have i5:0≤m.term:=by omega
 have hz:(nodE n !=0)=false:=by simpa using h1
 have hz2:(msgE m !=0)=false:=by simpa using h2
 have hz0:(m.kind==0)=true:=by simpa using h3.1
 have HO:=zh h3.2;have HR:=zh (zER h1 h2 h3);clear hs hm h1 h2 h3 hn hk;go_enter func137,ntmps137;go_wp2_with (first|(go_at_call 49;refine zzg (zay n A c _ (HS.out.mono ex)) fun y=>?_)|(go_at_call 50;refine zzg (zdR m B d _ (HM.out.mono ex)) fun y=>?_)|(go_at_call 82;refine(zd9 _ _ _ i1 i2 i5).mono ?_;rintro e w' ⟨he,rfl⟩;rw[HO.out] at he;subst he));exact bodyPost_ret (v:=.tuple #[.agg Zn,.agg Zm,.bool false,.int .i64 11]) (by simp[results,results137,go_sem]) rfl (zb4.err HR.out ex)
theorem ztH (hs:za3 w A c n.log)(hm:za3 w B d m.recs)(h1:nodE n=0)(h2:msgE m=0)(hz0:(m.kind==0)=true)(ho:ownB n.id m.term=false)(h4:(recdV n m).2.2.2≠0):Calls prog 137 #[.agg (Ln n A c),.agg (Lm m B d)] w (zb4 w w (recvV n m)):=by
 have HS:=zh hs;have HM:=zh hm;have hn:=(zal n).1 h1;have hk:=(zcp m).1 h2;have h256:=hn.len;have i1:=hn.id1;have i2:=hn.id2;have i3:=hk.t0;have i5:0≤m.term:=by omega
 have hz:(nodE n !=0)=false:=by simpa using h1
 have hz2:(msgE m !=0)=false:=by simpa using h2
 have HO:=zh ho;have h3:¬(m.kind=0∧ownB n.id m.term=true):=by rw[ho];simp
 obtain⟨q1,q2,q3,q4,q5⟩:=zgJ n m;obtain⟨v,hv⟩:∃v,rcvdV n m=v:=⟨_,rfl⟩
 obtain⟨u,hu⟩:∃u,recdV n m=u:=⟨_,rfl⟩
 rw[hu] at h4;rw[hu,hv] at q1 q2 q3 q4;rw[hu] at q5;have HC:=zh (fun(W:World) (hx:Ext w W)=>zcE n A c m B d w W hx hs hm h256 hk v hv _ rfl);have hz4:(v.2.2.2 !=0)=true:=by rw[q1];simpa using h4
 have HR:=zh (zu0 h1 h2 h3 hu h4);have H4:=zh h4;have Q1:=zh q1;have Q2:=zh q2
 skip
 skip
 clear hs hm h1 h2 h3 hn hk hv hu h4 q1 q2 q3 q4 q5 ho;go_enter func137,ntmps137;go_wp2_with (first|(go_at_call 49;refine zzg (zay n A c _ (HS.out.mono ex)) fun y=>?_)|(go_at_call 50;refine zzg (zdR m B d _ (HM.out.mono ex)) fun y=>?_)|(go_at_call 82;refine(zd9 _ _ _ i1 i2 i5).mono ?_;rintro e w' ⟨he,rfl⟩;rw[HO.out] at he;subst he)|(go_at_call 185;refine(HC.out _ ex).mono ?_;rintro e w' ⟨D,K,rfl,hx,hr⟩;have HRR:=zh hr;obtain⟨y9,rfl⟩:=hx.get;clear hx hr));exact bodyPost_ret (v:=.tuple #[.agg Zn,.agg Zm,.bool false,v.2.2.2]) (by simp[results,results137,go_sem]) rfl (zb4.err (by rw[Q1.out];exact HR.out) ex)
theorem zrs (hs:za3 w A c n.log)(hm:za3 w B d m.recs)(h1:nodE n=0)(h2:msgE m=0)(hz0:(m.kind==0)=true)(ho:ownB n.id m.term=false)(h4:(recdV n m).2.2.2=0)(h5:(recdV n m).2.2.1=false):Calls prog 137 #[.agg (Ln n A c),.agg (Lm m B d)] w (zb4 w w (recvV n m)):=by
 have HS:=zh hs;have HM:=zh hm;have hn:=(zal n).1 h1;have hk:=(zcp m).1 h2;have h256:=hn.len;have i1:=hn.id1;have i2:=hn.id2;have i3:=hk.t0;have i5:0≤m.term:=by omega
 have hz:(nodE n !=0)=false:=by simpa using h1
 have hz2:(msgE m !=0)=false:=by simpa using h2
 have HO:=zh ho;have h3:¬(m.kind=0∧ownB n.id m.term=true):=by rw[ho];simp
 obtain⟨q1,q2,q3,q4,q5⟩:=zgJ n m;obtain⟨v,hv⟩:∃v,rcvdV n m=v:=⟨_,rfl⟩
 obtain⟨u,hu⟩:∃u,recdV n m=u:=⟨_,rfl⟩
 rw[hu] at h4 h5;rw[hu,hv] at q1 q2 q3 q4;rw[hu] at q5;have HC:=zh (fun(W:World) (hx:Ext w W)=>zcE n A c m B d w W hx hs hm h256 hk v hv false (by rw[q3];exact h5));have hz4:(v.2.2.2 !=0)=false:=by rw[q1];simpa using h4
 have HR:=zh (zmq h1 h2 h3 hu h4);have H4:=zh h4;have Q1:=zh q1;have Q2:=zh q2;have Q5:=zh (q5 h5 h4);have H5:=zh h5;clear hs hm h1 h2 h3 hn hk hv hu h4 q1 q2 q3 q4 q5 h5 ho;go_enter func137,ntmps137;go_wp2_with (first|(go_at_call 49;refine zzg (zay n A c _ (HS.out.mono ex)) fun ya=>?_)|(go_at_call 50;refine zzg (zdR m B d _ (HM.out.mono ex)) fun yb=>?_)|(go_at_call 82;refine(zd9 _ _ _ i1 i2 i5).mono ?_;rintro e w' ⟨he,rfl⟩;rw[HO.out] at he;subst he)|(go_at_call 185;refine(HC.out _ ex).mono ?_;rintro e w' ⟨D,K,rfl,hx,hr⟩;have HRR:=zh hr;obtain⟨y9,rfl⟩:=hx.get;clear hx hr));refine zaG (fun W9 hW9=> ?_);have k8:BoxAt W9 (w.heap.size+1+1+1+1+ya.n+yb.n+y9.n) (Ln v.1 D K) 40:=by rw[hW9];exact bxA
 have k9:BoxAt W9 (w.heap.size+1+1+1+1+ya.n+yb.n+y9.n+1) Zm 117:=by rw[hW9];exact bxA
 have k3:BoxAt W9 (w.heap.size+1+1) Zn 40:=by rw[hW9];exact bxA
 have k4:BoxAt W9 (w.heap.size+1+1+1) Zm 117:=by rw[hW9];exact bxA
 have hsz:w.heap.size+4≤W9.heap.size:=by rw[hW9];simp[go_sem];omega
 have hex:Ext w W9:=by rw[hW9];exact ex
 have hlg:LogQ w w W9 D v.1.log.length K v.1.log:=by rw[hW9];exact LogQ.base (LogQ.along HRR.out ex sg) (by simp[go_sem]<;>omega)
 clear hW9;refine zaw (S:=SS 99 99 (fun _=>True) (fun _=>True) (fun w9=>BoxAt w9 (w.heap.size+1+1+1+1+ya.n+yb.n+y9.n) (Ln v.1 D K) 40 ∧BoxAt w9 (w.heap.size+1+1+1+1+ya.n+yb.n+y9.n+1) Zm 117)) kr ⟨fun _=>trivial,fun _=>trivial,k8.mono ex,k9.mono ex⟩ (fun hcl hS=> ?_);refine wtg 0 (T:=(fun w9=>BoxAt w9 (w.heap.size+1+1+1+1+ya.n+yb.n+y9.n) (Ln v.1 D K) 40)) ?_ rfl (fun _ _ _ _ hS=>hS.2.2.1) ?_ hcl hS ?_;rotate_left
 ·(intro w9 hw9;(try dsimp only at hw9);obtain⟨g0,g1,g2,g3,g4,g5⟩:=hw9.six;go_simp;try with_reducible rfl)
 clear hcl hS;intro hcl hS
 (try simp only[Act.put,lsT,lsS,lsZ])
 refine wtg 1 (T:=(fun w9=>BoxAt w9 (w.heap.size+1+1+1+1+ya.n+yb.n+y9.n+1) Zm 117)) ?_ rfl (fun _ _ _ _ hS=>hS.2.2.2) ?_ hcl hS ?_;rotate_left
 ·(intro w9 hw9;(try dsimp only at hw9);obtain⟨g0,g1,g2,g3,g4,g5⟩:=hw9.six;go_simp;try with_reducible rfl)
 clear hcl hS;intro hcl hS
 (try simp only[Act.put,lsT,lsS,lsZ])
 refine wtk 2 rfl hcl hS ?_;clear hcl hS;intro hcl hS
 (try simp only[Act.put,lsT,lsS,lsZ])
 have hp9:=hS.2.2.1;have hq9:=hS.2.2.2;clear hS;refine zao (i:=3) kr rfl rfl hcl 40 (.tmp 4) (.tmp 56) rfl (k3.mono ex) rfl (Ln v.1 D K) rfl rfl (show 6<44 by decide) kr (zaa v.1 D K) ?_;intro W1 ht1 hb1;replace hp9:=hp9.turn ht1 om;replace hq9:=hq9.turn ht1 om;refine⟨⟨fun _=>trivial,fun _=>trivial,hp9,hq9⟩,fun hcl hS=> ?_⟩;clear hp9 hq9;have hp9:=hS.2.2.1;have hq9:=hS.2.2.2;clear hS;refine zao (i:=4) kr rfl rfl hcl 117 (.tmp 5) (.tmp 57) rfl ((k4.mono ex).turn ht1 om) rfl Zm rfl rfl (show 6<44 by decide) kr (zaT msg0) ?_;intro W2 ht2 hb2;replace hp9:=hp9.turn ht2 om;replace hq9:=hq9.turn ht2 om;refine⟨⟨fun _=>trivial,fun _=>trivial,hp9,hq9⟩,fun hcl hS=> ?_⟩;clear hp9 hq9;refine za9 (i:=5) kr rfl rfl hcl (fun K9 hK9=> ?_);have hp9:=hS.2.2.1;have hq9:=hS.2.2.2;clear hS hcl;go_simp;refine hK9 _ _ ⟨fun _=>trivial,fun _=>trivial,hp9,hq9⟩ (fun hcl hS=> ?_);clear hK9 hp9 hq9 K9;refine za9 (i:=6) kr rfl rfl hcl (fun K9 hK9=> ?_);have hp9:=hS.2.2.1;have hq9:=hS.2.2.2;clear hS hcl;go_simp;refine hK9 _ _ ⟨fun _=>trivial,fun _=>trivial,hp9,hq9⟩ (fun hcl hS=> ?_);clear hK9 hp9 hq9 K9;clear hcl hS;refine zas kr ?_ _;go_wp2_with fail;obtain⟨q0,q1,q2,q3,q4,q5⟩:=(hb1.turn ht2 om).six;obtain⟨r0,r1,r2,r3,r4,r5⟩:=hb2.six;refine bodyPost_ret (v:=.tuple #[.agg (Ln v.1 D K),.agg Zm,.bool false,zI]) (by simp[results,results137,go_sem,q0,q1,q2,q3,q4,q5,r0,r1,r2,r3,r4,r5]) rfl ?_;rw[HR.out];have hlog:=((hlg.mono ex).turn ht1).turn ht2;rw[Q2.out] at hlog ⊢
 exact⟨D,K,by rw[H4.out,H5.out,Q5.out];rfl,ht2.ext (ht1.ext (hex.trans ex) om) om,hlog⟩
theorem zrt (hs:za3 w A c n.log)(hm:za3 w B d m.recs)(h1:nodE n=0)(h2:msgE m=0)(hz0:(m.kind==0)=true)(ho:ownB n.id m.term=false)(h4:(recdV n m).2.2.2=0)(h5:(recdV n m).2.2.1=true):Calls prog 137 #[.agg (Ln n A c),.agg (Lm m B d)] w (zb4 w w (recvV n m)):=by
 have HS:=zh hs;have HM:=zh hm;have hn:=(zal n).1 h1;have hk:=(zcp m).1 h2;have h256:=hn.len;have i1:=hn.id1;have i2:=hn.id2;have i3:=hk.t0;have i5:0≤m.term:=by omega
 have hz:(nodE n !=0)=false:=by simpa using h1
 have hz2:(msgE m !=0)=false:=by simpa using h2
 have HO:=zh ho;have h3:¬(m.kind=0∧ownB n.id m.term=true):=by rw[ho];simp
 obtain⟨q1,q2,q3,q4,q5⟩:=zgJ n m;obtain⟨v,hv⟩:∃v,rcvdV n m=v:=⟨_,rfl⟩
 obtain⟨u,hu⟩:∃u,recdV n m=u:=⟨_,rfl⟩
 rw[hu] at h4 h5;rw[hu,hv] at q1 q2 q3 q4;rw[hu] at q5;have HC:=zh (fun(W:World) (hx:Ext w W)=>zcE n A c m B d w W hx hs hm h256 hk v hv true (by rw[q3];exact h5));have hz4:(v.2.2.2 !=0)=false:=by rw[q1];simpa using h4
 have HR:=zh (zmq h1 h2 h3 hu h4);have H4:=zh h4;have Q1:=zh q1;have Q2:=zh q2;have Q4:=zh (q4 h5);have H5:=zh h5;clear hs hm h1 h2 h3 hn hk hv hu h4 q1 q2 q3 q4 q5 h5 ho;go_enter func137,ntmps137;go_wp2_with (first|(go_at_call 49;refine zzg (zay n A c _ (HS.out.mono ex)) fun ya=>?_)|(go_at_call 50;refine zzg (zdR m B d _ (HM.out.mono ex)) fun yb=>?_)|(go_at_call 82;refine(zd9 _ _ _ i1 i2 i5).mono ?_;rintro e w' ⟨he,rfl⟩;rw[HO.out] at he;subst he)|(go_at_call 185;refine(HC.out _ ex).mono ?_;rintro e w' ⟨D,K,rfl,hx,hr⟩;have HRR:=zh hr;obtain⟨y9,rfl⟩:=hx.get;clear hx hr));refine zaG (fun W9 hW9=> ?_);have k8:BoxAt W9 (w.heap.size+1+1+1+1+ya.n+yb.n+y9.n) (Ln v.1 D K) 40:=by rw[hW9];exact bxA
 have k9:BoxAt W9 (w.heap.size+1+1+1+1+ya.n+yb.n+y9.n+1) (La v.2.1) 117:=by rw[hW9];exact bxA
 have k3:BoxAt W9 (w.heap.size+1+1) Zn 40:=by rw[hW9];exact bxA
 have k4:BoxAt W9 (w.heap.size+1+1+1) Zm 117:=by rw[hW9];exact bxA
 have hsz:w.heap.size+4≤W9.heap.size:=by rw[hW9];simp[go_sem];omega
 have hex:Ext w W9:=by rw[hW9];exact ex
 have hlg:LogQ w w W9 D v.1.log.length K v.1.log:=by rw[hW9];exact LogQ.base (LogQ.along HRR.out ex sg) (by simp[go_sem]<;>omega)
 clear hW9;refine zaw (S:=SS 99 99 (fun _=>True) (fun _=>True) (fun w9=>BoxAt w9 (w.heap.size+1+1+1+1+ya.n+yb.n+y9.n) (Ln v.1 D K) 40 ∧BoxAt w9 (w.heap.size+1+1+1+1+ya.n+yb.n+y9.n+1) (La v.2.1) 117)) kr ⟨fun _=>trivial,fun _=>trivial,k8.mono ex,k9.mono ex⟩ (fun hcl hS=> ?_);refine wtg 0 (T:=(fun w9=>BoxAt w9 (w.heap.size+1+1+1+1+ya.n+yb.n+y9.n) (Ln v.1 D K) 40)) ?_ rfl (fun _ _ _ _ hS=>hS.2.2.1) ?_ hcl hS ?_;rotate_left
 ·(intro w9 hw9;(try dsimp only at hw9);obtain⟨g0,g1,g2,g3,g4,g5⟩:=hw9.six;go_simp;try with_reducible rfl)
 clear hcl hS;intro hcl hS
 (try simp only[Act.put,lsT,lsS,lsZ])
 refine wtg 1 (T:=(fun w9=>BoxAt w9 (w.heap.size+1+1+1+1+ya.n+yb.n+y9.n+1) (La v.2.1) 117)) ?_ rfl (fun _ _ _ _ hS=>hS.2.2.2) ?_ hcl hS ?_;rotate_left
 ·(intro w9 hw9;(try dsimp only at hw9);obtain⟨g0,g1,g2,g3,g4,g5⟩:=hw9.six;go_simp;try with_reducible rfl)
 clear hcl hS;intro hcl hS
 (try simp only[Act.put,lsT,lsS,lsZ])
 refine wtk 2 rfl hcl hS ?_;clear hcl hS;intro hcl hS
 (try simp only[Act.put,lsT,lsS,lsZ])
 have hp9:=hS.2.2.1;have hq9:=hS.2.2.2;clear hS;refine zao (i:=3) kr rfl rfl hcl 40 (.tmp 4) (.tmp 56) rfl (k3.mono ex) rfl (Ln v.1 D K) rfl rfl (show 6<44 by decide) kr (zaa v.1 D K) ?_;intro W1 ht1 hb1;replace hp9:=hp9.turn ht1 om;replace hq9:=hq9.turn ht1 om;refine⟨⟨fun _=>trivial,fun _=>trivial,hp9,hq9⟩,fun hcl hS=> ?_⟩;clear hp9 hq9;have hp9:=hS.2.2.1;have hq9:=hS.2.2.2;clear hS;refine zao (i:=4) kr rfl rfl hcl 117 (.tmp 5) (.tmp 57) rfl ((k4.mono ex).turn ht1 om) rfl (La v.2.1) rfl rfl (show 6<44 by decide) kr (zaT v.2.1) ?_;intro W2 ht2 hb2;replace hp9:=hp9.turn ht2 om;replace hq9:=hq9.turn ht2 om;refine⟨⟨fun _=>trivial,fun _=>trivial,hp9,hq9⟩,fun hcl hS=> ?_⟩;clear hp9 hq9;refine za9 (i:=5) kr rfl rfl hcl (fun K9 hK9=> ?_);have hp9:=hS.2.2.1;have hq9:=hS.2.2.2;clear hS hcl;go_simp;refine hK9 _ _ ⟨fun _=>trivial,fun _=>trivial,hp9,hq9⟩ (fun hcl hS=> ?_);clear hK9 hp9 hq9 K9;refine za9 (i:=6) kr rfl rfl hcl (fun K9 hK9=> ?_);have hp9:=hS.2.2.1;have hq9:=hS.2.2.2;clear hS hcl;go_simp;refine hK9 _ _ ⟨fun _=>trivial,fun _=>trivial,hp9,hq9⟩ (fun hcl hS=> ?_);clear hK9 hp9 hq9 K9;clear hcl hS;refine zas kr ?_ _;go_wp2_with fail;obtain⟨q0,q1,q2,q3,q4,q5⟩:=(hb1.turn ht2 om).six;obtain⟨r0,r1,r2,r3,r4,r5⟩:=hb2.six;refine bodyPost_ret (v:=.tuple #[.agg (Ln v.1 D K),.agg (La v.2.1),.bool true,zI]) (by simp[results,results137,go_sem,q0,q1,q2,q3,q4,q5,r0,r1,r2,r3,r4,r5]) rfl ?_;rw[HR.out];have hlog:=((hlg.mono ex).turn ht1).turn ht2;rw[Q2.out] at hlog ⊢
 exact⟨D,K,by rw[H4.out,H5.out,←Q4.out],ht2.ext (ht1.ext (hex.trans ex) om) om,hlog⟩
theorem ztG (hs:za3 w A c n.log)(hm:za3 w B d m.recs)(h1:nodE n=0)(h2:msgE m=0)(hz0:(m.kind==0)=false)(h4:(recdV n m).2.2.2≠0):Calls prog 137 #[.agg (Ln n A c),.agg (Lm m B d)] w (zb4 w w (recvV n m)):=by
 have HS:=zh hs;have HM:=zh hm;have hn:=(zal n).1 h1;have hk:=(zcp m).1 h2;have h256:=hn.len;have i1:=hn.id1;have i2:=hn.id2;have i3:=hk.t0;have i5:0≤m.term:=by omega
 have hz:(nodE n !=0)=false:=by simpa using h1
 have hz2:(msgE m !=0)=false:=by simpa using h2
 skip
 have h3:¬(m.kind=0∧ownB n.id m.term=true):=by intro hh;rw[hh.1] at hz0;cases hz0
 obtain⟨q1,q2,q3,q4,q5⟩:=zgJ n m;obtain⟨v,hv⟩:∃v,rcvdV n m=v:=⟨_,rfl⟩
 obtain⟨u,hu⟩:∃u,recdV n m=u:=⟨_,rfl⟩
 rw[hu] at h4;rw[hu,hv] at q1 q2 q3 q4;rw[hu] at q5;have HC:=zh (fun(W:World) (hx:Ext w W)=>zcE n A c m B d w W hx hs hm h256 hk v hv _ rfl);have hz4:(v.2.2.2 !=0)=true:=by rw[q1];simpa using h4
 have HR:=zh (zu0 h1 h2 h3 hu h4);have H4:=zh h4;have Q1:=zh q1;have Q2:=zh q2
 skip
 skip
 clear hs hm h1 h2 h3 hn hk hv hu h4 q1 q2 q3 q4 q5;go_enter func137,ntmps137;go_wp2_with (first|(go_at_call 49;refine zzg (zay n A c _ (HS.out.mono ex)) fun y=>?_)|(go_at_call 50;refine zzg (zdR m B d _ (HM.out.mono ex)) fun y=>?_)|(go_at_call 185;refine(HC.out _ ex).mono ?_;rintro e w' ⟨D,K,rfl,hx,hr⟩;have HRR:=zh hr;obtain⟨y9,rfl⟩:=hx.get;clear hx hr));exact bodyPost_ret (v:=.tuple #[.agg Zn,.agg Zm,.bool false,v.2.2.2]) (by simp[results,results137,go_sem]) rfl (zb4.err (by rw[Q1.out];exact HR.out) ex)
theorem zrq (hs:za3 w A c n.log)(hm:za3 w B d m.recs)(h1:nodE n=0)(h2:msgE m=0)(hz0:(m.kind==0)=false)(h4:(recdV n m).2.2.2=0)(h5:(recdV n m).2.2.1=false):Calls prog 137 #[.agg (Ln n A c),.agg (Lm m B d)] w (zb4 w w (recvV n m)):=by
 have HS:=zh hs;have HM:=zh hm;have hn:=(zal n).1 h1;have hk:=(zcp m).1 h2;have h256:=hn.len;have i1:=hn.id1;have i2:=hn.id2;have i3:=hk.t0;have i5:0≤m.term:=by omega
 have hz:(nodE n !=0)=false:=by simpa using h1
 have hz2:(msgE m !=0)=false:=by simpa using h2
 skip
 have h3:¬(m.kind=0∧ownB n.id m.term=true):=by intro hh;rw[hh.1] at hz0;cases hz0
 obtain⟨q1,q2,q3,q4,q5⟩:=zgJ n m;obtain⟨v,hv⟩:∃v,rcvdV n m=v:=⟨_,rfl⟩
 obtain⟨u,hu⟩:∃u,recdV n m=u:=⟨_,rfl⟩
 rw[hu] at h4 h5;rw[hu,hv] at q1 q2 q3 q4;rw[hu] at q5;have HC:=zh (fun(W:World) (hx:Ext w W)=>zcE n A c m B d w W hx hs hm h256 hk v hv false (by rw[q3];exact h5));have hz4:(v.2.2.2 !=0)=false:=by rw[q1];simpa using h4
 have HR:=zh (zmq h1 h2 h3 hu h4);have H4:=zh h4;have Q1:=zh q1;have Q2:=zh q2;have Q5:=zh (q5 h5 h4);have H5:=zh h5;clear hs hm h1 h2 h3 hn hk hv hu h4 q1 q2 q3 q4 q5 h5;go_enter func137,ntmps137;go_wp2_with (first|(go_at_call 49;refine zzg (zay n A c _ (HS.out.mono ex)) fun ya=>?_)|(go_at_call 50;refine zzg (zdR m B d _ (HM.out.mono ex)) fun yb=>?_)|(go_at_call 185;refine(HC.out _ ex).mono ?_;rintro e w' ⟨D,K,rfl,hx,hr⟩;have HRR:=zh hr;obtain⟨y9,rfl⟩:=hx.get;clear hx hr));refine zaG (fun W9 hW9=> ?_);have k8:BoxAt W9 (w.heap.size+1+1+1+1+ya.n+yb.n+y9.n) (Ln v.1 D K) 40:=by rw[hW9];exact bxA
 have k9:BoxAt W9 (w.heap.size+1+1+1+1+ya.n+yb.n+y9.n+1) Zm 117:=by rw[hW9];exact bxA
 have k3:BoxAt W9 (w.heap.size+1+1) Zn 40:=by rw[hW9];exact bxA
 have k4:BoxAt W9 (w.heap.size+1+1+1) Zm 117:=by rw[hW9];exact bxA
 have hsz:w.heap.size+4≤W9.heap.size:=by rw[hW9];simp[go_sem];omega
 have hex:Ext w W9:=by rw[hW9];exact ex
 have hlg:LogQ w w W9 D v.1.log.length K v.1.log:=by rw[hW9];exact LogQ.base (LogQ.along HRR.out ex sg) (by simp[go_sem]<;>omega)
 clear hW9;refine zaw (S:=SS 99 99 (fun _=>True) (fun _=>True) (fun w9=>BoxAt w9 (w.heap.size+1+1+1+1+ya.n+yb.n+y9.n) (Ln v.1 D K) 40 ∧BoxAt w9 (w.heap.size+1+1+1+1+ya.n+yb.n+y9.n+1) Zm 117)) kr ⟨fun _=>trivial,fun _=>trivial,k8.mono ex,k9.mono ex⟩ (fun hcl hS=> ?_);refine wtg 0 (T:=(fun w9=>BoxAt w9 (w.heap.size+1+1+1+1+ya.n+yb.n+y9.n) (Ln v.1 D K) 40)) ?_ rfl (fun _ _ _ _ hS=>hS.2.2.1) ?_ hcl hS ?_;rotate_left
 ·(intro w9 hw9;(try dsimp only at hw9);obtain⟨g0,g1,g2,g3,g4,g5⟩:=hw9.six;go_simp;try with_reducible rfl)
 clear hcl hS;intro hcl hS
 (try simp only[Act.put,lsT,lsS,lsZ])
 refine wtg 1 (T:=(fun w9=>BoxAt w9 (w.heap.size+1+1+1+1+ya.n+yb.n+y9.n+1) Zm 117)) ?_ rfl (fun _ _ _ _ hS=>hS.2.2.2) ?_ hcl hS ?_;rotate_left
 ·(intro w9 hw9;(try dsimp only at hw9);obtain⟨g0,g1,g2,g3,g4,g5⟩:=hw9.six;go_simp;try with_reducible rfl)
 clear hcl hS;intro hcl hS
 (try simp only[Act.put,lsT,lsS,lsZ])
 refine wtk 2 rfl hcl hS ?_;clear hcl hS;intro hcl hS
 (try simp only[Act.put,lsT,lsS,lsZ])
 have hp9:=hS.2.2.1;have hq9:=hS.2.2.2;clear hS;refine zao (i:=3) kr rfl rfl hcl 40 (.tmp 4) (.tmp 56) rfl (k3.mono ex) rfl (Ln v.1 D K) rfl rfl (show 6<44 by decide) kr (zaa v.1 D K) ?_;intro W1 ht1 hb1;replace hp9:=hp9.turn ht1 om;replace hq9:=hq9.turn ht1 om;refine⟨⟨fun _=>trivial,fun _=>trivial,hp9,hq9⟩,fun hcl hS=> ?_⟩;clear hp9 hq9;have hp9:=hS.2.2.1;have hq9:=hS.2.2.2;clear hS;refine zao (i:=4) kr rfl rfl hcl 117 (.tmp 5) (.tmp 57) rfl ((k4.mono ex).turn ht1 om) rfl Zm rfl rfl (show 6<44 by decide) kr (zaT msg0) ?_;intro W2 ht2 hb2;replace hp9:=hp9.turn ht2 om;replace hq9:=hq9.turn ht2 om;refine⟨⟨fun _=>trivial,fun _=>trivial,hp9,hq9⟩,fun hcl hS=> ?_⟩;clear hp9 hq9;refine za9 (i:=5) kr rfl rfl hcl (fun K9 hK9=> ?_);have hp9:=hS.2.2.1;have hq9:=hS.2.2.2;clear hS hcl;go_simp;refine hK9 _ _ ⟨fun _=>trivial,fun _=>trivial,hp9,hq9⟩ (fun hcl hS=> ?_);clear hK9 hp9 hq9 K9;refine za9 (i:=6) kr rfl rfl hcl (fun K9 hK9=> ?_);have hp9:=hS.2.2.1;have hq9:=hS.2.2.2;clear hS hcl;go_simp;refine hK9 _ _ ⟨fun _=>trivial,fun _=>trivial,hp9,hq9⟩ (fun hcl hS=> ?_);clear hK9 hp9 hq9 K9;clear hcl hS;refine zas kr ?_ _;go_wp2_with fail;obtain⟨q0,q1,q2,q3,q4,q5⟩:=(hb1.turn ht2 om).six;obtain⟨r0,r1,r2,r3,r4,r5⟩:=hb2.six;refine bodyPost_ret (v:=.tuple #[.agg (Ln v.1 D K),.agg Zm,.bool false,zI]) (by simp[results,results137,go_sem,q0,q1,q2,q3,q4,q5,r0,r1,r2,r3,r4,r5]) rfl ?_;rw[HR.out];have hlog:=((hlg.mono ex).turn ht1).turn ht2;rw[Q2.out] at hlog ⊢
 exact⟨D,K,by rw[H4.out,H5.out,Q5.out];rfl,ht2.ext (ht1.ext (hex.trans ex) om) om,hlog⟩
theorem zrr (hs:za3 w A c n.log)(hm:za3 w B d m.recs)(h1:nodE n=0)(h2:msgE m=0)(hz0:(m.kind==0)=false)(h4:(recdV n m).2.2.2=0)(h5:(recdV n m).2.2.1=true):Calls prog 137 #[.agg (Ln n A c),.agg (Lm m B d)] w (zb4 w w (recvV n m)):=by
 have HS:=zh hs;have HM:=zh hm;have hn:=(zal n).1 h1;have hk:=(zcp m).1 h2;have h256:=hn.len;have i1:=hn.id1;have i2:=hn.id2;have i3:=hk.t0;have i5:0≤m.term:=by omega
 have hz:(nodE n !=0)=false:=by simpa using h1
 have hz2:(msgE m !=0)=false:=by simpa using h2
 skip
 have h3:¬(m.kind=0∧ownB n.id m.term=true):=by intro hh;rw[hh.1] at hz0;cases hz0
 obtain⟨q1,q2,q3,q4,q5⟩:=zgJ n m;obtain⟨v,hv⟩:∃v,rcvdV n m=v:=⟨_,rfl⟩
 obtain⟨u,hu⟩:∃u,recdV n m=u:=⟨_,rfl⟩
 rw[hu] at h4 h5;rw[hu,hv] at q1 q2 q3 q4;rw[hu] at q5;have HC:=zh (fun(W:World) (hx:Ext w W)=>zcE n A c m B d w W hx hs hm h256 hk v hv true (by rw[q3];exact h5));have hz4:(v.2.2.2 !=0)=false:=by rw[q1];simpa using h4
 have HR:=zh (zmq h1 h2 h3 hu h4);have H4:=zh h4;have Q1:=zh q1;have Q2:=zh q2;have Q4:=zh (q4 h5);have H5:=zh h5;clear hs hm h1 h2 h3 hn hk hv hu h4 q1 q2 q3 q4 q5 h5;go_enter func137,ntmps137;go_wp2_with (first|(go_at_call 49;refine zzg (zay n A c _ (HS.out.mono ex)) fun ya=>?_)|(go_at_call 50;refine zzg (zdR m B d _ (HM.out.mono ex)) fun yb=>?_)|(go_at_call 185;refine(HC.out _ ex).mono ?_;rintro e w' ⟨D,K,rfl,hx,hr⟩;have HRR:=zh hr;obtain⟨y9,rfl⟩:=hx.get;clear hx hr));refine zaG (fun W9 hW9=> ?_);have k8:BoxAt W9 (w.heap.size+1+1+1+1+ya.n+yb.n+y9.n) (Ln v.1 D K) 40:=by rw[hW9];exact bxA
 have k9:BoxAt W9 (w.heap.size+1+1+1+1+ya.n+yb.n+y9.n+1) (La v.2.1) 117:=by rw[hW9];exact bxA
 have k3:BoxAt W9 (w.heap.size+1+1) Zn 40:=by rw[hW9];exact bxA
 have k4:BoxAt W9 (w.heap.size+1+1+1) Zm 117:=by rw[hW9];exact bxA
 have hsz:w.heap.size+4≤W9.heap.size:=by rw[hW9];simp[go_sem];omega
 have hex:Ext w W9:=by rw[hW9];exact ex
 have hlg:LogQ w w W9 D v.1.log.length K v.1.log:=by rw[hW9];exact LogQ.base (LogQ.along HRR.out ex sg) (by simp[go_sem]<;>omega)
 clear hW9;refine zaw (S:=SS 99 99 (fun _=>True) (fun _=>True) (fun w9=>BoxAt w9 (w.heap.size+1+1+1+1+ya.n+yb.n+y9.n) (Ln v.1 D K) 40 ∧BoxAt w9 (w.heap.size+1+1+1+1+ya.n+yb.n+y9.n+1) (La v.2.1) 117)) kr ⟨fun _=>trivial,fun _=>trivial,k8.mono ex,k9.mono ex⟩ (fun hcl hS=> ?_);refine wtg 0 (T:=(fun w9=>BoxAt w9 (w.heap.size+1+1+1+1+ya.n+yb.n+y9.n) (Ln v.1 D K) 40)) ?_ rfl (fun _ _ _ _ hS=>hS.2.2.1) ?_ hcl hS ?_;rotate_left
 ·(intro w9 hw9;(try dsimp only at hw9);obtain⟨g0,g1,g2,g3,g4,g5⟩:=hw9.six;go_simp;try with_reducible rfl)
 clear hcl hS;intro hcl hS
 (try simp only[Act.put,lsT,lsS,lsZ])
 refine wtg 1 (T:=(fun w9=>BoxAt w9 (w.heap.size+1+1+1+1+ya.n+yb.n+y9.n+1) (La v.2.1) 117)) ?_ rfl (fun _ _ _ _ hS=>hS.2.2.2) ?_ hcl hS ?_;rotate_left
 ·(intro w9 hw9;(try dsimp only at hw9);obtain⟨g0,g1,g2,g3,g4,g5⟩:=hw9.six;go_simp;try with_reducible rfl)
 clear hcl hS;intro hcl hS
 (try simp only[Act.put,lsT,lsS,lsZ])
 refine wtk 2 rfl hcl hS ?_;clear hcl hS;intro hcl hS
 (try simp only[Act.put,lsT,lsS,lsZ])
 have hp9:=hS.2.2.1;have hq9:=hS.2.2.2;clear hS;refine zao (i:=3) kr rfl rfl hcl 40 (.tmp 4) (.tmp 56) rfl (k3.mono ex) rfl (Ln v.1 D K) rfl rfl (show 6<44 by decide) kr (zaa v.1 D K) ?_;intro W1 ht1 hb1;replace hp9:=hp9.turn ht1 om;replace hq9:=hq9.turn ht1 om;refine⟨⟨fun _=>trivial,fun _=>trivial,hp9,hq9⟩,fun hcl hS=> ?_⟩;clear hp9 hq9;have hp9:=hS.2.2.1;have hq9:=hS.2.2.2;clear hS;refine zao (i:=4) kr rfl rfl hcl 117 (.tmp 5) (.tmp 57) rfl ((k4.mono ex).turn ht1 om) rfl (La v.2.1) rfl rfl (show 6<44 by decide) kr (zaT v.2.1) ?_;intro W2 ht2 hb2;replace hp9:=hp9.turn ht2 om;replace hq9:=hq9.turn ht2 om;refine⟨⟨fun _=>trivial,fun _=>trivial,hp9,hq9⟩,fun hcl hS=> ?_⟩;clear hp9 hq9;refine za9 (i:=5) kr rfl rfl hcl (fun K9 hK9=> ?_);have hp9:=hS.2.2.1;have hq9:=hS.2.2.2;clear hS hcl;go_simp;refine hK9 _ _ ⟨fun _=>trivial,fun _=>trivial,hp9,hq9⟩ (fun hcl hS=> ?_);clear hK9 hp9 hq9 K9;refine za9 (i:=6) kr rfl rfl hcl (fun K9 hK9=> ?_);have hp9:=hS.2.2.1;have hq9:=hS.2.2.2;clear hS hcl;go_simp;refine hK9 _ _ ⟨fun _=>trivial,fun _=>trivial,hp9,hq9⟩ (fun hcl hS=> ?_);clear hK9 hp9 hq9 K9;clear hcl hS;refine zas kr ?_ _;go_wp2_with fail;obtain⟨q0,q1,q2,q3,q4,q5⟩:=(hb1.turn ht2 om).six;obtain⟨r0,r1,r2,r3,r4,r5⟩:=hb2.six;refine bodyPost_ret (v:=.tuple #[.agg (Ln v.1 D K),.agg (La v.2.1),.bool true,zI]) (by simp[results,results137,go_sem,q0,q1,q2,q3,q4,q5,r0,r1,r2,r3,r4,r5]) rfl ?_;rw[HR.out];have hlog:=((hlg.mono ex).turn ht1).turn ht2;rw[Q2.out] at hlog ⊢
 exact⟨D,K,by rw[H4.out,H5.out,←Q4.out],ht2.ext (ht1.ext (hex.trans ex) om) om,hlog⟩
theorem zyN (hs:za3 w A c n.log)(hm:za3 w B d m.recs):Calls prog 137 #[.agg (Ln n A c),.agg (Lm m B d)] w (zb4 w w (recvV n m)):=by
 by_cases h1:nodE n=0
 ·by_cases h2:msgE m=0
  ·by_cases h3:m.kind=0∧ownB n.id m.term=true
   ·exact zvT n A c m B d w hs hm h1 h2 h3
   ·by_cases hk:m.kind=0
    ·have ho:ownB n.id m.term=false:=by
      cases h:ownB n.id m.term with
      |false=>rfl
      |true=>exact absurd ⟨hk,h⟩ h3
     by_cases h4:(recdV n m).2.2.2=0
     ·cases h5:(recdV n m).2.2.1 with
      |false=>exact zrs n A c m B d w hs hm h1 h2 (by simpa using hk) ho h4 h5
      |true=>exact zrt n A c m B d w hs hm h1 h2 (by simpa using hk) ho h4 h5
     ·exact ztH n A c m B d w hs hm h1 h2 (by simpa using hk) ho h4
    ·by_cases h4:(recdV n m).2.2.2=0
     ·cases h5:(recdV n m).2.2.1 with
      |false=>exact zrq n A c m B d w hs hm h1 h2 (by simpa using hk) h4 h5
      |true=>exact zrr n A c m B d w hs hm h1 h2 (by simpa using hk) h4 h5
     ·exact ztG n A c m B d w hs hm h1 h2 (by simpa using hk) h4
  ·exact zjo n A c m B d w hs hm (.inr h2)
 ·exact zjo n A c m B d w hs hm (.inl h1)
end
