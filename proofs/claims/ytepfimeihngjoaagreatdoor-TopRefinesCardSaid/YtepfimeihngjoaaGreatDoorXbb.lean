/- Lemmas. -/
import Derived.Test.YtepfimeihngjoaaGreatDoorXax
import Derived.Test.YtepfimeihngjoaaGreatDoorXay
set_option linter.all false
set_option maxRecDepth 100000
set_option maxHeartbeats 4000000
namespace Go.Ink
open List renaming length→J, replicate→R9
open IntKind renaming wrap→V9
open Go.RowKit Go.Proofs.Tryz
section
attribute [local irreducible] Ve bN
variable{α:Type}{f:α->Bool}{l:List α}{k:Nat}{x:α}
variable{n c:Nat}
theorem lof_ok(p:Pg)(Q:Xu)(hf:tJ p)(hr:p.Tf=true)(w:World)(h:GC p Q w):
  UW prog 298 [XP p Q] w [] (λr cs=>∃A c,r= .slice A (J (gx p)) c/\cs=[lvC A c (gx p)]):=by
 have hv3:p.values=J p.code:=hf.Tv;have hm64:=hf.Tq;have hrc:=h.code;have hrD:=h.S9;have hrR:=h.Ta;obtain⟨u1,u2,u3,u4⟩:=rp hr;obtain⟨N,hN⟩:=Do (J p.code);rw[hN]at hv3 hm64 u2 u3 u4;have hlv:[p.S9,p.Ta,[p.flags,p.target]].foldl (λT l=>j8 T l N) (fD p.code 0 (Wa N))=gx p:=by unfold gx;rw[hN];rfl
 obtain⟨L0,hL0⟩:=Do (fD p.code 0 (Wa N));rw[hL0]at hlv;refine UV func298 ntmps298 ?_;refine An ?_;refine ZO λb1=>?_;refine US ?_;refine UZ (λw hi=>vu p Q hf w (h.Tb hi)) ?_;rw[hr];refine rZ ?_;refine UK ?_;refine ZN λb3=>?_;refine UQ ?_;refine dB 415 3 ?_
 try rw[hv3]
 refine UU ?_;refine Vs (λq:Nat×List Int×Option Addr×Nat=>[(1,.p b1),(3,.p b3),(16,.i p.values),(17,.i (q.1:Int))]) (λq=>[row b1 (jZ p Q) 308,row b3 [.slice q.2.2.1 (J q.2.1) q.2.2.2] 410,slv 415 3 q.2.2.1 (J q.2.1) q.2.2.2 (fN 0 q.2.1)]) (λq=>q.1<=N/\q.2.1=Wa q.1) (λq=>N - q.1) (⟨0,[],none,0⟩) ⟨ax _,I⟩ ?_;rintro⟨k,T,A1,c1⟩ ⟨hk,hT⟩;dsimp only at hk hT|-;have hTl:J T=k:=(by rw[hT,qr]);refine UH ?_ ?_<;>intro hc5
 .simp only[ai]at hc5;rw[hv3]at hc5;have hsp:fN 0 T++[.i (k:Int),.i (k:Int),.i (k:Int)]=fN 0 (T++[(k:Int)]):=(by rw[G7,hTl,bC]);refine oO ?_;refine wF ?_;rintro _ _ ⟨b25,rfl,rfl⟩;refine gS (cC (e:=415) (sz:=3) (bytes:=24) I I Za I I (λw hi=>hi.rd (UJ (slv 415 3 (sA b25) 1 1 [.i (k:Int),.i (k:Int),.i (k:Int)]))) (one3 _ _ _) gD O) I ?_;rintro _ _ ⟨A2,c2,rfl,rfl⟩;rw[hsp,show J T+1=J (T++[(k:Int)]) by simp];refine ZL ?_;refine ii ?_;refine Vd ((⟨k+1,T++[(k:Int)],A2,c2⟩:Nat×List Int×Option Addr×Nat)) ⟨⟨by omega,by dsimp only;rw[LU,hT]⟩,by omega⟩
 simp only[aa]at hc5;rw[hv3]at hc5;obtain rfl:k=N:=by omega
 refine US ?_;refine Zy (mz I) ?_;refine mv ?_;refine Vs (λq:Nat×List Int=>[(1,.p b1),(3,.p b3),(5,.func (.func 339) #[] #[.p b3]),(30,.slice Q.Ac (J p.code) Q.cc),(31,.i (J p.code)),(32,.i (q.1:Int))]) (λq=>[row b1 (jZ p Q) 308,row b3 [.slice A1 (J q.2) c1] 410,slv 415 3 A1 (J q.2) c1 (fN 0 q.2)]) (λq=>q.1<=k/\J q.2=k/\fD (p.code.drop q.1) q.1 q.2=L0) (λq=>k - q.1) (⟨0,T⟩) bZ ?_;rintro⟨i,T⟩ ⟨hi2,hTl,hL⟩;dsimp only at hi2 hTl hL|-;refine UH ?_ ?_<;>intro hc11
 .simp only[ai]at hc11;rw[hN]at hc11;have hil:i<J p.code:=O;obtain⟨ad,had⟩:=hrc.some_ O;have hrc2:=hrc;rw[had]at hrc2;obtain⟨x,hx⟩:∃x,p.code[i]? =some x:=⟨_,ak hil⟩;have hu:=u1 i x hx;rw[jL hx]at hL;have hL:fD (p.code.drop (i+1)) (i+1) (bif lM x then gn (gn T x.a i) x.b i else T)=L0:=hL;obtain⟨op,dst,xa,xb,imm⟩:=x;dsimp only at hL hu;refine US ?_;refine Zy (iy (j:=i) had I ir py py ir (λ_=>hil)) ?_;refine Φ ?_;refine ZN λb7=>?_
  refine ZA ?_;refine ZM ?_;refine uf ?_ ?_<;>intro hc13
  .have hab:lM ⟨op,dst,xa,xb,imm⟩=true:=hc13;obtain⟨⟨ha1,ha2⟩,hb1,hb2⟩:=hu hab;rw[hab,ah]at hL;refine UU ?_;refine gS (iZ (lvF b3 A1 c1 T) I I (λ_ _=>I) Zi (λw hi hin=>JF b3 A1 c1 T xa i UL w hin)) I ?_;rintro _ _ ⟨_,rfl,rfl⟩;refine US ?_;refine gS (iZ (lvF b3 A1 c1 (gn T xa i)) I I (λ_ _=>I) Zi (λw hi hin=>JF b3 A1 c1 (gn T xa i) xb i (λ_=>by rw[pZ];omega) w hin)) rfl ?_;rintro _ _ ⟨_,rfl,rfl⟩;refine ii ?_;refine Vd ((⟨i+1,gn (gn T xa i) xb i⟩:Nat×List Int)) ⟨⟨by omega,by dsimp only;rw[pZ,pZ,hTl],hL⟩,by omega⟩
  have hab:lM ⟨op,dst,xa,xb,imm⟩=false:=hc13;rw[hab,ac]at hL;refine ii ?_;refine Vd ((⟨i+1,T⟩:Nat×List Int)) bZ
 simp only[aa]at hc11;rw[hN]at hc11;obtain rfl:i=k:=by omega
 rw[List.drop_of_length_le O]at hL;obtain rfl:T=L0:=hL;refine oO ?_;refine jQ ?_;rintro _ _ ⟨b64,rfl,rfl⟩;refine jQ ?_;rintro _ _ ⟨b65,rfl,rfl⟩;refine UQ ?_;refine Vs (λq:Nat×List Int=>[(1,.p b1),(3,.p b3),(5,.func (.func 339) #[] #[.p b3]),(65,.slice (sA b65) 3 3),(66,.i 3),(67,.i (q.1:Int))]) (λq=>[row b1 (jZ p Q) 308,row b3 [.slice A1 (J q.2) c1] 410,slv 415 3 A1 (J q.2) c1 (fN 0 q.2),slv 3 1 (sA b64) 2 2 (ints .i64 [p.flags,p.target]),slv 23 1 (sA b65) 3 3 [.slice Q.Ad (J p.S9) Q.cd,.slice Q.Ar (J p.Ta) Q.cr,.slice (sA b64) 2 2]]) (λq=>q.1<=3/\J q.2=i/\([p.S9,p.Ta,[p.flags,p.target]].drop q.1).foldl (λT l=>j8 T l i) q.2=gx p) (λq=>3 - q.1) (⟨0,T⟩) bZ ?_;rintro⟨k2,T2⟩ ⟨hk2,hTl2,hF⟩;dsimp only at hk2 hTl2 hF|-;refine UH ?_ ?_<;>intro hc18
 .simp only[ai]at hc18;obtain⟨A9,c9,l9,hx1,hx2,had9,hR9,hb9,hlen9⟩:∃(A9:Oa) (c9:Nat) (l9:Li),[Value.slice Q.Ad (J p.S9) Q.cd,.slice Q.Ar (J p.Ta) Q.cr,.slice (sA b64) 2 2][k2]? =some (.slice A9 (J l9) c9)/\[p.S9,p.Ta,[p.flags,p.target]][k2]? =some l9/\(0<J l9->∃ad,A9=some ad)/\(∀(cs:List bJ) (w':World),Inv w [] cs w'->Vk cs (slv 3 1 (sA b64) 2 2 (ints .i64 [p.flags,p.target]))->U5 w' 1 A9 (J l9) c9 (ints .i64 l9))/\(∀x,x∈l9->0<=x->x<i)/\J l9<=100:=(by have h9:k2=0\/k2=1\/k2=2:=O;rcases h9 with rfl|rfl|rfl;exact⟨_,_,p.S9,I,I,λh=>hrD.some_ h,λ_ _ hi _=>hrD.Tb hi,λx hx _=>(u2 x (Or.inl hx)).2,hf.S9⟩;exact⟨_,_,p.Ta,I,I,λh=>hrR.some_ h,λ_ _ hi _=>hrR.Tb hi,λx hx _=>(u2 x (Or.inr hx)).2,hf.Ta⟩;exact⟨_,_,[p.flags,p.target],I,I,λ_=>⟨_,I⟩,λ_ _ hi hh=>hi.rd hh,λx hx h0=>bZ,by grind⟩);rw[jL hx2]at hF;have hF:([p.S9,p.Ta,[p.flags,p.target]].drop (k2+1)).foldl (λT l=>j8 T l i) (j8 T2 l9 i)=gx p:=hF;obtain⟨R9,hR9e⟩:=Do (j8 T2 l9 i);rw[hR9e]at hF;refine Wq509 ?_;refine Vs (λq:Nat×List Int=>[(1,.p b1),(3,.p b3),(5,.func (.func 339) #[] #[.p b3]),(65,.slice (sA b65) 3 3),(66,.i 3),(67,.i (k2:Int)),(71,.slice A9 (J l9) c9),(72,.i (J l9)),(73,.i (q.1:Int))]) (λq=>[row b1 (jZ p Q) 308,row b3 [.slice A1 (J q.2) c1] 410,slv 415 3 A1 (J q.2) c1 (fN 0 q.2),slv 3 1 (sA b64) 2 2 (ints .i64 [p.flags,p.target]),slv 23 1 (sA b65) 3 3 [.slice Q.Ad (J p.S9) Q.cd,.slice Q.Ar (J p.Ta) Q.cr,.slice (sA b64) 2 2]]) (λq=>q.1<=J l9/\J q.2=i/\j8 q.2 (l9.drop q.1) i=R9) (λq=>J l9 - q.1) (⟨0,T2⟩) bZ ?_;rintro⟨k3,T3⟩ ⟨hk3,hTl3,hF3⟩;dsimp only at hk3 hTl3 hF3|-;refine UH ?_ ?_<;>intro hc21
  .simp only[ai]at hc21;have hkl:k3<J l9:=O;obtain⟨ad9,rfl⟩:=had9 O;obtain⟨x,hx⟩:∃x,l9[k3]? =some x:=⟨_,ak hkl⟩;have hxb:=hb9 x (aG hx);rw[jL hx]at hF3;have hF3:j8 (gn T3 x i) (l9.drop (k3+1)) i=R9:=hF3;refine UU ?_;refine Zy (cZ (j:=k3) I ir (Zv I) (Zv I) UL UL) ?_;refine dZ (bO ir py) (OW (λw hi=>hR9 _ w hi Zh) (cw hx)) I (U8 ?_);refine gS (iZ (lvF b3 A1 c1 T3) I I (λ_ _=>I) Zi (λw hi hin=>JF b3 A1 c1 T3 x (J p.code) (λh0=>by omega) w hin)) rfl ?_;rintro _ _ ⟨_,rfl,rfl⟩;rw[show gn T3 x (J p.code:Int)=gn T3 x i by rw[hN]];refine ii ?_;refine Vd ((⟨k3+1,gn T3 x i⟩:Nat×List Int)) ⟨⟨by omega,by dsimp only;rw[pZ,hTl3],hF3⟩,by omega⟩
  simp only[aa]at hc21;obtain rfl:k3=J l9:=by omega
  rw[List.drop_length]at hF3;obtain rfl:T3=R9:=hF3;refine US ?_;refine W8 ?_;refine Vd ((⟨k2+1,T3⟩:Nat×List Int)) bZ
 simp only[aa]at hc18;obtain rfl:k2=3:=by omega
 obtain rfl:T2=gx p:=hF;refine fR ?_;refine VA ([lvC A1 c1 (gx p)]) ?_;exact⟨A1,c1,I,I⟩
variable{m:Nat}
theorem Kt(n:Nat)(hn:n<=64)(A:Oa)(c:Nat)(w:World)(h:Rd w .i64 A 1 c [-1]):
  UW prog 297 [.slice A 1 c,.i n] w [] (λr cs=>∃A',r= .slice A' n n/\cs=[sl .i64 3 A' n n (R9 n (-1))]):=by
 refine UV func297 ntmps297 ?_;refine fR ?_;refine cK I (ao O) (UU ?_);refine Zy (cz I I (Zv I) (show _=(1:Int)from I)) ?_;refine ZA ?_;refine pQ ?_;refine UZ (λw hi=>mul_ok n hn w) ?_;refine wn ?_;refine cK I (ig) (UQ ?_);refine wo ?_;refine gS (j9 (bytes:=8) (n:=n) I I I I I I I O gD) I ?_;rintro _ _ ⟨b30,rfl,rfl⟩;refine US ?_;refine Ra ?_;refine UR ?_;rw[rep0 n];refine UQ ?_;refine Vs (λm:Nat=>[(7,.slice (sA b30) n n),(8,.i (m:Int))]) (λm=>[slv 3 1 (sA b30) n n (Hg m n)]) (λm=>m<=n/\(0<n->0<m)) (λm=>n - m) ((min 1 n)) O ?_;rintro m ⟨hm,hm0⟩;refine Wc ?_ ?_<;>intro hc8
 .simp only[ai]at hc8;refine UN ?_;refine bQ (Vg [7]) Zk (CA ?_);refine UY 3 I (lb (sz:=1) (lo:=m) (hi:=n) (r:=m) I ir (Zv I) (.inr ⟨_,_,I,(Zv I)⟩) (.inl ⟨I,I⟩) O O O O) ?_;refine ZE 4 ?_;refine ZE 5 ?_;refine UY 6 I (fc m I ir (Zv I) (Zv I) qR UL) ?_;refine iK ?_;refine jm I I (J7 I I Za I I (λw hi=>Bb▸(hi.rd (UJ (slv 3 1 (sA b30) n n (Hg m n)))).head hm) OS O) ZJ I ?_;refine UR ?_;rw[OR hm];refine UY 8 I (dy py py Zl) ?_;refine ZE 9 ?_;refine fh ?_;refine Zo (VM (m+min m (n - m)) O)
 simp only[aa]at hc8;obtain rfl:m=n:=by omega
 refine fR ?_;refine VA ([slv 3 1 (sA b30) m m (Hg m m)]) ?_;exact⟨_,I,by rw[OT]⟩
theorem Hf(v:Int)(n:Nat)(hv:v=n)(hn:n<=64)(A:Oa)(c:Nat)(w:World)(h:Rd w .i64 A 1 c [-1]):
  UW prog 297 [.slice A 1 c,.i v] w [] (λr cs=>∃A',r= .slice A' n n/\cs=[sl .i64 3 A' n n (R9 n (-1))]):=by
 grind [Kt]
theorem lofN_ok(p:Pg)(Q:Xu)(hf:tJ p)(hr:p.Tf=true)(T:Li)(N:Nat)(hT:gx p=T)(hN:J T=N)(w:World)(h:GC p Q w):
  UW prog 298 [XP p Q] w [] (λr cs=>∃A c,r= .slice A N c/\cs=[slv 415 3 A N c (fN 0 T)]):=by
 grind [lof_ok]
theorem QQ(p:Pg)(Q:Xu)(hf:tJ p)(hr:p.Tf=true)(w:World)(h:GC p Q w):
  UW prog 231 [XP p Q,.i 7] w [] (λr cs=>∃Ar cr As c2,r= .tuple #[.agg #[.slice Ar (J p.code) cr,.slice As (J p.code) c2,.i (dU p).Tt],.i 0]/\cs=[sl .i64 3 Ar (J p.code) cr (dU p).reg,sl .i64 3 As (J p.code) c2 (dU p).slot]):=by
 have hv3:p.values=J p.code:=hf.Tv;have hm64:=hf.Tq;have hpl:dU p=jH (gx p) 7 (J p.code) (J p.code):=rfl;have hTl:=PK p;obtain⟨T,hT⟩:=Do (gx p);rw[hT]at hpl hTl;have hlo:=lofN_ok p Q hf hr T _ hT hTl;have hrp:=Hf p.values (J p.code) hv3 hm64;have hpl0:jH T 7 (J p.code) 0=⟨R9 (J p.code) (-1),R9 (J p.code) (-1),0⟩:=rfl;rw[hpl];obtain⟨N,hN⟩:=Do (J p.code);rw[hN]at hlo hTl hrp hpl0 hm64|-;have hlens:=ql T 7 N;have hst:∀k,jH T 7 N (k+1)=qh T 7 (jH T 7 N k) k:=λ_=>I
 refine UV func231 ntmps231 ?_;refine An ?_;refine ZO λb2=>?_;refine ZN λb4=>?_
 refine US ?_;refine UZ (λw hi=>vu p Q hf w (h.Tb hi)) ?_;rw[hr];refine UN ?_;refine dC (bR I I) (.cons (cO I) .nil) (λ_ _=>I) (λhg w hi=>Bc w) I (UK ?_);refine lN ?_;refine An ?_;refine cj (λq:Nat×SAd=>[(1,.i 7),(2,.p b2),(4,.p b4),(5,.i 0),(6,.p q.1)]) (λq=>[row b4 [.slice none 0 0,.slice none 0 0,.i 0] 356,scR q.1 q.2 N 0,sl .i64 3 q.2.Ar N q.2.cr (R9 N (-1)),sl .i64 3 q.2.As N q.2.cs (R9 N (-1)),slv 415 3 q.2.Av N q.2.cv (fN 0 T)]) (λ_=>True) ?_ ?_
 .refine jf ?_;refine UE 1 13 ?_;refine ZG 2 ?_;refine UE 5 13 ?_;refine ZG 6 ?_;refine ZI 9 ?_;refine pS 0 4 Zk ?_ ?_
  .refine wW ?_;rintro _ _ ⟨b22,rfl,rfl⟩;refine pS 3 4 Zk ?_ ?_
   .refine Wq316 ?_;rintro _ _ ⟨_,⟨Ar,rfl,rfl⟩,rfl⟩;refine cP 4 Zk (wW ?_);rintro _ _ ⟨b26,rfl,rfl⟩;exact Wx11_
   refine wW ?_;rintro _ _ ⟨b26,rfl,rfl⟩;exact Wx97_
  refine wW ?_;rintro _ _ ⟨b26,rfl,rfl⟩;refine cP 0 Zk (wW ?_);rintro _ _ ⟨b22,rfl,rfl⟩;exact Wx97_
 rintro⟨b6,X⟩ -;dsimp only;refine fR ?_;refine Vs (λk:Nat=>[(1,.i 7),(2,.p b2),(4,.p b4),(5,.i 0),(6,.p b6),(38,.slice X.Av N X.cv),(39,.i N),(40,.i (k:Int))]) (λk=>SG b4::scF b6 X N T (jH T 7 N k)) (λk=>k<=N) (λk=>N - k) (0) O ?_;rintro k hk;obtain⟨hrl,hsl⟩:=hlens k;have hstk:=hst k;obtain⟨pl,hplk⟩:=Do (jH T 7 N k);rw[hplk]at hrl hsl hstk;dsimp only;rw[hplk];refine UH ?_ ?_<;>intro hc5
 .simp only[ai]at hc5;have hkN:k<N:=O;have hxk:T[k]? =some (T.getD k 0):=nP O;have hfl:=(rI T pl.reg k).2.1;obtain⟨f,hfe⟩:=Do (fX T pl.reg k);rw[hfe]at hfl;refine UU ?_;refine eU (λw hi=>dA (hi.get (UJ (sl .i64 3 X.Ar N X.cr pl.reg))) O) (λh1=>?_);refine eU (λw hi=>dA (hi.get (UJ (sl .i64 3 X.As N X.cs pl.slot))) O) (λh2=>?_);refine eU (λw hi=>iu (hi.get (UJ (slv 415 3 X.Av N X.cv (fN 0 T)))) O) (λh3=>?_);refine eU (λw hi=>(cY (hi.get (UJ (slv 415 3 X.Av N X.cv (fN 0 T))))).cap) (λh4=>?_);obtain⟨Ar,cr,As,c2,Av,cv⟩:=X;dsimp only at h1 h2 h3 h4|-;obtain⟨br,rfl⟩:=h1;obtain⟨bs,rfl⟩:=h2;obtain⟨bv,rfl⟩:=h3;have hFr:=FW b6 ⟨some ⟨br,0,none⟩,cr,some ⟨bs,0,none⟩,c2,some ⟨bv,0,none⟩,cv⟩ N pl.Tt T pl.reg hTl hrl hm64 (sA br) cr k hkN;rw[hfe]at hFr;refine ZA ?_;refine GA ?_;refine dZ (bX (vs:=[.i k,.i k,.i (T.getD k 0)]) ir ir (Zv I)) (AS Zh (λi v hv=>kI T 0 k hxk bZ)) I ?_;refine ZN λb8=>?_
  refine ZA ?_;refine ZM ?_;refine gP ?_;refine UZ (λw hi=>hFr w (hi.get Zh) (cY (hi.get (UJ (sl .i64 3 (sA br) N cr pl.reg)))) (cY (hi.get (UJ (slv 415 3 (sA bv) N cv (fN 0 T)))))) ?_;refine yh ?_ ?_<;>intro hc8
  .have hsc:qh T 7 pl k=⟨pl.reg.set k f,pl.slot,pl.Tt⟩:=(by unfold qh;grind);rw[hsc]at hstk;refine U8 ?_;refine Yj ?_;refine UR ?_;rw[nN];refine US ?_;refine W8 ?_;refine sC (k+1) ?_ ?_ ?_
   .omega
   .exact Xq
   exact ZX
  have hsc:qh T 7 pl k=(bif(gu T pl.reg k k !=k)then lB T ⟨pl.reg.set k (pl.reg.getD (gu T pl.reg k k) 0),pl.slot,pl.Tt⟩ (gu T pl.reg k k)else lB T pl k):=(by unfold qh;grind);rw[hsc]at hstk;refine oO ?_;refine Zy (fc (A:=some ⟨bv,0,none⟩) (n:=N) (c:=cv) k I ir (Zv I) (Zv I) ir UL) ?_;refine UQ ?_;refine Vs (λj:Nat=>[(1,.i 7),(2,.p b2),(4,.p b4),(5,.i 0),(6,.p b6),(7,.i k),(8,.p b8),(10,.i (gu T pl.reg k j:Nat)),(38,.slice (sA bv) N cv),(39,.i N),(40,.i (k:Int)),(70,.slice (sA bv) k cv),(71,.i k),(72,.i (j:Int))]) (λj=>[SG b4,scR b6 ⟨some ⟨br,0,none⟩,cr,some ⟨bs,0,none⟩,c2,some ⟨bv,0,none⟩,cv⟩ N pl.Tt,sl .i64 3 (sA br) N cr pl.reg,sl .i64 3 (sA bs) N c2 pl.slot,slv 415 3 (sA bv) N cv (fN 0 T),row b8 [.i k,.i k,.i (T.getD k 0)] 415]) (λj=>j<=k) (λj=>k - j) (0) O ?_;rintro j hj;have hL:gu T pl.reg k j<=k:=(by rcases vk T pl.reg k j with h|⟨h, -⟩<;>omega);have hLs:gu T pl.reg k (j+1)=bif((pl.reg.getD j 0 != -1)&&nH T k j)&&decide (T.getD (gu T pl.reg k j) 0<T.getD j 0)then j else gu T pl.reg k j:=rfl
  obtain⟨L,hLe⟩:=Do (gu T pl.reg k j);rw[hLe]at hL hLs;dsimp only;rw[hLe];refine UH ?_ ?_<;>intro hc12
  .simp only[ai]at hc12;have hjk:j<k:=O;have hxj:T[j]? =some (T.getD j 0):=nP O;have hxL:T[L]? =some (T.getD L 0):=nP O;have hxr:pl.reg[j]? =some (pl.reg.getD j 0):=nP O;refine US ?_;refine NB ?_;refine dZ (bX (vs:=[.i j,.i j,.i (T.getD j 0)]) ir ir (Zv I)) (AS Zh (λi v hv=>kI T 0 j hxj bZ)) I ?_;refine ZN λb12=>?_
   refine ZA ?_;refine oV ?_;refine jf ?_;refine nZ ?_;refine UE 3 0 ?_;refine ZG 4 ?_;refine ZE 5 ?_;refine UY 6 I (cn (j:=j) (sz:=1) (r:=j) I ir (Zv I) (Zv I) ir UL O) ?_;refine Vn 7 I (bO ir py) (da Zh (cw hxr)) ?_;refine ZE 8 ?_;refine ZE 9 ?_;refine uv 10 I Zk Zk Zk Zk (bS I I) Zh ir ir (Zv I) I (uv 11 I Zk Zk Zk Zk (bS I I) Zh ir ir (Zv I) I (cP 12 Zk (EO I (bS I I) (.cons (cO I) (.cons (cO I) .nil)) (λ_ _=>I) (λhg w hi=>Lg T k j w) I (ZE 13 ?_))));refine ZE 14 ?_;refine ZFf 15 2 ?_;refine Zy7 16 I (bS I I) (bO ir (cO I)) (cT Zh I) ?_;refine ZF 17 ?_;refine ZF 18 ?_;refine ZFf 19 3 ?_;refine Zy7 20 I (bS I I) (bO ir (cO I)) (cT Zh I) ?_;refine ZF 21 ?_;refine Zy6 22 I (bS I I) (cn (bb:=bv) (o:=0) (n:=N) (c:=cv) (j:=L) (sz:=3) (r:=L*3) I ir (cO I) (cO I) ir UL O) ?_;refine ZFf 23 2 ?_;refine Zy7 24 I (bS I I) (bO ir (cO I)) (E7 Zh (kI T 0 L (j:=2) hxL I)) ?_;refine ZF 25 ?_;refine ZE 26 ?_;refine tC ?_;refine ZW ?_ ?_<;>intro hc14
   .rw[hc14,ah]at hLs;refine US ?_;refine W8 ?_;refine Vd (j+1) ⟨hjk,by omega⟩
   rw[hc14,ac]at hLs;refine ii ?_;refine Vd (j+1) ⟨hjk,by omega⟩
  simp only[aa]at hc12;obtain rfl:j=k:=by omega
  rw[hLe]at hstk;refine Ab ?_ ?_<;>intro hc17
  .have hne:(L !=j)=true:=bZ;rw[hne,ah]at hstk;have hxr:pl.reg[L]? =some (pl.reg.getD L 0):=nP O;refine bQ (Vg [15]) Zk (nZ ?_);refine UE 3 0 ?_;refine ZG 4 ?_;refine qM ?_;refine ZE 7 ?_;refine UE 8 0 ?_;refine UE 9 0 ?_;refine ZG 10 ?_;refine ZE 11 ?_;refine UY 12 I (cn (j:=L) (sz:=1) (r:=L) I ir (Zv I) (Zv I) ir UL O) ?_;refine Vn 13 I (bO ir py) (da Zh (cw hxr)) ?_;refine UY 14 I (cn (j:=j) (sz:=1) (r:=j) I ir (Zv I) (Zv I) ir UL O) ?_;refine cP 15 Zk (Nz ?_);refine UR ?_;rw[nN];refine fh ?_;refine UK ?_;refine Ws (scF b6 ⟨some ⟨br,0,none⟩,cr,some ⟨bs,0,none⟩,c2,some ⟨bv,0,none⟩,cv⟩ N T ⟨pl.reg.set j (pl.reg.getD L 0),pl.slot,pl.Tt⟩) (λw hi hin=>EY b6 br cr bs c2 bv cv N T ⟨pl.reg.set j (pl.reg.getD L 0),pl.slot,pl.Tt⟩ hTl (by simp[hrl]) hsl hm64 L O w hin) ?_;rintro _ _ ⟨_,rfl,rfl⟩;refine ii ?_;refine sC (j+1) ?_ ?_ ?_
   .omega
   .exact Xq
   exact ZX
  have hne:(L !=j)=false:=bZ;rw[hne,ac]at hstk;obtain rfl:L=j:=bZ;refine UQ ?_;refine Ws (scF b6 ⟨some ⟨br,0,none⟩,cr,some ⟨bs,0,none⟩,c2,some ⟨bv,0,none⟩,cv⟩ N T pl) (λw hi hin=>EY b6 br cr bs c2 bv cv N T pl hTl hrl hsl hm64 L O w hin) ?_;rintro _ _ ⟨_,rfl,rfl⟩;refine ii ?_;refine sC (L+1) ?_ ?_ ?_
  .omega
  .exact Xq
  exact ZX
 simp only[aa]at hc5;obtain rfl:k=N:=by omega
 refine eL ?_;refine dZ (bX (vs:=[.slice X.Ar k X.cr,.slice X.As k X.cs,.i pl.Tt]) ir ir py) (cq Zh I) I (ij ?_);refine sW (cs':=[sl .i64 3 X.Ar k X.cr pl.reg,sl .i64 3 X.As k X.cs pl.slot]) (.inl I) Zu I I I Zh ir ir ?_;rw[hplk];exact⟨_,_,_,_,I,I⟩
end
end Go.Ink
namespace Go.Ink
open List renaming length→J, replicate→R9
open IntKind renaming wrap→V9
open Go.RowKit Go.Proofs.Tryz
section
attribute [local irreducible] Ve bN
theorem qe(b:Nat)(A:Oa)(c N:Nat)(U:List Bool)(hN:J U=N)(B:Oa)(cb:Nat)(l:Li)(hl:J l<=1000)(hin:∀n,n∈l->n≠ -1->0<=n/\n.toNat<J U)(w:World)(hi:Inv w (bM (Yo b A c N U)) (Yo b A c N U) w)(hR:∀w',dc (bM (Yo b A c N U)) w w'->Rd w' .i64 B (J l) cb l):
  UW prog 293 [.slice B (J l) cb,.p b] w (Yo b A c N U) (λ_ cs=>cs=Yo b A c N (i5 U l)):=by
 refine Vb func293 ntmps293 hi ?_;refine Va ?_;refine Vs (λq:Nat×List Bool=>[(1,.p b),(5,.slice B (J l) cb),(6,.i (J l)),(7,.i (q.1:Int))]) (λq=>Yo b A c N q.2) (λq=>q.1<=J l/\J q.2=J U/\i5 q.2 (l.drop q.1)=i5 U l) (λq=>J l - q.1) (⟨0,U⟩) bZ ?_;rintro⟨k,V⟩ ⟨hk,hV,hM⟩;dsimp only at hk hV hM|-;refine UH ?_ ?_<;>intro hc1
 .simp only[ai]at hc1;have hkl:k<J l:=O;obtain⟨ad,had⟩:=(hR w (dc.refl _ _)).some_ O;have hR2:∀w',dc (bM (Yo b A c N U)) w w'->U5 w' 1 (some ad) (J l) cb (ints .i64 l):=(λw' hk=>had▸hR w' hk);obtain⟨x,hx⟩:∃x,l[k]? =some x:=⟨_,ak hkl⟩;have hxi:=hin x (aG hx);rw[jL hx]at hM;have hM:i5 (bif x != -1 then V.set x.toNat true else V) (l.drop (k+1))=i5 U l:=hM;refine UU ?_;refine Q4 ?_;refine dZ (bO ir py) (oA (v:= .i x) hR2 (cw hx)) I (Wc ?_ ?_)<;>intro hc3
  .rw[hc3,ah]at hM;obtain⟨hx0,hx1⟩:=hxi bZ;obtain⟨n,rfl⟩:∃n:Nat,x=n:=aj hx0;rw[aV]at hx1 hM;obtain⟨bs,rfl⟩:=dA (hi.get (UJ (slv 4 1 A N c (U.map Value.bool)))) O;refine UN ?_;refine Zy (cn (bb:=bs) (o:=0) (n:=N) (c:=c) (j:=n) (sz:=1) (r:=n) I ir (Zv I) (Zv I) ir UL O) ?_;refine z4 ?_;refine UR ?_;rw[<-List.map_set];refine ii ?_;refine Vd ((⟨k+1,V.set n true⟩:Nat×List Bool)) bZ
  rw[hc3,ac]at hM;refine ii ?_;refine Vd ((⟨k+1,V⟩:Nat×List Bool)) bZ
 simp only[aa]at hc1;obtain rfl:k=J l:=by omega
 rw[List.drop_length]at hM;have hM:V=i5 U l:=hM;subst hM;refine UK ?_;refine io (cs':=Yo b A c N (i5 U l)) (.inr I) Zu I ?_
 rfl
end
end Go.Ink
