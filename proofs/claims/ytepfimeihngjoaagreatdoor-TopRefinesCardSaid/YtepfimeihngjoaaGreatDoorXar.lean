/- Lemmas. -/
import Derived.Test.YtepfimeihngjoaaGreatDoorXal
import Derived.Test.YtepfimeihngjoaaGreatDoorXam
import Derived.Test.YtepfimeihngjoaaGreatDoorXan
import Derived.Test.YtepfimeihngjoaaGreatDoorXao
set_option linter.all false
set_option maxRecDepth 100000
set_option maxHeartbeats 4000000
namespace Go.Ink
open List renaming length→J, replicate→R9
open IntKind renaming wrap→V9
open Go.RowKit Go.Proofs.Tryz
section
attribute [local irreducible] Ve bN
variable{L:fF}
variable{va:Nat}
theorem Ok(bu bb:Nat)(L:fF)(U:UI)(hT:J U.t=16)(va:Nat)(hva:va<=4294967295):CI prog 264 [.p bu,.w va] (uF bu bb L U) (λv cs=>v= .tuple #[]/\cs=uF bu bb L ⟨U.m,pv U.t va⟩):=λw hi=>by
 refine Vb func264 ntmps264 hi ?_;refine UU ?_;refine Vq ([CO bb U.t]) (λw hi hin=>Ox bb U.t hT va hva w hin) ?_;refine Zn (bK (uF bu bb L ⟨U.m,pv U.t va⟩) Zj ?_);exact io (cs':=uF _ _ _ _) (.inr I) Zu I fx
theorem JG(bu bb:Nat)(L:fF)(U:UI)(hT:J U.t=16):CI prog 263 [.p bu] (uF bu bb L U) (λv cs=>v= .tuple #[]/\cs=uF bu bb L ⟨U.m,cX⟩):=λw hi=>by
 refine Vb func263 ntmps263 hi ?_;refine UQ ?_;refine Vq ([CO bb U.t]) (λw hi hin=>J0 bb U.t hT w hin) ?_;refine Zn (bK (uF bu bb L ⟨U.m,cX⟩) Zj ?_);exact io (cs':=uF _ _ _ _) (.inr I) Zu I fx
end
end Go.Ink
namespace Go.Ink
open List renaming length→J, replicate→R9
open IntKind renaming wrap→V9
open Go.RowKit Go.Proofs.Tryz
section
attribute [local irreducible] Ve bN
theorem yK(op:Int)(w:World):CW prog 198 [.i op] w (.i (cB op)):=by
 refine UV func198 ntmps198 ?_;refine Jm ?_;refine ZW ?_ ?_<;>intro hc2
 .refine An ?_;refine bY I (hc2) (fS ?_);exact VW
 refine UH ?_ ?_<;>intro hc3
 .refine An ?_;refine bY I (hc3) (fS ?_);exact VW
 refine UH ?_ ?_<;>intro hc4
 .refine An ?_;refine bY I (hc4) (fS ?_);exact VW
 refine UH ?_ ?_<;>intro hc5
 .refine An ?_;refine bY I (hc5) (fS ?_);exact VW
 refine UH ?_ ?_<;>intro hc6
 .refine An ?_;refine bY I (hc6) (fS ?_);exact VW
 refine UH ?_ ?_<;>intro hc7
 .refine An ?_;refine bY I (hc7) (fS ?_);exact VW
 refine UH ?_ ?_<;>intro hc8
 .refine An ?_;refine bY I (hc8) (fS ?_);exact VW
 refine UH ?_ ?_<;>intro hc9
 .refine An ?_;refine bY I (hc9) (fS ?_);exact VW
 refine UH ?_ ?_<;>intro hc10
 .refine Eu ?_;refine fS ?_;exact VW
 refine Wh ?_ ?_<;>intro hc11
 .refine fS ?_;exact VW
 refine UH ?_ ?_<;>intro hc13
 .refine fS ?_;exact VW
 refine US ?_;refine Vl (λw hi=>name_ok op w) ?_;rintro _ _ ⟨⟨s,rfl,hs⟩,rfl⟩;refine Zy (uj I (Zv I) (Zv I) hs) ?_;refine An ?_;refine ZW ?_ ?_<;>intro hc15
 .refine wv ?_;exact VW
 refine fS ?_;exact VW
theorem BZ(op n:Int)(w:World):CW prog 227 [.agg #[.i op,.w n]] w (.bool (eJ op n)):=by
 refine UV func227 ntmps227 ?_;refine An ?_;refine ZO λb1=>?_;refine Va ?_;refine UZ (λw hi=>yK op w) ?_;refine Wc ?_ ?_<;>intro hc2
 .refine fS ?_;exact XY
 refine UH ?_ ?_<;>intro hc4
 .refine nY ?_;exact XY
 refine UH ?_ ?_<;>intro hc6
 .refine nY ?_;exact XY
 refine jP ?_;exact XY
variable{R:UG}
theorem OF(K:Jp)(X:dz)(R:UG)(op n:Int)(hd:J R.s.d<=100000)(hr:J R.s.r<=100000)(hn:(bV op).1.1<=J R.s.d)(hnr:(bV op).2.1<=J R.s.r):CI prog 199 [.p K.br,.agg #[.i op,.w n]] (gU K X R) (λv cs=>∃X',v= .bool (cV op n R).isSome/\cs=gU K X' ((cV op n R).getD R)):=λw hi=>by
 refine Vb func199 ntmps199 hi ?_;refine An ?_;refine ZO λb3=>?_;refine wD ?_;refine ZW ?_ ?_<;>intro hc3
 .obtain rfl:=hH hc3;have hst:cV 0 n R=some R:=rfl;refine U8 ?_;exact NI
 refine VJ ?_ ?_<;>intro hc4
 .obtain rfl:=hH hc4;have hst:cV 1 n R=some (R.push [n]):=rfl;refine An ?_;exact bY I (hc4) Wq374
 refine Wh ?_ ?_<;>intro hc5
 .obtain rfl:=hH hc5;have hst:cV 2 n R=some (R.push [n]):=rfl;exact Wq374
 refine UH ?_ ?_<;>intro hc7
 .obtain rfl:=hH hc7;obtain⟨R,l,x,rfl⟩:=UG.snoc (show 1<=J R.s.d from hn);have hst:=mF n R l x;have hll:J l+1<=100000:=(by have:J (l++[x])<=100000:=hd;simpa using this);refine UN ?_;refine Zm ?_;refine US ?_;refine jQ ?_;rintro _ _ ⟨b29,rfl,rfl⟩;refine Ws (gU K X (R.wd l)) (λw hi hin=>jq K X (R.wd l) _ 2 2 [x,x] (show J l+2<=1000000 by omega) w hin (λw' hk=>hi.TU Zi Zh hk)) ?_;exact ED
 refine UH ?_ ?_<;>intro hc10
 .obtain rfl:=hH hc10;obtain⟨R,l,x,rfl⟩:=UG.snoc (show 1<=J R.s.d from hn);have hst:=lm n R l x;refine An ?_;refine Zm ?_;refine U8 ?_;exact NI
 refine UH ?_ ?_<;>intro hc12
 .obtain rfl:=hH hc12;obtain⟨R,l,x,y,rfl⟩:=UG.TF (show 2<=J R.s.d from hn);have hst:=lh n R l x y;have hll:J l+2<=100000:=Κ;refine Ψ ?_;refine Va ?_;refine jQ ?_;rintro _ _ ⟨b44,rfl,rfl⟩;refine Ws (gU K X (R.wd l)) (λw hi hin=>jq K X (R.wd l) _ 2 2 [y,x] (show J l+2<=1000000 by omega) w hin (λw' hk=>hi.TU Zi Zh hk)) ?_;exact ED
 refine UH ?_ ?_<;>intro hc15
 .obtain rfl:=hH hc15;obtain⟨R,l,x,y,rfl⟩:=UG.TF (show 2<=J R.s.d from hn);have hst:=lj n R l x y;have hll:J l+2<=100000:=Κ;refine Ψ ?_;refine U8 ?_;refine jQ ?_;rintro _ _ ⟨b56,rfl,rfl⟩;refine Ws (gU K X (R.wd l)) (λw hi hin=>jq K X (R.wd l) _ 3 3 [x,y,x] (show J l+3<=1000000 by omega) w hin (λw' hk=>hi.TU Zi Zh hk)) ?_;exact ED
 refine UH ?_ ?_<;>intro hc18
 .obtain rfl:=hH hc18;obtain⟨R,l,x,rfl⟩:=UG.snoc (show 1<=J R.s.d from hn);have hst:=mE n R l x;have hrr:J R.s.r<=100000:=hr;have hrr2:(R.wd l).s.r.length<=100000:=hr;refine bQ (Vg [7,9,13]) Zk (qQ ?_);refine UE 4 2 ?_;refine ZE 6 ?_;refine pS 5 7 Zk ?_ ?_
  .refine m4 ?_;refine iK ?_;refine rX (gU K X (R.wd (l++[x]))) (λw hi hin=>o3 K X R l x w hin) ?_;refine UR ?_;exact Wx22_
  refine rX (gU K X (R.wd (l++[x]))) (λw hi hin=>o3 K X R l x w hin) ?_;refine UR ?_;refine ZG 5 ?_;exact Wx22_
 refine UH ?_ ?_<;>intro hc20
 .obtain rfl:=hH hc20;obtain⟨R,l,x,rfl⟩:=UG.Ue (show 1<=J R.s.r from hnr);have hst:=ki n R l x;have hdd:J R.s.d<=100000:=hd;refine UN ?_;refine Vq (gU K X (R.wr (l++[x]))) (λw hi hin=>KH K X R l x w hin) ?_;refine jQ ?_;rintro _ _ ⟨b78,rfl,rfl⟩;refine Ws (gU K X (R.wr l)) (λw hi hin=>jq K X (R.wr l) _ 1 1 [x] (show J R.s.d+1<=1000000 by omega) w hin (λw' hk=>hi.TU Zi Zh hk)) ?_;exact ED
 have hst:=nw n R hc3 hc4 hc5 hc7 hc10 hc12 hc15 hc18 hc20;refine Va ?_;exact NI
theorem KB(K:Jp)(X:dz)(R:UG)(op n:Int)(hw:∀x,x∈R.s.d->u32 x)(hd:J R.s.d<=100000)(hr:J R.s.r<=100000)(hn:(bV op).1.1<=J R.s.d)(hnr:(bV op).2.1<=J R.s.r):CI prog 200 [.p K.br,.agg #[.i op,.w n]] (gU K X R) (λv cs=>∃X',v= .bool (bW op n R).1/\cs=gU K X' (bW op n R).2):=λw hi=>by
 have HS:=Dg n;have HA:=ado_ok op;have HH:=P1 op R.s.flags;obtain⟨th,hth⟩:=Do (gq R n);have hth':=hth;unfold gq at hth';obtain⟨sg,hsg⟩:=Do (jN n);rw[hsg]at HS hth';refine Vb func200 ntmps200 hi ?_;refine An ?_;refine ZO λb3=>?_;refine UK ?_;refine jf ?_;refine nZ ?_;refine UE 3 0 ?_;refine ZG 4 ?_;refine UE 5 1 ?_;refine ZG 6 ?_;refine iK ?_;refine V1 (λw hi=>HS w) ?_;refine UR ?_;refine UY 8 I (dy py py hth') ?_;refine ZE 9 ?_;refine fh ?_;refine jS ?_;refine Wv ?_;refine ZW ?_ ?_<;>intro hc7
 .rw[zl hc7]at hn;obtain⟨R,l,x,y,rfl⟩:=UG.TF hn;have hll:J l+2<=100000:=Κ;have HA:=HA x y (hw y cJ).1;obtain⟨⟨v,fl,ok⟩,hq⟩:=Do (hI op x y);rw[hq]at HA;have hst:bW op n (R.wd ((l++[x])++[y]))=(true,bif op !=25 then((bif ok then R.wd l else(R.wd l).wt ⟨5,0⟩).wfl fl).push [v]else(bif ok then R.wd l else(R.wd l).wt ⟨5,0⟩).wfl fl):=(by simp only[bW,hc7,ah,UG.top_wd,UG.pop_wd,hq]);refine Ψ ?_;refine U8 ?_;refine UZ (λw hi=>HA w) ?_;refine oO ?_;refine ZW ?_ ?_<;>intro hc10
  .obtain rfl:ok=false:=(by simpa using hc10);have hR:∃Q,Q=(R.wd l).wt ⟨5,0⟩:=⟨_,I⟩;refine An ?_;refine Vq (gU K X (R.wd l)) (λw hi hin=>zJ K X (R.wd l) 5 0 w hin) ?_;refine U8 ?_;refine ZL ?_;refine Wp ?_ ?_<;>intro hc13
   .simp only[hc13,ah,ac]at hst;refine UN ?_;refine jQ ?_;rintro _ _ ⟨b74,rfl,rfl⟩;refine Ws (gU K X (((R.wd l).wt ⟨5,0⟩).wfl fl)) (λw hi hin=>jq K X (((R.wd l).wt ⟨5,0⟩).wfl fl) _ 1 1 [v] (show J l+1<=1000000 by omega) w hin (λw' hk=>hi.TU Zi Zh hk)) ?_;exact ED
   simp only[hc13,ah,ac]at hst;refine U8 ?_;exact NI
  obtain rfl:ok=true:=(by simpa using hc10);refine U8 ?_;refine ZL ?_;refine Wp ?_ ?_<;>intro hc13
  .simp only[hc13,ah,ac]at hst;refine UN ?_;refine jQ ?_;rintro _ _ ⟨b74,rfl,rfl⟩;refine Ws (gU K X ((R.wd l).wfl fl)) (λw hi hin=>jq K X ((R.wd l).wfl fl) _ 1 1 [v] (show J l+1<=1000000 by omega) w hin (λw' hk=>hi.TU Zi Zh hk)) ?_;exact ED
  simp only[hc13,ah,ac]at hst;refine U8 ?_;exact NI
 refine VJ ?_ ?_<;>intro hc15
 .have hst:bW op n R=(true,(R.Ul R.s.pc).wpc th):=(by simp only[bW, *,ah,ac]);refine Zs (bQ (Vg [12,16]) Zk ?_);refine qQ ?_;refine UE 4 2 ?_;refine ZG 5 ?_;refine wU ?_;refine UE 8 0 ?_;refine UE 9 0 ?_;refine cP 10 Zk (m4 ?_);refine cP 11 Zk (wW ?_);rintro _ _ ⟨b90,rfl,rfl⟩;refine cP 12 Zk (jm I I (cC (e:=32) (sz:=1) (bytes:=4) I I Za I I (λw hi=>hi.rd (UJ (slv 32 1 (sA b90) 1 1 (ints .u32 [R.s.pc])))) cR gD O) ZJ I ?_);rintro _ _ ⟨A',c',rfl,rfl⟩;refine ZE 13 ?_;refine UE 14 0 ?_;refine UE 15 2 ?_;refine cP 16 Zk (iT ?_);refine US ?_;refine nX ?_;refine tI ?_;rw[hst];refine⟨⟨X.Ad,X.cd,A',c'⟩,I,?_⟩;simp only[gU,xt,Vf,Vj,UG.Ul,ar,cy,aE,bD,bC]
 refine VJ ?_ ?_<;>intro hc18
 .have hst:bW op n R=(true,R.wpc th):=(by simp only[bW, *,ah,ac]);refine UU ?_;refine nX ?_;exact NI
 refine VJ ?_ ?_<;>intro hc20
 .obtain rfl:=hH hc20;obtain⟨R,l,x,rfl⟩:=UG.Ue (show 1<=J R.s.r from hnr);have hst:bW 39 n (R.wr (l++[x]))=(true,(R.wr l).wpc x):=(by show(_,_)=_;rw[UG.popR_wr,UG.topR_wr]);refine UN ?_;refine Vq (gU K X (R.wr (l++[x]))) (λw hi hin=>KH K X R l x w hin) ?_;refine UN ?_;refine nX ?_;exact NI
 refine VJ ?_ ?_<;>intro hc22
 .obtain rfl:=hH hc22;obtain⟨R,l,x,rfl⟩:=UG.snoc (show 1<=J R.s.d from hn);have hst:bW 40 n (R.wd (l++[x]))=(true,(R.wd l).wpc x):=(by show(_,_)=_;rw[UG.pop_wd,UG.top_wd]);refine UN ?_;refine Zm ?_;refine UN ?_;refine nX ?_;exact NI
 have hst:bW op n R=((df op R.s.flags).2,bif(df op R.s.flags).1 then R.wpc th else R):=(by simp only[bW, *,ah,ac]);obtain⟨⟨g,o⟩,hq⟩:=Do (df op R.s.flags);rw[hq]at hst HH;refine Va ?_;refine UZ (λw hi=>HH w) ?_;refine Ab ?_ ?_<;>intro hc4
 .obtain rfl:g=true:=hc4;refine UU ?_;refine ZL ?_;refine gP ?_;exact NI
 obtain rfl:g=false:=hc4;refine gP ?_;exact NI
theorem QE(s:St)(Ad Ar:Oa)(cd cr:Nat)(op n:Int)(hu:u32 n)(w:World)(h:iL w s Ad Ar cd cr):
  CW prog 197 [sv s Ad cd Ar cr,.agg #[.i op,.w n]] w (.i (dQ s op n)):=by
 have hu1:=hu.1;have hu2:=hu.2;have hD:=h.hd;have hR:=h.hr;have HR:=BZ op n;have HS:=Me op;have HN:=Pn op;have HG:=Ss s (.slice Ad (J s.d) cd) (.slice Ar (J s.r) cr) n;have HE:=R7 s Ad Ar cd cr n 0;obtain⟨q1,hq1⟩:=Do (eJ op n);obtain⟨q2,hq2⟩:=Do (lC op);obtain⟨⟨g0,g⟩,hq3⟩:=Do (s.get n);obtain⟨⟨e0,e⟩,hq4⟩:=Do (s.set n 0);have hle:=Fx op;unfold dQ;rw[hq1]at HR|-;rw[hq2]at HS|-;rw[hq3]at HG|-;rw[hq4]at HE|-;obtain⟨⟨⟨a,b⟩,⟨c,d⟩⟩,hq5⟩:=Do (bV op);rw[hq5]at HN hle|-;obtain⟨ha,hb,hc,hd⟩:=hle;have ha:a<=3:=ha;have hb:b<=3:=hb;have hc:c<=3:=hc;have hd:d<=3:=hd;refine UV func197 ntmps197 ?_;refine An ?_;refine ZO λb2=>?_;refine ZO λb3=>?_
 refine Va ?_;refine UZ (λw hi=>HR w) ?_;refine WK ?_ ?_<;>intro hc1
 .exact Wu
 refine UK ?_;refine UZ (λw hi=>HS w) ?_;refine Wp ?_ ?_<;>intro hc3
 .exact Wu
 refine U8 ?_;refine wo ?_;refine UZ (λw hi=>HG w) ?_;refine wn ?_;refine ZW ?_ ?_<;>intro hc6
 .refine wv ?_;refine⟨?_,I⟩;exact sf
 refine Va ?_;refine wo ?_;refine Vl (λw hi=>HE w (h.Tb hi)) ?_;rintro _ _ ⟨A1,c1,A2,c2,rfl,rfl⟩;refine UN ?_;refine ZN λb7=>?_
 refine ZM ?_;refine uf ?_ ?_<;>intro hc9
 .refine wv ?_;refine⟨?_,I⟩;exact sf
 refine UU ?_;refine UZ (λw hi=>HN w) ?_;refine jS ?_;refine oU ?_ ?_<;>intro hc12
 .exact Wu
 refine UU ?_;refine sb ?_;refine ZA ?_;refine mT ?_;refine UU ?_;refine WV I I (ez (cO I) (cO I) Zl) ?_;refine ZB ?_;refine WV I I (dy (cO I) (cO I) Zl) ?_;refine Wh ?_ ?_<;>intro hc14
 .exact Wu
 refine jP ?_;refine⟨?_,I⟩;exact sf
end
end Go.Ink
namespace Go.Ink
open List renaming length→J, replicate→R9
open IntKind renaming wrap→V9
open Go.RowKit Go.Proofs.Tryz
section
attribute [local irreducible] Ve bN
def Ej(s:St)(m:eu):WP:=
 bif m.r.S3.SU !=0 then⟨s.next.S3 m.r.S3.SU m.r.S3.addr,true,m.r.device,ee m.u.m.SX 64⟩else⟨m.r.s,false,m.r.device,ee m.u.m.SX 64⟩
abbrev VK(bu bb:Nat)(L:fF)(D:qV)(Y:dJ)(U:UI)(d:UF):List bJ:=uF bu bb L U++my D L.bm Y d
theorem Cw(bm:Nat)(A:Oa)(c:Nat)(l:Li)(hl:J l<=1024)(w:World)(h:Rd w .u8 A (J l) c l):UW prog 89 [.p bm,.slice A (J l) c] w []
  (λv cs=>∃D,v= .tuple #[.p D.bs,.i 0]/\cs=my D bm ⟨none,0,none,0⟩ (UF.init l)):=by
 obtain⟨dd,hdd⟩:=Do (ph l);unfold UF.init;rw[hdd];have HD:=λw (hi:Rd w .u8 A (J l) c l)=>MM A c l hl w hi
 rw[hdd]at HD;refine UV func89 ntmps89 ?_;refine mv ?_;refine j6 ?_;refine Vl (λw hi=>HD w (h.Tb hi)) ?_;rintro _ _ ⟨bdr,bdk,rfl,rfl⟩;refine r7 ?_;refine UK ?_;refine Vl (λw hi=>LR w) ?_;rintro _ _ ⟨bi,rfl,rfl⟩;refine Vl (λw hi=>JY w) ?_;rintro _ _ ⟨bti,rfl,rfl⟩;refine Vl (λw hi=>MW w) ?_;rintro _ _ ⟨bcn,rfl,rfl⟩;refine UN ?_;refine ZO λb24=>?_
 refine ZA ?_;refine dB 5 1 (dB 5 1 (UK ?_));refine bK (my ⟨b24,bi,bti,bcn,bdr,bdk⟩ bm ⟨none,0,none,0⟩ ⟨0,0,0,[],[],dd,0,0,0⟩) Zj (I8 ?_);exact⟨⟨b24,bi,bti,bcn,bdr,bdk⟩,I,I⟩
theorem DI(bm:Nat)(w:World):UW prog 67 [.p bm] w [] (λv cs=>∃bx,v= .p bx/\cs=[fv bx bm cX]):=by
 refine UV func67 ntmps67 ?_;refine U8 ?_;refine ZO λb5=>?_
 exact NG
end
end Go.Ink
namespace Go.Ink
open List renaming length→J
open IntKind renaming wrap→V9
open Go.RowKit
variable{n:Nat}
variable{l:Li}
theorem UO.ok.Tl{n:Nat}{M:UO}(h:M.ok n)(l:Li)(v:Int):∀k,(Tl M l v k).ok n
 |0=>h
 |k+1=>(UO.ok.Tl h l v k).put _ (kG v k)
variable{M:UO}
theorem GP(h:M.ok n)(root va:Nat)(kind:Int)(SQ:Bool):(dE n M root va kind SQ).2.ok n:=by
 unfold dE;refine bL (λq:(TE×Tr)×UO=>q.2.ok n) h ?_;cases iw n M.data root va with
 |none=>exact h
 |some q=>
  obtain⟨a,l⟩:=q;refine bL (λq:(TE×Tr)×UO=>q.2.ok n) h ?_;exact bL (λq:UO=>q.ok n) (h.Tj _ _ 4) h
variable{U:UI}
theorem AG(h:U.m.ok n)(s:Sp)(va:Nat)(kind:Int):(SY n U s va kind).2.m.ok n:=by
 grind [GP,SY]
theorem pD(h:Wz n U)(s:Sp)(va:Nat)(kind:Int):Wz n (SR n U s va kind).2:=by
 refine⟨?_,(pE n U s va kind).trans h.t⟩
 grind [AG,h.m,SR]
theorem G8(a b:Int){va:Nat}(hva:va<=4294967295)(k:Nat){t:Tr}(ht:W9 t)(U:UI):W9 (dr a b va k t U).1.2:=by
 grind [dr,W9,Yv,jn,jt]
theorem AP(n:Nat)(U:UI)(s:Sp)(va k:Nat)(hva:va<=4294967295)(kind:Int):W9 (S4 n U s va k kind).1.2:=by
 grind [ry,SR,cU,jt,S4,yG,W9,G8,yF]
theorem IC(h:M.ok n){S8:Li}(hl:J S8=1024)(hb:Vh S8)(SS a cmd:Nat):(dP n M S8 SS a cmd).2.1.ok n/\(dP n M S8 SS a cmd).2.2.length=1024/\Vh (dP n M S8 SS a cmd).2.2:=by
 unfold dP;cases hk:(!iI n SS a)with
 |true=>grind
 |false=>
  have hk':iI n SS a=true:=by simpa using hk
  simp only[iI,Bool.not_eq_true',aZ,aa,bne_eq_false_iff_eq]at hk';obtain⟨⟨h1,h2⟩,h3⟩:=hk';have hdl:=h.dl;refine fE ?_;refine bL (λq:Bool×UO×List Int=>q.2.1.ok n/\J q.2.2=1024/\Vh q.2.2) ⟨h.fill _ (λx hx=>hb x (bE (aM hx))) _,hl,hb⟩ ?_;refine bL (λq:Bool×UO×List Int=>q.2.1.ok n/\J q.2.2=1024/\Vh q.2.2) ⟨h,?_,λx hx=>?_⟩ ⟨h,hl,hb⟩
  .grind
  rcases aJ.1 hx with hx|hx
  .rcases aJ.1 hx with hx|hx
   .exact hb x (aM hx)
   exact h.db x (bE (aM hx))
  exact hb x (bE hx)
variable{op:Int}{s:St}{m:Li}
variable{p:Int->Prop}
theorem uq(h:Wz n U)(R:UG)(va:Nat)(kind:Int):Wz n (cu n R U va kind).u:=by
 grind [cu,pD]
theorem xe(n:Nat)(R:UG)(U:UI)(va:Nat)(hva:va<=4294967295)(kind:Int):W9 (cu n R U va kind).r.S3:=by
 grind [cu,W9,jn,ry]
theorem pX(n:Nat)(R:UG)(U:UI)(va:Nat)(kind:Int):(cu n R U va kind).ok=((cu n R U va kind).r.S3.SU==0):=by
 grind [cu]
theorem set_wf(h:s.wf)(hf:s.flags<=15)(reg:Int){v:Int}(hv:u32 v):z8 s (s.set reg v):=by
 have h0:z8 s (s,false):=⟨h,hf,I⟩;unfold St.set;refine Rk ?_;refine Rk ?_;refine bL (z8 s) ⟨⟨h.pc,h.flags,dY .andNot v 63,h.vec,h.epc,h.SU,h.addr,h.count,h.d,h.r⟩,hf,I⟩ ?_;refine bL (z8 s) ⟨⟨h.pc,h.flags,h.root,hv,h.epc,h.SU,h.addr,h.count,h.d,h.r⟩,hf,I⟩ ?_;refine bL (z8 s) ⟨⟨h.pc,h.flags,h.root,h.vec,hv,h.SU,h.addr,h.count,h.d,h.r⟩,hf,I⟩ ?_;refine bL (z8 s) ⟨⟨h.pc,h.flags,h.root,h.vec,h.epc,hv,h.addr,h.count,h.d,h.r⟩,hf,I⟩ ?_;refine bL (z8 s) ⟨⟨h.pc,h.flags,h.root,h.vec,h.epc,h.SU,hv,h.count,h.d,h.r⟩,hf,I⟩ ?_;refine Rk ?_;refine Rk ?_;refine bL (z8 s) ⟨⟨h.pc,dY .and v 15,h.root,h.vec,h.epc,h.SU,h.addr,h.count,h.d,h.r⟩,?_,I⟩ h0
 grind [bits,Ni]
section
variable{n:Nat}{op:Int}{R:UG}{U:UI}{d:UF}
theorem Ii(hop:op=48){l:Li}{va:Nat}(hva:va<=4294967295)(hw:(R.wd (l++[(va:Int)])).s.wf)(hf:R.s.flags<=15)(hU:Wz n U)(hd:d.ok):wA n op (R.wd (l++[(va:Int)])).s d (eP n (R.wd l) U d va):=by
 subst hop;have hu:=uq hU (R.wd l) va 2;have ht:=xe n (R.wd l) U va hva 2;have hs:=uo n (R.wd l) U va 2;have hc:=pX n (R.wd l) U va 2;have hwl:(R.wd l).s.wf:=xf hw (tA hw.d);unfold eP;obtain⟨⟨p,ok,r,u⟩,hq⟩:=Do (cu n (R.wd l) U va 2);rw[hq]at hu ht hs hc|-;have hu:Wz n u:=hu;have ht:W9 r.S3:=ht;have hs:r.s=(R.wd l).s:=hs;have hc:ok=(r.S3.SU==0):=hc;have key:∀(v:Int) (o:Bool) (d':UF),u32 v->d'.ok->J d'.out<=J d.out+1->wA n 48 (R.wd (l++[(va:Int)])).s d (gX ⟨p,ok,r,u⟩ d' va v o):=λv o d' hv hd' ho'=>by
  unfold gX;cases o with
  |false=>exact⟨hu,hd',ho',(Yv (jn hva)),λh=>by cases h⟩
  |true=>
   refine⟨hu,hd',ho',ht,λ_=>?_⟩;have e:(UG.push r [v]).s=(R.wd (l++[v])).s:=by
    show St.mk _ _ _ _ _ _ _ _ _ _ _ _ _ _ _ _=_;rw[hs]
   show Wi 48 _ (UG.push r [v]).s;rw[e];exact Wi.of (l:=l) (m:=R.s.r) [(va:Int)] [v] [] [] I (xf hwl (QR (tA hw.d) hv)) hf I I I cJ cJ
 cases hok:ok with
 |false=>
  rw[hok]at hc;exact⟨hu,hd,Nat.le_succ _,ht,λh=>by grind⟩
 |true=>
  rw[hok]at key;refine Es ?_;refine bL (wA n 48 (R.wd (l++[(va:Int)])).s d) ?_ ?_
  .grind [IE,je]
  refine key _ _ _ ?_ hd (Nat.le_succ _);unfold iW;exact bL (λq:Int×Bool=>u32 q.1) (qY hu.m.db _) u0
end
end Go.Ink
namespace Go.Ink
open List renaming length→J
open IntKind renaming wrap→V9
open Go.RowKit Go.Proofs.Tryz
section
attribute [local irreducible] Ve bN
variable{n x:Int}
theorem vY(b:Nat)(Ao:Oa)(co:Nat)(o:Li)(Ai:Oa)(ni ci:Nat)(ho:J o<=1000000000)(w:World)(h:(zP b Ao (J o) co Ai ni ci).ok w)(h2:(b8 Ao co o).ok w):
  UW prog 42 [.p b] w [] (λv cs=>∃A' c',v= .slice A' (J o) c'/\cs=[b8 A' c' o]):=by
 refine UV func42 ntmps42 ?_;refine ww ?_;refine ZS (λw hi=>nV Ao _ co o w (U5.Tb (cY h2) hi) O) ?_;exact Z6
theorem Gk(b:Nat)(Ao:Oa)(no co:Nat)(Ai:Oa)(ci:Nat)(i:Li)(ho:J i<=1000000000)(w:World)(h:(zP b Ao no co Ai (J i) ci).ok w)(h2:(b8 Ai ci i).ok w):
  UW prog 76 [.p b] w [] (λv cs=>∃A' c',v= .slice A' (J i) c'/\cs=[b8 A' c' i]):=by
 refine UV func76 ntmps76 ?_;refine ww ?_;refine ZS (λw hi=>nV Ai _ ci i w (U5.Tb (cY h2) hi) O) ?_;exact Z6
theorem Cm(b bd:Nat)(l:Li)(w:World)(h:(N1 b bd).ok w)(h2:(Cj bd l).ok w):
  UW prog 77 [.p b] w [] (λv cs=>∃A' c',v= .slice A' 1024 c'/\cs=[sl .u8 5 A' 1024 c' l]):=by
 refine UV func77 ntmps77 ?_;refine ww ?_;refine ZS (λw hi=>nV (sA bd) 1024 1024 l w (U5.Tb (cY h2) hi) ne) ?_;exact Z6
section
variable{D R:Li}
variable{D0:Li}{code:List II}{s:Sd}{t:Li}
theorem KK{k:Int}(hk:k=1/\D0=D\/k=2/\D0=R){code:List II}{s:Sd}{t:Li}(h:SI D R D0 code s t)(hD:J D0<=100)
  (hn:(fO k code s).2.2.S2<=(J D0:Int)):
  ∃l x,t=l++[x]/\SI D R D0 (fO k code s).2.1 (fO k code s).2.2 l/\II.in_ (fO k code s).1 (fO k code s).2.1/\eE D R (fO k code s).2.1 (fO k code s).1=x/\∃e,(fO k code s).2.1=code++e:=by
 have h0:=h.Uu;have h1:=h.Ut;have he:=h.eq;unfold fO at hn|-;cases hl:s.l.getLast? with
 |some n=>
  rw[hl]at hn;obtain⟨m,hm⟩:∃m,s.l=m++[n]:=List.getLast?_eq_some_iff.1 hl;refine⟨D0.take (J D0 - s.S2.toNat)++m.map (eE D R code),eE D R code n,?_,⟨h0,h1,?_,?_⟩,?_,I,[],?_⟩
  .grind
  .simp[hm]
  .intro j hj;rw[hm]at hj;exact h.idx j bZ
  .exact h.idx n bZ
  simp
 |none=>
  rw[hl]at hn;have hs:s.l=[]:=List.getLast?_eq_none_iff.1 hl;have hn:s.S2+1<=(J D0:Int):=hn;have hw:V9 .u32 s.S2=s.S2:=by rw[au];omega
  rw[hs]at he;obtain⟨j,hj⟩:∃j:Nat,s.S2=j:=⟨s.S2.toNat,by omega⟩;have hv:eE D R (code++[⟨k,J code,0,0,V9 .u32 s.S2⟩]) (J code)=D0.getD (J D0 - 1 - j) 0:=by
   rw[kH,hw,hj];rcases hk with⟨rfl,rfl⟩|⟨rfl,rfl⟩<;>rfl
  refine⟨D0.take (J D0 - (j+1)),D0.getD (J D0 - 1 - j) 0,?_,⟨by grind,hn,?_,λn hn=>by cases hn⟩,pf _ _,hv,_,rfl⟩
  .rw[he,hj];have e1:J D0 - ((j:Int)).toNat=(J D0 - (j+1))+1:=by omega
   rw[e1,List.map_nil,aD,List.take_add_one];congr 1;have e2:J D0 - 1 - j=J D0 - (j+1):=by omega
   have e3:J D0 - (j+1)<J D0:=by omega
   grind
  grind
variable{w:Lw}
variable{td tr:Li}
theorem rx(h:LI D R w td tr)(hD:J D<=100)(hn:w.S0.2.d.S2<=(J D:Int)):
  ∃l x,td=l++[x]/\LI D R w.S0.2 l tr/\II.in_ w.S0.1 w.S0.2.code/\eE D R w.S0.2.code w.S0.1=x/\∃e,w.S0.2.code=w.code++e:=by
 obtain⟨l,x,h1,h2,h3,h4,e,h5⟩:=KK (k:=1) (Or.inl ⟨I,I⟩) h.d hD hn;exact⟨l,x,h1,⟨h2,by have:=h.r.app e;rw[<-h5]at this;exact this⟩,h3,h4,e,h5⟩
theorem KL(h:LI D R w td tr)(hR:J R<=100)(hn:w.Ty.2.r.S2<=(J R:Int)):
  ∃l x,tr=l++[x]/\LI D R w.Ty.2 td l/\II.in_ w.Ty.1 w.Ty.2.code/\eE D R w.Ty.2.code w.Ty.1=x/\∃e,w.Ty.2.code=w.code++e:=by
 obtain⟨l,x,h1,h2,h3,h4,e,h5⟩:=KK (k:=2) (Or.inr ⟨I,I⟩) h.r hR hn;exact⟨l,x,h1,⟨by have:=h.d.app e;rw[<-h5]at this;exact this,h2⟩,h3,h4,e,h5⟩
theorem LI.wfl{w:Lw}{td tr:Li}(h:LI D R w td tr)(x:Int):LI D R (w.wfl x) td tr:=⟨h.d,h.r⟩
theorem LI.wtg{w:Lw}{td tr:Li}(h:LI D R w td tr)(x:Int):LI D R (w.wtg x) td tr:=⟨h.d,h.r⟩
theorem LI.wbr{w:Lw}{td tr:Li}(h:LI D R w td tr)(x:Int):LI D R (w.wbr x) td tr:=⟨h.d,h.r⟩
theorem LI.Un(h:LI D R w.S5 td tr):(J td:Int)<=(J D:Int)+w.S5.d.high:=by
 have h1:=h.d.len;have h2:w.S5.d.S2=w.d.S2:=rfl;have h3:w.S5.d.l=w.d.l:=rfl;have h4:(J w.d.l:Int) - w.d.S2<=w.S5.d.high:=Int.le_max_right _ _
 grind
theorem LI.lenR(h:LI D R w.S5 td tr):(J tr:Int)<=(J R:Int)+w.S5.r.high:=by
 have h1:=h.r.len;have h2:w.S5.r.S2=w.r.S2:=rfl;have h3:w.S5.r.l=w.r.l:=rfl;have h4:(J w.r.l:Int) - w.r.S2<=w.S5.r.high:=Int.le_max_right _ _
 grind
end
section
variable{op nn:Int}
theorem xA(h:(16<=op/\op<=23)\/op=25)(R:UG):cV op nn R=none/\bW op nn R=(true,bif op !=25 then(R.pop.pop.wfl (hI op R.pop.top R.top).2.1).push [(hI op R.pop.top R.top).1]else R.pop.pop.wfl (hI op R.pop.top R.top).2.1):=by
 have h:op=16\/op=17\/op=18\/op=19\/op=20\/op=21\/op=22\/op=23\/op=25:=by omega
 rcases h with rfl|rfl|rfl|rfl|rfl|rfl|rfl|rfl|rfl<;>exact⟨I,I⟩
end
structure EE(D R:Li)(f0:Int)(s:St)(op nn:Int)(w':Lw)(s':St):Prop where
 did:XQ s op nn=⟨s',false,false,[]⟩
 li:LI D R w' s'.d s'.r
 fl:FL D R f0 w' s'.flags
 pc:s'.pc=rV D R w' op nn (dV s op) s'.flags
 tg:w'.target= -1\/II.in_ w'.target w'.code
 going:op<32->w'.target= -1/\w'.branch=0
 rest:s'=⟨s'.pc,s'.d,s'.r,s'.flags,s.SQ,s.S1,s.ie,s.root,s.vec,s.epc,s.SU,s.addr,s.S6,s.eie,V9 .u64 (s.count+1),s.halted⟩
section
variable{D R:Li}{f0:Int}{s:St}{op nn:Int}{w w':Lw}
theorem i9(td tr:Li)(hs:s.right=true)(hp:dD op=true)(ho:eJ op nn=true)(hm:cV op nn (fm s op)=some (((fm s op).wd td).wr tr))
  (h1:(bV op).1.1<=J s.d) (h2:(bV op).2.1<=J s.r) (h3:J s.d+(bV op).1.2<=16+(bV op).1.1) (h4:J s.r+(bV op).2.2<=16+(bV op).2.1)
  (hl:LI D R w' td tr) (hf:FL D R f0 w' s.flags) (hb:w'.branch=0) (ht:w'.target= -1) (ho2:(op==32||op==38)=false):∃s',EE D R f0 s op nn w' s':=
 ⟨(((fm s op).wd td).wr tr).s,Sy hs hp ho (by grind [BG]) rfl rfl h1 h2 h3 h4,hl,hf,(ue hb ht ho2).symm,Or.inl ht,λ_=>⟨ht,hb⟩,I⟩
theorem zd{td tr:Li}(h:LI D R w td tr)(hD:J D<=100)(hn:w.S0.2.S0.2.d.S2<=(J D:Int)):
  ∃l x y,td=(l++[x])++[y]/\LI D R w.S0.2.S0.2 l tr/\II.in_ w.S0.1 w.S0.2.S0.2.code/\eE D R w.S0.2.S0.2.code w.S0.1=y/\
   II.in_ w.S0.2.S0.1 w.S0.2.S0.2.code/\eE D R w.S0.2.S0.2.code w.S0.2.S0.1=x/\∃e,w.S0.2.S0.2.code=w.code++e:=by
 obtain⟨l1,y,a1,a2,a3,a4,e1,a5⟩:=rx h hD (Int.le_trans (KM w.S0.2) hn)
 grind [rx,sH,iq]
theorem nS{R':UG}(hs:s.right=true)(hp:dD op=true)(ho:eJ op nn=true)(hm:BG s op nn=R')(ht:R'.S3=Tr.none)(hv:R'.device=false)
  (h1:(bV op).1.1<=J s.d) (h2:(bV op).2.1<=J s.r) (h3:J s.d+(bV op).1.2<=16+(bV op).1.1) (h4:J s.r+(bV op).2.2<=16+(bV op).2.1)
  (hl:LI D R w' R'.s.d R'.s.r) (hf:FL D R f0 w' R'.s.flags) (hpc:R'.s.pc=rV D R w' op nn (dV s op) R'.s.flags) (htg:w'.target= -1\/II.in_ w'.target w'.code) (hgo:op<32->w'.target= -1/\w'.branch=0)
  (hr:R'.s=⟨R'.s.pc,R'.s.d,R'.s.r,R'.s.flags,s.SQ,s.S1,s.ie,s.root,s.vec,s.epc,s.SU,s.addr,s.S6,s.eie,V9 .u64 (s.count+1),s.halted⟩):∃s',EE D R f0 s op nn w' s':=
 ⟨R'.s,Sy hs hp ho hm ht hv h1 h2 h3 h4,hl,hf,hpc,htg,hgo,hr⟩
theorem qx(h:(16<=op/\op<=23)\/op=25)(w:Lw)(n nx:Int):w.go op n nx=w.S0.2.S0.2.reckon op w.S0.2.S0.1 w.S0.1:=by
 have h:op=16\/op=17\/op=18\/op=19\/op=20\/op=21\/op=22\/op=23\/op=25:=by omega
 rcases h with rfl|rfl|rfl|rfl|rfl|rfl|rfl|rfl|rfl<;>rfl
theorem uY(h:(16<=op/\op<=23)\/op=25){l:Li}{x y:Int}(hd:s.d=(l++[x])++[y]):
  BG s op nn=bif op !=25 then((fm s op).wd (l++[(hI op x y).1])).wfl (hI op x y).2.1 else((fm s op).wd l).wfl (hI op x y).2.1:=by
 have e0:fm s op=(fm s op).wd ((l++[x])++[y]):=congrArg (λt=>(fm s op).wd t) hd;unfold BG;rw[(xA h (fm s op)).1];show(bif(bW op nn (fm s op)).1 then(bW op nn (fm s op)).2 else _)=_;rw[(xA h (fm s op)).2];have e1:(fm s op).top=y:=(congrArg UG.top e0).trans (UG.top_wd _ _ _);have e2:(fm s op).pop=(fm s op).wd (l++[x]):=(congrArg UG.pop e0).trans (UG.pop_wd _ _ _);have e3:(fm s op).pop.top=x:=(congrArg UG.top e2).trans (UG.top_wd _ _ _);have e4:(fm s op).pop.pop=(fm s op).wd l:=(congrArg UG.pop e2).trans (UG.pop_wd _ _ _);rw[e1,e3,e4]
 rfl
theorem one_ok(hp:dD op=true)(ho:eJ op nn=true)(hs:s.right=true)(h:LI D R w s.d s.r)(hf:FL D R f0 w s.flags)(hD:J D<=16)(hR:J R<=16)(ht:w.target= -1)(hb:w.branch=0)
  (n1:(w.one op nn (dV s op)).d.S2<=(J D:Int)) (n2:(w.one op nn (dV s op)).r.S2<=(J R:Int))
  (g1:(J D:Int)+(w.one op nn (dV s op)).d.high<=16) (g2:(J R:Int)+(w.one op nn (dV s op)).r.high<=16):∃s',EE D R f0 s op nn (w.one op nn (dV s op)) s':=by
 obtain⟨q1,q2, -⟩:=St.fits hs;obtain⟨nx,hnx⟩:=Do (dV s op);rcases qm hp with rfl|rfl|rfl|rfl|rfl|rfl|rfl|rfl|rfl|hr|hr|rfl|hr|rfl|rfl|rfl
 .refine i9 s.d s.r hs hp ho I (ax _) (ax _) q1 q2 h.S5 hf hb ht I
 .have h6:LI D R (w.one 1 nn nx) (s.d++[nn]) s.r:=by
   exact Wq293
  have h8:=h6.Un;rw[hnx]at g1;refine i9 (s.d++[nn]) s.r hs hp ho I (ax _) (ax _) (show J s.d+1<=16+0 from ?_) q2 (hnx▸h6) (hf.app (w':=w.one 1 nn (dV s 1)) I I) hb ht I;have h9:((J (s.d++[nn]):Nat):Int)<=_:=h8;have h10:=Int.le_trans h9 g1
  grind
 .have h6:LI D R (w.one 2 nn nx) (s.d++[nn]) s.r:=by
   exact Wq293
  have h8:=h6.Un;rw[hnx]at g1;refine i9 (s.d++[nn]) s.r hs hp ho I (ax _) (ax _) (show J s.d+1<=16+0 from ?_) q2 (hnx▸h6) (hf.app (w':=w.one 2 nn (dV s 2)) I I) hb ht I;have h9:((J (s.d++[nn]):Nat):Int)<=_:=h8;have h10:=Int.le_trans h9 g1
  grind
 .obtain⟨l,x,k1,k2,k3,k4,e,k5⟩:=rx h O n1;have h6:LI D R (w.one 3 nn nx) (l++[x,x]) s.r:=by
   have h7:=(k2.TH [w.S0.1,w.S0.1] bZ).S5;rw[show[w.S0.1,w.S0.1].map (eE D R w.S0.2.code)=[x,x] by simp[k4]]at h7;exact h7
  have h8:((J (l++[x,x]:Li):Nat):Int)<=_:=h6.Un;rw[hnx]at g1;have h10:=Int.le_trans h8 g1;have h11:=oH k1;simp at h10;refine i9 (l++[x,x]) s.r hs hp ho ((congrArg (λt=>cV 3 nn ((fm s 3).wd t)) k1).trans (mF nn (fm s 3) l x)) (show 1<=J s.d by omega) (ax _) (show J s.d+2<=16+1 by omega) q2 (hnx▸h6) (hf.app (w':=w.one 3 nn (dV s 3)) k5 rfl) hb ht rfl
 .obtain⟨l,x,k1,k2,k3,k4,e,k5⟩:=rx h O n1;have h6:LI D R (w.one 4 nn nx) (l) s.r:=by
   have h7:=k2.S5;exact h7
  have h8:((J (l:Li):Nat):Int)<=_:=h6.Un;rw[hnx]at g1;have h10:=Int.le_trans h8 g1;have h11:=oH k1;refine i9 (l) s.r hs hp ho ((congrArg (λt=>cV 4 nn ((fm s 4).wd t)) k1).trans (lm nn (fm s 4) l x)) (show 1<=J s.d by omega) (ax _) (show J s.d+0<=16+1 by omega) q2 (hnx▸h6) (hf.app (w':=w.one 4 nn (dV s 4)) k5 rfl) hb ht rfl
 .obtain⟨l,x,y,k1,k2,k3,k4,k5,k6,e,k7⟩:=zd h O n1;have h6:LI D R (w.one 5 nn nx) (l++[y,x]) s.r:=by
   have h7:=(k2.TH [w.S0.1,w.S0.2.S0.1] bZ).S5;rw[show[w.S0.1,w.S0.2.S0.1].map (eE D R w.S0.2.S0.2.code)=[y,x] by grind]at h7;exact h7
  have h8:((J (l++[y,x]:Li):Nat):Int)<=_:=h6.Un;rw[hnx]at g1;have h10:=Int.le_trans h8 g1;have h11:J s.d=J l+2:=by rw[k1];simp
  simp at h10;refine i9 (l++[y,x]) s.r hs hp ho ((congrArg (λt=>cV 5 nn ((fm s 5).wd t)) k1).trans (lh nn (fm s 5) l x y)) (show 2<=J s.d by omega) (ax _) (show J s.d+2<=16+2 by omega) q2 (hnx▸h6) (hf.app (w':=w.one 5 nn (dV s 5)) k7 rfl) hb ht rfl
 .obtain⟨l,x,y,k1,k2,k3,k4,k5,k6,e,k7⟩:=zd h O n1;have h6:LI D R (w.one 6 nn nx) (l++[x,y,x]) s.r:=by
   have h7:=(k2.TH [w.S0.2.S0.1,w.S0.1,w.S0.2.S0.1] bZ).S5;rw[show[w.S0.2.S0.1,w.S0.1,w.S0.2.S0.1].map (eE D R w.S0.2.S0.2.code)=[x,y,x] by grind]at h7;exact h7
  have h8:((J (l++[x,y,x]:Li):Nat):Int)<=_:=h6.Un;rw[hnx]at g1;have h10:=Int.le_trans h8 g1;have h11:J s.d=J l+2:=by rw[k1];simp
  simp at h10;refine i9 (l++[x,y,x]) s.r hs hp ho ((congrArg (λt=>cV 6 nn ((fm s 6).wd t)) k1).trans (lj nn (fm s 6) l x y)) (show 2<=J s.d by omega) (ax _) (show J s.d+3<=16+2 by omega) q2 (hnx▸h6) (hf.app (w':=w.one 6 nn (dV s 6)) k7 rfl) hb ht rfl
 .obtain⟨l,x,k1,k2,k3,k4,e,k5⟩:=rx h O n1;have h6:LI D R (w.one 7 nn nx) l (s.r++[x]):=by
   have h7:=(k2.Uk [w.S0.1] bZ).S5;rw[show[w.S0.1].map (eE D R w.S0.2.code)=[x] by simp[k4]]at h7;exact h7
  have h8:((J (s.r++[x]:Li):Nat):Int)<=_:=h6.lenR;rw[hnx]at g2;have h10:=Int.le_trans h8 g2;have h11:=oH k1;simp at h10;refine i9 l (s.r++[x]) hs hp ho ((congrArg (λt=>cV 7 nn ((fm s 7).wd t)) k1).trans (mE nn (fm s 7) l x)) (show 1<=J s.d by omega) (ax _) (show J s.d+0<=16+1 by omega) (show J s.r+1<=16+0 by omega) (hnx▸h6) (hf.app (w':=w.one 7 nn (dV s 7)) k5 rfl) hb ht rfl
 .obtain⟨l,x,k1,k2,k3,k4,e,k5⟩:=KL h O n2;have h6:LI D R (w.one 8 nn nx) (s.d++[x]) l:=by
   have h7:=(k2.TH [w.Ty.1] bZ).S5;rw[show[w.Ty.1].map (eE D R w.Ty.2.code)=[x] by simp[k4]]at h7;exact h7
  have h8:((J (s.d++[x]:Li):Nat):Int)<=_:=h6.Un;rw[hnx]at g1;have h10:=Int.le_trans h8 g1;have h11:=oH k1;simp at h10;refine i9 (s.d++[x]) l hs hp ho ((congrArg (λt=>cV 8 nn ((fm s 8).wr t)) k1).trans (ki nn (fm s 8) l x)) (ax _) (show 1<=J s.r by omega) (show J s.d+1<=16+0 by omega) (show J s.r+0<=16+1 by omega) (hnx▸h6) (hf.app (w':=w.one 8 nn (dV s 8)) k5 rfl) hb ht rfl
 .have hr2:(16<=op/\op<=23)\/op=25:=Or.inl hr;have e25:(op !=25)=true:=by simp;omega
  have ew:w.one op nn (dV s op)=(((((w.S0.2.S0.2.add 4 w.S0.2.S0.1 w.S0.1 op).wfl w.S0.2.S0.2.here).add 3 w.S0.2.S0.1 w.S0.1 op).TH [((w.S0.2.S0.2.add 4 w.S0.2.S0.1 w.S0.1 op).wfl w.S0.2.S0.2.here).here])).S5:=by
   refine(congrArg Lw.S5 (qx hr2 w nn _)).trans (congrArg Lw.S5 ?_);unfold Lw.reckon;rw[e25]
   rfl
  rw[ew]at n1 n2 g1 g2|-;obtain⟨l,x,y,k1,k2,k3,k4,k5,k6,e,k7⟩:=zd h O n1;have h6:=(((k2.add 4 w.S0.2.S0.1 w.S0.1 op).wfl w.S0.2.S0.2.here).add 3 w.S0.2.S0.1 w.S0.1 op).TH [((w.S0.2.S0.2.add 4 w.S0.2.S0.1 w.S0.1 op).wfl w.S0.2.S0.2.here).here] (λn hn=>by
   rw[aX.1 hn];exact pf _ _)
  have hv:=alu_new (D:=D) (R:=R) (op:=op) (c:=w.S0.2.S0.2.code++[⟨4,J w.S0.2.S0.2.code,w.S0.2.S0.1,w.S0.1,op⟩]) ((iq k5).trans k6) ((iq k3).trans k4);rw[List.map_cons,List.map_nil]at h6;have h7:=Eq.mp (congrArg (λv=>LI D R ((((w.S0.2.S0.2.add 4 w.S0.2.S0.1 w.S0.1 op).wfl w.S0.2.S0.2.here).add 3 w.S0.2.S0.1 w.S0.1 op).TH [((w.S0.2.S0.2.add 4 w.S0.2.S0.1 w.S0.1 op).wfl w.S0.2.S0.2.here).here]) (l++[v]) s.r) hv) h6;have h8:=h7.S5.Un;have h10:=Int.le_trans h8 g1;have h11:J s.d=J l+2:=by rw[k1];simp
  simp at h10;refine nS (R':=((fm s op).wd (l++[(hI op x y).1])).wfl (hI op x y).2.1) hs hp ho (by grind [uY]) rfl rfl ?_ ?_ ?_ ?_ h7.S5 ?_ ?_ (Or.inl ht) (λ_=>⟨ht,hb⟩) I
  .grind [lp]
  .grind [lp]
  .grind [lp]
  .grind [lp]
  .exact Or.inr ⟨sH _ (pf _ _),((iq (pf _ _)).trans (FY k6 k4)).symm⟩
  refine Eq.symm (ue ?_ ?_ (jump_no hr2))
  .exact hb
  exact ht
 .subst hr;have ew:w.one 25 nn (dV s 25)=((w.S0.2.S0.2.add 4 w.S0.2.S0.1 w.S0.1 25).wfl w.S0.2.S0.2.here).S5:=rfl;rw[ew]at n1 n2 g1 g2|-;obtain⟨l,x,y,k1,k2,k3,k4,k5,k6,e,k7⟩:=zd h O n1;have h7:=((k2.add 4 w.S0.2.S0.1 w.S0.1 25).wfl w.S0.2.S0.2.here).S5;have h11:J s.d=J l+2:=by rw[k1];simp
  refine nS (R':=((fm s 25).wd l).wfl (hI 25 x y).2.1) hs hp ho (by rw[uY (Or.inr rfl) k1];rfl) rfl rfl (show 2<=J s.d by omega) (ax _) (show J s.d+0<=16+2 by omega) q2 h7 ?_ ?_ (Or.inl ht) (λ_=>⟨ht,hb⟩) I
  .exact Or.inr ⟨pf _ _,(FY k6 k4).symm⟩
  refine Eq.symm (ue ?_ ?_ I)
  .exact hb
  exact ht
 .refine nS (R':=(fm s 32).wpc (gq (fm s 32) nn)) hs hp ho I I I (ax _) (ax _) q1 q2 h.S5 hf ?_ (Or.inl ht) (λh=>absurd h ne) I;show _=bif(df w.branch s.flags).1 then _ else bif w.target== -1 then _ else _
  rw[hb,ht];rfl
 .have h5:op=33\/op=34\/op=35\/op=36\/op=37:=by omega
  have eg:w.one op nn (dV s op)=(w.wbr op).S5:=by rcases h5 with rfl|rfl|rfl|rfl|rfl<;>rfl
  have eq:bV op=((0,0),(0,0)):=by rcases h5 with rfl|rfl|rfl|rfl|rfl<;>rfl
  have ej:(op==32||op==38)=false:=by rcases h5 with rfl|rfl|rfl|rfl|rfl<;>rfl
  rw[eg]at n1 n2 g1 g2|-;have em:BG s op nn=bif(df op s.flags).1 then(fm s op).wpc (gq (fm s op) nn)else fm s op:=by
   unfold BG;rw[(FH hr _).1];show(bif(bW op nn (fm s op)).1 then(bW op nn (fm s op)).2 else _)=_;rw[(FH hr _).2];rfl
  cases hh:(df op s.flags).1 with
  |true=>
   rw[hh]at em;refine nS (R':=(fm s op).wpc (gq (fm s op) nn)) hs hp ho em I I bZ bZ bZ bZ (h.wbr op).S5 hf ?_ (Or.inl ht) (λh=>absurd h O) I;show _=bif(df op s.flags).1 then _ else _
   rw[hh];rfl
  |false=>
   rw[hh]at em;refine nS (R':=fm s op) hs hp ho em I I bZ bZ bZ bZ (h.wbr op).S5 hf ?_ (Or.inl ht) (λh=>absurd h O) I;show _=bif(df op s.flags).1 then _ else bif w.target== -1 then(bif op==32||op==38 then _ else _)else _
   rw[hh,ht,ej];rfl
 .have ew:w.one 38 nn (dV s 38)=((w.add 0 0 0 (dV s 38)).Uk [w.here]).S5:=rfl;rw[ew]at n1 n2 g1 g2|-;have h7:=((h.add 0 0 0 (dV s 38)).Uk [w.here] (λn hn=>by rw[aX.1 hn];exact pf _ _)).S5;rw[List.map_cons,List.map_nil,show eE D R (w.add 0 0 0 (dV s 38)).code w.here=dV s 38 from kH _ _]at h7;have h10:=Int.le_trans h7.lenR g2;simp at h10;refine nS (R':=((fm s 38).Ul (dV s 38)).wpc (gq (fm s 38) nn)) hs hp ho I I I (ax _) (ax _) q1 (show J s.r+1<=16+0 by omega) h7 (hf.app (w':=((w.add 0 0 0 (dV s 38)).Uk [w.here]).S5) rfl rfl) ?_ (Or.inl ht) (λh=>absurd h ne) I;show _=bif(df w.branch s.flags).1 then _ else bif w.target== -1 then _ else _
  rw[hb,ht];rfl
 .have ew:w.one 39 nn (dV s 39)=(w.Ty.2.wtg w.Ty.1).S5:=rfl;rw[ew]at n1 n2 g1 g2|-;obtain⟨l,x,k1,k2,k3,k4,e,k5⟩:=KL h O n2;have h11:=oH k1;have e0:fm s 39=(fm s 39).wr (l++[x]):=congrArg (λt=>(fm s 39).wr t) k1;have e1:(fm s 39).topR=x:=(congrArg UG.topR e0).trans (UG.topR_wr _ _ _);have e2:(fm s 39).Ty=(fm s 39).wr l:=(congrArg UG.Ty e0).trans (UG.popR_wr _ _ _);have em:BG s 39 nn=((fm s 39).wr l).wpc x:=by
   have:BG s 39 nn=(fm s 39).Ty.wpc (fm s 39).topR:=rfl;rw[this,e1,e2]
  have e3:(w.Ty.1== -1)=false:=by have:=k3.1;simp;omega
  refine nS (R':=((fm s 39).wr l).wpc x) hs hp ho em I I (ax _) (show 1<=J s.r by omega) q1 (show J s.r+0<=16+1 by omega) (k2.wtg _).S5 (hf.app (w':=(w.Ty.2.wtg w.Ty.1).S5) k5 rfl) ?_ (Or.inr k3) (λh=>absurd h ne) I;show x=bif(df w.branch s.flags).1 then _ else bif w.Ty.1== -1 then _ else eE D R w.Ty.2.code w.Ty.1
  rw[hb,e3,k4];rfl
 have ew:w.one 40 nn (dV s 40)=(w.S0.2.wtg w.S0.1).S5:=rfl;rw[ew]at n1 n2 g1 g2|-;obtain⟨l,x,k1,k2,k3,k4,e,k5⟩:=rx h O n1;have h11:=oH k1;have e0:fm s 40=(fm s 40).wd (l++[x]):=congrArg (λt=>(fm s 40).wd t) k1;have e1:(fm s 40).top=x:=(congrArg UG.top e0).trans (UG.top_wd _ _ _);have e2:(fm s 40).pop=(fm s 40).wd l:=(congrArg UG.pop e0).trans (UG.pop_wd _ _ _);have em:BG s 40 nn=((fm s 40).wd l).wpc x:=by
  have:BG s 40 nn=(fm s 40).pop.wpc (fm s 40).top:=rfl;rw[this,e1,e2]
 have e3:(w.S0.1== -1)=false:=by have:=k3.1;simp;omega
 refine nS (R':=((fm s 40).wd l).wpc x) hs hp ho em I I (show 1<=J s.d by omega) (ax _) (show J s.d+0<=16+1 by omega) q2 (k2.wtg _).S5 (hf.app (w':=(w.S0.2.wtg w.S0.1).S5) k5 rfl) ?_ (Or.inr k3) (λh=>absurd h ne) I;show x=bif(df w.branch s.flags).1 then _ else bif w.S0.1== -1 then _ else eE D R w.S0.2.code w.S0.1
 rw[hb,e3,k4];rfl
end
end
end Go.Ink
namespace Go.Ink
open List renaming length→J, replicate→R9
open IntKind renaming wrap→V9
open Go.RowKit Go.Proofs.Tryz
variable{α:Type}{x:α}
variable{j:Nat}
section
attribute [local irreducible] Ve bN
structure pU(room:Int)(X:Wn):Prop where
 rm:1<=room/\room<=1024
 len:(J X.Z:Int)<=room
 ba:∀x,x∈X.Z->J x.b.code<=100000/\lD x.b.key
 lk:CL (X.Z.map BA.key) X.LK
variable{LK:List (Ky×LS)}
variable{room:Int}{X:Wn}
theorem pU.sm(h:pU room X):BaSm X.Z:=⟨by have:=h.len;have:=h.rm;omega,h.ba⟩
theorem pU.none(h:1<=room/\room<=1024)(ml:Nat)(A:Oa)(c:Nat)(fl:Int):pU room ⟨ml,A,c,fl,[],[]⟩:=
 ⟨h,bZ,(λy hy=>nomatch hy),(λy hy=>nomatch hy)⟩
theorem pU.set{room:Int}{X:Wn}(h:pU room X){j:Nat}{x t:BA}(hx:X.Z[j]? =some x)(hk:x.key=t.key)(ht:J t.b.code<=100000/\lD t.b.key)(ml:Nat)(A:Oa)(c:Nat)(fl:Int):pU room ⟨ml,A,c,fl,gJ X.LK t.key,X.Z.set j t⟩:=by
 have hjl:=(aC.1 hx).1;have e9:(X.Z.set j t).map BA.key=X.Z.map BA.key:=by
  rw[List.map_set];apply List.ext_getElem?;intro i;rw[List.getElem?_set];by_cases hij:j=i
  .grind
  grind
 refine⟨h.rm,by simp[h.len],λy hy=>?_,?_⟩
 .rcases List.mem_or_eq_of_mem_set hy with hy|rfl
  .exact h.ba y hy
  exact ht
 dsimp only;rw[e9];exact(h.lk.unlink t.key).1
end
end Go.Ink
namespace Go.Ink
open List renaming length→J, replicate→R9
open IntKind renaming wrap→V9
open Go.RowKit Go.Proofs.Tryz
section
attribute [local irreducible] Ve bN
variable{α:Type}{k:Nat}{x:α}
theorem xp:∀(T:Li) (k i:Nat) (t:Int),(fN k T).set (i*3+2) (.i t)=fN k (T.set i t)
 |[],_,_,_=>rfl
 |x::T,k,0,t=>rfl
 |x::T,k,i+1,t=>by
  have:=xp T (k+1) i t
  grind [fN]
abbrev SBk.X(Y:SBk):SAd:=⟨some ⟨Y.br,0,none⟩,Y.cr,some ⟨Y.bs,0,none⟩,Y.cs,some ⟨Y.bv,0,none⟩,Y.cv⟩
abbrev scF(b:Nat)(X:SAd)(N:Nat)(T:Li)(pl:Pl):List bJ:=[scR b X N pl.Tt,sl .i64 3 X.Ar N X.cr pl.reg,sl .i64 3 X.As N X.cs pl.slot,slv 415 3 X.Av N X.cv (fN 0 T)]
abbrev SG(b:Nat):bJ:=row b [.slice none 0 0,.slice none 0 0,.i 0] 356
end
end Go.Ink
namespace Go.Ink
open List renaming length→J
open IntKind renaming wrap→V9
open Go.RowKit Go.Proofs.Tryz
section
attribute [local irreducible] Ve bN
structure Lw.sm(L:Lw)(n:Nat):Prop where
 code:J L.code<=n
 dl:J L.d.l<=n
 rl:J L.r.l<=n
 dn:0<=L.d.S2/\L.d.S2<=n
 rn:0<=L.r.S2/\L.r.S2<=n
abbrev D2(N:Int)(L:Lw)(X:Wq):List Value:=[.slice X.Ac (J L.code) X.cc,.i 0,.i 0,.i 0,.i 0,.slice none 0 0,.slice none 0 0,.i L.flags,.w 0,.i L.target,.i L.branch,.w 0,.i N,.i 0,
 .slice X.Ad (J L.d.l) X.cd,.i L.d.S2,.i L.d.high,.i 1,.slice X.Ar (J L.r.l) X.cr,.i L.r.S2,.i L.r.high,.i 2]
variable{L:Lw}{n:Nat}
theorem Lw.sm.mono{m:Nat}(h:L.sm n)(hnm:n<=m):L.sm m:=⟨aN h.code hnm,aN h.dl hnm,aN h.rl hnm,⟨h.dn.1,by have:=h.dn.2;omega⟩,⟨h.rn.1,by have:=h.rn.2;omega⟩⟩
theorem jp(h:L.sm n){C:List II}{s:Sd}(hC:C=(fO 1 L.code L.d).2.1)(hs:s=(fO 1 L.code L.d).2.2)(f t br:Int):Lw.sm ⟨C,s,L.r,f,t,br⟩ (n+1):=by
 subst hC hs;obtain⟨h1,h2,h3⟩:=KJ (k:=1) h.code h.dl h.dn;exact⟨h1,h2,aN h.rl O,h3,⟨h.rn.1,by have:=h.rn.2;grind⟩⟩
theorem sm_popR(h:L.sm n){C:List II}{s:Sd}(hC:C=(fO 2 L.code L.r).2.1)(hs:s=(fO 2 L.code L.r).2.2)(f t br:Int):Lw.sm ⟨C,L.d,s,f,t,br⟩ (n+1):=by
 subst hC hs;obtain⟨h1,h2,h3⟩:=KJ (k:=2) h.code h.rl h.rn;exact⟨h1,aN h.dl O,h2,⟨h.dn.1,by have:=h.dn.2;grind⟩,h3⟩
theorem sV(h:L.sm n):L.S0.2.sm (n+1):=jp h I I _ _ _
theorem sm_pR(h:L.sm n):L.Ty.2.sm (n+1):=sm_popR h I I _ _ _
theorem uN(h:L.sm n)(f t br:Int):Lw.sm ⟨L.code,L.d,L.r,f,t,br⟩ n:=⟨h.code,h.dl,h.rl,h.dn,h.rn⟩
end
end Go.Ink
namespace Go.Ink
open List renaming length→J, replicate→R9
open IntKind renaming wrap→V9
open Go.RowKit Go.Proofs.Tryz
section
attribute [local irreducible] Ve bN
abbrev pg0(b:Nat):bJ:=row b [.slice none 0 0,.i 0,.i 0,.i 0,.i 0,.slice none 0 0,.slice none 0 0,.i 0,.w 0,.i 0,.i 0,.w 0,.i 0,.i 0] 308
end
end Go.Ink
