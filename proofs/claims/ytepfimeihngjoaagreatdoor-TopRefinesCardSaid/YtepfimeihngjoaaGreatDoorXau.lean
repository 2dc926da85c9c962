/- Lemmas. -/
import Derived.Test.YtepfimeihngjoaaGreatDoorXap
import Derived.Test.YtepfimeihngjoaaGreatDoorXaq
import Derived.Test.YtepfimeihngjoaaGreatDoorXar
set_option linter.all false
set_option maxRecDepth 100000
set_option maxHeartbeats 4000000
namespace Go.Ink
open List renaming length→J, replicate→R9
open IntKind renaming wrap→V9
open Go.RowKit Go.Proofs.Tryz
def cF(n:Nat)(op nn:Int)(m:eu):eu:=
 bif op==48 then eP n m.r.pop m.u m.d m.r.top.toNat else
 bif op==49 then eZ n m.r.pop.pop m.u m.d m.r.top.toNat m.r.pop.top.toNat else
 bif op==50 then eu.of (kj n m.r.pop m.u m.r.top.toNat 4) m.d else
 bif op==51 then eu.of (jX n m.r.pop.pop m.u m.r.top.toNat 4 m.r.pop.top) m.d else
 bif op==52 then eu.of (kj n m.r.pop m.u m.r.top.toNat 1) m.d else
 bif op==53 then eu.of (jX n m.r.pop.pop m.u m.r.top.toNat 1 m.r.pop.top) m.d else
 bif op==64 then⟨m.r.wt ⟨11,0⟩,m.u,m.d⟩else
 bif op==65 then⟨m.r.ws m.r.s.back,m.u,m.d⟩else
 bif op==66 then⟨m.r.push [((m.r.s.Ts m.r.count).get nn).1],m.u,m.d⟩else
 bif op==67 then⟨m.r.pop.ws (m.r.pop.s.set nn m.r.top).1,bif nn==1||nn==2 then⟨m.u.m,cX⟩else m.u,m.d⟩else
 bif op==68 then⟨m.r.pop,⟨m.u.m,pv m.u.t m.r.top.toNat⟩,m.d⟩else
 bif op==69 then⟨m.r.ws m.r.s.halt,m.u,m.d⟩else m
section
attribute [local irreducible] Ve bN
theorem Ko(br bu bb:Nat)(L:fF)(D:qV)(X:dz)(Y:dJ)(R:UG)(U:UI)(d:UF)(op nn:Int)(hnn:u32 nn)(hw:∀x,x∈R.s.d->u32 x)(hdl:J R.s.d<=100000)(hrl:J R.s.r<=100000)(hn:(bV op).1.1<=J R.s.d)(hT:J U.t=16)(hroot:u32 R.s.root)(hd:d.wf)(ho:J d.out<=1000000000)
  :CI prog 201 [.p br,.agg #[.i op,.w nn]] (pj br bu bb L D X Y ⟨R,U,d⟩) (λv cs=>∃X' Y',v= .tuple #[]/\cs=pj br bu bb L D X' Y' (cF L.n op nn ⟨R,U,d⟩)):=λw hi=>by
 have hu1:=hnn.1;have hu2:=hnn.2;refine Vb func201 ntmps201 hi ?_;refine An ?_;refine ZO λb3=>?_;refine nW ?_;refine ZW ?_ ?_<;>intro hc2
 .obtain rfl:=hH hc2;obtain⟨R,l,x,rfl⟩:=UG.snoc (show 1<=J R.s.d from hn);obtain⟨hx1,hx2⟩:=hw x cJ;obtain⟨va,rfl⟩:∃va:Nat,x=va:=aj hx1;have hva:va<=4294967295:=O;have hll:J l<=100000:=bZ;have HC:=lode_ok br bu bb L D X Y R U d l va hva hll hT hroot hd;have hst:cF L.n 48 nn ⟨R.wd (l++[(va:Int)]),U,d⟩=eP L.n (R.wd l) U d va:=(by show eP _ _ _ _ _=_;simp_all);obtain⟨m',hm'⟩:∃m',eP L.n (R.wd l) U d va=m':=⟨_,I⟩;rw[hm']at HC;rw[hm']at hst;refine An ?_;refine dH (pj br bu bb L D X Y ⟨R.wd (l++[(va:Int)]),U,d⟩) (λw hi hin=>HC w hin) ?_;rintro _ _ ⟨X',Y',rfl,rfl⟩;refine An ?_;refine bK (pj br bu bb L D X' Y' m') Zj (Xp ?_);rw[hst];exact⟨X',Y',I,I⟩
 refine UH ?_ ?_<;>intro hc4
 .obtain rfl:=hH hc4;obtain⟨R,l,y,x,rfl⟩:=UG.TF (show 2<=J R.s.d from hn);obtain⟨hx1,hx2⟩:=hw x cJ;obtain⟨hy1,hy2⟩:=hw y cJ;obtain⟨va,rfl⟩:∃va:Nat,x=va:=aj hx1;obtain⟨v,rfl⟩:∃v:Nat,y=v:=aj hy1;have hva:va<=4294967295:=O;have hv:v<=4294967295:=O;have hll:J l<=100000:=bZ;have HC:=stow_ok br bu bb L D X Y R U d l va v hva hv hT hroot hd ho;have hst:cF L.n 49 nn ⟨R.wd ((l++[(v:Int)])++[(va:Int)]),U,d⟩=eZ L.n (R.wd l) U d va v:=(by show eZ _ _ _ _ _ _=_;rw[UG.pop_wd,UG.top_wd,UG.pop_wd,UG.top_wd];rfl);obtain⟨m',hm'⟩:∃m',eZ L.n (R.wd l) U d va v=m':=⟨_,I⟩;rw[hm']at HC;rw[hm']at hst;refine An ?_;refine dH (pj br bu bb L D X Y ⟨R.wd ((l++[(v:Int)])++[(va:Int)]),U,d⟩) (λw hi hin=>HC w hin) ?_;rintro _ _ ⟨Y',rfl,rfl⟩;refine An ?_;refine bK (pj br bu bb L D X Y' m') Zj (Xp ?_);rw[hst];exact⟨X,Y',I,I⟩
 refine UH ?_ ?_<;>intro hc6
 .obtain rfl:=hH hc6;obtain⟨R,l,x,rfl⟩:=UG.snoc (show 1<=J R.s.d from hn);obtain⟨hx1,hx2⟩:=hw x cJ;obtain⟨va,rfl⟩:∃va:Nat,x=va:=aj hx1;have hva:va<=4294967295:=O;have hll:J l<=100000:=bZ;have HC:=E5 br bu bb L D X R U l va 4 hva ne ne hll hT hroot;have hst:cF L.n 50 nn ⟨R.wd (l++[(va:Int)]),U,d⟩=eu.of (kj L.n (R.wd l) U va 4) d:=(by show eu.of (kj _ _ _ _ _) _=_;simp_all);obtain⟨m',hm'⟩:∃m',kj L.n (R.wd l) U va 4=m':=⟨_,I⟩;exact Wq434
 refine UH ?_ ?_<;>intro hc8
 .obtain rfl:=hH hc8;obtain⟨R,l,y,x,rfl⟩:=UG.TF (show 2<=J R.s.d from hn);obtain⟨hx1,hx2⟩:=hw x cJ;obtain⟨hy1,hy2⟩:=hw y cJ;obtain⟨va,rfl⟩:∃va:Nat,x=va:=aj hx1;obtain⟨v,rfl⟩:∃v:Nat,y=v:=aj hy1;have hva:va<=4294967295:=O;have hv:v<=4294967295:=O;have hll:J l<=100000:=bZ;have HC:=E4 br bu bb L D X R U l va 4 v hva ne ne hll hT hroot;have hst:cF L.n 51 nn ⟨R.wd ((l++[(v:Int)])++[(va:Int)]),U,d⟩=eu.of (jX L.n (R.wd l) U va 4 v) d:=(by show eu.of (jX _ _ _ _ _ _) _=_;rw[UG.pop_wd,UG.top_wd,UG.pop_wd,UG.top_wd];rfl);obtain⟨m',hm'⟩:∃m',jX L.n (R.wd l) U va 4 v=m':=⟨_,I⟩;exact Wq433
 refine UH ?_ ?_<;>intro hc10
 .obtain rfl:=hH hc10;obtain⟨R,l,x,rfl⟩:=UG.snoc (show 1<=J R.s.d from hn);obtain⟨hx1,hx2⟩:=hw x cJ;obtain⟨va,rfl⟩:∃va:Nat,x=va:=aj hx1;have hva:va<=4294967295:=O;have hll:J l<=100000:=bZ;have HC:=E5 br bu bb L D X R U l va 1 hva ne ne hll hT hroot;have hst:cF L.n 52 nn ⟨R.wd (l++[(va:Int)]),U,d⟩=eu.of (kj L.n (R.wd l) U va 1) d:=(by show eu.of (kj _ _ _ _ _) _=_;simp_all);obtain⟨m',hm'⟩:∃m',kj L.n (R.wd l) U va 1=m':=⟨_,I⟩;exact Wq434
 refine UH ?_ ?_<;>intro hc12
 .obtain rfl:=hH hc12;obtain⟨R,l,y,x,rfl⟩:=UG.TF (show 2<=J R.s.d from hn);obtain⟨hx1,hx2⟩:=hw x cJ;obtain⟨hy1,hy2⟩:=hw y cJ;obtain⟨va,rfl⟩:∃va:Nat,x=va:=aj hx1;obtain⟨v,rfl⟩:∃v:Nat,y=v:=aj hy1;have hva:va<=4294967295:=O;have hv:v<=4294967295:=O;have hll:J l<=100000:=bZ;have HC:=E4 br bu bb L D X R U l va 1 v hva ne ne hll hT hroot;have hst:cF L.n 53 nn ⟨R.wd ((l++[(v:Int)])++[(va:Int)]),U,d⟩=eu.of (jX L.n (R.wd l) U va 1 v) d:=(by show eu.of (jX _ _ _ _ _ _) _=_;rw[UG.pop_wd,UG.top_wd,UG.pop_wd,UG.top_wd];rfl);obtain⟨m',hm'⟩:∃m',jX L.n (R.wd l) U va 1 v=m':=⟨_,I⟩;exact Wq433
 refine UH ?_ ?_<;>intro hc14
 .obtain rfl:=hH hc14;refine An ?_;refine Vq (gU (VF br bu D) X R) (λw hi hin=>zJ (VF br bu D) X R 11 0 w hin) ?_;refine An ?_;refine bK (pj br bu bb L D X Y ⟨R.wt ⟨11,0⟩,U,d⟩) Zj (Xp ?_);exact⟨X,Y,I,I⟩
 refine UH ?_ ?_<;>intro hc16
 .obtain rfl:=hH hc16;have hR:=Kq R.s X.Ad X.Ar X.cd X.cr;refine UQ ?_;refine dZ (bX (vs:=R.s.cells (.slice X.Ad (J R.s.d) X.cd) (.slice X.Ar (J R.s.r) X.cr)) ir ir py) (cq Zh I) I (Vl (λw hi=>hR w (hi.TX (UJ (Vf R.s X.Ad X.cd)) (UJ (Vj R.s X.Ar X.cr)) O O)) ?_);rintro _ _ ⟨A1,c1,A2,c2,rfl,rfl⟩;refine An ?_;refine eA (eo (ys:=mH (VF br bu D) ⟨A1,c1,A2,c2⟩ (R.ws R.s.back)) (n:=16) (vs:=R.s.back.cells (.slice A1 (J R.s.back.d) c1) (.slice A2 (J R.s.back.r) c2)) I ir I I (jR I) Za I kY) ?_;refine UR ?_;refine An ?_;refine bK (pj br bu bb L D ⟨A1,c1,A2,c2⟩ Y ⟨R.ws R.s.back,U,d⟩) Zj (Xp ?_);exact⟨⟨A1,c1,A2,c2⟩,Y,I,I⟩
 refine UH ?_ ?_<;>intro hc18
 .obtain rfl:=hH hc18;have HG:=Ss (R.s.Ts R.count) (.slice X.Ad (J R.s.d) X.cd) (.slice X.Ar (J R.s.r) X.cr) nn;obtain⟨⟨g,gk⟩,hg⟩:=Do ((R.s.Ts R.count).get nn);rw[hg]at HG;have hst:cF L.n 66 nn ⟨R,U,d⟩=⟨R.push [g],U,d⟩:=(by show eu.mk (R.push [((R.s.Ts R.count).get nn).1]) U d=_;rw[hg]);refine UQ ?_;refine dZ (bX (vs:=R.s.cells (.slice X.Ad (J R.s.d) X.cd) (.slice X.Ar (J R.s.r) X.cr)) ir ir py) (cq Zh I) I ?_;refine ZN λb4=>?_
  refine ZM ?_;refine U8 ?_;refine ZL ?_;refine US ?_;refine wo ?_;refine UZ (λw hi=>HG w) ?_;refine eL ?_;refine jQ ?_;rintro _ _ ⟨b70,rfl,rfl⟩;refine dH (gU (VF br bu D) X R) (λw hi hin=>jq (VF br bu D) X R _ 1 1 [g] O w hin (λw' hk=>hi.TU Zi Zh hk)) ?_;rintro _ _ ⟨A',c',rfl,rfl⟩;refine An ?_;refine bK (pj br bu bb L D ⟨A',c',X.Ar,X.cr⟩ Y ⟨R.wd (R.s.d++[g]),U,d⟩) Zj (Xp ?_);rw[hst];exact⟨⟨A',c',X.Ar,X.cr⟩,Y,I,I⟩
 refine UH ?_ ?_<;>intro hc23
 .obtain rfl:=hH hc23;obtain⟨R,l,x,rfl⟩:=UG.snoc (show 1<=J R.s.d from hn);obtain⟨hx1,hx2⟩:=hw x cJ;obtain⟨va,rfl⟩:∃va:Nat,x=va:=aj hx1;have hva:va<=4294967295:=O;have hll:J l<=100000:=bZ;have HE:=R7 (R.wd l).s X.Ad X.Ar X.cd X.cr nn va;have hdr:=St.Ur (R.wd l).s nn va;have hst:cF L.n 67 nn ⟨R.wd (l++[(va:Int)]),U,d⟩=⟨(R.wd l).ws ((R.wd l).s.set nn va).1,bif nn==1||nn==2 then⟨U.m,cX⟩else U,d⟩:=(by show eu.mk _ _ _=_;simp_all);obtain⟨⟨⟨pc',d',r',fl',su',pg',ie',rt',ve',ep',ca',ad',es',ei',co',ha'⟩,kn⟩,hq⟩:=Do ((R.wd l).s.set nn va);rw[hq]at HE hst hdr;obtain⟨hd',hr'⟩:=hdr;have hd':l=d':=hd'.symm;have hr':R.s.r=r':=hr'.symm;subst hd';subst hr';refine Ro ?_;refine UK ?_;refine bQ (Vg [15]) Zk (qQ ?_);refine Vn 4 I (bX (vs:=(R.wd l).s.cells (.slice X.Ad (R.wd l).s.d.length X.cd) (.slice X.Ar (R.wd l).s.r.length X.cr)) ir ir py) (cq Zh I) ?_;refine UE 5 1 ?_;refine ZG 6 ?_;refine UY 7 I (cz I I py Zl) ?_;refine ZE 8 ?_;refine kt ?_;refine V1 (λw hi=>HE w (hi.TX (UJ (Vf (R.wd l).s X.Ad X.cd)) (UJ (Vj (R.wd l).s X.Ar X.cr)) bZ bZ)) ?_;rintro _ _ ⟨A1,c1,A2,c2,rfl,rfl⟩;refine ZE 10 ?_;refine ZE 11 ?_;refine r8 ?_;refine UE 14 0 ?_;refine cP 15 Zk (fq I I (eo (ys:=mH (VF br bu D) ⟨A1,c1,A2,c2⟩ ((R.wd l).ws ⟨pc',l,R.s.r,fl',su',pg',ie',rt',ve',ep',ca',ad',es',ei',co',ha'⟩)) (n:=16) (vs:=(St.mk pc' l R.s.r fl' su' pg' ie' rt' ve' ep' ca' ad' es' ei' co' ha').cells (.slice A1 (J l) c1) (.slice A2 (J R.s.r) c2)) I ir I I (jR I) Za I I9) ZJ ?_);refine UR ?_;refine fh ?_;refine jS ?_;refine ZW ?_ ?_<;>intro hc26
  .have h12:(nn==1||nn==2)=true:=bZ;refine UQ ?_;refine Vq (uF bu bb L U) (λw hi hin=>JG bu bb L U hT w hin) ?_;refine An ?_;refine bK (pj br bu bb L D ⟨A1,c1,A2,c2⟩ Y ⟨((R.wd l).ws ⟨pc',l,R.s.r,fl',su',pg',ie',rt',ve',ep',ca',ad',es',ei',co',ha'⟩),⟨U.m,cX⟩,d⟩) Zj (Xp ?_);rw[hst,tz h12];exact⟨⟨A1,c1,A2,c2⟩,Y,I,I⟩
  have h12:(nn==1||nn==2)=false:=bZ;refine An ?_;refine bK (pj br bu bb L D ⟨A1,c1,A2,c2⟩ Y ⟨((R.wd l).ws ⟨pc',l,R.s.r,fl',su',pg',ie',rt',ve',ep',ca',ad',es',ei',co',ha'⟩),U,d⟩) Zj (Xp ?_);rw[hst,lF h12];exact⟨⟨A1,c1,A2,c2⟩,Y,I,I⟩
 refine UH ?_ ?_<;>intro hc28
 .obtain rfl:=hH hc28;obtain⟨R,l,x,rfl⟩:=UG.snoc (show 1<=J R.s.d from hn);obtain⟨hx1,hx2⟩:=hw x cJ;obtain⟨va,rfl⟩:∃va:Nat,x=va:=aj hx1;have hva:va<=4294967295:=O;have hll:J l<=100000:=bZ;have hst:cF L.n 68 nn ⟨R.wd (l++[(va:Int)]),U,d⟩=⟨R.wd l,⟨U.m,pv U.t va⟩,d⟩:=(by show eu.mk _ _ _=_;simp_all);refine Ro ?_;refine fR ?_;refine ZW ?_ ?_<;>intro hc30
  .refine UU ?_;refine Vq (uF bu bb L U) (λw hi hin=>Ok bu bb L U hT va hva w hin) ?_;refine An ?_;refine bK (pj br bu bb L D X Y ⟨R.wd l,⟨U.m,pv U.t va⟩,d⟩) Zj (Xp ?_);rw[hst];exact⟨X,Y,I,I⟩
  exact absurd hc30 cJ
 refine UH ?_ ?_<;>intro hc32
 .obtain rfl:=hH hc32;refine UQ ?_;refine ZL ?_;refine An ?_;refine bK (pj br bu bb L D X Y ⟨R.ws R.s.halt,U,d⟩) Zj (Xp ?_);exact⟨X,Y,I,I⟩
 have hst:cF L.n op nn ⟨R,U,d⟩=⟨R,U,d⟩:=(by simp only[cF, *,ac]);refine An ?_;refine bK (pj br bu bb L D X Y ⟨R,U,d⟩) Zj (Xp ?_);rw[hst];exact⟨X,Y,I,I⟩
def nF(n:Nat)(s:St)(op nn:Int)(U:UI)(d:UF):eu:=
 match cV op nn (fm s op)with
 |some R=>⟨R,U,d⟩
 |none=>bif(bW op nn (fm s op)).1 then⟨(bW op nn (fm s op)).2,U,d⟩else cF n op nn ⟨(bW op nn (fm s op)).2,U,d⟩
def ls(n:Nat)(s:St)(op nn:Int)(U:UI)(d:UF):WP×UI×UF:=
 bif !s.right then(⟨s,false,false,[]⟩,U,d)else
 bif dQ s op nn !=0 then(⟨s.next.S3 (dQ s op nn) 0,true,false,[]⟩,⟨U.m.calm,U.t⟩,d)else
 (Ej s (nF n s op nn ⟨U.m.calm,U.t⟩ d),(nF n s op nn ⟨U.m.calm,U.t⟩ d).u,(nF n s op nn ⟨U.m.calm,U.t⟩ d).d)
variable{s:St}
theorem do_ok(bu bb:Nat)(L:fF)(D:qV)(Y:dJ)(s:St)(Ad Ar:Oa)(cd cr:Nat)(op nn:Int)(U:UI)(d:UF)(hwf:s.wf)(hnn:u32 nn)(hT:J U.t=16)(hd:d.wf)(ho:J d.out<=1000000000)
  (w:World) (hi:Inv w (bM (VK bu bb L D Y U d)) (VK bu bb L D Y U d) w) (h:∀w',dc (bM (VK bu bb L D Y U d)) w w'->iL w' s Ad Ar cd cr):
  UW prog 149 [sv s Ad cd Ar cr,.agg #[.i op,.w nn],.p bu,.p D.bs] w (VK bu bb L D Y U d)
   (λv cs=>∃X Y' Ap cp,v= .agg (iz (ls L.n s op nn U d).1 X Ap cp).toArray/\cs=R8 (ls L.n s op nn U d).1 X Ap cp++VK bu bb L D Y' (ls L.n s op nn U d).2.1 (ls L.n s op nn U d).2.2):=by
 have HR:=mJ s Ad Ar cd cr;have HK:=QE s Ad Ar cd cr op nn hnn;have hbd:=(h w (dc.refl _ _)).hd;have hbr:=(h w (dc.refl _ _)).hr;unfold ls;obtain⟨rt,hrt⟩:=Do (s.right);obtain⟨ck,hck⟩:=Do (dQ s op nn);rw[hrt]at HR|-;rw[hck]at HK|-;obtain⟨UM,UT⟩:=U;have HM:=y7 L UM;have HZ:=yK op;obtain⟨R0,hR0⟩:=Do (fm s op);have hmid:nF L.n s op nn ⟨UM.calm,UT⟩ d=(match cV op nn R0 with
  |some R=>⟨R,⟨UM.calm,UT⟩,d⟩
  |none=>bif(bW op nn R0).1 then⟨(bW op nn R0).2,⟨UM.calm,UT⟩,d⟩else cF L.n op nn ⟨(bW op nn R0).2,⟨UM.calm,UT⟩,d⟩):=by rw[<-hR0];rfl
 unfold fm at hR0;obtain⟨sz,hsz⟩:=Do (cB op);rw[hsz]at HZ hR0;obtain⟨pc',hpc⟩:=Do (V9 .u32 (s.pc+V9 .u32 sz));rw[hpc]at hR0;refine Vb func149 ntmps149 hi ?_;refine An ?_;refine ZO λb4=>?_;refine ZO λb5=>?_
 refine ZN λb8=>?_
 refine UU ?_;refine UZ (λw hi=>HR w) ?_;refine VP ?_ ?_<;>intro hc1
 .refine UN ?_;refine Vl (λw hi=>pL s Ad Ar cd cr w (h w hi.To)) ?_;rintro _ _ ⟨A1,c1,A2,c2,rfl,rfl⟩;refine ZA ?_;refine dB 3 1 (ij ?_);refine bK ([row b8 (iz ⟨s,false,false,[]⟩ ⟨A1,c1,A2,c2⟩ none 0) 270]++(R8 ⟨s,false,false,[]⟩ ⟨A1,c1,A2,c2⟩ none 0++VK bu bb L D Y ⟨UM,UT⟩ d)) Zj (Wq85 ?_);rw[tz hc1];exact⟨⟨A1,c1,A2,c2⟩,Y,none,0,I,I⟩
 refine Wc ?_ ?_<;>intro hc3
 .refine An ?_;refine Nx ?_;refine Vq ([fM L UM]) (λw hi hin=>HM w hin) ?_;refine NH ?_;rintro _ _ ⟨_,⟨A1,c1,A2,c2,rfl,rfl⟩,rfl⟩;refine ZN λb9=>?_
  refine jb ?_;refine kZ ?_;refine lx ?_;refine US ?_;refine UZ (λw hi=>HK w (h w hi.To)) ?_;refine Wc ?_ ?_<;>intro hc8
  .refine UK ?_;refine Vl (λw hi=>uy s.next A1 A2 c1 c2 ck 0 w (hi.TX (UJ (Vf s A1 c1)) (UJ (Vj s A2 c2)) hbd hbr)) ?_;rintro _ _ ⟨A3,c3,A4,c4,rfl,rfl⟩;refine ZA ?_;refine dB 3 1 (ij ?_);refine bK ([row b8 (iz ⟨s.next.S3 ck 0,true,false,[]⟩ ⟨A3,c3,A4,c4⟩ none 0) 270]++(R8 ⟨s.next.S3 ck 0,true,false,[]⟩ ⟨A3,c3,A4,c4⟩ none 0++VK bu bb L D Y ⟨UM.calm,UT⟩ d)) Zj (Wq85 ?_);rw[lF hc1,tz hc8];exact⟨⟨A3,c3,A4,c4⟩,Y,none,0,I,I⟩
  refine UN ?_;refine jf ?_;refine ZI 0 ?_;refine UE 2 14 ?_;refine wP ?_;refine cP 1 Zk (V1 (λw hi=>pL s.next A1 A2 c1 c2 w (hi.TX (UJ (Vf s A1 c1)) (UJ (Vj s A2 c2)) hbd hbr)) ?_);rintro _ _ ⟨A5,c5,A6,c6,rfl,rfl⟩;refine ZE 6 ?_;refine iK ?_;refine wZ ?_;rintro _ _ ⟨b46,rfl,rfl⟩;refine ZE 8 ?_;refine pk ?_;refine bQ (Vg [13]) Zk (lO ?_);refine UE 2 0 ?_;refine UE 3 0 ?_;refine ZG 4 ?_;refine UE 5 0 ?_;refine ZG 6 ?_;refine iK ?_;refine V1 (λw hi=>HZ w) ?_;refine UR ?_;refine UY 8 I (cz I I py I) ?_;refine UY 9 I (dy py py hpc) ?_;refine ZE 10 ?_;refine UE 11 0 ?_;refine UE 12 0 ?_;refine cP 13 Zk (iT ?_);refine Zt (cj (λq:dz×dJ×eu=>[(2,.p bu),(8,.p b8),(9,.p b9),(11,.p b46)]) (λq=>pj b46 bu bb L D q.1 q.2.1 q.2.2++[row b8 [.w 0,.slice none 0 0,.slice none 0 0,.w 0,.bool false,.bool false,.bool false,.w 0,.w 0,.w 0,.w 0,.w 0,.bool false,.bool false,.int .u64 0,.bool false,.bool false,.bool false,.slice none 0 0] 270,row b9 (s.next.cells (.slice A1 (J s.next.d) c1) (.slice A2 (J s.next.r) c2)) 36,Vf s.next A1 c1,Vj s.next A2 c2]) (λq=>nF L.n s op nn ⟨UM.calm,UT⟩ d=q.2.2) ?_ ?_)
  .refine Zs ?_;subst hR0;have hrt1:rt=true:=bZ;obtain⟨hd16,hr16, -⟩:=St.fits (hrt.trans hrt1);have hck0:ck=0:=bZ;obtain⟨n1,n2⟩:=lv (hck.trans hck0);have HS:=OF (VF b46 bu D) ⟨A5,c5,A6,c6⟩ ⟨s.next.wpc pc',s.count,Tr.none,false⟩ op nn (show J s.d<=100000 by omega) (show J s.r<=100000 by omega) n1 n2;rcases hst:cV op nn ⟨s.next.wpc pc',s.count,Tr.none,false⟩with _|R1
   .rw[hst]at HS;simp only[Option.isSome_none,Option.getD_none]at HS;have HQ:=λX w hin=>KB (VF b46 bu D) X ⟨s.next.wpc pc',s.count,Tr.none,false⟩ op nn hwf.d (show J s.d<=100000 by omega) (show J s.r<=100000 by omega) n1 n2 w hin
    obtain⟨⟨bq,R2⟩,hq⟩:=Do (bW op nn ⟨s.next.wpc pc',s.count,Tr.none,false⟩);rw[hq]at HQ;refine UN ?_;refine dH (gU (VF b46 bu D) ⟨A5,c5,A6,c6⟩ ⟨s.next.wpc pc',s.count,Tr.none,false⟩) (λw hi hin=>HS w hin) ?_;rintro _ _ ⟨X1,rfl,rfl⟩;refine UN ?_;refine jl (bS I I) Zh ir ir (Zv I) I (gm (bS I I) I (dh (gU (VF b46 bu D) X1 ⟨s.next.wpc pc',s.count,Tr.none,false⟩) I (λ_ _=>I) Zi (λw hi hin=>HQ X1 w hin)) I ?_);rintro _ _ ⟨_,⟨X2,rfl,rfl⟩,rfl⟩;refine WK ?_ ?_<;>intro hc12
    .obtain rfl:bq=false:=bZ;have he:=mK op nn ⟨s.next.wpc pc',s.count,Tr.none,false⟩ (by rw[hq]);rw[hq]at he;have he:R2=_:=he;subst he;have HO:=λX w hin=>Ko b46 bu bb L D X Y ⟨s.next.wpc pc',s.count,Tr.none,false⟩ ⟨UM.calm,UT⟩ d op nn hnn hwf.d (show J s.d<=100000 by omega) (show J s.r<=100000 by omega) n1 hT hwf.root hd ho w hin
     obtain⟨m',hm'⟩:∃m',cF L.n op nn ⟨⟨s.next.wpc pc',s.count,Tr.none,false⟩,⟨UM.calm,UT⟩,d⟩=m':=⟨_,I⟩;rw[hm']at HO;refine UN ?_;refine dH (pj b46 bu bb L D X2 Y ⟨⟨s.next.wpc pc',s.count,Tr.none,false⟩,⟨UM.calm,UT⟩,d⟩) (λw hi hin=>HO X2 w hin) ?_;rintro _ _ ⟨X3,Y3,rfl,rfl⟩;refine Zn (Vd ((⟨X3,Y3,m'⟩:dz×dJ×eu)) bZ)
    obtain rfl:bq=true:=bZ;refine Zc (Vd ((⟨X2,Y,⟨R2,⟨UM.calm,UT⟩,d⟩⟩:dz×dJ×eu)) bZ)
   rw[hst]at HS;simp only[Option.isSome_some,Option.getD_some]at HS;refine UN ?_;refine dH (gU (VF b46 bu D) ⟨A5,c5,A6,c6⟩ ⟨s.next.wpc pc',s.count,Tr.none,false⟩) (λw hi hin=>HS w hin) ?_;rintro _ _ ⟨X1,rfl,rfl⟩;refine An ?_;refine Υ ?_;refine π ?_;refine Vd ((⟨X1,Y,⟨R1,⟨UM.calm,UT⟩,d⟩⟩:dz×dJ×eu)) bZ
  rintro⟨X,Y',m⟩ hm;dsimp only at hm|-;refine Zs (bQ (Vg [10]) Zk ?_);refine lO ?_;refine UE 2 0 ?_;refine Vn 3 I (bX (vs:=m.r.s.cells (.slice X.Ad (J m.r.s.d) X.cd) (.slice X.Ar (J m.r.s.r) X.cr)) ir ir py) (cq Zh I) ?_;refine ZE 4 ?_;refine ZE 5 ?_;refine UE 6 21 ?_;refine ZG 7 ?_;refine ZE 8 ?_;refine kt ?_;refine ZP λb12=>?_
  refine cP 10 Zk (ZR ?_);refine fh ?_;refine fR ?_;refine ZW ?_ ?_<;>intro hc15
  .have he:Ej s m=⟨s.next.S3 m.r.S3.SU m.r.S3.addr,true,m.r.device,ee m.u.m.SX 64⟩:=tz hc15;refine bQ (Vg [13,15]) Zk (ZI 0 ?_);refine ZE 1 ?_;refine ZE 2 ?_;refine UE 3 19 ?_;refine UE 4 0 ?_;refine ZG 5 ?_;refine wU ?_;refine UE 8 19 ?_;refine UE 9 1 ?_;refine ZG 10 ?_;refine cP 11 Zk (V1 (λw hi=>uy s.next A1 A2 c1 c2 m.r.S3.SU m.r.S3.addr w (hi.TX (UJ (Vf s.next A1 c1)) (UJ (Vj s.next A2 c2)) hbd hbr)) ?_);rintro _ _ ⟨A7,c7,A8,c8,rfl,rfl⟩;refine UE 12 0 ?_;refine cP 13 Zk (fq I I (eo (ys:=iz ⟨s.next.S3 m.r.S3.SU m.r.S3.addr,false,m.r.device,[]⟩ ⟨A7,c7,A8,c8⟩ none 0) (n:=16) (vs:=(s.next.S3 m.r.S3.SU m.r.S3.addr).cells (.slice A7 (s.next.S3 m.r.S3.SU m.r.S3.addr).d.length c7) (.slice A8 (s.next.S3 m.r.S3.SU m.r.S3.addr).r.length c8)) I ir I I (jR I) Za I kY) ZJ ?_);refine UR ?_;refine UE 14 16 ?_;refine cP 15 Zk (iT ?_);refine Wp ?_ ?_<;>intro hc17
   .refine An ?_;refine Nx ?_;refine Vl (λw hi=>rj L m.u.m w (hi.get Zh)) ?_;rintro _ _ ⟨Ap,cp,rfl,rfl⟩;refine lx ?_;refine UQ ?_;refine oV ?_;refine bK ([row b8 (iz ⟨s.next.S3 m.r.S3.SU m.r.S3.addr,true,m.r.device,ee m.u.m.SX 64⟩ ⟨A7,c7,A8,c8⟩ Ap cp) 270]++(R8 ⟨s.next.S3 m.r.S3.SU m.r.S3.addr,true,m.r.device,ee m.u.m.SX 64⟩ ⟨A7,c7,A8,c8⟩ Ap cp++VK bu bb L D Y' m.u m.d)) Zj (Wq85 ?_);rw[lF hc1,lF hc8,hm,he];exact⟨⟨A7,c7,A8,c8⟩,Y',Ap,cp,I,I⟩
   exact absurd hc17 cJ
  have he:Ej s m=⟨m.r.s,false,m.r.device,ee m.u.m.SX 64⟩:=lF hc15;refine Wc ?_ ?_<;>intro hc17
  .refine An ?_;refine Nx ?_;refine Vl (λw hi=>rj L m.u.m w (hi.get Zh)) ?_;rintro _ _ ⟨Ap,cp,rfl,rfl⟩;refine lx ?_;refine UQ ?_;refine oV ?_;refine bK ([row b8 (iz ⟨m.r.s,false,m.r.device,ee m.u.m.SX 64⟩ X Ap cp) 270]++(R8 ⟨m.r.s,false,m.r.device,ee m.u.m.SX 64⟩ X Ap cp++VK bu bb L D Y' m.u m.d)) Zj (Wq85 ?_);rw[lF hc1,lF hc8,hm,he];exact⟨X,Y',Ap,cp,I,I⟩
  exact absurd hc17 cJ
 exact absurd hc3 cJ
end
end Go.Ink
namespace Go.Ink
open List renaming length→J
open IntKind renaming wrap→V9
open Go.RowKit
variable{n:Nat}
variable{l:Li}
variable{M:UO}
variable{U:UI}
theorem rf(h:Wz n U)(s:Sp)(va k:Nat)(kind:Int):Wz n (S4 n U s va k kind).2:=by
 grind [pD,cU,S4,yG,uL,yF]
theorem Ik(h:Wz n U)(s:Sp)(va:Nat){k:Nat}(hk:k<=4):u32 (i6 n U s va k).1.1:=by
 have h1:=rf h s va k 2;have h2:=ln h1.m.db (S4 n U s va k 2).1.1;have h3:(S4 n U s va k 2).1.1.length<=4:=aN lV hk;show u32 (eh _ _);generalize eh (S4 n U s va k 2).2.m.data (S4 n U s va k 2).1.1=v at h2;generalize (S4 n U s va k 2).1.1.length=m at h2 h3;obtain rfl|rfl|rfl|rfl|rfl:m=0\/m=1\/m=2\/m=3\/m=4:=by omega
 all_goals (refine⟨h2.1,?_⟩;simp at h2;omega)
theorem Dc(h:Wz n U)(s:Sp)(va k:Nat)(v:Int):Wz n (jo n U s va k v).2:=by
 have h1:=rf h s va k 3;exact⟨h1.m.Tl _ _ _,h1.t⟩
theorem El(hm:M.ok n){d:UF}(h:d.ok)(k:Int){v:Nat}(hv:v<=4294967295):(bU n M d k v).2.1.ok n/\(bU n M d k v).2.2.ok/\(bU n M d k v).2.2.out.length<=J d.out+1:=by
 have hD:=IC hm h.wf.S8 h.wf.TP d.SS d.place v;have hvu:=jn hv;have h0:M.ok n/\d.ok/\J d.out<=J d.out+1:=⟨hm,h,by omega⟩;unfold bU;refine bL (λq:Bool×UO×UF=>q.2.1.ok n/\q.2.2.ok/\J q.2.2.out<=J d.out+1) ⟨hm,⟨h.wf.re I I I I,dY .andNot d.S7 v,h.mask,h.timer,h.status⟩,Nat.le_succ _⟩ ?_;refine bL (λq:Bool×UO×UF=>q.2.1.ok n/\q.2.2.ok/\J q.2.2.out<=J d.out+1) ⟨hm,⟨h.wf.re I I I I,h.S7,dY .and v 255,h.timer,h.status⟩,Nat.le_succ _⟩ ?_;refine bL (λq:Bool×UO×UF=>q.2.1.ok n/\q.2.2.ok/\J q.2.2.out<=J d.out+1) ⟨hm,⟨h.wf.re I I I I,h.S7,h.mask,hvu,h.status⟩,Nat.le_succ _⟩ ?_;refine bL (λq:Bool×UO×UF=>q.2.1.ok n/\q.2.2.ok/\J q.2.2.out<=J d.out+1) ⟨hm,⟨⟨h.wf.Uo,h.wf.S8,h.wf.TP,h.wf.SS,h.wf.place,h.wf.inp⟩,h.S7,h.mask,h.timer,h.status⟩,by simp⟩ ?_;refine bL (λq:Bool×UO×UF=>q.2.1.ok n/\q.2.2.ok/\J q.2.2.out<=J d.out+1) ⟨hm,⟨⟨h.wf.Uo,h.wf.S8,h.wf.TP,hv,h.wf.place,h.wf.inp⟩,h.S7,h.mask,h.timer,h.status⟩,Nat.le_succ _⟩ ?_;refine bL (λq:Bool×UO×UF=>q.2.1.ok n/\q.2.2.ok/\J q.2.2.out<=J d.out+1) ⟨hm,⟨⟨h.wf.Uo,h.wf.S8,h.wf.TP,h.wf.SS,hv,h.wf.inp⟩,h.S7,h.mask,h.timer,h.status⟩,Nat.le_succ _⟩ ?_;refine bL (λq:Bool×UO×UF=>q.2.1.ok n/\q.2.2.ok/\J q.2.2.out<=J d.out+1) ⟨hD.1,⟨⟨h.wf.Uo,hD.2.1,hD.2.2,h.wf.SS,h.wf.place,h.wf.inp⟩,dY .or d.S7 (ju [2]),h.mask,h.timer,bL u32 u0 u1⟩,Nat.le_succ _⟩ ?_
 grind
variable{op:Int}{s s':St}{m:Li}
variable{p:Int->Prop}
section
variable{n:Nat}{op nn:Int}{R:UG}{U:UI}{d:UF}
theorem G4(hop:op=49){l:Li}{va v:Nat}(hva:va<=4294967295)(hv:v<=4294967295)(hw:(R.wd ((l++[(v:Int)])++[(va:Int)])).s.wf)(hf:R.s.flags<=15)(hU:Wz n U)(hd:d.ok):wA n op (R.wd ((l++[(v:Int)])++[(va:Int)])).s d (eZ n (R.wd l) U d va v):=by
 subst hop;have hu:=uq hU (R.wd l) va 3;have ht:=xe n (R.wd l) U va hva 3;have hs:=uo n (R.wd l) U va 3;have hc:=pX n (R.wd l) U va 3;have hdd:∀z,z∈(l++[(v:Int)])++[(va:Int)]->u32 z:=hw.d;have hwl:(R.wd l).s.wf:=xf hw (tA (tA hdd));unfold eZ;obtain⟨⟨p,ok,r,u⟩,hq⟩:=Do (cu n (R.wd l) U va 3);rw[hq]at hu ht hs hc|-;have hu:Wz n u:=hu;have ht:W9 r.S3:=ht;have hs:r.s=(R.wd l).s:=hs;have hc:ok=(r.S3.SU==0):=hc;have hdid:Wi 49 (R.wd ((l++[(v:Int)])++[(va:Int)])).s r.s:=by
  rw[hs];exact Wi.of (l:=l) (m:=R.s.r) [(v:Int),(va:Int)] [] [] [] I hwl hf I cJ cJ cJ cJ
 cases hok:ok with
 |false=>
  rw[hok]at hc;exact⟨hu,hd,Nat.le_succ _,ht,λh=>by grind⟩
 |true=>
  refine Es ?_;refine bL (wA n 49 (R.wd ((l++[(v:Int)])++[(va:Int)])).s d) ?_ ?_
  .obtain⟨h1,h2,h3⟩:=El hu.m hd (je p.toNat) hv;obtain⟨⟨o,M',d'⟩,hq2⟩:=Do (bU n u.m d (je p.toNat) v);rw[hq2]at h1 h2 h3;rw[hq2];cases o with
   |false=>exact⟨⟨h1,hu.t⟩,h2,h3,(Yv (jn hva)),λh=>by cases h⟩
   |true=>exact⟨⟨h1,hu.t⟩,h2,h3,ht,λ_=>hdid⟩
  exact⟨⟨hu.m.Tj _ _ 4,hu.t⟩,hd,Nat.le_succ _,ht,λ_=>hdid⟩
theorem uP(hn:bV op=((1,1),(0,0))){l:Li}{va k:Nat}(hva:va<=4294967295)(hk:k<=4)(hw:(R.wd (l++[(va:Int)])).s.wf)(hf:R.s.flags<=15)(hU:Wz n U)(hd:d.ok):wA n op (R.wd (l++[(va:Int)])).s d (eu.of (kj n (R.wd l) U va k) d):=by
 have hwl:(R.wd l).s.wf:=xf hw (tA hw.d);have hv:=Ik hU (R.wd l).sp va hk;exact⟨rf hU _ _ _ _,hd,Nat.le_succ _,AP n U _ va k hva 2,λ_=>Wi.of (l:=l) (m:=R.s.r) [(va:Int)] [_] [] [] hn (xf hwl (QR (tA hw.d) hv)) hf I I I cJ (by simp[kj,UG.push])⟩
theorem uO(hn:bV op=((2,0),(0,0))){l:Li}{v:Int}{va k:Nat}(hva:va<=4294967295)(hw:(R.wd ((l++[v])++[(va:Int)])).s.wf)(hf:R.s.flags<=15)(hU:Wz n U)(hd:d.ok):wA n op (R.wd ((l++[v])++[(va:Int)])).s d (eu.of (jX n (R.wd l) U va k v) d):=by
 have hdd:∀z,z∈(l++[v])++[(va:Int)]->u32 z:=hw.d;have hwl:(R.wd l).s.wf:=xf hw (tA (tA hdd));exact⟨Dc hU _ _ _ _,hd,Nat.le_succ _,AP n U _ va k hva 3,λ_=>Wi.of (l:=l) (m:=R.s.r) [v,(va:Int)] [] [] [] hn hwl hf I cJ (by simp[jX]) cJ (by simp[jX])⟩
theorem DO(hw:R.s.wf)(hf:R.s.flags<=15)(hc:0<=R.count/\R.count<=18446744073709551615)(ht:R.S3=Tr.none)(hU:Wz n U)(hd:d.ok)(hnn:u32 nn)(h1:(bV op).1.1<=J R.s.d)(hst:cV op nn R=none)(hrk:(bW op nn R).1=false):wA n op R.s d (cF n op nn ⟨R,U,d⟩):=by
 have ht':W9 R.S3:=by rw[ht];exact trN
 have h0:∀{op},bV op=((0,0),(0,0))->∀(s':St),s'.wf->s'.flags<=15->s'.count=R.s.count->s'.d=R.s.d->s'.r=R.s.r->Wi op R.s s':=λhn s' a1 a2 a3 a4 a5=>
  Wi.of (l:=R.s.d) (m:=R.s.r) [] [] [] [] hn a1 a2 a3 cJ (by simp[a4]) cJ (by simp[a5])
 by_cases e:op=48
 .subst e;obtain⟨R,l,x,rfl⟩:=UG.snoc (show 1<=J R.s.d from h1);have hx:=yd (l:=l) hw.d;obtain⟨va,rfl⟩:∃va:Nat,x=va:=aj hx.1;have hva:va<=4294967295:=by have:(va:Int)<=_:=hx.2;omega
  have he:cF n 48 nn ⟨R.wd (l++[(va:Int)]),U,d⟩=eP n (R.wd l) U d va:=by show eP _ _ _ _ _=_;rw[UG.pop_wd,UG.top_wd];rfl
  grind [Ii]
 have e48:(op==48)=false:=by simpa using e
 by_cases e:op=49
 .subst e;obtain⟨R,l,y,x,rfl⟩:=UG.TF (show 2<=J R.s.d from h1);have hx:=yd (l:=l++[y]) hw.d;have hy:=yd (l:=l) (tA (l:=l++[y]) hw.d);obtain⟨va,rfl⟩:∃va:Nat,x=va:=aj hx.1;obtain⟨v,rfl⟩:∃v:Nat,y=v:=aj hy.1;have hva:va<=4294967295:=by have:(va:Int)<=_:=hx.2;omega
  have hv:v<=4294967295:=by have:(v:Int)<=_:=hy.2;omega
  have he:cF n 49 nn ⟨R.wd ((l++[(v:Int)])++[(va:Int)]),U,d⟩=eZ n (R.wd l) U d va v:=by show eZ _ _ _ _ _ _=_;exact I7
  grind [G4]
 have e49:(op==49)=false:=by simpa using e
 by_cases e:op=50
 .subst e;obtain⟨R,l,x,rfl⟩:=UG.snoc (show 1<=J R.s.d from h1);have hx:=yd (l:=l) hw.d;obtain⟨va,rfl⟩:∃va:Nat,x=va:=aj hx.1;have hva:va<=4294967295:=by have:(va:Int)<=_:=hx.2;omega
  have he:cF n 50 nn ⟨R.wd (l++[(va:Int)]),U,d⟩=eu.of (kj n (R.wd l) U va 4) d:=by show eu.of (kj _ _ _ _ _) _=_;rw[UG.pop_wd,UG.top_wd];rfl
  rw[he];exact uP I hva ne hw hf hU hd
 have e50:(op==50)=false:=by simpa using e
 by_cases e:op=51
 .subst e;obtain⟨R,l,y,x,rfl⟩:=UG.TF (show 2<=J R.s.d from h1);have hx:=yd (l:=l++[y]) hw.d;obtain⟨va,rfl⟩:∃va:Nat,x=va:=aj hx.1;have hva:va<=4294967295:=by have:(va:Int)<=_:=hx.2;omega
  have he:cF n 51 nn ⟨R.wd ((l++[y])++[(va:Int)]),U,d⟩=eu.of (jX n (R.wd l) U va 4 y) d:=by show eu.of (jX _ _ _ _ _ _) _=_;exact I7
  rw[he];exact uO I hva hw hf hU hd
 have e51:(op==51)=false:=by simpa using e
 by_cases e:op=52
 .subst e;obtain⟨R,l,x,rfl⟩:=UG.snoc (show 1<=J R.s.d from h1);have hx:=yd (l:=l) hw.d;obtain⟨va,rfl⟩:∃va:Nat,x=va:=aj hx.1;have hva:va<=4294967295:=by have:(va:Int)<=_:=hx.2;omega
  have he:cF n 52 nn ⟨R.wd (l++[(va:Int)]),U,d⟩=eu.of (kj n (R.wd l) U va 1) d:=by show eu.of (kj _ _ _ _ _) _=_;rw[UG.pop_wd,UG.top_wd];rfl
  rw[he];exact uP I hva ne hw hf hU hd
 have e52:(op==52)=false:=by simpa using e
 by_cases e:op=53
 .subst e;obtain⟨R,l,y,x,rfl⟩:=UG.TF (show 2<=J R.s.d from h1);have hx:=yd (l:=l++[y]) hw.d;obtain⟨va,rfl⟩:∃va:Nat,x=va:=aj hx.1;have hva:va<=4294967295:=by have:(va:Int)<=_:=hx.2;omega
  have he:cF n 53 nn ⟨R.wd ((l++[y])++[(va:Int)]),U,d⟩=eu.of (jX n (R.wd l) U va 1 y) d:=by show eu.of (jX _ _ _ _ _ _) _=_;exact I7
  rw[he];exact uO I hva hw hf hU hd
 have e53:(op==53)=false:=by simpa using e
 by_cases e:op=64
 .subst e;exact⟨hU,hd,Nat.le_succ _,tr11,λh=>by cases h⟩
 have e64:(op==64)=false:=by simpa using e
 by_cases e:op=65
 .subst e;exact⟨hU,hd,Nat.le_succ _,ht',λ_=>h0 I R.s.back ⟨hw.epc,hw.flags,hw.root,hw.vec,hw.epc,hw.SU,hw.addr,hw.count,hw.d,hw.r⟩ hf I I I⟩
 have e65:(op==65)=false:=by simpa using e
 by_cases e:op=66
 .subst e;have hwc:(R.s.Ts R.count).wf:=⟨hw.pc,hw.flags,hw.root,hw.vec,hw.epc,hw.SU,hw.addr,hc,hw.d,hw.r⟩;exact⟨hU,hd,Nat.le_succ _,ht',λ_=>Wi.of (l:=R.s.d) (m:=R.s.r) [] [((R.s.Ts R.count).get nn).1] [] [] I (xf hw (QR hw.d (get_u32 hwc nn))) hf I cJ I cJ (aD _).symm⟩
 have e66:(op==66)=false:=by simpa using e
 by_cases e:op=67
 .subst e;obtain⟨R,l,x,rfl⟩:=UG.snoc (show 1<=J R.s.d from h1);have hwl:(R.wd l).s.wf:=xf hw (tA (l:=l) hw.d);have hs:=set_wf hwl hf nn (yd (l:=l) hw.d);obtain⟨q1,q2⟩:=St.Ur (R.wd l).s nn x;have he:cF n 67 nn ⟨R.wd (l++[x]),U,d⟩=⟨(R.wd l).ws ((R.wd l).s.set nn x).1,bif nn==1||nn==2 then⟨U.m,cX⟩else U,d⟩:=by show eu.mk _ _ _=_;rw[UG.pop_wd,UG.top_wd]
  rw[he];exact⟨bL (Wz n) ⟨hU.m,rc⟩ hU,hd,Nat.le_succ _,ht',λ_=>Wi.of (l:=l) (m:=R.s.r) [x] [] [] [] I hs.1 hs.2.1 hs.2.2 I bZ cJ bZ⟩
 have e67:(op==67)=false:=by simpa using e
 by_cases e:op=68
 .subst e;obtain⟨R,l,x,rfl⟩:=UG.snoc (show 1<=J R.s.d from h1);have he:cF n 68 nn ⟨R.wd (l++[x]),U,d⟩=⟨R.wd l,⟨U.m,pv U.t x.toNat⟩,d⟩:=by show eu.mk _ _ _=_;rw[UG.pop_wd,UG.top_wd]
  rw[he];exact⟨⟨hU.m,(J2 _ _).trans hU.t⟩,hd,Nat.le_succ _,ht',λ_=>Wi.of (l:=l) (m:=R.s.r) [x] [] [] [] I (xf hw (tA (l:=l) hw.d)) hf I I cJ cJ cJ⟩
 have e68:(op==68)=false:=by simpa using e
 by_cases e:op=69
 .subst e;exact⟨hU,hd,Nat.le_succ _,ht',λ_=>h0 I R.s.halt ⟨hw.pc,hw.flags,hw.root,hw.vec,hw.epc,hw.SU,hw.addr,hw.count,hw.d,hw.r⟩ hf I I I⟩
 have e69:(op==69)=false:=by simpa using e
 have he:cF n op nn ⟨R,U,d⟩=⟨R,U,d⟩:=by simp only[cF, *,ac]
 have hn:bV op=((0,0),(0,0)):=by
  have n1:(op==1)=false:=by cases h:(op==1)with|false=>rfl|true=>(have:=hH h;subst this;cases hst)
  have n2:(op==2)=false:=by cases h:(op==2)with|false=>rfl|true=>(have:=hH h;subst this;cases hst)
  have n3:(op==3)=false:=by cases h:(op==3)with|false=>rfl|true=>(have:=hH h;subst this;cases hst)
  have n4:(op==4)=false:=by cases h:(op==4)with|false=>rfl|true=>(have:=hH h;subst this;cases hst)
  have n5:(op==5)=false:=by cases h:(op==5)with|false=>rfl|true=>(have:=hH h;subst this;cases hst)
  have n6:(op==6)=false:=by cases h:(op==6)with|false=>rfl|true=>(have:=hH h;subst this;cases hst)
  have n7:(op==7)=false:=by cases h:(op==7)with|false=>rfl|true=>(have:=hH h;subst this;cases hst)
  have n8:(op==8)=false:=by cases h:(op==8)with|false=>rfl|true=>(have:=hH h;subst this;cases hst)
  have n16:(op==16)=false:=by cases h:(op==16)with|false=>rfl|true=>(have:=hH h;subst this;cases hrk)
  have n17:(op==17)=false:=by cases h:(op==17)with|false=>rfl|true=>(have:=hH h;subst this;cases hrk)
  have n18:(op==18)=false:=by cases h:(op==18)with|false=>rfl|true=>(have:=hH h;subst this;cases hrk)
  have n19:(op==19)=false:=by cases h:(op==19)with|false=>rfl|true=>(have:=hH h;subst this;cases hrk)
  have n20:(op==20)=false:=by cases h:(op==20)with|false=>rfl|true=>(have:=hH h;subst this;cases hrk)
  have n21:(op==21)=false:=by cases h:(op==21)with|false=>rfl|true=>(have:=hH h;subst this;cases hrk)
  have n22:(op==22)=false:=by cases h:(op==22)with|false=>rfl|true=>(have:=hH h;subst this;cases hrk)
  have n23:(op==23)=false:=by cases h:(op==23)with|false=>rfl|true=>(have:=hH h;subst this;cases hrk)
  have n24:(op==24)=false:=by cases h:(op==24)with|false=>rfl|true=>(have:=hH h;subst this;cases hrk)
  have n25:(op==25)=false:=by cases h:(op==25)with|false=>rfl|true=>(have:=hH h;subst this;cases hrk)
  have n38:(op==38)=false:=by cases h:(op==38)with|false=>rfl|true=>(have:=hH h;subst this;cases hrk)
  have n39:(op==39)=false:=by cases h:(op==39)with|false=>rfl|true=>(have:=hH h;subst this;cases hrk)
  have n40:(op==40)=false:=by cases h:(op==40)with|false=>rfl|true=>(have:=hH h;subst this;cases hrk)
  unfold bV;simp only[*,ac]
 rw[he];exact⟨hU,hd,Nat.le_succ _,ht',λ_=>h0 hn R.s hw hf I I I⟩
theorem Lc(hw:s.wf)(hr:s.right=true)(hnn:u32 nn)(hck:dQ s op nn=0)(hU:Wz n U)(hd:d.ok):wA n op s.next d (nF n s op nn U d):=by
 obtain⟨h16,r16,f15⟩:=St.fits hr;obtain⟨n1,n2⟩:=lv hck;have hwn:=DS hw
 have hw0:(fm s op).s.wf:=GO hwn (wrap_u32 _);have key:∀{m:eu},wA n op (fm s op).s d m->wA n op s.next d m:=λh=>⟨h.u,h.dv,h.o,h.t,λhc=>by
  have h1:=h.did hc;exact⟨h1.wf,h1.fl,h1.cnt,h1.dl,h1.dt,h1.rl,h1.rt⟩⟩
 unfold nF;cases hst:cV op nn (fm s op)with
 |some R'=>
  obtain⟨h1,h2, -, -⟩:=Kd hw0 f15 hnn n1 n2 hst;exact key ⟨hU,hd,Nat.le_succ _,by show W9 R'.S3;rw[h2];exact trN,λ_=>h1⟩
 |none=>
  cases hrk:(bW op nn (fm s op)).1 with
  |true=>
   obtain⟨h1,h2, -, -⟩:=Ht hw0 f15 n1 n2 hrk;refine key ⟨hU,hd,Nat.le_succ _,?_,λ_=>h1⟩
   grind [W9,bW,fm,trN,u0]
  |false=>
   refine fE ?_;rw[mK op nn _ hrk];exact key (DO hw0 f15 hw.count I hU hd hnn n1 hst hrk)
theorem pI(hw:s.wf)(hr:s.right=true)(hnn:u32 nn)(hU:Wz n U)(hd:d.ok):Goes n s d (ls n s op nn U d):=by
 have hU':Wz n ⟨U.m.calm,U.t⟩:=⟨hU.m.calm,hU.t⟩;have hfit:=St.fits hr;unfold ls;rw[hr];refine Es ?_;cases hck:(dQ s op nn !=0)with
 |true=>exact⟨JO (DS hw) _ u0,hr,I,hU',hd,Nat.le_succ _⟩
 |false=>
  have hck0:dQ s op nn=0:=by simpa using hck
  have hA:=Lc (n:=n) hw hr hnn hck0 hU' hd;refine fE ?_;obtain⟨m,hm⟩:=Do (nF n s op nn ⟨U.m.calm,U.t⟩ d);rw[hm]at hA|-;unfold Ej;cases hc:(m.r.S3.SU !=0)with
  |true=>exact⟨JO (DS hw) _ hA.t.1,hr,I,hA.u,hA.dv,hA.o⟩
  |false=>
   have h1:=hA.did bZ;have c1:=lv hck0;have c2:=Cu hck0;exact⟨h1.wf,MR h1 ⟨hfit.1,hfit.2.1⟩ c1 c2,h1.cnt,hA.u,hA.dv,hA.o⟩
end
end Go.Ink
namespace Go.Ink
open List renaming length→J, replicate→R9
open IntKind renaming wrap→V9
open Go.RowKit Go.Proofs.Tryz
variable{i:Nat}
variable{n:Nat}
section
attribute [local irreducible] Ve bN
variable{k:Int}
variable{root va:Nat}
theorem Hl(K:gi)(bx n:Nat)(U:UI)(hM:Vc n U.m)(hT:J U.t=16)(pg su:Bool)(root va k:Nat)(hr:root<=4294967295)(hva:va<=4294967295)(hk1:1<=k)(hk4:k<=4):CI prog 276 [.p bx,.bool pg,.bool su,.w root,.w va,.i k] (VD K bx n U) (λv cs=>v= .tuple #[.w (i6 n U ⟨pg,su,root⟩ va k).1.1,(i6 n U ⟨pg,su,root⟩ va k).1.2.v]/\cs=VD K bx n (i6 n U ⟨pg,su,root⟩ va k).2):=λw hi=>by
 have hn:=hM.n64;have HS:=sy K bx n U hM hT pg su root va k hr hva hk1 hk4 2;have hM2:=hM.S4 ⟨pg,su,root⟩ va k 2;have hin0:=ny (n:=n) (U:=U) (s:=⟨pg,su,root⟩) (va:=va) (k:=k) hn hva (kind:=2) hk4;have hlen0:=lV (n:=n) (U:=U) (s:=⟨pg,su,root⟩) (va:=va) (k:=k) (kind:=2);unfold i6;obtain⟨sp,hsp⟩:=Do (S4 n U ⟨pg,su,root⟩ va k 2);rw[hsp]at HS hin0 hlen0 hM2|-;obtain⟨⟨l,tr⟩,U'⟩:=sp;simp only at HS hin0 hlen0 hM2|-;have hdl:=hM2.m.dl;have hdb:=hM2.m.db;refine Vb func276 ntmps276 hi ?_;refine UN ?_;refine ZN λb13=>?_
 refine eL ?_;refine dH (VD K bx n U) (λw hi hin=>HS w hin) ?_;rintro _ _ ⟨A1,c1,rfl,rfl⟩;refine UN ?_;refine ZN λb15=>?_
 refine CG ?_;refine UR ?_;refine kF ?_;refine Vs (λj:Nat=>[(0,.p bx),(13,.p b13),(14,.slice A1 (J l) c1),(15,.p b15),(16,.w (eh U'.m.data (l.take j))),(17,.i (j:Int))]) (λ_=>VD K bx n U'++[sl .u32 32 A1 (J l) c1 l,Ww b13 Tr.none,Ww b15 tr]) (λj=>j<=J l) (λj=>J l - j) (0) (ax _) ?_;rintro j hj;refine Wc ?_ ?_<;>intro hc4
 .simp only[ai]at hc4;have hil:j<J l:=O;have hrange:=hin0 _ (List.getElem_mem hil);refine Rf ?_;rintro⟨ba,rfl⟩;obtain⟨an,han⟩:=aj hrange.1;have hup:=DM hdb (show J l<=4 by omega) hil han;have hg:=fW hdb an;refine UK ?_;refine jf ?_;refine qQ ?_;refine ZG 4 ?_;refine ZE 5 ?_;refine UE 6 0 ?_;refine ZG 7 ?_;refine ZE 8 ?_;refine ZE 9 ?_;refine UY 10 I (cn (j:=j) (sz:=1) (r:=j) I ir (Zv I) (Zv I) UL UL O) ?_;refine Vn 11 I (bO ir (Zv I)) (da Zh (show(ints .u32 l)[j]? =some (.w (an:Int))from by rw[<-han];exact lr hil)) ?_;refine UY 12 I (cn (j:=an) (sz:=1) (r:=an) I ir (Zv I) (Zv I) UL UL O) ?_;refine Vn 13 I (bO ir (Zv I)) (da Zh (cw (tf (show an<J U'.m.data by omega)))) ?_;refine UY 14 I (cz I I (Zv I) (u32_wrap_id _ O O)) ?_;refine ZE 15 ?_;refine UY 16 I (cz I I (Zv I) (show _=(j:Int)from by first|exact u64_wrap_id _ O O|exact uint_wrap_id _ O O)) ?_;refine UY 17 I (fT (Zv I) (Zv I) (show _=((8*j:Nat):Int)from(u64_wrap_id _ O O).trans O)) ?_;refine UY 18 I (pq (Zv I) (Zv I) O (show _=V9 .u32 (gB U'.m.data an*2^(8*j))from by rw[minU (show 8*j<=31 by omega)])) ?_;refine UY 19 I (yp py py hup) ?_;refine ZE 20 ?_;refine fh ?_;refine ii ?_;refine Vd (j+1) ⟨by omega,by omega⟩
 simp only[aa]at hc4;obtain rfl:j=J l:=O;rw[List.take_length];refine UU ?_;refine QX ?_;exact bK (VD K bx n U'++[Ww b13 tr]) Zj NN
end
end Go.Ink
namespace Go.Ink
open List renaming length→J, replicate→R9
open IntKind renaming wrap→V9
open Go.RowKit Go.Proofs.Tryz
section
attribute [local irreducible] Ve bN
variable{α:Type}{k:Nat}{x:α}
variable{n:Nat}
theorem rp{p:Pg}(h:p.Tf=true):(∀(k:Nat) (x:II),p.code[k]? =some x->lM x=true->(0<=x.a/\x.a<k)/\(0<=x.b/\x.b<k))/\(∀n,n∈p.S9\/n∈p.Ta->0<=n/\n<J p.code)/\(0<=p.flags->p.flags<J p.code)/\(0<=p.target->p.target<J p.code):=by
 unfold Pg.Tf at h;simp only[ay]at h;obtain⟨-,h1,h2,h3,h4⟩:=h;have hv:∀a b,sS a b=true->0<=a/\a<b:=λa b h=>by grind [sS]
 refine⟨λk x hx hab=>?_,λn hn=>?_,λh0=>?_,λh0=>?_⟩
 .have hm:=yf p.code 0 h1 k x hx
  grind [lM,kO,sS]
 .grind
 .grind [Pg.TI]
 grind [Pg.TI]
end
end Go.Ink
namespace Go.Ink
open List renaming length→J
open IntKind renaming wrap→V9
open Go.RowKit Go.Proofs.Tryz
section
attribute [local irreducible] Ve bN
variable{L:Lw}{n:Nat}
theorem ri(h:L.sm n)(l:Li)(hl:J l<=3):(L.TH l).sm (n+3):=⟨aN h.code O,by have:=h.dl;show(L.d.l++l).length<=_;grind,aN h.rl O,⟨h.dn.1,by have:=h.dn.2;show L.d.S2<=_;omega⟩,⟨h.rn.1,by have:=h.rn.2;show L.r.S2<=_;omega⟩⟩
theorem Kf(h:L.sm n)(l:Li)(hl:J l<=3):(L.Uk l).sm (n+3):=⟨aN h.code O,aN h.dl O,by have:=h.rl;show(L.r.l++l).length<=_;grind,⟨h.dn.1,by have:=h.dn.2;show L.d.S2<=_;omega⟩,⟨h.rn.1,by have:=h.rn.2;show L.r.S2<=_;omega⟩⟩
end
end Go.Ink
