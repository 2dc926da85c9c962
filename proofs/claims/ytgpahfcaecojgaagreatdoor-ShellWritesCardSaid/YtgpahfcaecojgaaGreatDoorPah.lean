/- Lemmas. -/
import Derived.Test.YtgpahfcaecojgaaGreatDoorPag
set_option linter.all false
set_option maxRecDepth 100000
set_option maxHeartbeats 4000000
namespace Go.Ink
open Go.RowKit Go.Proofs.Tryz
abbrev gi.of(p:Run×Mmu)(d:Dev):gi:=⟨p.1,p.2,d⟩
abbrev Run.ws(R:Run)(s:St):Run:=⟨s,R.count,R.Wv,R.device⟩
abbrev St.W6(s:St)(c:Int):St:=⟨s.pc,s.d,s.r,s.flags,s.Wf,s.Wn,s.ie,s.root,s.vec,s.epc,s.Wg,s.addr,s.Wu,s.eie,c,s.halted⟩
abbrev St.halt(s:St):St:=⟨s.pc,s.d,s.r,s.flags,s.Wf,s.Wn,s.ie,s.root,s.vec,s.epc,s.Wg,s.addr,s.Wu,s.eie,s.count,true⟩
def dK(n:Nat)(op nn:Int)(m:gi):gi:=
 bif op==48 then jZ n m.r.pop m.u m.d m.r.top.toNat else
 bif op==49 then jY n m.r.pop.pop m.u m.d m.r.top.toNat m.r.pop.top.toNat else
 bif op==50 then gi.of (nC n m.r.pop m.u m.r.top.toNat 4) m.d else
 bif op==51 then gi.of (m6 n m.r.pop.pop m.u m.r.top.toNat 4 m.r.pop.top) m.d else
 bif op==52 then gi.of (nC n m.r.pop m.u m.r.top.toNat 1) m.d else
 bif op==53 then gi.of (m6 n m.r.pop.pop m.u m.r.top.toNat 1 m.r.pop.top) m.d else
 bif op==64 then⟨m.r.wt ⟨11,0⟩,m.u,m.d⟩else
 bif op==65 then⟨m.r.ws m.r.s.back,m.u,m.d⟩else
 bif op==66 then⟨m.r.push [((m.r.s.W6 m.r.count).get nn).1],m.u,m.d⟩else
 bif op==67 then⟨m.r.pop.ws (m.r.pop.s.set nn m.r.top).1,bif nn==1||nn==2 then⟨m.u.m,fI⟩else m.u,m.d⟩else
 bif op==68 then⟨m.r.pop,⟨m.u.m,xP m.u.t m.r.top.toNat⟩,m.d⟩else
 bif op==69 then⟨m.r.ws m.r.s.halt,m.u,m.d⟩else m
theorem St.set_dr(s:St)(reg v:Int):(s.set reg v).1.d=s.d/\(s.set reg v).1.r=s.r:=by
 unfold St.set
 repeat (refine bR (λq:St×Bool=>q.1.d=s.d/\q.1.r=s.r) ⟨rfl,rfl⟩ ?_)
 grind
section
attribute [local irreducible] OpY bN
theorem M7(br bu bb:Nat)(L:eB)(D:rx)(X:ko)(Y:ov)(R:Run)(U:Mmu)(d:Dev)(op nn:Int)(hnn:u32 nn)(hw:∀x,x∈R.s.d->u32 x)(hdl:R.s.d.length<=100000)(hrl:R.s.r.length<=100000)(hn:(ce op).1.1<=R.s.d.length)(hT:U.t.length=16)(hroot:u32 R.s.root)(hd:d.wf)(ho:d.out.length<=1000000000)
  :CI prog 201 [.p br,.agg #[.i op,.w nn]] (pm br bu bb L D X Y ⟨R,U,d⟩) (λv cs=>∃X' Y',v= .tuple #[]/\cs=pm br bu bb L D X' Y' (dK L.n op nn ⟨R,U,d⟩)):=λw hi=>by
 have hu1:=hnn.1;have hu2:=hnn.2;refine Zfn func201 ntmps201 hi ?_;refine Z_2 ?_;refine ZO λb3=>?_;refine oU ?_;refine ZW ?_ ?_<;>intro hc2
 .obtain rfl:=kP hc2;obtain⟨R,l,x,rfl⟩:=Run.snoc (show 1<=R.s.d.length from hn);obtain⟨hx1,hx2⟩:=hw x cP;obtain⟨va,rfl⟩:∃va:Nat,x=va:=ao hx1;have hva:va<=4294967295:=Wq1;have hll:l.length<=100000:=bY;have HC:=lode_ok br bu bb L D X Y R U d l va hva hll hT hroot hd;have hst:dK L.n 48 nn ⟨R.wd (l++[(va:Int)]),U,d⟩=jZ L.n (R.wd l) U d va:=(by show jZ _ _ _ _ _=_;simp_all);obtain⟨m',hm'⟩:∃m',jZ L.n (R.wd l) U d va=m':=⟨_,rfl⟩;rw[hm']at HC;rw[hm']at hst;refine Z_2 ?_;refine dy (pm br bu bb L D X Y ⟨R.wd (l++[(va:Int)]),U,d⟩) (λw hi hin=>HC w hin) ?_;rintro _ _ ⟨X',Y',rfl,rfl⟩;refine Z_2 ?_;refine bO (pm br bu bb L D X' Y' m') Zj (Wq5 ?_);rw[hst];exact⟨X',Y',rfl,rfl⟩
 refine Zw6 ?_ ?_<;>intro hc4
 .obtain rfl:=kP hc4;obtain⟨R,l,y,x,rfl⟩:=Run.Xa (show 2<=R.s.d.length from hn);obtain⟨hx1,hx2⟩:=hw x cP;obtain⟨hy1,hy2⟩:=hw y cP;obtain⟨va,rfl⟩:∃va:Nat,x=va:=ao hx1;obtain⟨v,rfl⟩:∃v:Nat,y=v:=ao hy1;have hva:va<=4294967295:=Wq1;have hv:v<=4294967295:=Wq1;have hll:l.length<=100000:=bY;have HC:=stow_ok br bu bb L D X Y R U d l va v hva hv hT hroot hd ho;have hst:dK L.n 49 nn ⟨R.wd ((l++[(v:Int)])++[(va:Int)]),U,d⟩=jY L.n (R.wd l) U d va v:=(by show jY _ _ _ _ _ _=_;rw[Run.pop_wd,Run.top_wd,Run.pop_wd,Run.top_wd];rfl);obtain⟨m',hm'⟩:∃m',jY L.n (R.wd l) U d va v=m':=⟨_,rfl⟩;rw[hm']at HC;rw[hm']at hst;refine Z_2 ?_;refine dy (pm br bu bb L D X Y ⟨R.wd ((l++[(v:Int)])++[(va:Int)]),U,d⟩) (λw hi hin=>HC w hin) ?_;rintro _ _ ⟨Y',rfl,rfl⟩;refine Z_2 ?_;refine bO (pm br bu bb L D X Y' m') Zj (Wq5 ?_);rw[hst];exact⟨X,Y',rfl,rfl⟩
 refine Zw6 ?_ ?_<;>intro hc6
 .obtain rfl:=kP hc6;obtain⟨R,l,x,rfl⟩:=Run.snoc (show 1<=R.s.d.length from hn);obtain⟨hx1,hx2⟩:=hw x cP;obtain⟨va,rfl⟩:∃va:Nat,x=va:=ao hx1;have hva:va<=4294967295:=Wq1;have hll:l.length<=100000:=bY;have HC:=G8 br bu bb L D X R U l va 4 hva bX bX hll hT hroot;have hst:dK L.n 50 nn ⟨R.wd (l++[(va:Int)]),U,d⟩=gi.of (nC L.n (R.wd l) U va 4) d:=(by show gi.of (nC _ _ _ _ _) _=_;simp_all);obtain⟨m',hm'⟩:∃m',nC L.n (R.wd l) U va 4=m':=⟨_,rfl⟩;exact Wq408
 refine Zw6 ?_ ?_<;>intro hc8
 .obtain rfl:=kP hc8;obtain⟨R,l,y,x,rfl⟩:=Run.Xa (show 2<=R.s.d.length from hn);obtain⟨hx1,hx2⟩:=hw x cP;obtain⟨hy1,hy2⟩:=hw y cP;obtain⟨va,rfl⟩:∃va:Nat,x=va:=ao hx1;obtain⟨v,rfl⟩:∃v:Nat,y=v:=ao hy1;have hva:va<=4294967295:=Wq1;have hv:v<=4294967295:=Wq1;have hll:l.length<=100000:=bY;have HC:=G7 br bu bb L D X R U l va 4 v hva bX bX hll hT hroot;have hst:dK L.n 51 nn ⟨R.wd ((l++[(v:Int)])++[(va:Int)]),U,d⟩=gi.of (m6 L.n (R.wd l) U va 4 v) d:=(by show gi.of (m6 _ _ _ _ _ _) _=_;rw[Run.pop_wd,Run.top_wd,Run.pop_wd,Run.top_wd];rfl);obtain⟨m',hm'⟩:∃m',m6 L.n (R.wd l) U va 4 v=m':=⟨_,rfl⟩;exact Wq407
 refine Zw6 ?_ ?_<;>intro hc10
 .obtain rfl:=kP hc10;obtain⟨R,l,x,rfl⟩:=Run.snoc (show 1<=R.s.d.length from hn);obtain⟨hx1,hx2⟩:=hw x cP;obtain⟨va,rfl⟩:∃va:Nat,x=va:=ao hx1;have hva:va<=4294967295:=Wq1;have hll:l.length<=100000:=bY;have HC:=G8 br bu bb L D X R U l va 1 hva bX bX hll hT hroot;have hst:dK L.n 52 nn ⟨R.wd (l++[(va:Int)]),U,d⟩=gi.of (nC L.n (R.wd l) U va 1) d:=(by show gi.of (nC _ _ _ _ _) _=_;simp_all);obtain⟨m',hm'⟩:∃m',nC L.n (R.wd l) U va 1=m':=⟨_,rfl⟩;exact Wq408
 refine Zw6 ?_ ?_<;>intro hc12
 .obtain rfl:=kP hc12;obtain⟨R,l,y,x,rfl⟩:=Run.Xa (show 2<=R.s.d.length from hn);obtain⟨hx1,hx2⟩:=hw x cP;obtain⟨hy1,hy2⟩:=hw y cP;obtain⟨va,rfl⟩:∃va:Nat,x=va:=ao hx1;obtain⟨v,rfl⟩:∃v:Nat,y=v:=ao hy1;have hva:va<=4294967295:=Wq1;have hv:v<=4294967295:=Wq1;have hll:l.length<=100000:=bY;have HC:=G7 br bu bb L D X R U l va 1 v hva bX bX hll hT hroot;have hst:dK L.n 53 nn ⟨R.wd ((l++[(v:Int)])++[(va:Int)]),U,d⟩=gi.of (m6 L.n (R.wd l) U va 1 v) d:=(by show gi.of (m6 _ _ _ _ _ _) _=_;rw[Run.pop_wd,Run.top_wd,Run.pop_wd,Run.top_wd];rfl);obtain⟨m',hm'⟩:∃m',m6 L.n (R.wd l) U va 1 v=m':=⟨_,rfl⟩;exact Wq407
 refine Zw6 ?_ ?_<;>intro hc14
 .obtain rfl:=kP hc14;refine Z_2 ?_;refine ZcM (gL (kOf br bu D) X R) (λw hi hin=>BC (kOf br bu D) X R 11 0 w hin) ?_;refine Z_2 ?_;refine bO (pm br bu bb L D X Y ⟨R.wt ⟨11,0⟩,U,d⟩) Zj (Wq5 ?_);exact⟨X,Y,rfl,rfl⟩
 refine Zw6 ?_ ?_<;>intro hc16
 .obtain rfl:=kP hc16;have hR:=M8 R.s X.Ad X.Ar X.cd X.cr;refine Z_5 ?_;refine dQ (bW (vs:=R.s.cells (.slice X.Ad R.s.d.length X.cd) (.slice X.Ar R.s.r.length X.cr)) Zrf Zrf Zv0) (cX Zh rfl) rfl (ZSn (λw hi=>hR w (hi.XJ (Zhc (slD R.s X.Ad X.cd)) (Zhc (slR R.s X.Ar X.cr)) Wq1 Wq1)) ?_);rintro _ _ ⟨A1,c1,A2,c2,rfl,rfl⟩;refine Z_2 ?_;refine eT (gx (ys:=my (kOf br bu D) ⟨A1,c1,A2,c2⟩ (R.ws R.s.back)) (n:=16) (vs:=R.s.back.cells (.slice A1 R.s.back.d.length c1) (.slice A2 R.s.back.r.length c2)) rfl Zrf rfl rfl (mQ rfl) Za rfl kS) ?_;rintro _ _ ⟨rfl,rfl⟩;refine Z_2 ?_;refine bO (pm br bu bb L D ⟨A1,c1,A2,c2⟩ Y ⟨R.ws R.s.back,U,d⟩) Zj (Wq5 ?_);exact⟨⟨A1,c1,A2,c2⟩,Y,rfl,rfl⟩
 refine Zw6 ?_ ?_<;>intro hc18
 .obtain rfl:=kP hc18;have HG:=VN (R.s.W6 R.count) (.slice X.Ad R.s.d.length X.cd) (.slice X.Ar R.s.r.length X.cr) nn;obtain⟨⟨g,gk⟩,hg⟩:=Zgn ((R.s.W6 R.count).get nn);rw[hg]at HG;have hst:dK L.n 66 nn ⟨R,U,d⟩=⟨R.push [g],U,d⟩:=(by show gi.mk (R.push [((R.s.W6 R.count).get nn).1]) U d=_;rw[hg]);refine Z_5 ?_;refine dQ (bW (vs:=R.s.cells (.slice X.Ad R.s.d.length X.cd) (.slice X.Ar R.s.r.length X.cr)) Zrf Zrf Zv0) (cX Zh rfl) rfl ?_;refine ZN λb4=>?_
  refine ZM ?_;refine Z_9 ?_;refine ZL ?_;refine Z_7 ?_;refine lD ?_;refine ZSe (λw hi=>HG w) ?_;refine fH ?_;refine jD ?_;rintro _ _ ⟨b70,rfl,rfl⟩;refine dy (gL (kOf br bu D) X R) (λw hi hin=>jb (kOf br bu D) X R _ 1 1 [g] Wq1 w hin (λw' hk=>hi.WZ Zi Zh hk)) ?_;rintro _ _ ⟨A',c',rfl,rfl⟩;refine Z_2 ?_;refine bO (pm br bu bb L D ⟨A',c',X.Ar,X.cr⟩ Y ⟨R.wd (R.s.d++[g]),U,d⟩) Zj (Wq5 ?_);rw[hst];exact⟨⟨A',c',X.Ar,X.cr⟩,Y,rfl,rfl⟩
 refine Zw6 ?_ ?_<;>intro hc23
 .obtain rfl:=kP hc23;obtain⟨R,l,x,rfl⟩:=Run.snoc (show 1<=R.s.d.length from hn);obtain⟨hx1,hx2⟩:=hw x cP;obtain⟨va,rfl⟩:∃va:Nat,x=va:=ao hx1;have hva:va<=4294967295:=Wq1;have hll:l.length<=100000:=bY;have HE:=Vu (R.wd l).s X.Ad X.Ar X.cd X.cr nn va;have hdr:=St.set_dr (R.wd l).s nn va;have hst:dK L.n 67 nn ⟨R.wd (l++[(va:Int)]),U,d⟩=⟨(R.wd l).ws ((R.wd l).s.set nn va).1,bif nn==1||nn==2 then⟨U.m,fI⟩else U,d⟩:=(by show gi.mk _ _ _=_;simp_all);obtain⟨⟨⟨pc',d',r',fl',su',pg',ie',rt',ve',ep',ca',ad',es',ei',co',ha'⟩,kn⟩,hq⟩:=Zgn ((R.wd l).s.set nn va);rw[hq]at HE hst hdr;obtain⟨hd',hr'⟩:=hdr;have hd':l=d':=hd'.symm;have hr':R.s.r=r':=hr'.symm;subst hd';subst hr';refine U5 ?_;refine Z_4 ?_;refine bU (Zdn [15]) Zk (yn ?_);refine Zy5 4 rfl (bW (vs:=(R.wd l).s.cells (.slice X.Ad (R.wd l).s.d.length X.cd) (.slice X.Ar (R.wd l).s.r.length X.cr)) Zrf Zrf Zv0) (cX Zh rfl) ?_;refine ZFe 5 1 ?_;refine ZG 6 ?_;refine Zy4 7 rfl (cU rfl rfl Zv0 Zl) ?_;refine ZE 8 ?_;refine kR ?_;refine ZTn (λw hi=>HE w (hi.XJ (Zhc (slD (R.wd l).s X.Ad X.cd)) (Zhc (slR (R.wd l).s X.Ar X.cr)) bY bY)) ?_;rintro _ _ ⟨A1,c1,A2,c2,rfl,rfl⟩;refine ZE 10 ?_;refine GC ?_;refine ZFe 14 0 ?_;refine cW 15 Zk (fy rfl rfl (gx (ys:=my (kOf br bu D) ⟨A1,c1,A2,c2⟩ ((R.wd l).ws ⟨pc',l,R.s.r,fl',su',pg',ie',rt',ve',ep',ca',ad',es',ei',co',ha'⟩)) (n:=16) (vs:=(St.mk pc' l R.s.r fl' su' pg' ie' rt' ve' ep' ca' ad' es' ei' co' ha').cells (.slice A1 l.length c1) (.slice A2 R.s.r.length c2)) rfl Zrf rfl rfl (mQ rfl) Za rfl Qt) ZJ ?_);rintro _ _ ⟨rfl,rfl⟩;refine dR ?_;refine om ?_;refine ZW ?_ ?_<;>intro hc26
  .have h12:(nn==1||nn==2)=true:=bY;refine Z_5 ?_;refine ZcM (uF bu bb L U) (λw hi hin=>Mk bu bb L U hT w hin) ?_;refine Z_2 ?_;refine bO (pm br bu bb L D ⟨A1,c1,A2,c2⟩ Y ⟨((R.wd l).ws ⟨pc',l,R.s.r,fl',su',pg',ie',rt',ve',ep',ca',ad',es',ei',co',ha'⟩),⟨U.m,fI⟩,d⟩) Zj (Wq5 ?_);rw[hst,wU h12];exact⟨⟨A1,c1,A2,c2⟩,Y,rfl,rfl⟩
  have h12:(nn==1||nn==2)=false:=bY;refine Z_2 ?_;refine bO (pm br bu bb L D ⟨A1,c1,A2,c2⟩ Y ⟨((R.wd l).ws ⟨pc',l,R.s.r,fl',su',pg',ie',rt',ve',ep',ca',ad',es',ei',co',ha'⟩),U,d⟩) Zj (Wq5 ?_);rw[hst,lX h12];exact⟨⟨A1,c1,A2,c2⟩,Y,rfl,rfl⟩
 refine Zw6 ?_ ?_<;>intro hc28
 .obtain rfl:=kP hc28;obtain⟨R,l,x,rfl⟩:=Run.snoc (show 1<=R.s.d.length from hn);obtain⟨hx1,hx2⟩:=hw x cP;obtain⟨va,rfl⟩:∃va:Nat,x=va:=ao hx1;have hva:va<=4294967295:=Wq1;have hll:l.length<=100000:=bY;have hst:dK L.n 68 nn ⟨R.wd (l++[(va:Int)]),U,d⟩=⟨R.wd l,⟨U.m,xP U.t va⟩,d⟩:=(by show gi.mk _ _ _=_;simp_all);refine U5 ?_;refine fb ?_;refine ZW ?_ ?_<;>intro hc30
  .refine Z_6 ?_;refine ZcM (uF bu bb L U) (λw hi hin=>Q3 bu bb L U hT va hva w hin) ?_;refine Z_2 ?_;refine bO (pm br bu bb L D X Y ⟨R.wd l,⟨U.m,xP U.t va⟩,d⟩) Zj (Wq5 ?_);rw[hst];exact⟨X,Y,rfl,rfl⟩
  exact absurd hc30 cP
 refine Zw6 ?_ ?_<;>intro hc32
 .obtain rfl:=kP hc32;refine Z_5 ?_;refine ZL ?_;refine Z_2 ?_;refine bO (pm br bu bb L D X Y ⟨R.ws R.s.halt,U,d⟩) Zj (Wq5 ?_);exact⟨X,Y,rfl,rfl⟩
 have hst:dK L.n op nn ⟨R,U,d⟩=⟨R,U,d⟩:=(by simp only[dK, *,ah]);refine Z_2 ?_;refine bO (pm br bu bb L D X Y ⟨R,U,d⟩) Zj (Wq5 ?_);rw[hst];exact⟨X,Y,rfl,rfl⟩
structure Res where
 s:St
 Xr:Bool
 device:Bool
 Wa:List Int
abbrev St.next(s:St):St:=s.W6 (IntKind.u64.wrap (s.count+1))
abbrev St.wpc(s:St)(x:Int):St:=⟨x,s.d,s.r,s.flags,s.Wf,s.Wn,s.ie,s.root,s.vec,s.epc,s.Wg,s.addr,s.Wu,s.eie,s.count,s.halted⟩
def eW(s:St)(op:Int):Run:=⟨s.next.wpc (IntKind.u32.wrap (s.pc+IntKind.u32.wrap (cF op))),s.count,Tr.none,false⟩
def pB(n:Nat)(s:St)(op nn:Int)(U:Mmu)(d:Dev):gi:=
 match dI op nn (eW s op)with
 |some R=>⟨R,U,d⟩
 |none=>bif(cH op nn (eW s op)).1 then⟨(cH op nn (eW s op)).2,U,d⟩else dK n op nn ⟨(cH op nn (eW s op)).2,U,d⟩
def KW(s:St)(m:gi):Res:=
 bif m.r.Wv.Wg !=0 then⟨s.next.Wv m.r.Wv.Wg m.r.Wv.addr,true,m.r.device,ip m.u.m.Wj 64⟩else⟨m.r.s,false,m.r.device,ip m.u.m.Wj 64⟩
def wO(n:Nat)(s:St)(op nn:Int)(U:Mmu)(d:Dev):Res×Mmu×Dev:=
 bif !s.right then(⟨s,false,false,[]⟩,U,d)else
 bif gc s op nn !=0 then(⟨s.next.Wv (gc s op nn) 0,true,false,[]⟩,⟨U.m.calm,U.t⟩,d)else
 (KW s (pB n s op nn ⟨U.m.calm,U.t⟩ d),(pB n s op nn ⟨U.m.calm,U.t⟩ d).u,(pB n s op nn ⟨U.m.calm,U.t⟩ d).d)
theorem Ta(op f:Int)(h:(dw op f).2=false):(dw op f).1=false:=by
 grind [dw]
theorem qs(op n:Int)(R:Run)(h:(cH op n R).1=false):(cH op n R).2=R:=by
 grind [cH,dw,Ta]
variable{s:St}{q:(Nat×Nat)×(Nat×Nat)}
theorem FG(h:sY s q=0):q.1.1<=s.d.length/\q.2.1<=s.r.length:=by
 grind [sY]
variable{op:Int}
theorem oh{n:Int}(h:gc s op n=0):(ce op).1.1<=s.d.length/\(ce op).2.1<=s.r.length:=by
 unfold gc at h;revert h;refine Wq137 ?_;refine Wq137 ?_;exact FG
abbrev mz(r:Res)(X:ko)(Ap:Oa)(cp:Nat):List Value:=[.w r.s.pc,.slice X.Ad r.s.d.length X.cd,.slice X.Ar r.s.r.length X.cr,.w r.s.flags,.bool r.s.Wf,.bool r.s.Wn,.bool r.s.ie,.w r.s.root,.w r.s.vec,.w r.s.epc,.w r.s.Wg,.w r.s.addr,.bool r.s.Wu,.bool r.s.eie,.int .u64 r.s.count,.bool r.s.halted,.bool r.Xr,.bool r.device,.slice Ap r.Wa.length cp]
abbrev resF(r:Res)(X:ko)(Ap:Oa)(cp:Nat):List bJ:=[slD r.s X.Ad X.cd,slR r.s X.Ar X.cr,sl .i64 3 Ap r.Wa.length cp r.Wa]
theorem St.fits(h:s.right=true):s.d.length<=16/\s.r.length<=16/\s.flags<=15:=by
 grind [St.right]
abbrev ubF(bu bb:Nat)(L:eB)(D:rx)(Y:ov)(U:Mmu)(d:Dev):List bJ:=uF bu bb L U++mO D L.bm Y d
theorem do_ok(bu bb:Nat)(L:eB)(D:rx)(Y:ov)(s:St)(Ad Ar:Oa)(cd cr:Nat)(op nn:Int)(U:Mmu)(d:Dev)(hwf:s.wf)(hnn:u32 nn)(hT:U.t.length=16)(hd:d.wf)(ho:d.out.length<=1000000000)
  (w:World) (hi:Inv w (bK (ubF bu bb L D Y U d)) (ubF bu bb L D Y U d) w) (h:∀w',dc (bK (ubF bu bb L D Y U d)) w w'->rj w' s Ad Ar cd cr):
  Ctr prog 174 [sv s Ad cd Ar cr,.agg #[.i op,.w nn],.p bu,.p D.bs] w (ubF bu bb L D Y U d)
   (λv cs=>∃X Y' Ap cp,v= .agg (mz (wO L.n s op nn U d).1 X Ap cp).toArray/\cs=resF (wO L.n s op nn U d).1 X Ap cp++ubF bu bb L D Y' (wO L.n s op nn U d).2.1 (wO L.n s op nn U d).2.2):=by
 have HR:=oF s Ad Ar cd cr;have HK:=TU s Ad Ar cd cr op nn hnn;have hbd:=(h w (dc.refl _ _)).hd;have hbr:=(h w (dc.refl _ _)).hr;unfold wO;obtain⟨rt,hrt⟩:=Zgn (s.right);obtain⟨ck,hck⟩:=Zgn (gc s op nn);rw[hrt]at HR|-;rw[hck]at HK|-;obtain⟨UM,UT⟩:=U;have HM:=Hr L UM;have HZ:=Ae op;obtain⟨R0,hR0⟩:=Zgn (eW s op);have hmid:pB L.n s op nn ⟨UM.calm,UT⟩ d=(match dI op nn R0 with
  |some R=>⟨R,⟨UM.calm,UT⟩,d⟩
  |none=>bif(cH op nn R0).1 then⟨(cH op nn R0).2,⟨UM.calm,UT⟩,d⟩else dK L.n op nn ⟨(cH op nn R0).2,⟨UM.calm,UT⟩,d⟩):=by rw[<-hR0];rfl
 unfold eW at hR0;obtain⟨sz,hsz⟩:=Zgn (cF op);rw[hsz]at HZ hR0;obtain⟨pc',hpc⟩:=Zgn (IntKind.u32.wrap (s.pc+IntKind.u32.wrap sz));rw[hpc]at hR0;refine Zfn func174 ntmps174 hi ?_;refine Z_2 ?_;refine ZO λb4=>?_;refine ZO λb5=>?_
 refine ZN λb8=>?_
 refine Z_6 ?_;refine ZSe (λw hi=>HR w) ?_;refine Zw3 ?_ ?_<;>intro hc1
 .refine Z_3 ?_;refine ZSn (λw hi=>mM s Ad Ar cd cr w (h w hi.WB)) ?_;rintro _ _ ⟨A1,c1,A2,c2,rfl,rfl⟩;refine ZA ?_;refine cY 3 1 (jC ?_);refine bO ([row b8 (mz ⟨s,false,false,[]⟩ ⟨A1,c1,A2,c2⟩ none 0) 286]++(resF ⟨s,false,false,[]⟩ ⟨A1,c1,A2,c2⟩ none 0++ubF bu bb L D Y ⟨UM,UT⟩ d)) Zj (Wq86 ?_);rw[wU hc1];exact⟨⟨A1,c1,A2,c2⟩,Y,none,0,rfl,rfl⟩
 refine Zw9 ?_ ?_<;>intro hc3
 .refine Z_2 ?_;refine Qm ?_;refine ZcM ([fw L UM]) (λw hi hin=>HM w hin) ?_;refine Qu ?_;rintro _ _ ⟨_,⟨A1,c1,A2,c2,rfl,rfl⟩,rfl⟩;refine ZN λb9=>?_
  refine jj ?_;refine pR ?_;refine iJ ?_;refine Z_7 ?_;refine ZSe (λw hi=>HK w (h w hi.WB)) ?_;refine Zw9 ?_ ?_<;>intro hc8
  .refine Z_4 ?_;refine ZSn (λw hi=>vf s.next A1 A2 c1 c2 ck 0 w (hi.XJ (Zhc (slD s A1 c1)) (Zhc (slR s A2 c2)) hbd hbr)) ?_;rintro _ _ ⟨A3,c3,A4,c4,rfl,rfl⟩;refine ZA ?_;refine cY 3 1 (jC ?_);refine bO ([row b8 (mz ⟨s.next.Wv ck 0,true,false,[]⟩ ⟨A3,c3,A4,c4⟩ none 0) 286]++(resF ⟨s.next.Wv ck 0,true,false,[]⟩ ⟨A3,c3,A4,c4⟩ none 0++ubF bu bb L D Y ⟨UM.calm,UT⟩ d)) Zj (Wq86 ?_);rw[lX hc1,wU hc8];exact⟨⟨A3,c3,A4,c4⟩,Y,none,0,rfl,rfl⟩
  refine Z_3 ?_;refine bU (Zdn []) Zk (ZI 0 ?_);refine ZFe 2 14 ?_;refine Ca ?_;refine cW 1 Zk (ZTn (λw hi=>mM s.next A1 A2 c1 c2 w (hi.XJ (Zhc (slD s A1 c1)) (Zhc (slR s A2 c2)) hbd hbr)) ?_);rintro _ _ ⟨A5,c5,A6,c6,rfl,rfl⟩;refine ZE 6 ?_;refine ic ?_;refine Ll ?_;rintro _ _ ⟨b46,rfl,rfl⟩;refine ZE 8 ?_;refine jU ?_;refine bU (Zdn [13]) Zk (pP ?_);refine ZFe 2 0 ?_;refine ZFe 3 0 ?_;refine ZG 4 ?_;refine ZFe 5 0 ?_;refine ZG 6 ?_;refine ic ?_;refine ZTn (λw hi=>HZ w) ?_;rintro _ _ ⟨rfl,rfl⟩;refine Zy4 8 rfl (cU rfl rfl Zv0 rfl) ?_;refine Zy4 9 rfl (eK Zv0 Zv0 hpc) ?_;refine ZE 10 ?_;refine ZFe 11 0 ?_;refine ZFe 12 0 ?_;refine cW 13 Zk (o9 ?_);refine Zt (cL (λq:ko×ov×gi=>[(2,.p bu),(8,.p b8),(9,.p b9),(11,.p b46)]) (λq=>pm b46 bu bb L D q.1 q.2.1 q.2.2++[row b8 [.w 0,.slice none 0 0,.slice none 0 0,.w 0,.bool false,.bool false,.bool false,.w 0,.w 0,.w 0,.w 0,.w 0,.bool false,.bool false,.int .u64 0,.bool false,.bool false,.bool false,.slice none 0 0] 286,row b9 (s.next.cells (.slice A1 s.next.d.length c1) (.slice A2 s.next.r.length c2)) 53,slD s.next A1 c1,slR s.next A2 c2]) (λq=>pB L.n s op nn ⟨UM.calm,UT⟩ d=q.2.2) ?_ ?_)
  .refine Zs ?_;subst hR0;have hrt1:rt=true:=bY;obtain⟨hd16,hr16, -⟩:=St.fits (hrt.trans hrt1);have hck0:ck=0:=bY;obtain⟨n1,n2⟩:=oh (hck.trans hck0);have HS:=Ro (kOf b46 bu D) ⟨A5,c5,A6,c6⟩ ⟨s.next.wpc pc',s.count,Tr.none,false⟩ op nn (show s.d.length<=100000 by omega) (show s.r.length<=100000 by omega) n1 n2;rcases hst:dI op nn ⟨s.next.wpc pc',s.count,Tr.none,false⟩with _|R1
   .rw[hst]at HS;simp only[Option.isSome_none,Option.getD_none]at HS;have HQ:=λX w hin=>Nf (kOf b46 bu D) X ⟨s.next.wpc pc',s.count,Tr.none,false⟩ op nn hwf.d (show s.d.length<=100000 by omega) (show s.r.length<=100000 by omega) n1 n2 w hin
    obtain⟨⟨bq,R2⟩,hq⟩:=Zgn (cH op nn ⟨s.next.wpc pc',s.count,Tr.none,false⟩);rw[hq]at HQ;refine Z_3 ?_;refine dy (gL (kOf b46 bu D) ⟨A5,c5,A6,c6⟩ ⟨s.next.wpc pc',s.count,Tr.none,false⟩) (λw hi hin=>HS w hin) ?_;rintro _ _ ⟨X1,rfl,rfl⟩;refine Z_3 ?_;refine Qq ?_;refine fF (bS rfl rfl) rfl (dN (gL (kOf b46 bu D) X1 ⟨s.next.wpc pc',s.count,Tr.none,false⟩) rfl (λ_ _=>rfl) Zi (λw hi hin=>HQ X1 w hin)) rfl ?_;rintro _ _ ⟨_,⟨X2,rfl,rfl⟩,rfl⟩;refine Z_4 ?_;refine ZW ?_ ?_<;>intro hc12
    .obtain rfl:bq=false:=bY;have he:=qs op nn ⟨s.next.wpc pc',s.count,Tr.none,false⟩ (by rw[hq]);rw[hq]at he;have he:R2=_:=he;subst he;have HO:=λX w hin=>M7 b46 bu bb L D X Y ⟨s.next.wpc pc',s.count,Tr.none,false⟩ ⟨UM.calm,UT⟩ d op nn hnn hwf.d (show s.d.length<=100000 by omega) (show s.r.length<=100000 by omega) n1 hT hwf.root hd ho w hin
     obtain⟨m',hm'⟩:∃m',dK L.n op nn ⟨⟨s.next.wpc pc',s.count,Tr.none,false⟩,⟨UM.calm,UT⟩,d⟩=m':=⟨_,rfl⟩;rw[hm']at HO;refine Z_3 ?_;refine dy (pm b46 bu bb L D X2 Y ⟨⟨s.next.wpc pc',s.count,Tr.none,false⟩,⟨UM.calm,UT⟩,d⟩) (λw hi hin=>HO X2 w hin) ?_;rintro _ _ ⟨X3,Y3,rfl,rfl⟩;refine Zn (qMP ((⟨X3,Y3,m'⟩:ko×ov×gi)) bY)
    obtain rfl:bq=true:=bY;refine Zc (qMP ((⟨X2,Y,⟨R2,⟨UM.calm,UT⟩,d⟩⟩:ko×ov×gi)) bY)
   rw[hst]at HS;simp only[Option.isSome_some,Option.getD_some]at HS;refine Z_3 ?_;refine dy (gL (kOf b46 bu D) ⟨A5,c5,A6,c6⟩ ⟨s.next.wpc pc',s.count,Tr.none,false⟩) (λw hi hin=>HS w hin) ?_;rintro _ _ ⟨X1,rfl,rfl⟩;refine Z_2 ?_;refine Wq22 ?_;refine Zy (Ju (q:=false) (Zv rfl) ⟨_,rfl,λ_ e=>by simp at e⟩) ?_;refine pN ?_;refine Zc (qMP ((⟨X1,Y,⟨R1,⟨UM.calm,UT⟩,d⟩⟩:ko×ov×gi)) bY)
  rintro⟨X,Y',m⟩ hm;dsimp only at hm|-;refine Zs (bU (Zdn [10]) Zk ?_);refine pP ?_;refine ZFe 2 0 ?_;refine Zy5 3 rfl (bW (vs:=m.r.s.cells (.slice X.Ad m.r.s.d.length X.cd) (.slice X.Ar m.r.s.r.length X.cr)) Zrf Zrf Zv0) (cX Zh rfl) ?_;refine ZE 4 ?_;refine ZE 5 ?_;refine ZFe 6 21 ?_;refine ZG 7 ?_;refine ZE 8 ?_;refine kR ?_;refine ZP λb12=>?_
  refine mb ?_;refine ZR ?_;refine dR ?_;refine fb ?_;refine ZW ?_ ?_<;>intro hc15
  .have he:KW s m=⟨s.next.Wv m.r.Wv.Wg m.r.Wv.addr,true,m.r.device,ip m.u.m.Wj 64⟩:=wU hc15;refine bU (Zdn [13,15]) Zk (ZI 0 ?_);refine ZE 1 ?_;refine ZE 2 ?_;refine ZFe 3 19 ?_;refine ZFe 4 0 ?_;refine ZG 5 ?_;refine ZE 6 ?_;refine ZE 7 ?_;refine ZFe 8 19 ?_;refine ZFe 9 1 ?_;refine ZG 10 ?_;refine cW 11 Zk (ZTn (λw hi=>vf s.next A1 A2 c1 c2 m.r.Wv.Wg m.r.Wv.addr w (hi.XJ (Zhc (slD s.next A1 c1)) (Zhc (slR s.next A2 c2)) hbd hbr)) ?_);rintro _ _ ⟨A7,c7,A8,c8,rfl,rfl⟩;refine ZFe 12 0 ?_;refine cW 13 Zk (fy rfl rfl (gx (ys:=mz ⟨s.next.Wv m.r.Wv.Wg m.r.Wv.addr,false,m.r.device,[]⟩ ⟨A7,c7,A8,c8⟩ none 0) (n:=16) (vs:=(s.next.Wv m.r.Wv.Wg m.r.Wv.addr).cells (.slice A7 (s.next.Wv m.r.Wv.Wg m.r.Wv.addr).d.length c7) (.slice A8 (s.next.Wv m.r.Wv.Wg m.r.Wv.addr).r.length c8)) rfl Zrf rfl rfl (mQ rfl) Za rfl kS) ZJ ?_);rintro _ _ ⟨rfl,rfl⟩;refine ZFe 14 16 ?_;refine cW 15 Zk (o9 ?_);refine Zw8 ?_ ?_<;>intro hc17
   .refine Z_2 ?_;refine Qm ?_;refine ZSn (λw hi=>rP L m.u.m w (hi.get Zh)) ?_;rintro _ _ ⟨Ap,cp,rfl,rfl⟩;refine iJ ?_;refine Z_5 ?_;refine iC ?_;refine bO ([row b8 (mz ⟨s.next.Wv m.r.Wv.Wg m.r.Wv.addr,true,m.r.device,ip m.u.m.Wj 64⟩ ⟨A7,c7,A8,c8⟩ Ap cp) 286]++(resF ⟨s.next.Wv m.r.Wv.Wg m.r.Wv.addr,true,m.r.device,ip m.u.m.Wj 64⟩ ⟨A7,c7,A8,c8⟩ Ap cp++ubF bu bb L D Y' m.u m.d)) Zj (Wq86 ?_);rw[lX hc1,lX hc8,hm,he];exact⟨⟨A7,c7,A8,c8⟩,Y',Ap,cp,rfl,rfl⟩
   exact absurd hc17 cP
  have he:KW s m=⟨m.r.s,false,m.r.device,ip m.u.m.Wj 64⟩:=lX hc15;refine Zw9 ?_ ?_<;>intro hc17
  .refine Z_2 ?_;refine Qm ?_;refine ZSn (λw hi=>rP L m.u.m w (hi.get Zh)) ?_;rintro _ _ ⟨Ap,cp,rfl,rfl⟩;refine iJ ?_;refine Z_5 ?_;refine iC ?_;refine bO ([row b8 (mz ⟨m.r.s,false,m.r.device,ip m.u.m.Wj 64⟩ X Ap cp) 286]++(resF ⟨m.r.s,false,m.r.device,ip m.u.m.Wj 64⟩ X Ap cp++ubF bu bb L D Y' m.u m.d)) Zj (Wq86 ?_);rw[lX hc1,lX hc8,hm,he];exact⟨X,Y',Ap,cp,rfl,rfl⟩
  exact absurd hc17 cP
 exact absurd hc3 cP
def Vn(R:Run)(va:Nat):Run:=bif((va%4:Nat):Int) !=0 then R.wt ⟨6,va⟩else R.wt ⟨10,va⟩
def otherN(op nn:Int)(R:Run):Run:=
 bif op==48 then Vn R.pop R.top.toNat else
 bif op==49 then Vn R.pop.pop R.top.toNat else
 bif op==50 then R.pop.wt ⟨10,R.top⟩else
 bif op==51 then R.pop.wt ⟨10,R.top⟩else
 bif op==52 then R.pop.wt ⟨10,R.top⟩else
 bif op==53 then R.pop.wt ⟨10,R.top⟩else
 bif op==64 then R.wt ⟨11,0⟩else
 bif op==65 then R.ws R.s.back else
 bif op==66 then R.push [((R.s.W6 R.count).get nn).1]else
 bif op==67 then R.pop.ws (R.pop.s.set nn R.top).1 else
 bif op==68 then R.pop else
 bif op==69 then R.ws R.s.halt else R
def Dq(s:St)(op nn:Int):Run:=
 match dI op nn (eW s op)with
 |some R=>R
 |none=>bif(cH op nn (eW s op)).1 then(cH op nn (eW s op)).2 else otherN op nn (cH op nn (eW s op)).2
def VQ(s:St)(R:Run):Res:=
 bif R.Wv.Wg !=0 then⟨s.next.Wv R.Wv.Wg R.Wv.addr,true,R.device,[]⟩else⟨R.s,false,R.device,[]⟩
def doN(s:St)(op nn:Int):Res:=
 bif !s.right then⟨s,false,false,[]⟩else
 bif gc s op nn !=0 then⟨s.next.Wv (gc s op nn) 0,true,false,[]⟩else
 VQ s (Dq s op nn)
def Dev.init(Ww:Li):Dev:=⟨0,0,0,[],[],tz Ww,0,0,0⟩
theorem _root_.Go.Ink.Inv.Xp{w0 w w':World}{S:List Nat}{cs cin rest:List bJ}{Ad Ar:Oa}{cd cr:Nat}(hi:Inv w0 S cs w)(hp:fe cin cs rest)(h1:Has rest (slD s Ad cd))(h2:Has rest (slR s Ar cr))(hd:s.d.length*4<=140737488355328)(hr:s.r.length*4<=140737488355328)(hk:dc (bK cin) w w'):rj w' s Ad Ar cd cr:=
 ⟨hi.WZ hp h1 hk,hi.WZ hp h2 hk,hd,hr⟩
theorem P3(bm:Nat)(A:Oa)(c:Nat)(l:Li)(hl:l.length<=1024)(w:World)(h:Rd w .u8 A l.length c l):Ctr prog 79 [.p bm,.slice A l.length c] w []
  (λv cs=>∃D,v= .tuple #[.p D.bs,.i 0]/\cs=mO D bm ⟨none,0,none,0⟩ (Dev.init l)):=by
 obtain⟨dd,hdd⟩:=Zgn (tz l);unfold Dev.init;rw[hdd];have HD:=λw (hi:Rd w .u8 A l.length c l)=>PC A c l hl w hi
 rw[hdd]at HD;refine Zfs func79 ntmps79 ?_;refine ng ?_;refine kv ?_;refine Z_5 ?_;refine ZSn (λw hi=>HD w (h.Wh hi)) ?_;rintro _ _ ⟨bdr,bdk,rfl,rfl⟩;refine sG ?_;refine Z_4 ?_;refine ZSn (λw hi=>OC w) ?_;rintro _ _ ⟨bi,rfl,rfl⟩;refine ZSn (λw hi=>MB w) ?_;rintro _ _ ⟨bti,rfl,rfl⟩;refine ZSn (λw hi=>PV w) ?_;rintro _ _ ⟨bcn,rfl,rfl⟩;refine Z_3 ?_;refine ZO λb24=>?_
 refine ZA ?_;refine cY 5 1 (cY 5 1 (Z_4 ?_));refine bO (mO ⟨b24,bi,bti,bcn,bdr,bdk⟩ bm ⟨none,0,none,0⟩ ⟨0,0,0,[],[],dd,0,0,0⟩) Zj (Lu ?_);exact⟨⟨b24,bi,bti,bcn,bdr,bdk⟩,rfl,rfl⟩
structure _root_.Go.Ink.RMLoc where
 bm:Nat
 bB:Nat
 bT:Nat
variable{l:Li}
theorem KZ(h:l.length<=1024):(tz l).length=1024:=by simp[tz];omega
theorem PG(h:u8s l):u8s (tz l):=λx hx=>by
 rcases az.1 hx with hx|hx
 .exact h x hx
 grind
theorem init_wf(h:l.length<=1024)(hb:u8s l):(Dev.init l).wf:=⟨λx hx=>jT,KZ h,PG hb,ap _,ap _,ap _⟩
theorem nH(w:World)(k:IntKind):Rd w k none 0 0 []:=⟨rfl,by simp,by simp,by simp,by simp⟩
theorem u0:u32 0:=⟨by decide,by decide⟩
theorem u1:u32 1:=⟨by decide,by decide⟩
theorem wrap_u32(a:Int):u32 (IntKind.u32.wrap a):=by
 grind [u32,IntKind.wrap_u32]
variable{n:Nat}
theorem jH(h:n<=4294967295):u32 (n:Int):=⟨by omega,by omega⟩
structure Mem.ok(n:Nat)(M:Mem):Prop where
 dl:M.data.length=n*64
 db:u8s M.data
 tl:M.Wj.length=64
theorem u8s_set(h:u8s l){a:Nat}{b:Int}(hb:0<=b/\b<=255):u8s (l.set a b):=λx hx=>by
 rcases List.mem_or_eq_of_mem_set hx with h1|h1
 .exact h x h1
 omega
theorem Mem.ok.put{n:Nat}{M:Mem}(h:M.ok n)(a:Nat){b:Int}(hb:0<=b/\b<=255):(M.put a b).ok n:=
 ⟨by show(M.data.set _ _).length=_;simp[h.dl],u8s_set h.db hb,by show(M.Wj.set _ _).length=_;simp[h.tl]⟩
theorem Mem.ok.Xg{n:Nat}{M:Mem}(h:M.ok n)(a:Nat)(v:Int):∀k,(M.Xg a v k).ok n
 |0=>h
 |k+1=>(Mem.ok.Xg h a v k).put _ (p8 v k)
theorem Mem.ok.WM{n:Nat}{M:Mem}(h:M.ok n)(l:Li)(v:Int):∀k,(WM M l v k).ok n
 |0=>h
 |k+1=>(Mem.ok.WM h l v k).put _ (p8 v k)
theorem Mem.ok.fill{n:Nat}{M:Mem}(h:M.ok n)(a:Nat){l:Li}(hl:u8s l):∀k,(M.fill a l k).ok n
 |0=>h
 |k+1=>(Mem.ok.fill h a hl k).put _ (kJ hl k)
theorem Mem.ok.calm{n:Nat}{M:Mem}(h:M.ok n):M.calm.ok n:=⟨h.dl,h.db,aI⟩
variable{M:Mem}
theorem JF(h:M.ok n)(root va:Nat)(kind:Int)(Wf:Bool):(gK n M root va kind Wf).2.ok n:=by
 unfold gK;refine bR (λq:(TE×Tr)×Mem=>q.2.ok n) h ?_;cases nQ n M.data root va with
 |none=>exact h
 |some q=>
  obtain⟨a,l⟩:=q;refine bR (λq:(TE×Tr)×Mem=>q.2.ok n) h ?_;exact bR (λq:Mem=>q.ok n) (h.Xg _ _ 4) h
def TrU(t:Tr):Prop:=u32 t.addr/\0<=t.Wg/\t.Wg<=255
theorem tr10{a:Int}(h:u32 a):TrU ⟨10,a⟩:=⟨h,by grind,by grind⟩
theorem trN:TrU Tr.none:=⟨u0,by decide,by decide⟩
theorem tr11:TrU ⟨11,0⟩:=⟨u0,by decide,by decide⟩
theorem Pj(kind:Int):0<=fault kind/\fault kind<=255:=by
 grind [fault]
theorem Mc(n:Nat)(M:Mem)(root va:Nat)(hva:va<=4294967295)(kind:Int)(Wf:Bool):TrU (gK n M root va kind Wf).1.2:=by
 grind [jH,Pj,gK,TrU,tr10,nQ,trN]
structure UOk(n:Nat)(U:Mmu):Prop where
 m:U.m.ok n
 t:U.t.length=16
variable{U:Mmu}
theorem Cu(h:U.m.ok n)(s:Sp)(va:Nat)(kind:Int):(dq n U s va kind).2.m.ok n:=by
 grind [JF,dq]
theorem E6(n:Nat)(U:Mmu)(s:Sp)(va:Nat)(hva:va<=4294967295)(kind:Int):TrU (dq n U s va kind).1.2:=by
 grind [Mc,trN,dq,TrU]
theorem pz(h:UOk n U)(s:Sp)(va:Nat)(kind:Int):UOk n (cO n U s va kind).2:=by
 refine⟨?_,(vR n U s va kind).trans h.t⟩
 grind [Cu,h.m,cO]
theorem rZ(n:Nat)(U:Mmu)(s:Sp)(va:Nat)(hva:va<=4294967295)(kind:Int):TrU (cO n U s va kind).1.2:=by
 grind [E6,TrU,tr10,jH,cO]
theorem MW(a b:Int)(va k:Nat)(t:Tr)(U:Mmu):(fK a b va k t U).2=U:=by
 grind [fK]
theorem JW(a b:Int){va:Nat}(hva:va<=4294967295)(k:Nat){t:Tr}(ht:TrU t)(U:Mmu):TrU (fK a b va k t U).1.2:=by
 grind [fK,TrU,tr10,jH,mC]
theorem rF(h:UOk n U)(s:Sp)(va k:Nat)(kind:Int):UOk n (eX n U s va k kind).2:=by
 grind [pz,et,eX,JY,MW,JX]
theorem CF(n:Nat)(U:Mmu)(s:Sp)(va k:Nat)(hva:va<=4294967295)(kind:Int):TrU (eX n U s va k kind).1.2:=by
 grind [rZ,cO,et,mC,eX,JY,TrU,JW,JX]
theorem KE(h:UOk n U)(s:Sp)(va:Nat){k:Nat}(hk:k<=4):u32 (qG n U s va k).1.1:=by
 have h1:=rF h s va k 2;have h2:=nJ h1.m.db (eX n U s va k 2).1.1;have h3:(eX n U s va k 2).1.1.length<=4:=aK rG hk;show u32 (ge _ _);generalize ge (eX n U s va k 2).2.m.data (eX n U s va k 2).1.1=v at h2;generalize (eX n U s va k 2).1.1.length=m at h2 h3;obtain rfl|rfl|rfl|rfl|rfl:m=0\/m=1\/m=2\/m=3\/m=4:=by omega
 all_goals (refine⟨h2.1,?_⟩;simp at h2;omega)
theorem Fa(h:UOk n U)(s:Sp)(va k:Nat)(v:Int):UOk n (pt n U s va k v).2:=by
 have h1:=rF h s va k 3;exact⟨h1.m.WM _ _ _,h1.t⟩
structure Dev.ok(d:Dev):Prop where
 wf:d.wf
 Wx:u32 d.Wx
 mask:u32 d.mask
 timer:u32 d.timer
 status:u32 d.status
theorem Dev.wf.re{d d':Dev}(h:d.wf)(h1:d'.inp=d.inp)(h2:d'.Ww=d.Ww)(h3:d'.Wb=d.Wb)(h4:d'.place=d.place):d'.wf:=
 ⟨h1▸h.XK,h2▸h.Ww,h2▸h.Xn,h3▸h.Wb,h4▸h.place,h1▸h.inp⟩
theorem Dev.init_ok(h:l.length<=1024)(hb:u8s l):(Dev.init l).ok:=⟨init_wf h hb,u0,u0,u0,u0⟩
theorem gB_u32(h:u8s l)(a:Nat):u32 (gB l a):=by have:=kJ h a;exact⟨this.1,by omega⟩
theorem K0{d:Dev}(h:d.ok)(k count:Int):u32 (gb d k count).1.1/\(gb d k count).2.ok/\(gb d k count).2.out=d.out:=by
 have hi:=h.wf.inp;unfold gb;refine bR (λq:(Int×Bool)×Dev=>u32 q.1.1/\q.2.ok/\q.2.out=d.out) ⟨h.Wx,h,rfl⟩ ?_;refine bR (λq:(Int×Bool)×Dev=>u32 q.1.1/\q.2.ok/\q.2.out=d.out) ⟨h.mask,h,rfl⟩ ?_;refine bR (λq:(Int×Bool)×Dev=>u32 q.1.1/\q.2.ok/\q.2.out=d.out) ⟨h.timer,h,rfl⟩ ?_;refine bR (λq:(Int×Bool)×Dev=>u32 q.1.1/\q.2.ok/\q.2.out=d.out) ⟨wrap_u32 _,h,rfl⟩ ?_;refine bR (λq:(Int×Bool)×Dev=>u32 q.1.1/\q.2.ok/\q.2.out=d.out) ⟨u0,h,rfl⟩ ?_;refine bR (λq:(Int×Bool)×Dev=>u32 q.1.1/\q.2.ok/\q.2.out=d.out) ⟨u0,h,rfl⟩ ?_;refine bR (λq:(Int×Bool)×Dev=>u32 q.1.1/\q.2.ok/\q.2.out=d.out) ⟨gB_u32 h.wf.XK 0,⟨⟨λx hx=>h.wf.XK x (List.mem_of_mem_tail hx),h.wf.Ww,h.wf.Xn,h.wf.Wb,h.wf.place,by grind⟩,h.Wx,h.mask,h.timer,h.status⟩,rfl⟩ ?_
 grind [u32,jH,h.wf.Wb,h.wf.place,h.status,u0]
theorem KY(h:M.ok n){Ww:Li}(hl:Ww.length=1024)(hb:u8s Ww)(Wb a cmd:Nat):(ga n M Ww Wb a cmd).2.1.ok n/\(ga n M Ww Wb a cmd).2.2.length=1024/\u8s (ga n M Ww Wb a cmd).2.2:=by
 unfold ga;cases hk:(!mL n Wb a)with
 |true=>grind
 |false=>
  have hk':mL n Wb a=true:=by simpa using hk
  simp only[mL,Bool.not_eq_true',aS,aa,bne_eq_false_iff_eq]at hk';obtain⟨⟨h1,h2⟩,h3⟩:=hk';have hdl:=h.dl;refine iB ?_;refine bR (λq:Bool×Mem×List Int=>q.2.1.ok n/\q.2.2.length=1024/\u8s q.2.2) ⟨h.fill _ (λx hx=>hb x (bG (aB hx))) _,hl,hb⟩ ?_;refine bR (λq:Bool×Mem×List Int=>q.2.1.ok n/\q.2.2.length=1024/\u8s q.2.2) ⟨h,?_,λx hx=>?_⟩ ⟨h,hl,hb⟩
  .grind
  rcases az.1 hx with hx|hx
  .rcases az.1 hx with hx|hx
   .exact hb x (aB hx)
   exact h.db x (bG (aB hx))
  exact hb x (bG hx)
theorem Gj(hm:M.ok n){d:Dev}(h:d.ok)(k:Int){v:Nat}(hv:v<=4294967295):(cM n M d k v).2.1.ok n/\(cM n M d k v).2.2.ok/\(cM n M d k v).2.2.out.length<=d.out.length+1:=by
 have hD:=KY hm h.wf.Ww h.wf.Xn d.Wb d.place v;have hvu:=jH hv;have h0:M.ok n/\d.ok/\d.out.length<=d.out.length+1:=⟨hm,h,by omega⟩;unfold cM;refine bR (λq:Bool×Mem×Dev=>q.2.1.ok n/\q.2.2.ok/\q.2.2.out.length<=d.out.length+1) ⟨hm,⟨h.wf.re rfl rfl rfl rfl,iW .andNot d.Wx v,h.mask,h.timer,h.status⟩,Nat.le_succ _⟩ ?_;refine bR (λq:Bool×Mem×Dev=>q.2.1.ok n/\q.2.2.ok/\q.2.2.out.length<=d.out.length+1) ⟨hm,⟨h.wf.re rfl rfl rfl rfl,h.Wx,iW .and v 255,h.timer,h.status⟩,Nat.le_succ _⟩ ?_;refine bR (λq:Bool×Mem×Dev=>q.2.1.ok n/\q.2.2.ok/\q.2.2.out.length<=d.out.length+1) ⟨hm,⟨h.wf.re rfl rfl rfl rfl,h.Wx,h.mask,hvu,h.status⟩,Nat.le_succ _⟩ ?_;refine bR (λq:Bool×Mem×Dev=>q.2.1.ok n/\q.2.2.ok/\q.2.2.out.length<=d.out.length+1) ⟨hm,⟨⟨h.wf.XK,h.wf.Ww,h.wf.Xn,h.wf.Wb,h.wf.place,h.wf.inp⟩,h.Wx,h.mask,h.timer,h.status⟩,by simp⟩ ?_;refine bR (λq:Bool×Mem×Dev=>q.2.1.ok n/\q.2.2.ok/\q.2.2.out.length<=d.out.length+1) ⟨hm,⟨⟨h.wf.XK,h.wf.Ww,h.wf.Xn,hv,h.wf.place,h.wf.inp⟩,h.Wx,h.mask,h.timer,h.status⟩,Nat.le_succ _⟩ ?_;refine bR (λq:Bool×Mem×Dev=>q.2.1.ok n/\q.2.2.ok/\q.2.2.out.length<=d.out.length+1) ⟨hm,⟨⟨h.wf.XK,h.wf.Ww,h.wf.Xn,h.wf.Wb,hv,h.wf.inp⟩,h.Wx,h.mask,h.timer,h.status⟩,Nat.le_succ _⟩ ?_;refine bR (λq:Bool×Mem×Dev=>q.2.1.ok n/\q.2.2.ok/\q.2.2.out.length<=d.out.length+1) ⟨hD.1,⟨⟨h.wf.XK,hD.2.1,hD.2.2,h.wf.Wb,h.wf.place,h.wf.inp⟩,iW .or d.Wx (nT [2]),h.mask,h.timer,bR u32 u0 u1⟩,Nat.le_succ _⟩ ?_
 grind
structure Did(op:Int)(s s':St):Prop where
 wf:s'.wf
 fl:s'.flags<=15
 cnt:s'.count=s.count
 dl:s'.d.length+(ce op).1.1=s.d.length+(ce op).1.2
 dt:s'.d.take (s.d.length - (ce op).1.1)=s.d.take (s.d.length - (ce op).1.1)
 rl:s'.r.length+(ce op).2.1=s.r.length+(ce op).2.2
 rt:s'.r.take (s.r.length - (ce op).2.1)=s.r.take (s.r.length - (ce op).2.1)
theorem Did.of{s':St}{m:Li}(P X Q Y:Li)(hn:ce op=((P.length,X.length),(Q.length,Y.length)))(wf:s'.wf)(fl:s'.flags<=15)(cnt:s'.count=s.count)
  (h1:s.d=l++P) (h2:s'.d=l++X) (h3:s.r=m++Q) (h4:s'.r=m++Y):Did op s s':=by
 refine⟨wf,fl,cnt,?_,?_,?_,?_⟩
 .grind
 .grind
 .grind
 grind
theorem yy(h:s.wf){l:Li}(hl:∀x,x∈l->u32 x):(⟨s.pc,l,s.r,s.flags,s.Wf,s.Wn,s.ie,s.root,s.vec,s.epc,s.Wg,s.addr,s.Wu,s.eie,s.count,s.halted⟩:St).wf:=⟨h.pc,h.flags,h.root,h.vec,h.epc,h.Wg,h.addr,h.count,hl,h.r⟩
theorem wf_r(h:s.wf){l:Li}(hl:∀x,x∈l->u32 x):(⟨s.pc,s.d,l,s.flags,s.Wf,s.Wn,s.ie,s.root,s.vec,s.epc,s.Wg,s.addr,s.Wu,s.eie,s.count,s.halted⟩:St).wf:=⟨h.pc,h.flags,h.root,h.vec,h.epc,h.Wg,h.addr,h.count,h.d,hl⟩
theorem JD(h:s.wf){x:Int}(hx:u32 x):(⟨x,s.d,s.r,s.flags,s.Wf,s.Wn,s.ie,s.root,s.vec,s.epc,s.Wg,s.addr,s.Wu,s.eie,s.count,s.halted⟩:St).wf:=⟨hx,h.flags,h.root,h.vec,h.epc,h.Wg,h.addr,h.count,h.d,h.r⟩
theorem QW(h:s.wf){x:Int}(hx:u32 x):(⟨s.pc,s.d,s.r,x,s.Wf,s.Wn,s.ie,s.root,s.vec,s.epc,s.Wg,s.addr,s.Wu,s.eie,s.count,s.halted⟩:St).wf:=⟨h.pc,hx,h.root,h.vec,h.epc,h.Wg,h.addr,h.count,h.d,h.r⟩
variable{p:Int->Prop}
theorem Uf(h:∀x,x∈l->p x){y:Int}(hy:p y):∀x,x∈l++[y]->p x:=by grind
theorem xp{m:Li}(h:∀x,x∈l++m->p x):∀x,x∈l->p x:=by grind
theorem Lf{y:Int}(h:∀x,x∈l++[y]->p x):p y:=h y cP
theorem MU{nn:Int}{R R':Run}(hw:R.s.wf)(hf:R.s.flags<=15)(hnn:u32 nn)(h1:(ce op).1.1<=R.s.d.length)(h2:(ce op).2.1<=R.s.r.length)(h:dI op nn R=some R'):Did op R.s R'.s/\R'.Wv=R.Wv/\R'.device=R.device/\R'.count=R.count:=by
 by_cases e:op=0
 .subst e;obtain rfl:R=R':=ay h;exact⟨Did.of (l:=R.s.d) (m:=R.s.r) [] [] [] [] rfl hw hf rfl cP cP cP cP,rfl,rfl,rfl⟩
 have e0:(op==0)=false:=by simpa using e
 by_cases e:op=1
 .exact Wq320
 have e1:(op==1)=false:=by simpa using e
 by_cases e:op=2
 .exact Wq320
 have e2:(op==2)=false:=by simpa using e
 by_cases e:op=3
 .subst e;obtain⟨R,l,x,rfl⟩:=Run.snoc (show 1<=R.s.d.length from h1);rw[pv]at h;obtain rfl:=ay h;exact⟨Did.of (l:=l) (m:=R.s.r) [x] [x,x] [] [] rfl (yy hw (by grind [hw.d])) hf rfl rfl rfl cP cP,rfl,rfl,rfl⟩
 have e3:(op==3)=false:=by simpa using e
 by_cases e:op=4
 .subst e;obtain⟨R,l,x,rfl⟩:=Run.snoc (show 1<=R.s.d.length from h1);rw[nz]at h;obtain rfl:=ay h;exact⟨Did.of (l:=l) (m:=R.s.r) [x] [] [] [] rfl (yy hw (xp hw.d)) hf rfl rfl cP cP cP,rfl,rfl,rfl⟩
 have e4:(op==4)=false:=by simpa using e
 by_cases e:op=5
 .subst e;obtain⟨R,l,x,y,rfl⟩:=Run.Xa (show 2<=R.s.d.length from h1);rw[nw]at h;obtain rfl:=ay h;have hd:∀z,z∈(l++[x])++[y]->u32 z:=hw.d;exact⟨Did.of (l:=l) (m:=R.s.r) [x,y] [y,x] [] [] rfl (yy hw bY) hf rfl cP rfl cP cP,rfl,rfl,rfl⟩
 have e5:(op==5)=false:=by simpa using e
 by_cases e:op=6
 .subst e;obtain⟨R,l,x,y,rfl⟩:=Run.Xa (show 2<=R.s.d.length from h1);rw[ny]at h;obtain rfl:=ay h;have hd:∀z,z∈(l++[x])++[y]->u32 z:=hw.d;exact⟨Did.of (l:=l) (m:=R.s.r) [x,y] [x,y,x] [] [] rfl (yy hw bY) hf rfl cP rfl cP cP,rfl,rfl,rfl⟩
 have e6:(op==6)=false:=by simpa using e
 by_cases e:op=7
 .subst e;obtain⟨R,l,x,rfl⟩:=Run.snoc (show 1<=R.s.d.length from h1);rw[pu]at h;obtain rfl:=ay h;have hd:∀z,z∈l++[x]->u32 z:=hw.d;exact⟨Did.of (l:=l) (m:=R.s.r) [x] [] [] [x] rfl (wf_r (yy hw (xp hd)) (Uf hw.r (Lf hd))) hf rfl rfl cP cP rfl,rfl,rfl,rfl⟩
 have e7:(op==7)=false:=by simpa using e
 by_cases e:op=8
 .subst e;obtain⟨R,l,x,rfl⟩:=Run.snocR (show 1<=R.s.r.length from h2);rw[mn]at h;obtain rfl:=ay h;have hd:∀z,z∈l++[x]->u32 z:=hw.r;exact⟨Did.of (l:=R.s.d) (m:=l) [] [x] [x] [] rfl (yy (wf_r hw (xp hd)) (Uf hw.d (Lf hd))) hf rfl cP rfl rfl cP,rfl,rfl,rfl⟩
 grind [sR]
theorem qS(r:Int):dC r=0\/dC r=1\/dC r=2\/dC r=3:=by
 unfold dC;generalize (bits .and .u32 r 2147483648 !=0)=c1;generalize (r==0)=c2;revert c1 c2;decide
theorem sh(a b r x:Int)(c:Bool)(o:Int):0<=oa a b r (dC x) c o/\oa a b r (dC x) c o<=15:=by
 unfold oa;generalize (o !=0)=c1;rcases qS x with h|h|h|h<;>rw[h]<;>revert c c1<;>decide
theorem Tt{a:Int}(h:u32 a)(k:Nat):u32 (a.fdiv (2^k)):=by
 have hp:(0:Int)<2^k:=Int.pow_pos bX;rw[Int.fdiv_eq_ediv_of_nonneg _ (Int.le_of_lt hp)];have h1:=Int.ediv_nonneg h.1 (Int.le_of_lt hp);have h2:=Int.ediv_le_self (2^k) h.1;exact⟨h1,Int.le_trans h2 h.2⟩
def ArOk(q:Int×Int×Bool):Prop:=u32 q.1/\0<=q.2.1/\q.2.1<=15
theorem arOf_ok{r:Int}(h:u32 r):ArOk (Ub r):=by
 refine⟨h,?_⟩;show 0<=dC r/\dC r<=15
 grind [qS]
theorem arDo_ok(op:Int){a b:Int}(ha:u32 a):ArOk (jR op a b):=by
 have h0:ArOk (0,0,false):=⟨u0,by decide,by decide⟩;unfold jR;refine bR ArOk ⟨wrap_u32 _,sh a b 0 _ _ _⟩ ?_;refine bR ArOk ⟨wrap_u32 _,sh a b 0 _ _ _⟩ ?_;refine bR ArOk ⟨u0,sh a b 0 _ _ _⟩ ?_
 grind [ArOk,arOf_ok,iW,iA,u32,u0,wrap_u32,Tt]
theorem NK(h1:16<=op)(h2:op<=24):ce op=((2,1),(0,0)):=by
 obtain rfl|rfl|rfl|rfl|rfl|rfl|rfl|rfl|rfl:op=16\/op=17\/op=18\/op=19\/op=20\/op=21\/op=22\/op=23\/op=24:=by omega
 all_goals rfl
theorem Kh{nn:Int}{R:Run}(hw:R.s.wf)(hf:R.s.flags<=15)(h1:(ce op).1.1<=R.s.d.length)(h2:(ce op).2.1<=R.s.r.length)(h:(cH op nn R).1=true):Did op R.s (cH op nn R).2.s/\((cH op nn R).2.Wv=R.Wv\/(cH op nn R).2.Wv=⟨5,0⟩)/\(cH op nn R).2.device=R.device/\(cH op nn R).2.count=R.count:=by
 cases ha:(decide (16<=op)&&decide (op<=25))with
 |true=>
  have h3:=H3 ha;rw[h3]at h1;obtain⟨R,l,x,y,rfl⟩:=Run.Xa h1;have hd:∀z,z∈(l++[x])++[y]->u32 z:=hw.d;obtain⟨hv,hf0,hf1⟩:=arDo_ok op (b:=y) (Lf (xp hd));obtain⟨⟨v,fl,ok⟩,hq⟩:=Zgn (jR op x y);rw[hq]at hv hf0 hf1;have hv:u32 v:=hv;have hf0:0<=fl:=hf0;have hf1:fl<=15:=hf1;have hst:cH op nn (R.wd ((l++[x])++[y]))=(true,bif op !=25 then((bif ok then R.wd l else(R.wd l).wt ⟨5,0⟩).wfl fl).push [v]else(bif ok then R.wd l else(R.wd l).wt ⟨5,0⟩).wfl fl):=by
   simp only[cH,ha,ai,Run.top_wd,Run.pop_wd,hq]
  simp only[au,ac]at ha;have hwl:(R.wd l).s.wf:=yy hw (xp (xp hd));rw[hst];have hfu:u32 fl:=⟨hf0,by omega⟩;by_cases e:op=25
  .subst e;cases ok
   .exact⟨Did.of (l:=l) (m:=R.s.r) [x,y] [] [] [] rfl (QW hwl hfu) hf1 rfl cP cP cP cP,.inr rfl,rfl,rfl⟩
   exact⟨Did.of (l:=l) (m:=R.s.r) [x,y] [] [] [] rfl (QW hwl hfu) hf1 rfl cP cP cP cP,.inl rfl,rfl,rfl⟩
  have e':(op !=25)=true:=by simpa using e
  have hn:=NK (op:=op) Wq1 Wq1;simp only[e',ai];cases ok
  .exact⟨Did.of (l:=l) (m:=R.s.r) [x,y] [v] [] [] hn (yy (QW hwl hfu) (Uf (xp (xp hd)) hv)) hf1 rfl cP rfl cP (by simp[Run.push]),.inr rfl,rfl,rfl⟩
  exact⟨Did.of (l:=l) (m:=R.s.r) [x,y] [v] [] [] hn (yy (QW hwl hfu) (Uf (xp (xp hd)) hv)) hf1 rfl cP rfl cP (by simp[Run.push]),.inl rfl,rfl,rfl⟩
 |false=>
  have hth:u32 (jI R nn):=wrap_u32 _;by_cases e:op=38
  .subst e;exact⟨Did.of (l:=R.s.d) (m:=R.s.r) [] [] [] [R.s.pc] rfl (JD (wf_r hw (Uf hw.r hw.pc)) hth) hf rfl cP (aw _).symm cP rfl,.inl rfl,rfl,rfl⟩
  have e1:(op==38)=false:=by simpa using e
  by_cases e:op=32
  .subst e;exact⟨Did.of (l:=R.s.d) (m:=R.s.r) [] [] [] [] rfl (JD hw hth) hf rfl cP (aw _).symm cP (aw _).symm,.inl rfl,rfl,rfl⟩
  have e2:(op==32)=false:=by simpa using e
  by_cases e:op=39
  .subst e;obtain⟨R,l,x,rfl⟩:=Run.snocR (show 1<=R.s.r.length from h2);have hst:cH 39 nn (R.wr (l++[x]))=(true,(R.wr l).wpc x):=by show(_,_)=_;rw[Run.popR_wr,Run.topR_wr]
   rw[hst];have hd:∀z,z∈l++[x]->u32 z:=hw.r;exact⟨Did.of (l:=R.s.d) (m:=l) [] [] [x] [] rfl (JD (wf_r hw (xp hd)) (Lf hd)) hf rfl cP cP rfl cP,.inl rfl,rfl,rfl⟩
  have e3:(op==39)=false:=by simpa using e
  by_cases e:op=40
  .subst e;obtain⟨R,l,x,rfl⟩:=Run.snoc (show 1<=R.s.d.length from h1);have hst:cH 40 nn (R.wd (l++[x]))=(true,(R.wd l).wpc x):=by show(_,_)=_;rw[Run.pop_wd,Run.top_wd]
   rw[hst];have hd:∀z,z∈l++[x]->u32 z:=hw.d;exact⟨Did.of (l:=l) (m:=R.s.r) [x] [] [] [] rfl (JD (yy hw (xp hd)) (Lf hd)) hf rfl rfl cP cP cP,.inl rfl,rfl,rfl⟩
  have e4:(op==40)=false:=by simpa using e
  have hst:cH op nn R=((dw op R.s.flags).2,bif(dw op R.s.flags).1 then R.wpc (jI R nn)else R):=by simp only[cH, *,ai,ah]
  rw[hst]at h|-;have hn:ce op=((0,0),(0,0)):=by
   have h:(dw op R.s.flags).2=true:=h;by_cases e:op=33
   .subst e;rfl
   by_cases e':op=34
   .subst e';rfl
   by_cases e'':op=35
   .subst e'';rfl
   by_cases e5:op=36
   .subst e5;rfl
   by_cases e6:op=37
   .subst e6;rfl
   have b1:(op==33)=false:=by simpa using e
   have b2:(op==34)=false:=by simpa using e'
   have b3:(op==35)=false:=by simpa using e''
   have b4:(op==36)=false:=by simpa using e5
   have b5:(op==37)=false:=by simpa using e6
   unfold dw at h;rw[b1,b2,b3,b4,b5]at h;cases h
  cases(dw op R.s.flags).1
  .exact⟨Did.of (l:=R.s.d) (m:=R.s.r) [] [] [] [] hn hw hf rfl cP (aw _).symm cP (aw _).symm,.inl rfl,rfl,rfl⟩
  exact⟨Did.of (l:=R.s.d) (m:=R.s.r) [] [] [] [] hn (JD hw hth) hf rfl cP (aw _).symm cP (aw _).symm,.inl rfl,rfl,rfl⟩
structure xG(n:Nat)(op:Int)(s:St)(d:Dev)(m:gi):Prop where
 u:UOk n m.u
 dv:m.d.ok
 o:m.d.out.length<=d.out.length+1
 t:TrU m.r.Wv
 did:m.r.Wv.Wg=0->Did op s m.r.s
theorem u9(h:UOk n U)(R:Run)(va:Nat)(kind:Int):UOk n (cJ n R U va kind).u:=by
 grind [cJ,pz]
theorem yx(n:Nat)(R:Run)(U:Mmu)(va:Nat)(hva:va<=4294967295)(kind:Int):TrU (cJ n R U va kind).r.Wv:=by
 grind [cJ,TrU,jH,rZ]
theorem p7(n:Nat)(R:Run)(U:Mmu)(va:Nat)(kind:Int):(cJ n R U va kind).ok=((cJ n R U va kind).r.Wv.Wg==0):=by
 grind [cJ]
theorem get_u32(h:s.wf)(reg:Int):u32 (s.get reg).1:=by
 have hb:∀b,u32 (b2i b):=λb=>by cases b;exact u0;exact u1
 unfold St.get;refine bR (λq:Int×Bool=>u32 q.1) (hb _) ?_;refine bR (λq:Int×Bool=>u32 q.1) (hb _) ?_
 grind [u32,h.root,h.vec,h.epc,h.Wg,h.addr,wrap_u32,h.flags,u0]
def Cb(s:St)(q:St×Bool):Prop:=q.1.wf/\q.1.flags<=15/\q.1.count=s.count
theorem set_wf(h:s.wf)(hf:s.flags<=15)(reg:Int){v:Int}(hv:u32 v):Cb s (s.set reg v):=by
 have h0:Cb s (s,false):=⟨h,hf,rfl⟩;unfold St.set;refine UW ?_;refine UW ?_;refine bR (Cb s) ⟨⟨h.pc,h.flags,iW .andNot v 63,h.vec,h.epc,h.Wg,h.addr,h.count,h.d,h.r⟩,hf,rfl⟩ ?_;refine bR (Cb s) ⟨⟨h.pc,h.flags,h.root,hv,h.epc,h.Wg,h.addr,h.count,h.d,h.r⟩,hf,rfl⟩ ?_;refine bR (Cb s) ⟨⟨h.pc,h.flags,h.root,h.vec,hv,h.Wg,h.addr,h.count,h.d,h.r⟩,hf,rfl⟩ ?_;refine bR (Cb s) ⟨⟨h.pc,h.flags,h.root,h.vec,h.epc,hv,h.addr,h.count,h.d,h.r⟩,hf,rfl⟩ ?_;refine bR (Cb s) ⟨⟨h.pc,h.flags,h.root,h.vec,h.epc,h.Wg,hv,h.count,h.d,h.r⟩,hf,rfl⟩ ?_;refine UW ?_;refine UW ?_;refine bR (Cb s) ⟨⟨h.pc,iW .and v 15,h.root,h.vec,h.epc,h.Wg,h.addr,h.count,h.d,h.r⟩,?_,rfl⟩ h0
 grind [bits,Qc]
section
variable {n:Nat} {op nn:Int} {R:Run} {U:Mmu} {d:Dev}
theorem KD(hop:op=48){l:Li}{va:Nat}(hva:va<=4294967295)(hw:(R.wd (l++[(va:Int)])).s.wf)(hf:R.s.flags<=15)(hU:UOk n U)(hd:d.ok):xG n op (R.wd (l++[(va:Int)])).s d (jZ n (R.wd l) U d va):=by
 subst hop;have hu:=u9 hU (R.wd l) va 2;have ht:=yx n (R.wd l) U va hva 2;have hs:=u7 n (R.wd l) U va 2;have hc:=p7 n (R.wd l) U va 2;have hwl:(R.wd l).s.wf:=yy hw (xp hw.d);unfold jZ;obtain⟨⟨p,ok,r,u⟩,hq⟩:=Zgn (cJ n (R.wd l) U va 2);rw[hq]at hu ht hs hc|-;have hu:UOk n u:=hu;have ht:TrU r.Wv:=ht;have hs:r.s=(R.wd l).s:=hs;have hc:ok=(r.Wv.Wg==0):=hc;have key:∀(v:Int) (o:Bool) (d':Dev),u32 v->d'.ok->d'.out.length<=d.out.length+1->xG n 48 (R.wd (l++[(va:Int)])).s d (s7 ⟨p,ok,r,u⟩ d' va v o):=λv o d' hv hd' ho'=>by
  unfold s7;cases o with
  |false=>exact⟨hu,hd',ho',(tr10 (jH hva)),λh=>by cases h⟩
  |true=>
   refine⟨hu,hd',ho',ht,λ_=>?_⟩;have e:(Run.push r [v]).s=(R.wd (l++[v])).s:=by
    show St.mk _ _ _ _ _ _ _ _ _ _ _ _ _ _ _ _=_;rw[hs]
   show Did 48 _ (Run.push r [v]).s;rw[e];exact Did.of (l:=l) (m:=R.s.r) [(va:Int)] [v] [] [] rfl (yy hwl (Uf (xp hw.d) hv)) hf rfl rfl rfl cP cP
 cases hok:ok with
 |false=>
  rw[hok]at hc;exact⟨hu,hd,Nat.le_succ _,ht,λh=>by grind⟩
 |true=>
  rw[hok]at key;simp only[Bool.not_true,ah];refine bR (xG n 48 (R.wd (l++[(va:Int)])).s d) ?_ ?_
  .grind [K0,yf]
  refine key _ _ _ ?_ hd (Nat.le_succ _);unfold u5;exact bR (λq:Int×Bool=>u32 q.1) (yv hu.m.db _) u0
theorem JT(hop:op=49){l:Li}{va v:Nat}(hva:va<=4294967295)(hv:v<=4294967295)(hw:(R.wd ((l++[(v:Int)])++[(va:Int)])).s.wf)(hf:R.s.flags<=15)(hU:UOk n U)(hd:d.ok):xG n op (R.wd ((l++[(v:Int)])++[(va:Int)])).s d (jY n (R.wd l) U d va v):=by
 subst hop;have hu:=u9 hU (R.wd l) va 3;have ht:=yx n (R.wd l) U va hva 3;have hs:=u7 n (R.wd l) U va 3;have hc:=p7 n (R.wd l) U va 3;have hdd:∀z,z∈(l++[(v:Int)])++[(va:Int)]->u32 z:=hw.d;have hwl:(R.wd l).s.wf:=yy hw (xp (xp hdd));unfold jY;obtain⟨⟨p,ok,r,u⟩,hq⟩:=Zgn (cJ n (R.wd l) U va 3);rw[hq]at hu ht hs hc|-;have hu:UOk n u:=hu;have ht:TrU r.Wv:=ht;have hs:r.s=(R.wd l).s:=hs;have hc:ok=(r.Wv.Wg==0):=hc;have hdid:Did 49 (R.wd ((l++[(v:Int)])++[(va:Int)])).s r.s:=by
  rw[hs];exact Did.of (l:=l) (m:=R.s.r) [(v:Int),(va:Int)] [] [] [] rfl hwl hf rfl cP cP cP cP
 cases hok:ok with
 |false=>
  rw[hok]at hc;exact⟨hu,hd,Nat.le_succ _,ht,λh=>by grind⟩
 |true=>
  simp only[Bool.not_true,ah];refine bR (xG n 49 (R.wd ((l++[(v:Int)])++[(va:Int)])).s d) ?_ ?_
  .obtain⟨h1,h2,h3⟩:=Gj hu.m hd (yf p.toNat) hv;obtain⟨⟨o,M',d'⟩,hq2⟩:=Zgn (cM n u.m d (yf p.toNat) v);rw[hq2]at h1 h2 h3;rw[hq2];cases o with
   |false=>exact⟨⟨h1,hu.t⟩,h2,h3,(tr10 (jH hva)),λh=>by cases h⟩
   |true=>exact⟨⟨h1,hu.t⟩,h2,h3,ht,λ_=>hdid⟩
  exact⟨⟨hu.m.Xg _ _ 4,hu.t⟩,hd,Nat.le_succ _,ht,λ_=>hdid⟩
theorem vK(hn:ce op=((1,1),(0,0))){l:Li}{va k:Nat}(hva:va<=4294967295)(hk:k<=4)(hw:(R.wd (l++[(va:Int)])).s.wf)(hf:R.s.flags<=15)(hU:UOk n U)(hd:d.ok):xG n op (R.wd (l++[(va:Int)])).s d (gi.of (nC n (R.wd l) U va k) d):=by
 have hwl:(R.wd l).s.wf:=yy hw (xp hw.d);have hv:=KE hU (R.wd l).sp va hk;exact⟨rF hU _ _ _ _,hd,Nat.le_succ _,CF n U _ va k hva 2,λ_=>Did.of (l:=l) (m:=R.s.r) [(va:Int)] [_] [] [] hn (yy hwl (Uf (xp hw.d) hv)) hf rfl rfl rfl cP (by simp[nC,Run.push])⟩
theorem vJ(hn:ce op=((2,0),(0,0))){l:Li}{v:Int}{va k:Nat}(hva:va<=4294967295)(hw:(R.wd ((l++[v])++[(va:Int)])).s.wf)(hf:R.s.flags<=15)(hU:UOk n U)(hd:d.ok):xG n op (R.wd ((l++[v])++[(va:Int)])).s d (gi.of (m6 n (R.wd l) U va k v) d):=by
 have hdd:∀z,z∈(l++[v])++[(va:Int)]->u32 z:=hw.d;have hwl:(R.wd l).s.wf:=yy hw (xp (xp hdd));exact⟨Fa hU _ _ _ _,hd,Nat.le_succ _,CF n U _ va k hva 3,λ_=>Did.of (l:=l) (m:=R.s.r) [v,(va:Int)] [] [] [] hn hwl hf rfl cP (by simp[m6]) cP (by simp[m6])⟩
theorem yD:fI.length=16:=aI
theorem Fz(hw:R.s.wf)(hf:R.s.flags<=15)(hc:0<=R.count/\R.count<=18446744073709551615)(ht:R.Wv=Tr.none)(hU:UOk n U)(hd:d.ok)(hnn:u32 nn)(h1:(ce op).1.1<=R.s.d.length)(hst:dI op nn R=none)(hrk:(cH op nn R).1=false):xG n op R.s d (dK n op nn ⟨R,U,d⟩):=by
 have ht':TrU R.Wv:=by rw[ht];exact trN
 have h0:∀{op},ce op=((0,0),(0,0))->∀(s':St),s'.wf->s'.flags<=15->s'.count=R.s.count->s'.d=R.s.d->s'.r=R.s.r->Did op R.s s':=λhn s' a1 a2 a3 a4 a5=>
  Did.of (l:=R.s.d) (m:=R.s.r) [] [] [] [] hn a1 a2 a3 cP (by simp[a4]) cP (by simp[a5])
 by_cases e:op=48
 .subst e;obtain⟨R,l,x,rfl⟩:=Run.snoc (show 1<=R.s.d.length from h1);have hx:=Lf (l:=l) hw.d;obtain⟨va,rfl⟩:∃va:Nat,x=va:=ao hx.1;have hva:va<=4294967295:=by have:(va:Int)<=_:=hx.2;omega
  have he:dK n 48 nn ⟨R.wd (l++[(va:Int)]),U,d⟩=jZ n (R.wd l) U d va:=by show jZ _ _ _ _ _=_;rw[Run.pop_wd,Run.top_wd];rfl
  grind [KD]
 have e48:(op==48)=false:=by simpa using e
 by_cases e:op=49
 .subst e;obtain⟨R,l,y,x,rfl⟩:=Run.Xa (show 2<=R.s.d.length from h1);have hx:=Lf (l:=l++[y]) hw.d;have hy:=Lf (l:=l) (xp (l:=l++[y]) hw.d);obtain⟨va,rfl⟩:∃va:Nat,x=va:=ao hx.1;obtain⟨v,rfl⟩:∃v:Nat,y=v:=ao hy.1;have hva:va<=4294967295:=by have:(va:Int)<=_:=hx.2;omega
  have hv:v<=4294967295:=by have:(v:Int)<=_:=hy.2;omega
  have he:dK n 49 nn ⟨R.wd ((l++[(v:Int)])++[(va:Int)]),U,d⟩=jY n (R.wd l) U d va v:=by show jY _ _ _ _ _ _=_;rw[Run.pop_wd,Run.top_wd,Run.pop_wd,Run.top_wd];rfl
  grind [JT]
 have e49:(op==49)=false:=by simpa using e
 by_cases e:op=50
 .subst e;obtain⟨R,l,x,rfl⟩:=Run.snoc (show 1<=R.s.d.length from h1);have hx:=Lf (l:=l) hw.d;obtain⟨va,rfl⟩:∃va:Nat,x=va:=ao hx.1;have hva:va<=4294967295:=by have:(va:Int)<=_:=hx.2;omega
  have he:dK n 50 nn ⟨R.wd (l++[(va:Int)]),U,d⟩=gi.of (nC n (R.wd l) U va 4) d:=by show gi.of (nC _ _ _ _ _) _=_;rw[Run.pop_wd,Run.top_wd];rfl
  rw[he];exact vK rfl hva bX hw hf hU hd
 have e50:(op==50)=false:=by simpa using e
 by_cases e:op=51
 .subst e;obtain⟨R,l,y,x,rfl⟩:=Run.Xa (show 2<=R.s.d.length from h1);have hx:=Lf (l:=l++[y]) hw.d;obtain⟨va,rfl⟩:∃va:Nat,x=va:=ao hx.1;have hva:va<=4294967295:=by have:(va:Int)<=_:=hx.2;omega
  have he:dK n 51 nn ⟨R.wd ((l++[y])++[(va:Int)]),U,d⟩=gi.of (m6 n (R.wd l) U va 4 y) d:=by show gi.of (m6 _ _ _ _ _ _) _=_;rw[Run.pop_wd,Run.top_wd,Run.pop_wd,Run.top_wd];rfl
  rw[he];exact vJ rfl hva hw hf hU hd
 have e51:(op==51)=false:=by simpa using e
 by_cases e:op=52
 .subst e;obtain⟨R,l,x,rfl⟩:=Run.snoc (show 1<=R.s.d.length from h1);have hx:=Lf (l:=l) hw.d;obtain⟨va,rfl⟩:∃va:Nat,x=va:=ao hx.1;have hva:va<=4294967295:=by have:(va:Int)<=_:=hx.2;omega
  have he:dK n 52 nn ⟨R.wd (l++[(va:Int)]),U,d⟩=gi.of (nC n (R.wd l) U va 1) d:=by show gi.of (nC _ _ _ _ _) _=_;rw[Run.pop_wd,Run.top_wd];rfl
  rw[he];exact vK rfl hva bX hw hf hU hd
 have e52:(op==52)=false:=by simpa using e
 by_cases e:op=53
 .subst e;obtain⟨R,l,y,x,rfl⟩:=Run.Xa (show 2<=R.s.d.length from h1);have hx:=Lf (l:=l++[y]) hw.d;obtain⟨va,rfl⟩:∃va:Nat,x=va:=ao hx.1;have hva:va<=4294967295:=by have:(va:Int)<=_:=hx.2;omega
  have he:dK n 53 nn ⟨R.wd ((l++[y])++[(va:Int)]),U,d⟩=gi.of (m6 n (R.wd l) U va 1 y) d:=by show gi.of (m6 _ _ _ _ _ _) _=_;rw[Run.pop_wd,Run.top_wd,Run.pop_wd,Run.top_wd];rfl
  rw[he];exact vJ rfl hva hw hf hU hd
 have e53:(op==53)=false:=by simpa using e
 by_cases e:op=64
 .subst e;exact⟨hU,hd,Nat.le_succ _,tr11,λh=>by cases h⟩
 have e64:(op==64)=false:=by simpa using e
 by_cases e:op=65
 .subst e;exact⟨hU,hd,Nat.le_succ _,ht',λ_=>h0 rfl R.s.back ⟨hw.epc,hw.flags,hw.root,hw.vec,hw.epc,hw.Wg,hw.addr,hw.count,hw.d,hw.r⟩ hf rfl rfl rfl⟩
 have e65:(op==65)=false:=by simpa using e
 by_cases e:op=66
 .subst e;have hwc:(R.s.W6 R.count).wf:=⟨hw.pc,hw.flags,hw.root,hw.vec,hw.epc,hw.Wg,hw.addr,hc,hw.d,hw.r⟩;exact⟨hU,hd,Nat.le_succ _,ht',λ_=>Did.of (l:=R.s.d) (m:=R.s.r) [] [((R.s.W6 R.count).get nn).1] [] [] rfl (yy hw (Uf hw.d (get_u32 hwc nn))) hf rfl cP rfl cP (aw _).symm⟩
 have e66:(op==66)=false:=by simpa using e
 by_cases e:op=67
 .subst e;obtain⟨R,l,x,rfl⟩:=Run.snoc (show 1<=R.s.d.length from h1);have hwl:(R.wd l).s.wf:=yy hw (xp (l:=l) hw.d);have hs:=set_wf hwl hf nn (Lf (l:=l) hw.d);obtain⟨q1,q2⟩:=St.set_dr (R.wd l).s nn x;have he:dK n 67 nn ⟨R.wd (l++[x]),U,d⟩=⟨(R.wd l).ws ((R.wd l).s.set nn x).1,bif nn==1||nn==2 then⟨U.m,fI⟩else U,d⟩:=by show gi.mk _ _ _=_;rw[Run.pop_wd,Run.top_wd]
  rw[he];exact⟨bR (UOk n) ⟨hU.m,yD⟩ hU,hd,Nat.le_succ _,ht',λ_=>Did.of (l:=l) (m:=R.s.r) [x] [] [] [] rfl hs.1 hs.2.1 hs.2.2 rfl bY cP bY⟩
 have e67:(op==67)=false:=by simpa using e
 by_cases e:op=68
 .subst e;obtain⟨R,l,x,rfl⟩:=Run.snoc (show 1<=R.s.d.length from h1);have he:dK n 68 nn ⟨R.wd (l++[x]),U,d⟩=⟨R.wd l,⟨U.m,xP U.t x.toNat⟩,d⟩:=by show gi.mk _ _ _=_;rw[Run.pop_wd,Run.top_wd]
  rw[he];exact⟨⟨hU.m,(MI _ _).trans hU.t⟩,hd,Nat.le_succ _,ht',λ_=>Did.of (l:=l) (m:=R.s.r) [x] [] [] [] rfl (yy hw (xp (l:=l) hw.d)) hf rfl rfl cP cP cP⟩
 have e68:(op==68)=false:=by simpa using e
 by_cases e:op=69
 .subst e;exact⟨hU,hd,Nat.le_succ _,ht',λ_=>h0 rfl R.s.halt ⟨hw.pc,hw.flags,hw.root,hw.vec,hw.epc,hw.Wg,hw.addr,hw.count,hw.d,hw.r⟩ hf rfl rfl rfl⟩
 have e69:(op==69)=false:=by simpa using e
 have he:dK n op nn ⟨R,U,d⟩=⟨R,U,d⟩:=by simp only[dK, *,ah]
 have hn:ce op=((0,0),(0,0)):=by
  have n1:(op==1)=false:=by cases h:(op==1)with|false=>rfl|true=>(have:=kP h;subst this;cases hst)
  have n2:(op==2)=false:=by cases h:(op==2)with|false=>rfl|true=>(have:=kP h;subst this;cases hst)
  have n3:(op==3)=false:=by cases h:(op==3)with|false=>rfl|true=>(have:=kP h;subst this;cases hst)
  have n4:(op==4)=false:=by cases h:(op==4)with|false=>rfl|true=>(have:=kP h;subst this;cases hst)
  have n5:(op==5)=false:=by cases h:(op==5)with|false=>rfl|true=>(have:=kP h;subst this;cases hst)
  have n6:(op==6)=false:=by cases h:(op==6)with|false=>rfl|true=>(have:=kP h;subst this;cases hst)
  have n7:(op==7)=false:=by cases h:(op==7)with|false=>rfl|true=>(have:=kP h;subst this;cases hst)
  have n8:(op==8)=false:=by cases h:(op==8)with|false=>rfl|true=>(have:=kP h;subst this;cases hst)
  have n16:(op==16)=false:=by cases h:(op==16)with|false=>rfl|true=>(have:=kP h;subst this;cases hrk)
  have n17:(op==17)=false:=by cases h:(op==17)with|false=>rfl|true=>(have:=kP h;subst this;cases hrk)
  have n18:(op==18)=false:=by cases h:(op==18)with|false=>rfl|true=>(have:=kP h;subst this;cases hrk)
  have n19:(op==19)=false:=by cases h:(op==19)with|false=>rfl|true=>(have:=kP h;subst this;cases hrk)
  have n20:(op==20)=false:=by cases h:(op==20)with|false=>rfl|true=>(have:=kP h;subst this;cases hrk)
  have n21:(op==21)=false:=by cases h:(op==21)with|false=>rfl|true=>(have:=kP h;subst this;cases hrk)
  have n22:(op==22)=false:=by cases h:(op==22)with|false=>rfl|true=>(have:=kP h;subst this;cases hrk)
  have n23:(op==23)=false:=by cases h:(op==23)with|false=>rfl|true=>(have:=kP h;subst this;cases hrk)
  have n24:(op==24)=false:=by cases h:(op==24)with|false=>rfl|true=>(have:=kP h;subst this;cases hrk)
  have n25:(op==25)=false:=by cases h:(op==25)with|false=>rfl|true=>(have:=kP h;subst this;cases hrk)
  have n38:(op==38)=false:=by cases h:(op==38)with|false=>rfl|true=>(have:=kP h;subst this;cases hrk)
  have n39:(op==39)=false:=by cases h:(op==39)with|false=>rfl|true=>(have:=kP h;subst this;cases hrk)
  have n40:(op==40)=false:=by cases h:(op==40)with|false=>rfl|true=>(have:=kP h;subst this;cases hrk)
  unfold ce;simp only[*,ah]
 rw[he];exact⟨hU,hd,Nat.le_succ _,ht',λ_=>h0 hn R.s hw hf rfl rfl rfl⟩
theorem FE(h:s.wf):s.next.wf:=by
 refine⟨h.pc,h.flags,h.root,h.vec,h.epc,h.Wg,h.addr,?_,h.d,h.r⟩
 grind [IntKind.wrap_u64]
theorem Mt(h:s.wf)(c:Int){a:Int}(ha:u32 a):(s.Wv c a).wf:=⟨h.vec,h.flags,h.root,h.vec,h.pc,wrap_u32 _,ha,h.count,h.d,h.r⟩
theorem NR(hw:s.wf)(hr:s.right=true)(hnn:u32 nn)(hck:gc s op nn=0)(hU:UOk n U)(hd:d.ok):xG n op s.next d (pB n s op nn U d):=by
 obtain⟨h16,r16,f15⟩:=St.fits hr;obtain⟨n1,n2⟩:=oh hck;have hwn:=FE hw
 have hw0:(eW s op).s.wf:=JD hwn (wrap_u32 _);have key:∀{m:gi},xG n op (eW s op).s d m->xG n op s.next d m:=λh=>⟨h.u,h.dv,h.o,h.t,λhc=>by
  have h1:=h.did hc;exact⟨h1.wf,h1.fl,h1.cnt,h1.dl,h1.dt,h1.rl,h1.rt⟩⟩
 unfold pB;cases hst:dI op nn (eW s op)with
 |some R'=>
  obtain⟨h1,h2, -, -⟩:=MU hw0 f15 hnn n1 n2 hst;exact key ⟨hU,hd,Nat.le_succ _,by show TrU R'.Wv;rw[h2];exact trN,λ_=>h1⟩
 |none=>
  cases hrk:(cH op nn (eW s op)).1 with
  |true=>
   obtain⟨h1,h2, -, -⟩:=Kh hw0 f15 n1 n2 hrk;refine key ⟨hU,hd,Nat.le_succ _,?_,λ_=>h1⟩
   grind [TrU,cH,eW,trN,u0]
  |false=>
   refine iB ?_;rw[qs op nn _ hrk];exact key (Fz hw0 f15 hw.count rfl hU hd hnn n1 hst hrk)
structure Goes(n:Nat)(s:St)(d:Dev)(q:Res×Mmu×Dev):Prop where
 wf:q.1.s.wf
 right:q.1.s.right=true
 cnt:q.1.s.count=IntKind.u64.wrap (s.count+1)
 u:UOk n q.2.1
 dv:q.2.2.ok
 o:q.2.2.out.length<=d.out.length+1
theorem FH(h:sY s q=0):(s.d.length:Int) - q.1.1+q.1.2<=16/\(s.r.length:Int) - q.2.1+q.2.2<=16:=by
 grind [sY]
theorem Em{n:Int}(h:gc s op n=0):(s.d.length:Int) - (ce op).1.1+(ce op).1.2<=16/\(s.r.length:Int) - (ce op).2.1+(ce op).2.2<=16:=by
 unfold gc at h;revert h;refine Wq83 ?_;refine Wq83 ?_;exact FH
theorem PH{s':St}(h:Did op s s')(hs:s.d.length<=16/\s.r.length<=16)(hn:(ce op).1.1<=s.d.length/\(ce op).2.1<=s.r.length)(hr:(s.d.length:Int) - (ce op).1.1+(ce op).1.2<=16/\(s.r.length:Int) - (ce op).2.1+(ce op).2.2<=16):s'.right=true:=by
 grind [h.dl,h.rl,h.fl,St.right]
theorem wN(hw:s.wf)(hr:s.right=true)(hnn:u32 nn)(hU:UOk n U)(hd:d.ok):Goes n s d (wO n s op nn U d):=by
 have hU':UOk n ⟨U.m.calm,U.t⟩:=⟨hU.m.calm,hU.t⟩;have hfit:=St.fits hr;unfold wO;rw[hr];simp only[Bool.not_true,ah];cases hck:(gc s op nn !=0)with
 |true=>exact⟨Mt (FE hw) _ u0,hr,rfl,hU',hd,Nat.le_succ _⟩
 |false=>
  have hck0:gc s op nn=0:=by simpa using hck
  have hA:=NR (n:=n) hw hr hnn hck0 hU' hd;refine iB ?_;obtain⟨m,hm⟩:=Zgn (pB n s op nn ⟨U.m.calm,U.t⟩ d);rw[hm]at hA|-;unfold KW;cases hc:(m.r.Wv.Wg !=0)with
  |true=>exact⟨Mt (FE hw) _ hA.t.1,hr,rfl,hA.u,hA.dv,hA.o⟩
  |false=>
   have h1:=hA.did bY;have c1:=oh hck0;have c2:=Em hck0;exact⟨h1.wf,PH h1 ⟨hfit.1,hfit.2.1⟩ c1 c2,h1.cnt,hA.u,hA.dv,hA.o⟩
end
end
end Go.Ink
