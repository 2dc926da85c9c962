/- Lemmas. -/
import Derived.Test.YtbkgmdgackknfaaGreatDoorPag
set_option linter.unusedSimpArgs false
set_option linter.unusedVariables false
set_option maxRecDepth 100000
set_option maxHeartbeats 4000000
namespace Go.Ink
open Go.RowKit Go.Proofs.Tryz
abbrev fM.of(p:Run×Mmu)(d:Dev):fM:=⟨p.1,p.2,d⟩
abbrev Run.ws(R:Run)(s:St):Run:=⟨s,R.count,R.R8,R.device⟩
abbrev St.SE(s:St)(c:Int):St:=⟨s.pc,s.d,s.r,s.flags,s.RM,s.RW,s.ie,s.root,s.vec,s.epc,s.RN,s.addr,s.Sa,s.eie,c,s.halted⟩
abbrev St.halt(s:St):St:=⟨s.pc,s.d,s.r,s.flags,s.RM,s.RW,s.ie,s.root,s.vec,s.epc,s.RN,s.addr,s.Sa,s.eie,s.count,true⟩
def dD(n:Nat)(op nn:Int)(m:fM):fM:=
 bif op==48 then jO n m.r.pop m.u m.d m.r.top.toNat else
 bif op==49 then jL n m.r.pop.pop m.u m.d m.r.top.toNat m.r.pop.top.toNat else
 bif op==50 then fM.of (nc n m.r.pop m.u m.r.top.toNat 4) m.d else
 bif op==51 then fM.of (mL n m.r.pop.pop m.u m.r.top.toNat 4 m.r.pop.top) m.d else
 bif op==52 then fM.of (nc n m.r.pop m.u m.r.top.toNat 1) m.d else
 bif op==53 then fM.of (mL n m.r.pop.pop m.u m.r.top.toNat 1 m.r.pop.top) m.d else
 bif op==64 then⟨m.r.wt ⟨11,0⟩,m.u,m.d⟩else
 bif op==65 then⟨m.r.ws m.r.s.back,m.u,m.d⟩else
 bif op==66 then⟨m.r.push [((m.r.s.SE m.r.count).get nn).1],m.u,m.d⟩else
 bif op==67 then⟨m.r.pop.ws (m.r.pop.s.set nn m.r.top).1,bif nn==1||nn==2 then⟨m.u.m,eB⟩else m.u,m.d⟩else
 bif op==68 then⟨m.r.pop,⟨m.u.m,wV m.u.t m.r.top.toNat⟩,m.d⟩else
 bif op==69 then⟨m.r.ws m.r.s.halt,m.u,m.d⟩else m
theorem St.set_dr(s:St)(reg v:Int):(s.set reg v).1.d=s.d/\(s.set reg v).1.r=s.r:=by
 unfold St.set
 repeat (refine bI (λq:St×Bool=>q.1.d=s.d/\q.1.r=s.r) ⟨rfl,rfl⟩ ?_)
 grind
section
attribute [local irreducible] OpY bH
theorem J1(br bu bb:Nat)(L:eA)(D:rp)(X:j0)(Y:nS)(R:Run)(U:Mmu)(d:Dev)(op nn:Int)(hnn:u32 nn)(hw:∀x,x∈R.s.d->u32 x)(hdl:R.s.d.length<=100000)(hrl:R.s.r.length<=100000)(hn:(bO op).1.1<=R.s.d.length)(hT:U.t.length=16)(hroot:u32 R.s.root)(hd:d.wf)(ho:d.out.length<=1000000000)
  (w:World) (hi:Inv w (bD (mK br bu bb L D X Y ⟨R,U,d⟩)) (mK br bu bb L D X Y ⟨R,U,d⟩) w):
  Ctr prog 171 [.p br,.agg #[.i op,.w nn]] w (mK br bu bb L D X Y ⟨R,U,d⟩) (λv cs=>∃X' Y',v= .tuple #[]/\cs=mK br bu bb L D X' Y' (dD L.n op nn ⟨R,U,d⟩)):=by
 have hu1:=hnn.1;have hu2:=hnn.2;refine Zfn func171 ntmps171 hi ?_;refine Z_2 ?_;refine ZO λb3=>?_;refine sx ?_;refine ZW ?_ ?_<;>intro hc2
 .obtain rfl:=jZ hc2;obtain⟨R,l,x,rfl⟩:=Run.snoc (show 1<=R.s.d.length from hn);obtain⟨hx1,hx2⟩:=hw x cH;obtain⟨va,rfl⟩:∃va:Nat,x=va:=ap hx1;have hva:va<=4294967295:=Wq1;have hll:l.length<=100000:=bR;have HC:=lode_ok br bu bb L D X Y R U d l va hva hll hT hroot hd;have hst:dD L.n 48 nn ⟨R.wd (l++[(va:Int)]),U,d⟩=jO L.n (R.wd l) U d va:=(by show jO _ _ _ _ _=_;simp_all);obtain⟨m',hm'⟩:∃m',jO L.n (R.wd l) U d va=m':=⟨_,rfl⟩;rw[hm']at HC;rw[hm']at hst;refine Z_2 ?_;refine dz (mK br bu bb L D X Y ⟨R.wd (l++[(va:Int)]),U,d⟩) (λw hi hin=>HC w hin) ?_;rintro _ _ ⟨X',Y',rfl,rfl⟩;refine Z_2 ?_;refine bG (mK br bu bb L D X' Y' m') Zj (Wq5 ?_);rw[hst];exact⟨X',Y',rfl,rfl⟩
 refine Zw6 ?_ ?_<;>intro hc4
 .obtain rfl:=jZ hc4;obtain⟨R,l,y,x,rfl⟩:=Run.SJ (show 2<=R.s.d.length from hn);obtain⟨hx1,hx2⟩:=hw x cH;obtain⟨hy1,hy2⟩:=hw y cH;obtain⟨va,rfl⟩:∃va:Nat,x=va:=ap hx1;obtain⟨v,rfl⟩:∃v:Nat,y=v:=ap hy1;have hva:va<=4294967295:=Wq1;have hv:v<=4294967295:=Wq1;have hll:l.length<=100000:=bR;have HC:=stow_ok br bu bb L D X Y R U d l va v hva hv hT hroot hd ho;have hst:dD L.n 49 nn ⟨R.wd ((l++[(v:Int)])++[(va:Int)]),U,d⟩=jL L.n (R.wd l) U d va v:=(by show jL _ _ _ _ _ _=_;rw[Run.pop_wd,Run.top_wd,Run.pop_wd,Run.top_wd];rfl);obtain⟨m',hm'⟩:∃m',jL L.n (R.wd l) U d va v=m':=⟨_,rfl⟩;rw[hm']at HC;rw[hm']at hst;refine Z_2 ?_;refine dz (mK br bu bb L D X Y ⟨R.wd ((l++[(v:Int)])++[(va:Int)]),U,d⟩) (λw hi hin=>HC w hin) ?_;rintro _ _ ⟨Y',rfl,rfl⟩;refine Z_2 ?_;refine bG (mK br bu bb L D X Y' m') Zj (Wq5 ?_);rw[hst];exact⟨X,Y',rfl,rfl⟩
 refine Zw6 ?_ ?_<;>intro hc6
 .obtain rfl:=jZ hc6;obtain⟨R,l,x,rfl⟩:=Run.snoc (show 1<=R.s.d.length from hn);obtain⟨hx1,hx2⟩:=hw x cH;obtain⟨va,rfl⟩:∃va:Nat,x=va:=ap hx1;have hva:va<=4294967295:=Wq1;have hll:l.length<=100000:=bR;have HC:=Fa br bu bb L D X R U l va 4 hva Wq7 Wq7 hll hT hroot;have hst:dD L.n 50 nn ⟨R.wd (l++[(va:Int)]),U,d⟩=fM.of (nc L.n (R.wd l) U va 4) d:=(by show fM.of (nc _ _ _ _ _) _=_;simp_all);obtain⟨m',hm'⟩:∃m',nc L.n (R.wd l) U va 4=m':=⟨_,rfl⟩;rw[hm']at HC;rw[hm']at hst;refine Z_2 ?_;refine ZcL (fb (kOf br bu D) X (R.wd (l++[(va:Int)]))++uF bu bb L U) (λw hi hin=>HC w hin) ?_;exact Wq349
 refine Zw6 ?_ ?_<;>intro hc8
 .obtain rfl:=jZ hc8;obtain⟨R,l,y,x,rfl⟩:=Run.SJ (show 2<=R.s.d.length from hn);obtain⟨hx1,hx2⟩:=hw x cH;obtain⟨hy1,hy2⟩:=hw y cH;obtain⟨va,rfl⟩:∃va:Nat,x=va:=ap hx1;obtain⟨v,rfl⟩:∃v:Nat,y=v:=ap hy1;have hva:va<=4294967295:=Wq1;have hv:v<=4294967295:=Wq1;have hll:l.length<=100000:=bR;have HC:=E9 br bu bb L D X R U l va 4 v hva Wq7 Wq7 hll hT hroot;have hst:dD L.n 51 nn ⟨R.wd ((l++[(v:Int)])++[(va:Int)]),U,d⟩=fM.of (mL L.n (R.wd l) U va 4 v) d:=(by show fM.of (mL _ _ _ _ _ _) _=_;rw[Run.pop_wd,Run.top_wd,Run.pop_wd,Run.top_wd];rfl);obtain⟨m',hm'⟩:∃m',mL L.n (R.wd l) U va 4 v=m':=⟨_,rfl⟩;exact Wq359
 refine Zw6 ?_ ?_<;>intro hc10
 .obtain rfl:=jZ hc10;obtain⟨R,l,x,rfl⟩:=Run.snoc (show 1<=R.s.d.length from hn);obtain⟨hx1,hx2⟩:=hw x cH;obtain⟨va,rfl⟩:∃va:Nat,x=va:=ap hx1;have hva:va<=4294967295:=Wq1;have hll:l.length<=100000:=bR;have HC:=Fa br bu bb L D X R U l va 1 hva Wq7 Wq7 hll hT hroot;have hst:dD L.n 52 nn ⟨R.wd (l++[(va:Int)]),U,d⟩=fM.of (nc L.n (R.wd l) U va 1) d:=(by show fM.of (nc _ _ _ _ _) _=_;simp_all);obtain⟨m',hm'⟩:∃m',nc L.n (R.wd l) U va 1=m':=⟨_,rfl⟩;rw[hm']at HC;rw[hm']at hst;refine Z_2 ?_;refine ZcL (fb (kOf br bu D) X (R.wd (l++[(va:Int)]))++uF bu bb L U) (λw hi hin=>HC w hin) ?_;exact Wq349
 refine Zw6 ?_ ?_<;>intro hc12
 .obtain rfl:=jZ hc12;obtain⟨R,l,y,x,rfl⟩:=Run.SJ (show 2<=R.s.d.length from hn);obtain⟨hx1,hx2⟩:=hw x cH;obtain⟨hy1,hy2⟩:=hw y cH;obtain⟨va,rfl⟩:∃va:Nat,x=va:=ap hx1;obtain⟨v,rfl⟩:∃v:Nat,y=v:=ap hy1;have hva:va<=4294967295:=Wq1;have hv:v<=4294967295:=Wq1;have hll:l.length<=100000:=bR;have HC:=E9 br bu bb L D X R U l va 1 v hva Wq7 Wq7 hll hT hroot;have hst:dD L.n 53 nn ⟨R.wd ((l++[(v:Int)])++[(va:Int)]),U,d⟩=fM.of (mL L.n (R.wd l) U va 1 v) d:=(by show fM.of (mL _ _ _ _ _ _) _=_;rw[Run.pop_wd,Run.top_wd,Run.pop_wd,Run.top_wd];rfl);obtain⟨m',hm'⟩:∃m',mL L.n (R.wd l) U va 1 v=m':=⟨_,rfl⟩;exact Wq359
 refine Zw6 ?_ ?_<;>intro hc14
 .obtain rfl:=jZ hc14;refine Z_2 ?_;refine ZcM (fb (kOf br bu D) X R) (λw hi hin=>Ah (kOf br bu D) X R 11 0 w hin) ?_;refine Z_2 ?_;refine bG (mK br bu bb L D X Y ⟨R.wt ⟨11,0⟩,U,d⟩) Zj (Wq5 ?_);exact⟨X,Y,rfl,rfl⟩
 refine Zw6 ?_ ?_<;>intro hc16
 .obtain rfl:=jZ hc16;have hR:=J8 R.s X.Ad X.Ar X.cd X.cr;refine Z_5 ?_;refine dK (bP (vs:=R.s.cells (.slice X.Ad R.s.d.length X.cd) (.slice X.Ar R.s.r.length X.cr)) Zrf Zrf Zv0) (cO Zh rfl) rfl (ZSn (λw hi=>hR w (hi.Tq (show Has _ (slD R.s X.Ad X.cd)from Zh) (show Has _ (slR R.s X.Ar X.cr)from Zh) Wq1 Wq1)) ?_);rintro _ _ ⟨A1,c1,A2,c2,rfl,rfl⟩;refine Z_2 ?_;refine eE (gC (ys:=mc (kOf br bu D) ⟨A1,c1,A2,c2⟩ (R.ws R.s.back)) (n:=16) (vs:=R.s.back.cells (.slice A1 R.s.back.d.length c1) (.slice A2 R.s.back.r.length c2)) rfl Zrf rfl rfl (mO rfl) Za rfl jg) ?_;rintro _ _ ⟨rfl,rfl⟩;refine Z_2 ?_;refine bG (mK br bu bb L D ⟨A1,c1,A2,c2⟩ Y ⟨R.ws R.s.back,U,d⟩) Zj (Wq5 ?_);exact⟨⟨A1,c1,A2,c2⟩,Y,rfl,rfl⟩
 refine Zw6 ?_ ?_<;>intro hc18
 .obtain rfl:=jZ hc18;have HG:=Rm (R.s.SE R.count) (.slice X.Ad R.s.d.length X.cd) (.slice X.Ar R.s.r.length X.cr) nn;obtain⟨⟨g,gk⟩,hg⟩:=Zgn ((R.s.SE R.count).get nn);rw[hg]at HG;have hst:dD L.n 66 nn ⟨R,U,d⟩=⟨R.push [g],U,d⟩:=(by show fM.mk (R.push [((R.s.SE R.count).get nn).1]) U d=_;rw[hg]);refine Z_5 ?_;refine dK (bP (vs:=R.s.cells (.slice X.Ad R.s.d.length X.cd) (.slice X.Ar R.s.r.length X.cr)) Zrf Zrf Zv0) (cO Zh rfl) rfl ?_;refine ZN λb4=>?_
  refine ZM ?_;refine Z_9 ?_;refine ZL ?_;refine Z_7 ?_;refine wO ?_;refine ZSe (λw hi=>HG w) ?_;refine fB ?_;refine kY ?_;rintro _ _ ⟨b70,rfl,rfl⟩;refine dz (fb (kOf br bu D) X R) (λw hi hin=>i9 (kOf br bu D) X R _ 1 1 [g] Wq1 w hin (λw' hk=>hi.Sr Zi Zh hk)) ?_;rintro _ _ ⟨A',c',rfl,rfl⟩;refine Z_2 ?_;refine bG (mK br bu bb L D ⟨A',c',X.Ar,X.cr⟩ Y ⟨R.wd (R.s.d++[g]),U,d⟩) Zj (Wq5 ?_);rw[hst];exact⟨⟨A',c',X.Ar,X.cr⟩,Y,rfl,rfl⟩
 refine Zw6 ?_ ?_<;>intro hc23
 .obtain rfl:=jZ hc23;obtain⟨R,l,x,rfl⟩:=Run.snoc (show 1<=R.s.d.length from hn);obtain⟨hx1,hx2⟩:=hw x cH;obtain⟨va,rfl⟩:∃va:Nat,x=va:=ap hx1;have hva:va<=4294967295:=Wq1;have hll:l.length<=100000:=bR;have HE:=Rb (R.wd l).s X.Ad X.Ar X.cd X.cr nn va;have hdr:=St.set_dr (R.wd l).s nn va;have hst:dD L.n 67 nn ⟨R.wd (l++[(va:Int)]),U,d⟩=⟨(R.wd l).ws ((R.wd l).s.set nn va).1,bif nn==1||nn==2 then⟨U.m,eB⟩else U,d⟩:=(by show fM.mk _ _ _=_;simp_all);obtain⟨⟨⟨pc',d',r',fl',su',pg',ie',rt',ve',ep',ca',ad',es',ei',co',ha'⟩,kn⟩,hq⟩:=Zgn ((R.wd l).s.set nn va);rw[hq]at HE hst hdr;obtain⟨hd',hr'⟩:=hdr;have hd':l=d':=hd'.symm;have hr':R.s.r=r':=hr'.symm;subst hd';subst hr';refine QK ?_;refine Z_4 ?_;refine bL ⟨λj=>List.elem j [15],[]⟩ Zk (kQ ?_);refine ZFe 3 0 ?_;refine Zy5 4 rfl (bP (vs:=(R.wd l).s.cells (.slice X.Ad (R.wd l).s.d.length X.cd) (.slice X.Ar (R.wd l).s.r.length X.cr)) Zrf Zrf Zv0) (cO Zh rfl) ?_;refine ZFe 5 1 ?_;refine ZG 6 ?_;refine Zy4 7 rfl (cQ rfl rfl Zv0 Zl) ?_;refine ZE 8 ?_;refine cn 9 Zk (ZTn (λw hi=>HE w (hi.Tq (show Has _ (slD (R.wd l).s X.Ad X.cd)from Zh) (show Has _ (slR (R.wd l).s X.Ar X.cr)from Zh) bR bR)) ?_);rintro _ _ ⟨A1,c1,A2,c2,rfl,rfl⟩;refine ZE 10 ?_;refine EE ?_;refine ZFe 14 0 ?_;refine cn 15 Zk (fO rfl rfl (gC (ys:=mc (kOf br bu D) ⟨A1,c1,A2,c2⟩ ((R.wd l).ws ⟨pc',l,R.s.r,fl',su',pg',ie',rt',ve',ep',ca',ad',es',ei',co',ha'⟩)) (n:=16) (vs:=(St.mk pc' l R.s.r fl' su' pg' ie' rt' ve' ep' ca' ad' es' ei' co' ha').cells (.slice A1 l.length c1) (.slice A2 R.s.r.length c2)) rfl Zrf rfl rfl (mO rfl) Za rfl MZ) ZJ ?_);rintro _ _ ⟨rfl,rfl⟩;refine eQ ?_;refine kX ?_;refine ZW ?_ ?_<;>intro hc26
  .have h12:(nn==1||nn==2)=true:=bR;refine Z_5 ?_;refine ZcM (uF bu bb L U) (λw hi hin=>Jn bu bb L U hT w hin) ?_;refine Z_2 ?_;refine bG (mK br bu bb L D ⟨A1,c1,A2,c2⟩ Y ⟨((R.wd l).ws ⟨pc',l,R.s.r,fl',su',pg',ie',rt',ve',ep',ca',ad',es',ei',co',ha'⟩),⟨U.m,eB⟩,d⟩) Zj (Wq5 ?_);rw[hst,wv h12];exact⟨⟨A1,c1,A2,c2⟩,Y,rfl,rfl⟩
  have h12:(nn==1||nn==2)=false:=bR;refine Z_2 ?_;refine bG (mK br bu bb L D ⟨A1,c1,A2,c2⟩ Y ⟨((R.wd l).ws ⟨pc',l,R.s.r,fl',su',pg',ie',rt',ve',ep',ca',ad',es',ei',co',ha'⟩),U,d⟩) Zj (Wq5 ?_);rw[hst,lL h12];exact⟨⟨A1,c1,A2,c2⟩,Y,rfl,rfl⟩
 refine Zw6 ?_ ?_<;>intro hc28
 .obtain rfl:=jZ hc28;obtain⟨R,l,x,rfl⟩:=Run.snoc (show 1<=R.s.d.length from hn);obtain⟨hx1,hx2⟩:=hw x cH;obtain⟨va,rfl⟩:∃va:Nat,x=va:=ap hx1;have hva:va<=4294967295:=Wq1;have hll:l.length<=100000:=bR;have hst:dD L.n 68 nn ⟨R.wd (l++[(va:Int)]),U,d⟩=⟨R.wd l,⟨U.m,wV U.t va⟩,d⟩:=(by show fM.mk _ _ _=_;simp_all);refine QK ?_;refine fD ?_;refine ZW ?_ ?_<;>intro hc30
  .refine Z_6 ?_;refine ZcM (uF bu bb L U) (λw hi hin=>NF bu bb L U hT va hva w hin) ?_;refine Z_2 ?_;refine bG (mK br bu bb L D X Y ⟨R.wd l,⟨U.m,wV U.t va⟩,d⟩) Zj (Wq5 ?_);rw[hst];exact⟨X,Y,rfl,rfl⟩
  exact absurd hc30 cH
 refine Zw6 ?_ ?_<;>intro hc32
 .obtain rfl:=jZ hc32;refine Z_5 ?_;refine ZL ?_;refine Z_2 ?_;refine bG (mK br bu bb L D X Y ⟨R.ws R.s.halt,U,d⟩) Zj (Wq5 ?_);exact⟨X,Y,rfl,rfl⟩
 have hst:dD L.n op nn ⟨R,U,d⟩=⟨R,U,d⟩:=(by simp only[dD, *,ah]);refine Z_2 ?_;refine bG (mK br bu bb L D X Y ⟨R,U,d⟩) Zj (Wq5 ?_);rw[hst];exact⟨X,Y,rfl,rfl⟩
structure Res where
 s:St
 SW:Bool
 device:Bool
 RG:List Int
abbrev St.next(s:St):St:=s.SE (IntKind.u64.wrap (s.count+1))
abbrev St.wpc(s:St)(x:Int):St:=⟨x,s.d,s.r,s.flags,s.RM,s.RW,s.ie,s.root,s.vec,s.epc,s.RN,s.addr,s.Sa,s.eie,s.count,s.halted⟩
def eP(s:St)(op:Int):Run:=⟨s.next.wpc (IntKind.u32.wrap (s.pc+IntKind.u32.wrap (cy op))),s.count,Tr.none,false⟩
def iB(n:Nat)(s:St)(op nn:Int)(U:Mmu)(d:Dev):fM:=
 match dC op nn (eP s op)with
 |some R=>⟨R,U,d⟩
 |none=>bif(cB op nn (eP s op)).1 then⟨(cB op nn (eP s op)).2,U,d⟩else dD n op nn ⟨(cB op nn (eP s op)).2,U,d⟩
def we(s:St)(m:fM):Res:=
 bif m.r.R8.RN !=0 then⟨s.next.R8 m.r.R8.RN m.r.R8.addr,true,m.r.device,ii m.u.m.RQ 64⟩else⟨m.r.s,false,m.r.device,ii m.u.m.RQ 64⟩
def pG(n:Nat)(s:St)(op nn:Int)(U:Mmu)(d:Dev):Res×Mmu×Dev:=
 bif !s.right then(⟨s,false,false,[]⟩,U,d)else
 bif eu s op nn !=0 then(⟨s.next.R8 (eu s op nn) 0,true,false,[]⟩,⟨U.m.calm,U.t⟩,d)else
 (we s (iB n s op nn ⟨U.m.calm,U.t⟩ d),(iB n s op nn ⟨U.m.calm,U.t⟩ d).u,(iB n s op nn ⟨U.m.calm,U.t⟩ d).d)
theorem Pt(op f:Int)(h:(dm op f).2=false):(dm op f).1=false:=by
 grind [dm]
theorem qo(op n:Int)(R:Run)(h:(cB op n R).1=false):(cB op n R).2=R:=by
 grind [cB,dm,Pt]
theorem DT{s:St}{q:(Nat×Nat)×(Nat×Nat)}(h:kU s q=0):q.1.1<=s.d.length/\q.2.1<=s.r.length:=by
 grind [kU]
theorem nL{s:St}{op n:Int}(h:eu s op n=0):(bO op).1.1<=s.d.length/\(bO op).2.1<=s.r.length:=by
 unfold eu at h;revert h;refine Wq124 ?_;refine Wq124 ?_;exact DT
abbrev me(r:Res)(X:j0)(Ap:Option Addr)(cp:Nat):List Value:=[.w r.s.pc,.slice X.Ad r.s.d.length X.cd,.slice X.Ar r.s.r.length X.cr,.w r.s.flags,.bool r.s.RM,.bool r.s.RW,.bool r.s.ie,.w r.s.root,.w r.s.vec,.w r.s.epc,.w r.s.RN,.w r.s.addr,.bool r.s.Sa,.bool r.s.eie,.int .u64 r.s.count,.bool r.s.halted,.bool r.SW,.bool r.device,.slice Ap r.RG.length cp]
abbrev resF(r:Res)(X:j0)(Ap:Option Addr)(cp:Nat):List bC:=[slD r.s X.Ad X.cd,slR r.s X.Ar X.cr,sl .i64 3 Ap r.RG.length cp r.RG]
theorem St.fits{s:St}(h:s.right=true):s.d.length<=16/\s.r.length<=16/\s.flags<=15:=by
 grind [St.right]
abbrev ubF(bu bb:Nat)(L:eA)(D:rp)(Y:nS)(U:Mmu)(d:Dev):List bC:=uF bu bb L U++kO D L.bm Y d
theorem do_ok(bu bb:Nat)(L:eA)(D:rp)(Y:nS)(s:St)(Ad Ar:Option Addr)(cd cr:Nat)(op nn:Int)(U:Mmu)(d:Dev)(hwf:s.wf)(hnn:u32 nn)(hT:U.t.length=16)(hd:d.wf)(ho:d.out.length<=1000000000)
  (w:World) (hi:Inv w (bD (ubF bu bb L D Y U d)) (ubF bu bb L D Y U d) w) (h:∀w',cY (bD (ubF bu bb L D Y U d)) w w'->pY w' s Ad Ar cd cr):
  Ctr prog 144 [sv s Ad cd Ar cr,.agg #[.i op,.w nn],.p bu,.p D.bs] w (ubF bu bb L D Y U d)
   (λv cs=>∃X Y' Ap cp,v= .agg (me (pG L.n s op nn U d).1 X Ap cp).toArray/\cs=resF (pG L.n s op nn U d).1 X Ap cp++ubF bu bb L D Y' (pG L.n s op nn U d).2.1 (pG L.n s op nn U d).2.2):=by
 have HR:=oe s Ad Ar cd cr;have HK:=Qb s Ad Ar cd cr op nn hnn;have hbd:=(h w (cY.refl _ _)).hd;have hbr:=(h w (cY.refl _ _)).hr;unfold pG;obtain⟨rt,hrt⟩:=Zgn (s.right);obtain⟨ck,hck⟩:=Zgn (eu s op nn);rw[hrt]at HR|-;rw[hck]at HK|-;obtain⟨UM,UT⟩:=U;have HM:=Fs L UM;have HZ:=zd op;obtain⟨R0,hR0⟩:=Zgn (eP s op);have hmid:iB L.n s op nn ⟨UM.calm,UT⟩ d=(match dC op nn R0 with
  |some R=>⟨R,⟨UM.calm,UT⟩,d⟩
  |none=>bif(cB op nn R0).1 then⟨(cB op nn R0).2,⟨UM.calm,UT⟩,d⟩else dD L.n op nn ⟨(cB op nn R0).2,⟨UM.calm,UT⟩,d⟩):=by rw[<-hR0];rfl
 unfold eP at hR0;obtain⟨sz,hsz⟩:=Zgn (cy op);rw[hsz]at HZ hR0;obtain⟨pc',hpc⟩:=Zgn (IntKind.u32.wrap (s.pc+IntKind.u32.wrap sz));rw[hpc]at hR0;refine Zfn func144 ntmps144 hi ?_;refine Z_2 ?_;refine ZO λb4=>?_;refine ZO λb5=>?_
 refine ZN λb8=>?_
 refine Z_6 ?_;refine ZSe (λw hi=>HR w) ?_;refine Zw3 ?_ ?_<;>intro hc1
 .refine Z_3 ?_;refine ZSn (λw hi=>mz s Ad Ar cd cr w (h w hi.Sf)) ?_;rintro _ _ ⟨A1,c1,A2,c2,rfl,rfl⟩;refine ZA ?_;refine cT 3 1 (iD ?_);refine bG ([row b8 (me ⟨s,false,false,[]⟩ ⟨A1,c1,A2,c2⟩ none 0) 246]++(resF ⟨s,false,false,[]⟩ ⟨A1,c1,A2,c2⟩ none 0++ubF bu bb L D Y ⟨UM,UT⟩ d)) Zj (Wq73 ?_);rw[wv hc1];exact⟨⟨A1,c1,A2,c2⟩,Y,none,0,rfl,rfl⟩
 refine Zw9 ?_ ?_<;>intro hc3
 .refine Z_2 ?_;refine MU ?_;refine ZcM ([eG L UM]) (λw hi hin=>HM w hin) ?_;refine M0 ?_;rintro _ _ ⟨_,⟨A1,c1,A2,c2,rfl,rfl⟩,rfl⟩;refine ZN λb9=>?_
  refine jh ?_;refine pP ?_;refine gP ?_;refine Z_7 ?_;refine ZSe (λw hi=>HK w (h w hi.Sf)) ?_;refine Zw9 ?_ ?_<;>intro hc8
  .refine Z_4 ?_;refine ZSn (λw hi=>uK s.next A1 A2 c1 c2 ck 0 w (hi.Tq (show Has _ (slD s A1 c1)from Zh) (show Has _ (slR s A2 c2)from Zh) hbd hbr)) ?_;rintro _ _ ⟨A3,c3,A4,c4,rfl,rfl⟩;refine ZA ?_;refine cT 3 1 (iD ?_);refine bG ([row b8 (me ⟨s.next.R8 ck 0,true,false,[]⟩ ⟨A3,c3,A4,c4⟩ none 0) 246]++(resF ⟨s.next.R8 ck 0,true,false,[]⟩ ⟨A3,c3,A4,c4⟩ none 0++ubF bu bb L D Y ⟨UM.calm,UT⟩ d)) Zj (Wq73 ?_);rw[lL hc1,wv hc8];exact⟨⟨A3,c3,A4,c4⟩,Y,none,0,rfl,rfl⟩
  refine Z_3 ?_;refine bL ⟨λj=>List.elem j [],[]⟩ Zk (ZI 0 ?_);refine ZFe 2 14 ?_;refine oO ?_;refine cn 1 Zk (ZTn (λw hi=>mz s.next A1 A2 c1 c2 w (hi.Tq (show Has _ (slD s A1 c1)from Zh) (show Has _ (slR s A2 c2)from Zh) hbd hbr)) ?_);rintro _ _ ⟨A5,c5,A6,c6,rfl,rfl⟩;refine ZE 6 ?_;refine cn 7 Zk (jT rfl rfl (Du rfl rfl) ZJ rfl ?_);rintro _ _ ⟨b46,rfl,rfl⟩;refine ZE 8 ?_;refine lv ?_;refine bL ⟨λj=>List.elem j [13],[]⟩ Zk (lU ?_);refine ZFe 2 0 ?_;refine ZFe 3 0 ?_;refine ZG 4 ?_;refine ZFe 5 0 ?_;refine ZG 6 ?_;refine cn 7 Zk (ZTn (λw hi=>HZ w) ?_);rintro _ _ ⟨rfl,rfl⟩;refine Zy4 8 rfl (cQ rfl rfl Zv0 rfl) ?_;refine Zy4 9 rfl (ef Zv0 Zv0 hpc) ?_;refine ZE 10 ?_;refine ZFe 11 0 ?_;refine ZFe 12 0 ?_;refine cn 13 Zk (nO ?_);refine Zt (cD (λq:j0×nS×fM=>[(2,.p bu),(8,.p b8),(9,.p b9),(11,.p b46)]) (λq=>mK b46 bu bb L D q.1 q.2.1 q.2.2++[row b8 [.w 0,.slice none 0 0,.slice none 0 0,.w 0,.bool false,.bool false,.bool false,.w 0,.w 0,.w 0,.w 0,.w 0,.bool false,.bool false,.int .u64 0,.bool false,.bool false,.bool false,.slice none 0 0] 246,row b9 (s.next.cells (.slice A1 s.next.d.length c1) (.slice A2 s.next.r.length c2)) 43,slD s.next A1 c1,slR s.next A2 c2]) (λq=>iB L.n s op nn ⟨UM.calm,UT⟩ d=q.2.2) ?_ ?_)
  .refine Zs ?_;subst hR0;have hrt1:rt=true:=bR;obtain⟨hd16,hr16, -⟩:=St.fits (hrt.trans hrt1);have hck0:ck=0:=bR;obtain⟨n1,n2⟩:=nL (hck.trans hck0);have HS:=NW (kOf b46 bu D) ⟨A5,c5,A6,c6⟩ ⟨s.next.wpc pc',s.count,Tr.none,false⟩ op nn (show s.d.length<=100000 by omega) (show s.r.length<=100000 by omega) n1 n2;rcases hst:dC op nn ⟨s.next.wpc pc',s.count,Tr.none,false⟩with _|R1
   .rw[hst]at HS;simp only[Option.isSome_none,Option.getD_none]at HS;have HQ:=λX w hin=>Kc (kOf b46 bu D) X ⟨s.next.wpc pc',s.count,Tr.none,false⟩ op nn hwf.d (show s.d.length<=100000 by omega) (show s.r.length<=100000 by omega) n1 n2 w hin
    obtain⟨⟨bq,R2⟩,hq⟩:=Zgn (cB op nn ⟨s.next.wpc pc',s.count,Tr.none,false⟩);rw[hq]at HQ;refine Z_3 ?_;refine dz (fb (kOf b46 bu D) ⟨A5,c5,A6,c6⟩ ⟨s.next.wpc pc',s.count,Tr.none,false⟩) (λw hi hin=>HS w hin) ?_;rintro _ _ ⟨X1,rfl,rfl⟩;refine Z_3 ?_;refine fJ (bM rfl rfl) Zh Zrf Zrf (Zv rfl) rfl (gU (bM rfl rfl) rfl (eo (fb (kOf b46 bu D) X1 ⟨s.next.wpc pc',s.count,Tr.none,false⟩) rfl (λ_ _=>rfl) Zi (λw hi hin=>HQ X1 w hin)) rfl ?_);rintro _ _ ⟨_,⟨X2,rfl,rfl⟩,rfl⟩;refine Z_4 ?_;refine ZW ?_ ?_<;>intro hc12
    .obtain rfl:bq=false:=bR;have he:=qo op nn ⟨s.next.wpc pc',s.count,Tr.none,false⟩ (by rw[hq]);rw[hq]at he;have he:R2=_:=he;subst he;have HO:=λX w hin=>J1 b46 bu bb L D X Y ⟨s.next.wpc pc',s.count,Tr.none,false⟩ ⟨UM.calm,UT⟩ d op nn hnn hwf.d (show s.d.length<=100000 by omega) (show s.r.length<=100000 by omega) n1 hT hwf.root hd ho w hin
     obtain⟨m',hm'⟩:∃m',dD L.n op nn ⟨⟨s.next.wpc pc',s.count,Tr.none,false⟩,⟨UM.calm,UT⟩,d⟩=m':=⟨_,rfl⟩;rw[hm']at HO;refine Z_3 ?_;refine dz (mK b46 bu bb L D X2 Y ⟨⟨s.next.wpc pc',s.count,Tr.none,false⟩,⟨UM.calm,UT⟩,d⟩) (λw hi hin=>HO X2 w hin) ?_;rintro _ _ ⟨X3,Y3,rfl,rfl⟩;refine Zn (bJ ((⟨X3,Y3,m'⟩:j0×nS×fM)) ?_ ?_ ?_)
     .grind
     .exact Zwk
     exact Zj
    obtain rfl:bq=true:=bR;refine Zc (bJ ((⟨X2,Y,⟨R2,⟨UM.calm,UT⟩,d⟩⟩:j0×nS×fM)) ?_ ?_ ?_)
    .grind
    .exact Zwk
    exact Zj
   rw[hst]at HS;simp only[Option.isSome_some,Option.getD_some]at HS;refine Z_3 ?_;refine dz (fb (kOf b46 bu D) ⟨A5,c5,A6,c6⟩ ⟨s.next.wpc pc',s.count,Tr.none,false⟩) (λw hi hin=>HS w hin) ?_;rintro _ _ ⟨X1,rfl,rfl⟩;refine Z_2 ?_;refine Wq15 ?_;refine Zy (yK (q:=false) (Zv rfl) ⟨_,rfl,λ_ e=>by simp at e⟩) ?_;refine tI ?_;refine Zc (bJ ((⟨X1,Y,⟨R1,⟨UM.calm,UT⟩,d⟩⟩:j0×nS×fM)) ?_ ?_ ?_)
   .grind
   .exact Zwk
   exact Zj
  rintro⟨X,Y',m⟩ hm;dsimp only at hm|-;refine Zs (bL ⟨λj=>List.elem j [10],[]⟩ Zk ?_);refine lU ?_;refine ZFe 2 0 ?_;refine Zy5 3 rfl (bP (vs:=m.r.s.cells (.slice X.Ad m.r.s.d.length X.cd) (.slice X.Ar m.r.s.r.length X.cr)) Zrf Zrf Zv0) (cO Zh rfl) ?_;refine ZE 4 ?_;refine ZE 5 ?_;refine ZFe 6 21 ?_;refine ZG 7 ?_;refine ZE 8 ?_;refine cn 9 Zk ?_;refine ZP λb12=>?_
  refine cn 10 Zk (ZR ?_);refine eQ ?_;refine fD ?_;refine ZW ?_ ?_<;>intro hc15
  .have he:we s m=⟨s.next.R8 m.r.R8.RN m.r.R8.addr,true,m.r.device,ii m.u.m.RQ 64⟩:=wv hc15;refine bL ⟨λj=>List.elem j [13,15],[]⟩ Zk (ZI 0 ?_);refine ZE 1 ?_;refine ZE 2 ?_;refine ZFe 3 19 ?_;refine ZFe 4 0 ?_;refine ZG 5 ?_;refine ZE 6 ?_;refine ZE 7 ?_;refine ZFe 8 19 ?_;refine ZFe 9 1 ?_;refine ZG 10 ?_;refine cn 11 Zk (ZTn (λw hi=>uK s.next A1 A2 c1 c2 m.r.R8.RN m.r.R8.addr w (hi.Tq (show Has _ (slD s.next A1 c1)from Zh) (show Has _ (slR s.next A2 c2)from Zh) hbd hbr)) ?_);rintro _ _ ⟨A7,c7,A8,c8,rfl,rfl⟩;refine ZFe 12 0 ?_;refine cn 13 Zk (fO rfl rfl (gC (ys:=me ⟨s.next.R8 m.r.R8.RN m.r.R8.addr,false,m.r.device,[]⟩ ⟨A7,c7,A8,c8⟩ none 0) (n:=16) (vs:=(s.next.R8 m.r.R8.RN m.r.R8.addr).cells (.slice A7 (s.next.R8 m.r.R8.RN m.r.R8.addr).d.length c7) (.slice A8 (s.next.R8 m.r.R8.RN m.r.R8.addr).r.length c8)) rfl Zrf rfl rfl (mO rfl) Za rfl jg) ZJ ?_);rintro _ _ ⟨rfl,rfl⟩;refine ZFe 14 16 ?_;refine cn 15 Zk (nO ?_);refine Zw8 ?_ ?_<;>intro hc17
   .refine Z_2 ?_;refine MU ?_;refine ZSn (λw hi=>rD L m.u.m w (hi.get Zh)) ?_;rintro _ _ ⟨Ap,cp,rfl,rfl⟩;refine gP ?_;refine Z_5 ?_;refine mD ?_;refine bG ([row b8 (me ⟨s.next.R8 m.r.R8.RN m.r.R8.addr,true,m.r.device,ii m.u.m.RQ 64⟩ ⟨A7,c7,A8,c8⟩ Ap cp) 246]++(resF ⟨s.next.R8 m.r.R8.RN m.r.R8.addr,true,m.r.device,ii m.u.m.RQ 64⟩ ⟨A7,c7,A8,c8⟩ Ap cp++ubF bu bb L D Y' m.u m.d)) Zj (Wq73 ?_);rw[lL hc1,lL hc8,hm,he];exact⟨⟨A7,c7,A8,c8⟩,Y',Ap,cp,rfl,rfl⟩
   exact absurd hc17 cH
  have he:we s m=⟨m.r.s,false,m.r.device,ii m.u.m.RQ 64⟩:=lL hc15;refine Zw9 ?_ ?_<;>intro hc17
  .refine Z_2 ?_;refine MU ?_;refine ZSn (λw hi=>rD L m.u.m w (hi.get Zh)) ?_;rintro _ _ ⟨Ap,cp,rfl,rfl⟩;refine gP ?_;refine Z_5 ?_;refine mD ?_;refine bG ([row b8 (me ⟨m.r.s,false,m.r.device,ii m.u.m.RQ 64⟩ X Ap cp) 246]++(resF ⟨m.r.s,false,m.r.device,ii m.u.m.RQ 64⟩ X Ap cp++ubF bu bb L D Y' m.u m.d)) Zj (Wq73 ?_);rw[lL hc1,lL hc8,hm,he];exact⟨X,Y',Ap,cp,rfl,rfl⟩
  exact absurd hc17 cH
 exact absurd hc3 cH
def Q2(R:Run)(va:Nat):Run:=bif((va%4:Nat):Int) !=0 then R.wt ⟨6,va⟩else R.wt ⟨10,va⟩
def otherN(op nn:Int)(R:Run):Run:=
 bif op==48 then Q2 R.pop R.top.toNat else
 bif op==49 then Q2 R.pop.pop R.top.toNat else
 bif op==50 then R.pop.wt ⟨10,R.top⟩else
 bif op==51 then R.pop.wt ⟨10,R.top⟩else
 bif op==52 then R.pop.wt ⟨10,R.top⟩else
 bif op==53 then R.pop.wt ⟨10,R.top⟩else
 bif op==64 then R.wt ⟨11,0⟩else
 bif op==65 then R.ws R.s.back else
 bif op==66 then R.push [((R.s.SE R.count).get nn).1]else
 bif op==67 then R.pop.ws (R.pop.s.set nn R.top).1 else
 bif op==68 then R.pop else
 bif op==69 then R.ws R.s.halt else R
def BW(s:St)(op nn:Int):Run:=
 match dC op nn (eP s op)with
 |some R=>R
 |none=>bif(cB op nn (eP s op)).1 then(cB op nn (eP s op)).2 else otherN op nn (cB op nn (eP s op)).2
def Rs(s:St)(R:Run):Res:=
 bif R.R8.RN !=0 then⟨s.next.R8 R.R8.RN R.R8.addr,true,R.device,[]⟩else⟨R.s,false,R.device,[]⟩
def doN(s:St)(op nn:Int):Res:=
 bif !s.right then⟨s,false,false,[]⟩else
 bif eu s op nn !=0 then⟨s.next.R8 (eu s op nn) 0,true,false,[]⟩else
 Rs s (BW s op nn)
def Dev.init(Sb:List Int):Dev:=⟨0,0,0,[],[],sY Sb,0,0,0⟩
theorem pY.RT{w0 w w':World}{cs cin rest:List bC}{s:St}{Ad Ar:Option Addr}{cd cr:Nat}(h:pY w0 s Ad Ar cd cr)(hi:Inv w0 [] cs w)(hp:eJ cin cs rest)(hk:cY (bD cin) w w'):pY w' s Ad Ar cd cr:=
 ⟨RdV.RT h.d hi hp hk,RdV.RT h.r hi hp hk,h.hd,h.hr⟩
theorem _root_.Go.Ink.Inv.S3{w0 w w':World}{S:List Nat}{cs cin rest:List bC}{s:St}{Ad Ar:Option Addr}{cd cr:Nat}(hi:Inv w0 S cs w)(hp:eJ cin cs rest)(h1:Has rest (slD s Ad cd))(h2:Has rest (slR s Ar cr))(hd:s.d.length*4<=140737488355328)(hr:s.r.length*4<=140737488355328)(hk:cY (bD cin) w w'):pY w' s Ad Ar cd cr:=
 ⟨hi.Sr hp h1 hk,hi.Sr hp h2 hk,hd,hr⟩
theorem MF(bm:Nat)(A:Option Addr)(c:Nat)(l:List Int)(hl:l.length<=1024)(w:World)(h:Rd w .u8 A l.length c l):Ctr prog 53 [.p bm,.slice A l.length c] w []
  (λv cs=>∃D,v= .tuple #[.p D.bs,.i 0]/\cs=kO D bm ⟨none,0,none,0⟩ (Dev.init l)):=by
 obtain⟨dd,hdd⟩:=Zgn (sY l);unfold Dev.init;rw[hdd];have HD:=λw (hi:Rd w .u8 A l.length c l)=>Mp A c l hl w hi
 rw[hdd]at HD;refine Zfs func53 ntmps53 ?_;refine kM ?_;refine rh ?_;refine ZSn (λw hi=>HD w (h.RU hi)) ?_;rintro _ _ ⟨bdr,bdk,rfl,rfl⟩;refine iT ?_;refine iU ?_;refine Z_4 ?_;refine ZSn (λw hi=>Lm w) ?_;rintro _ _ ⟨bi,rfl,rfl⟩;refine ZSn (λw hi=>JC w) ?_;rintro _ _ ⟨bti,rfl,rfl⟩;refine ZSn (λw hi=>Mz w) ?_;rintro _ _ ⟨bcn,rfl,rfl⟩;refine Z_3 ?_;refine ZO λb24=>?_
 refine ZA ?_;refine cT 5 1 (cT 5 1 (Z_4 ?_));refine bG (kO ⟨b24,bi,bti,bcn,bdr,bdk⟩ bm ⟨none,0,none,0⟩ ⟨0,0,0,[],[],dd,0,0,0⟩) Zj (IK ?_);exact⟨⟨b24,bi,bti,bcn,bdr,bdk⟩,rfl,rfl⟩
structure _root_.Go.Ink.RMLoc where
 bm:Nat
 bB:Nat
 bT:Nat
theorem In{l:List Int}(h:l.length<=1024):(sY l).length=1024:=by simp[sY];omega
theorem Ms{l:List Int}(h:u8s l):u8s (sY l):=λx hx=>by
 rcases aF.1 hx with hx|hx
 .exact h x hx
 grind
theorem init_wf{l:List Int}(h:l.length<=1024)(hb:u8s l):(Dev.init l).wf:=⟨λx hx=>(by cases hx),In h,Ms hb,au _,au _,au _⟩
theorem jq(w:World)(k:IntKind):Rd w k none 0 0 []:=⟨rfl,by simp,by simp,by simp,by simp⟩
theorem u0:u32 0:=⟨by decide,by decide⟩
theorem u1:u32 1:=⟨by decide,by decide⟩
theorem wrap_u32(a:Int):u32 (IntKind.u32.wrap a):=by
 grind [u32,IntKind.wrap_u32]
theorem i5{n:Nat}(h:n<=4294967295):u32 (n:Int):=⟨by omega,by omega⟩
structure Mem.ok(n:Nat)(M:Mem):Prop where
 dl:M.data.length=n*64
 db:u8s M.data
 tl:M.RQ.length=64
theorem u8s_set{l:List Int}(h:u8s l){a:Nat}{b:Int}(hb:0<=b/\b<=255):u8s (l.set a b):=λx hx=>by
 rcases List.mem_or_eq_of_mem_set hx with h1|h1
 .exact h x h1
 omega
theorem Mem.ok.put{n:Nat}{M:Mem}(h:M.ok n)(a:Nat){b:Int}(hb:0<=b/\b<=255):(M.put a b).ok n:=
 ⟨by show(M.data.set _ _).length=_;simp[h.dl],u8s_set h.db hb,by show(M.RQ.set _ _).length=_;simp[h.tl]⟩
theorem Mem.ok.SQ{n:Nat}{M:Mem}(h:M.ok n)(a:Nat)(v:Int):∀k,(M.SQ a v k).ok n
 |0=>h
 |k+1=>(Mem.ok.SQ h a v k).put _ (p7 v k)
theorem Mem.ok.Ss{n:Nat}{M:Mem}(h:M.ok n)(l:List Int)(v:Int):∀k,(Ss M l v k).ok n
 |0=>h
 |k+1=>(Mem.ok.Ss h l v k).put _ (p7 v k)
theorem Mem.ok.fill{n:Nat}{M:Mem}(h:M.ok n)(a:Nat){l:List Int}(hl:u8s l):∀k,(M.fill a l k).ok n
 |0=>h
 |k+1=>(Mem.ok.fill h a hl k).put _ (kE hl k)
theorem Mem.ok.calm{n:Nat}{M:Mem}(h:M.ok n):M.calm.ok n:=⟨h.dl,h.db,aE⟩
theorem Tn{n:Nat}{b:List Int}(h:b.length<=n*64)(hb:u8s b):(Mem.init n b).ok n:=by
 refine⟨by simp[Mem.init];omega,λx hx=>?_,aE⟩;rcases aF.1 hx with hx|hx
 .exact hb x hx
 grind
theorem GH{n:Nat}{M:Mem}(h:M.ok n)(root va:Nat)(kind:Int)(RM:Bool):(gQ n M root va kind RM).2.ok n:=by
 unfold gQ;refine bI (λq:(TE×Tr)×Mem=>q.2.ok n) h ?_;cases nv n M.data root va with
 |none=>exact h
 |some q=>
  obtain⟨a,l⟩:=q;refine bI (λq:(TE×Tr)×Mem=>q.2.ok n) h ?_;exact bI (λq:Mem=>q.ok n) (h.SQ _ _ 4) h
def TrU(t:Tr):Prop:=u32 t.addr/\0<=t.RN/\t.RN<=255
theorem tr10{a:Int}(h:u32 a):TrU ⟨10,a⟩:=⟨h,by grind,by grind⟩
theorem trN:TrU Tr.none:=⟨u0,by decide,by decide⟩
theorem tr11:TrU ⟨11,0⟩:=⟨u0,by decide,by decide⟩
theorem L8(kind:Int):0<=fault kind/\fault kind<=255:=by
 grind [fault]
theorem Ji(n:Nat)(M:Mem)(root va:Nat)(hva:va<=4294967295)(kind:Int)(RM:Bool):TrU (gQ n M root va kind RM).1.2:=by
 grind [i5,L8,gQ,TrU,tr10,nv,trN]
structure UOk(n:Nat)(U:Mmu):Prop where
 m:U.m.ok n
 t:U.t.length=16
theorem Bj{n:Nat}{U:Mmu}(h:U.m.ok n)(s:Sp)(va:Nat)(kind:Int):(cU n U s va kind).2.m.ok n:=by
 grind [GH,cU]
theorem Dp(n:Nat)(U:Mmu)(s:Sp)(va:Nat)(hva:va<=4294967295)(kind:Int):TrU (cU n U s va kind).1.2:=by
 grind [Ji,trN,cU,TrU]
theorem pj{n:Nat}{U:Mmu}(h:UOk n U)(s:Sp)(va:Nat)(kind:Int):UOk n (cG n U s va kind).2:=by
 refine⟨?_,(vi n U s va kind).trans h.t⟩
 grind [Bj,h.m,cG]
theorem rM(n:Nat)(U:Mmu)(s:Sp)(va:Nat)(hva:va<=4294967295)(kind:Int):TrU (cG n U s va kind).1.2:=by
 grind [Dp,TrU,tr10,i5,cG]
theorem JS(a b:Int)(va k:Nat)(t:Tr)(U:Mmu):(fK a b va k t U).2=U:=by
 grind [fK]
theorem GY(a b:Int){va:Nat}(hva:va<=4294967295)(k:Nat){t:Tr}(ht:TrU t)(U:Mmu):TrU (fK a b va k t U).1.2:=by
 grind [fK,TrU,tr10,i5,mh]
theorem rA{n:Nat}{U:Mmu}(h:UOk n U)(s:Sp)(va k:Nat)(kind:Int):UOk n (eU n U s va k kind).2:=by
 grind [pj,ee,eU,G1,JS,GZ]
theorem Bw(n:Nat)(U:Mmu)(s:Sp)(va k:Nat)(hva:va<=4294967295)(kind:Int):TrU (eU n U s va k kind).1.2:=by
 grind [rM,cG,ee,mh,eU,G1,TrU,GY,GZ]
theorem H0{n:Nat}{U:Mmu}(h:UOk n U)(s:Sp)(va:Nat){k:Nat}(hk:k<=4):u32 (qJ n U s va k).1.1:=by
 have h1:=rA h s va k 2;have h2:=nh h1.m.db (eU n U s va k 2).1.1;have h3:(eU n U s va k 2).1.1.length<=4:=aN rB hk;show u32 (gi _ _);generalize gi (eU n U s va k 2).2.m.data (eU n U s va k 2).1.1=v at h2;generalize (eU n U s va k 2).1.1.length=m at h2 h3;obtain rfl|rfl|rfl|rfl|rfl:m=0\/m=1\/m=2\/m=3\/m=4:=by omega
 all_goals (refine⟨h2.1,?_⟩;simp at h2;omega)
theorem Dw{n:Nat}{U:Mmu}(h:UOk n U)(s:Sp)(va k:Nat)(v:Int):UOk n (o6 n U s va k v).2:=by
 have h1:=rA h s va k 3;exact⟨h1.m.Ss _ _ _,h1.t⟩
structure Dev.ok(d:Dev):Prop where
 wf:d.wf
 Sc:u32 d.Sc
 mask:u32 d.mask
 timer:u32 d.timer
 status:u32 d.status
theorem Dev.wf.re{d d':Dev}(h:d.wf)(h1:d'.inp=d.inp)(h2:d'.Sb=d.Sb)(h3:d'.RH=d.RH)(h4:d'.place=d.place):d'.wf:=
 ⟨h1▸h.Tm,h2▸h.Sb,h2▸h.SU,h3▸h.RH,h4▸h.place,h1▸h.inp⟩
theorem Dev.Tn{l:List Int}(h:l.length<=1024)(hb:u8s l):(Dev.init l).ok:=⟨init_wf h hb,u0,u0,u0,u0⟩
theorem gB_u32{l:List Int}(h:u8s l)(a:Nat):u32 (gB l a):=by have:=kE h a;exact⟨this.1,by omega⟩
theorem Io{d:Dev}(h:d.ok)(k count:Int):u32 (ge d k count).1.1/\(ge d k count).2.ok/\(ge d k count).2.out=d.out:=by
 have hi:=h.wf.inp;unfold ge;refine bI (λq:(Int×Bool)×Dev=>u32 q.1.1/\q.2.ok/\q.2.out=d.out) ⟨h.Sc,h,rfl⟩ ?_;refine bI (λq:(Int×Bool)×Dev=>u32 q.1.1/\q.2.ok/\q.2.out=d.out) ⟨h.mask,h,rfl⟩ ?_;refine bI (λq:(Int×Bool)×Dev=>u32 q.1.1/\q.2.ok/\q.2.out=d.out) ⟨h.timer,h,rfl⟩ ?_;refine bI (λq:(Int×Bool)×Dev=>u32 q.1.1/\q.2.ok/\q.2.out=d.out) ⟨wrap_u32 _,h,rfl⟩ ?_;refine bI (λq:(Int×Bool)×Dev=>u32 q.1.1/\q.2.ok/\q.2.out=d.out) ⟨u0,h,rfl⟩ ?_;refine bI (λq:(Int×Bool)×Dev=>u32 q.1.1/\q.2.ok/\q.2.out=d.out) ⟨u0,h,rfl⟩ ?_;refine bI (λq:(Int×Bool)×Dev=>u32 q.1.1/\q.2.ok/\q.2.out=d.out) ⟨gB_u32 h.wf.Tm 0,⟨⟨λx hx=>h.wf.Tm x (List.mem_of_mem_tail hx),h.wf.Sb,h.wf.SU,h.wf.RH,h.wf.place,by grind⟩,h.Sc,h.mask,h.timer,h.status⟩,rfl⟩ ?_
 grind [u32,i5,h.wf.RH,h.wf.place,h.status,u0]
theorem Il{n:Nat}{M:Mem}(h:M.ok n){Sb:List Int}(hl:Sb.length=1024)(hb:u8s Sb)(RH a cmd:Nat):(gc n M Sb RH a cmd).2.1.ok n/\(gc n M Sb RH a cmd).2.2.length=1024/\u8s (gc n M Sb RH a cmd).2.2:=by
 unfold gc;cases hk:(!my n RH a)with
 |true=>grind
 |false=>
  have hk':my n RH a=true:=by simpa using hk
  simp only[my,Bool.not_eq_true',Bool.or_eq_false_iff,ac,bne_eq_false_iff_eq]at hk';obtain⟨⟨h1,h2⟩,h3⟩:=hk';have hdl:=h.dl;refine iw ?_;refine bI (λq:Bool×Mem×List Int=>q.2.1.ok n/\q.2.2.length=1024/\u8s q.2.2) ⟨h.fill _ (λx hx=>hb x (List.mem_of_mem_drop (bh hx))) _,hl,hb⟩ ?_;refine bI (λq:Bool×Mem×List Int=>q.2.1.ok n/\q.2.2.length=1024/\u8s q.2.2) ⟨h,?_,λx hx=>?_⟩ ⟨h,hl,hb⟩
  .grind
  rcases aF.1 hx with hx|hx
  .rcases aF.1 hx with hx|hx
   .exact hb x (bh hx)
   exact h.db x (List.mem_of_mem_drop (bh hx))
  exact hb x (List.mem_of_mem_drop hx)
theorem Et{n:Nat}{M:Mem}(hm:M.ok n){d:Dev}(h:d.ok)(k:Int){v:Nat}(hv:v<=4294967295):(cF n M d k v).2.1.ok n/\(cF n M d k v).2.2.ok/\(cF n M d k v).2.2.out.length<=d.out.length+1:=by
 have hD:=Il hm h.wf.Sb h.wf.SU d.RH d.place v;have hvu:=i5 hv;have h0:M.ok n/\d.ok/\d.out.length<=d.out.length+1:=⟨hm,h,by omega⟩;unfold cF;refine bI (λq:Bool×Mem×Dev=>q.2.1.ok n/\q.2.2.ok/\q.2.2.out.length<=d.out.length+1) ⟨hm,⟨h.wf.re rfl rfl rfl rfl,iS .andNot d.Sc v,h.mask,h.timer,h.status⟩,Nat.le_succ _⟩ ?_;refine bI (λq:Bool×Mem×Dev=>q.2.1.ok n/\q.2.2.ok/\q.2.2.out.length<=d.out.length+1) ⟨hm,⟨h.wf.re rfl rfl rfl rfl,h.Sc,iS .and v 255,h.timer,h.status⟩,Nat.le_succ _⟩ ?_;refine bI (λq:Bool×Mem×Dev=>q.2.1.ok n/\q.2.2.ok/\q.2.2.out.length<=d.out.length+1) ⟨hm,⟨h.wf.re rfl rfl rfl rfl,h.Sc,h.mask,hvu,h.status⟩,Nat.le_succ _⟩ ?_;refine bI (λq:Bool×Mem×Dev=>q.2.1.ok n/\q.2.2.ok/\q.2.2.out.length<=d.out.length+1) ⟨hm,⟨⟨h.wf.Tm,h.wf.Sb,h.wf.SU,h.wf.RH,h.wf.place,h.wf.inp⟩,h.Sc,h.mask,h.timer,h.status⟩,by simp⟩ ?_;refine bI (λq:Bool×Mem×Dev=>q.2.1.ok n/\q.2.2.ok/\q.2.2.out.length<=d.out.length+1) ⟨hm,⟨⟨h.wf.Tm,h.wf.Sb,h.wf.SU,hv,h.wf.place,h.wf.inp⟩,h.Sc,h.mask,h.timer,h.status⟩,Nat.le_succ _⟩ ?_;refine bI (λq:Bool×Mem×Dev=>q.2.1.ok n/\q.2.2.ok/\q.2.2.out.length<=d.out.length+1) ⟨hm,⟨⟨h.wf.Tm,h.wf.Sb,h.wf.SU,h.wf.RH,hv,h.wf.inp⟩,h.Sc,h.mask,h.timer,h.status⟩,Nat.le_succ _⟩ ?_;refine bI (λq:Bool×Mem×Dev=>q.2.1.ok n/\q.2.2.ok/\q.2.2.out.length<=d.out.length+1) ⟨hD.1,⟨⟨h.wf.Tm,hD.2.1,hD.2.2,h.wf.RH,h.wf.place,h.wf.inp⟩,iS .or d.Sc (nz [2]),h.mask,h.timer,bI u32 u0 u1⟩,Nat.le_succ _⟩ ?_
 grind
structure Did(op:Int)(s s':St):Prop where
 wf:s'.wf
 fl:s'.flags<=15
 cnt:s'.count=s.count
 dl:s'.d.length+(bO op).1.1=s.d.length+(bO op).1.2
 dt:s'.d.take (s.d.length - (bO op).1.1)=s.d.take (s.d.length - (bO op).1.1)
 rl:s'.r.length+(bO op).2.1=s.r.length+(bO op).2.2
 rt:s'.r.take (s.r.length - (bO op).2.1)=s.r.take (s.r.length - (bO op).2.1)
theorem Did.of{op:Int}{s s':St}{l m:List Int}(P X Q Y:List Int)(hn:bO op=((P.length,X.length),(Q.length,Y.length)))(wf:s'.wf)(fl:s'.flags<=15)(cnt:s'.count=s.count)
  (h1:s.d=l++P) (h2:s'.d=l++X) (h3:s.r=m++Q) (h4:s'.r=m++Y):Did op s s':=by
 refine⟨wf,fl,cnt,?_,?_,?_,?_⟩
 .grind
 .grind
 .grind
 grind
theorem xp{s:St}(h:s.wf){l:List Int}(hl:∀x,x∈l->u32 x):(⟨s.pc,l,s.r,s.flags,s.RM,s.RW,s.ie,s.root,s.vec,s.epc,s.RN,s.addr,s.Sa,s.eie,s.count,s.halted⟩:St).wf:=⟨h.pc,h.flags,h.root,h.vec,h.epc,h.RN,h.addr,h.count,hl,h.r⟩
theorem wf_r{s:St}(h:s.wf){l:List Int}(hl:∀x,x∈l->u32 x):(⟨s.pc,s.d,l,s.flags,s.RM,s.RW,s.ie,s.root,s.vec,s.epc,s.RN,s.addr,s.Sa,s.eie,s.count,s.halted⟩:St).wf:=⟨h.pc,h.flags,h.root,h.vec,h.epc,h.RN,h.addr,h.count,h.d,hl⟩
theorem GF{s:St}(h:s.wf){x:Int}(hx:u32 x):(⟨x,s.d,s.r,s.flags,s.RM,s.RW,s.ie,s.root,s.vec,s.epc,s.RN,s.addr,s.Sa,s.eie,s.count,s.halted⟩:St).wf:=⟨hx,h.flags,h.root,h.vec,h.epc,h.RN,h.addr,h.count,h.d,h.r⟩
theorem Ny{s:St}(h:s.wf){x:Int}(hx:u32 x):(⟨s.pc,s.d,s.r,x,s.RM,s.RW,s.ie,s.root,s.vec,s.epc,s.RN,s.addr,s.Sa,s.eie,s.count,s.halted⟩:St).wf:=⟨h.pc,hx,h.root,h.vec,h.epc,h.RN,h.addr,h.count,h.d,h.r⟩
theorem Qn{l:List Int}{p:Int->Prop}(h:∀x,x∈l->p x){y:Int}(hy:p y):∀x,x∈l++[y]->p x:=by grind
theorem wF{l m:List Int}{p:Int->Prop}(h:∀x,x∈l++m->p x):∀x,x∈l->p x:=by grind
theorem IA{l:List Int}{y:Int}{p:Int->Prop}(h:∀x,x∈l++[y]->p x):p y:=h y cH
theorem JQ{op nn:Int}{R R':Run}(hw:R.s.wf)(hf:R.s.flags<=15)(hnn:u32 nn)(h1:(bO op).1.1<=R.s.d.length)(h2:(bO op).2.1<=R.s.r.length)(h:dC op nn R=some R'):Did op R.s R'.s/\R'.R8=R.R8/\R'.device=R.device/\R'.count=R.count:=by
 by_cases e:op=0
 .subst e;obtain rfl:R=R':=ax h;exact⟨Did.of (l:=R.s.d) (m:=R.s.r) [] [] [] [] rfl hw hf rfl cH cH cH cH,rfl,rfl,rfl⟩
 have e0:(op==0)=false:=by simpa using e
 by_cases e:op=1
 .exact Wq311
 have e1:(op==1)=false:=by simpa using e
 by_cases e:op=2
 .exact Wq311
 have e2:(op==2)=false:=by simpa using e
 by_cases e:op=3
 .subst e;obtain⟨R,l,x,rfl⟩:=Run.snoc (show 1<=R.s.d.length from h1);rw[o9]at h;obtain rfl:=ax h;exact⟨Did.of (l:=l) (m:=R.s.r) [x] [x,x] [] [] rfl (xp hw (by grind [hw.d])) hf rfl rfl rfl cH cH,rfl,rfl,rfl⟩
 have e3:(op==3)=false:=by simpa using e
 by_cases e:op=4
 .subst e;obtain⟨R,l,x,rfl⟩:=Run.snoc (show 1<=R.s.d.length from h1);rw[m7]at h;obtain rfl:=ax h;exact⟨Did.of (l:=l) (m:=R.s.r) [x] [] [] [] rfl (xp hw (wF hw.d)) hf rfl rfl cH cH cH,rfl,rfl,rfl⟩
 have e4:(op==4)=false:=by simpa using e
 by_cases e:op=5
 .subst e;obtain⟨R,l,x,y,rfl⟩:=Run.SJ (show 2<=R.s.d.length from h1);rw[m5]at h;obtain rfl:=ax h;have hd:∀z,z∈(l++[x])++[y]->u32 z:=hw.d;exact⟨Did.of (l:=l) (m:=R.s.r) [x,y] [y,x] [] [] rfl (xp hw bR) hf rfl cH rfl cH cH,rfl,rfl,rfl⟩
 have e5:(op==5)=false:=by simpa using e
 by_cases e:op=6
 .subst e;obtain⟨R,l,x,y,rfl⟩:=Run.SJ (show 2<=R.s.d.length from h1);rw[m6]at h;obtain rfl:=ax h;have hd:∀z,z∈(l++[x])++[y]->u32 z:=hw.d;exact⟨Did.of (l:=l) (m:=R.s.r) [x,y] [x,y,x] [] [] rfl (xp hw bR) hf rfl cH rfl cH cH,rfl,rfl,rfl⟩
 have e6:(op==6)=false:=by simpa using e
 by_cases e:op=7
 .subst e;obtain⟨R,l,x,rfl⟩:=Run.snoc (show 1<=R.s.d.length from h1);rw[o7]at h;obtain rfl:=ax h;have hd:∀z,z∈l++[x]->u32 z:=hw.d;exact⟨Did.of (l:=l) (m:=R.s.r) [x] [] [] [x] rfl (wf_r (xp hw (wF hd)) (Qn hw.r (IA hd))) hf rfl rfl cH cH rfl,rfl,rfl,rfl⟩
 have e7:(op==7)=false:=by simpa using e
 by_cases e:op=8
 .subst e;obtain⟨R,l,x,rfl⟩:=Run.snocR (show 1<=R.s.r.length from h2);rw[lZ]at h;obtain rfl:=ax h;have hd:∀z,z∈l++[x]->u32 z:=hw.r;exact⟨Did.of (l:=R.s.d) (m:=l) [] [x] [x] [] rfl (xp (wf_r hw (wF hd)) (Qn hw.d (IA hd))) hf rfl cH rfl rfl cH,rfl,rfl,rfl⟩
 grind [sK]
theorem qU(r:Int):du r=0\/du r=1\/du r=2\/du r=3:=by
 unfold du;generalize (bits .and .u32 r 2147483648 !=0)=c1;generalize (r==0)=c2;revert c1 c2;decide
theorem sh(a b r x:Int)(c:Bool)(o:Int):0<=jy a b r (du x) c o/\jy a b r (du x) c o<=15:=by
 unfold jy;generalize (o !=0)=c1;rcases qU x with h|h|h|h<;>rw[h]<;>revert c c1<;>decide
theorem PL{a:Int}(h:u32 a)(k:Nat):u32 (a.fdiv (2^k)):=by
 have hp:(0:Int)<2^k:=Int.pow_pos Wq7;rw[Int.fdiv_eq_ediv_of_nonneg _ (Int.le_of_lt hp)];have h1:=Int.ediv_nonneg h.1 (Int.le_of_lt hp);have h2:=Int.ediv_le_self (2^k) h.1;exact⟨h1,Int.le_trans h2 h.2⟩
def ArOk(q:Int×Int×Bool):Prop:=u32 q.1/\0<=q.2.1/\q.2.1<=15
theorem arOf_ok{r:Int}(h:u32 r):ArOk (Qj r):=by
 refine⟨h,?_⟩;show 0<=du r/\du r<=15
 grind [qU]
theorem arDo_ok(op:Int){a b:Int}(ha:u32 a):ArOk (jH op a b):=by
 have h0:ArOk (0,0,false):=⟨u0,by decide,by decide⟩;unfold jH;refine bI ArOk ⟨wrap_u32 _,sh a b 0 _ _ _⟩ ?_;refine bI ArOk ⟨wrap_u32 _,sh a b 0 _ _ _⟩ ?_;refine bI ArOk ⟨u0,sh a b 0 _ _ _⟩ ?_
 grind [ArOk,arOf_ok,iS,iv,u32,u0,wrap_u32,PL]
theorem KL{op:Int}(h1:16<=op)(h2:op<=24):bO op=((2,1),(0,0)):=by
 obtain rfl|rfl|rfl|rfl|rfl|rfl|rfl|rfl|rfl:op=16\/op=17\/op=18\/op=19\/op=20\/op=21\/op=22\/op=23\/op=24:=by omega
 all_goals rfl
theorem Hc{op nn:Int}{R:Run}(hw:R.s.wf)(hf:R.s.flags<=15)(h1:(bO op).1.1<=R.s.d.length)(h2:(bO op).2.1<=R.s.r.length)(h:(cB op nn R).1=true):Did op R.s (cB op nn R).2.s/\((cB op nn R).2.R8=R.R8\/(cB op nn R).2.R8=⟨5,0⟩)/\(cB op nn R).2.device=R.device/\(cB op nn R).2.count=R.count:=by
 cases ha:(decide (16<=op)&&decide (op<=25))with
 |true=>
  have h3:=Fz ha;rw[h3]at h1;obtain⟨R,l,x,y,rfl⟩:=Run.SJ h1;have hd:∀z,z∈(l++[x])++[y]->u32 z:=hw.d;obtain⟨hv,hf0,hf1⟩:=arDo_ok op (b:=y) (IA (wF hd));obtain⟨⟨v,fl,ok⟩,hq⟩:=Zgn (jH op x y);rw[hq]at hv hf0 hf1;have hv:u32 v:=hv;have hf0:0<=fl:=hf0;have hf1:fl<=15:=hf1;have hst:cB op nn (R.wd ((l++[x])++[y]))=(true,bif op !=25 then((bif ok then R.wd l else(R.wd l).wt ⟨5,0⟩).wfl fl).push [v]else(bif ok then R.wd l else(R.wd l).wt ⟨5,0⟩).wfl fl):=by
   simp only[cB,ha,ai,Run.top_wd,Run.pop_wd,hq]
  simp only[aD,ae]at ha;have hwl:(R.wd l).s.wf:=xp hw (wF (wF hd));rw[hst];have hfu:u32 fl:=⟨hf0,by omega⟩;by_cases e:op=25
  .subst e;cases ok
   .exact⟨Did.of (l:=l) (m:=R.s.r) [x,y] [] [] [] rfl (Ny hwl hfu) hf1 rfl cH cH cH cH,.inr rfl,rfl,rfl⟩
   exact⟨Did.of (l:=l) (m:=R.s.r) [x,y] [] [] [] rfl (Ny hwl hfu) hf1 rfl cH cH cH cH,.inl rfl,rfl,rfl⟩
  have e':(op !=25)=true:=by simpa using e
  have hn:=KL (op:=op) Wq1 Wq1;simp only[e',ai];cases ok
  .exact⟨Did.of (l:=l) (m:=R.s.r) [x,y] [v] [] [] hn (xp (Ny hwl hfu) (Qn (wF (wF hd)) hv)) hf1 rfl cH rfl cH (by simp[Run.push]),.inr rfl,rfl,rfl⟩
  exact⟨Did.of (l:=l) (m:=R.s.r) [x,y] [v] [] [] hn (xp (Ny hwl hfu) (Qn (wF (wF hd)) hv)) hf1 rfl cH rfl cH (by simp[Run.push]),.inl rfl,rfl,rfl⟩
 |false=>
  have hth:u32 (jB R nn):=wrap_u32 _;by_cases e:op=38
  .subst e;exact⟨Did.of (l:=R.s.d) (m:=R.s.r) [] [] [] [R.s.pc] rfl (GF (wf_r hw (Qn hw.r hw.pc)) hth) hf rfl cH (az _).symm cH rfl,.inl rfl,rfl,rfl⟩
  have e1:(op==38)=false:=by simpa using e
  by_cases e:op=32
  .subst e;exact⟨Did.of (l:=R.s.d) (m:=R.s.r) [] [] [] [] rfl (GF hw hth) hf rfl cH (az _).symm cH (az _).symm,.inl rfl,rfl,rfl⟩
  have e2:(op==32)=false:=by simpa using e
  by_cases e:op=39
  .subst e;obtain⟨R,l,x,rfl⟩:=Run.snocR (show 1<=R.s.r.length from h2);have hst:cB 39 nn (R.wr (l++[x]))=(true,(R.wr l).wpc x):=by show(_,_)=_;rw[Run.popR_wr,Run.topR_wr]
   rw[hst];have hd:∀z,z∈l++[x]->u32 z:=hw.r;exact⟨Did.of (l:=R.s.d) (m:=l) [] [] [x] [] rfl (GF (wf_r hw (wF hd)) (IA hd)) hf rfl cH cH rfl cH,.inl rfl,rfl,rfl⟩
  have e3:(op==39)=false:=by simpa using e
  by_cases e:op=40
  .subst e;obtain⟨R,l,x,rfl⟩:=Run.snoc (show 1<=R.s.d.length from h1);have hst:cB 40 nn (R.wd (l++[x]))=(true,(R.wd l).wpc x):=by show(_,_)=_;rw[Run.pop_wd,Run.top_wd]
   rw[hst];have hd:∀z,z∈l++[x]->u32 z:=hw.d;exact⟨Did.of (l:=l) (m:=R.s.r) [x] [] [] [] rfl (GF (xp hw (wF hd)) (IA hd)) hf rfl rfl cH cH cH,.inl rfl,rfl,rfl⟩
  have e4:(op==40)=false:=by simpa using e
  have hst:cB op nn R=((dm op R.s.flags).2,bif(dm op R.s.flags).1 then R.wpc (jB R nn)else R):=by simp only[cB, *,ai,ah]
  rw[hst]at h|-;have hn:bO op=((0,0),(0,0)):=by
   have h:(dm op R.s.flags).2=true:=h;by_cases e:op=33
   .subst e;rfl
   by_cases e':op=34
   .subst e';rfl
   by_cases e'':op=35
   .subst e'';rfl
   by_cases e5:op=36
   .subst e5;rfl
   by_cases e6:op=37
   .subst e6;rfl
   have b1:(op==33)=false:=by simpa using e
   have b2:(op==34)=false:=by simpa using e'
   have b3:(op==35)=false:=by simpa using e''
   have b4:(op==36)=false:=by simpa using e5
   have b5:(op==37)=false:=by simpa using e6
   unfold dm at h;rw[b1,b2,b3,b4,b5]at h;cases h
  cases(dm op R.s.flags).1
  .exact⟨Did.of (l:=R.s.d) (m:=R.s.r) [] [] [] [] hn hw hf rfl cH (az _).symm cH (az _).symm,.inl rfl,rfl,rfl⟩
  exact⟨Did.of (l:=R.s.d) (m:=R.s.r) [] [] [] [] hn (GF hw hth) hf rfl cH (az _).symm cH (az _).symm,.inl rfl,rfl,rfl⟩
structure wM(n:Nat)(op:Int)(s:St)(d:Dev)(m:fM):Prop where
 u:UOk n m.u
 dv:m.d.ok
 o:m.d.out.length<=d.out.length+1
 t:TrU m.r.R8
 did:m.r.R8.RN=0->Did op s m.r.s
theorem uD{n:Nat}{U:Mmu}(h:UOk n U)(R:Run)(va:Nat)(kind:Int):UOk n (cC n R U va kind).u:=by
 grind [cC,pj]
theorem xo(n:Nat)(R:Run)(U:Mmu)(va:Nat)(hva:va<=4294967295)(kind:Int):TrU (cC n R U va kind).r.R8:=by
 grind [cC,TrU,i5,rM]
theorem p6(n:Nat)(R:Run)(U:Mmu)(va:Nat)(kind:Int):(cC n R U va kind).ok=((cC n R U va kind).r.R8.RN==0):=by
 grind [cC]
theorem get_u32{s:St}(h:s.wf)(reg:Int):u32 (s.get reg).1:=by
 have hb:∀b,u32 (b2i b):=λb=>by cases b;exact u0;exact u1
 unfold St.get;refine bI (λq:Int×Bool=>u32 q.1) (hb _) ?_;refine bI (λq:Int×Bool=>u32 q.1) (hb _) ?_
 grind [u32,h.root,h.vec,h.epc,h.RN,h.addr,wrap_u32,h.flags,u0]
def AK(s:St)(q:St×Bool):Prop:=q.1.wf/\q.1.flags<=15/\q.1.count=s.count
theorem set_wf{s:St}(h:s.wf)(hf:s.flags<=15)(reg:Int){v:Int}(hv:u32 v):AK s (s.set reg v):=by
 have h0:AK s (s,false):=⟨h,hf,rfl⟩;unfold St.set;refine QG ?_;refine QG ?_;refine bI (AK s) ⟨⟨h.pc,h.flags,iS .andNot v 63,h.vec,h.epc,h.RN,h.addr,h.count,h.d,h.r⟩,hf,rfl⟩ ?_;refine bI (AK s) ⟨⟨h.pc,h.flags,h.root,hv,h.epc,h.RN,h.addr,h.count,h.d,h.r⟩,hf,rfl⟩ ?_;refine bI (AK s) ⟨⟨h.pc,h.flags,h.root,h.vec,hv,h.RN,h.addr,h.count,h.d,h.r⟩,hf,rfl⟩ ?_;refine bI (AK s) ⟨⟨h.pc,h.flags,h.root,h.vec,h.epc,hv,h.addr,h.count,h.d,h.r⟩,hf,rfl⟩ ?_;refine bI (AK s) ⟨⟨h.pc,h.flags,h.root,h.vec,h.epc,h.RN,hv,h.count,h.d,h.r⟩,hf,rfl⟩ ?_;refine QG ?_;refine QG ?_;refine bI (AK s) ⟨⟨h.pc,iS .and v 15,h.root,h.vec,h.epc,h.RN,h.addr,h.count,h.d,h.r⟩,?_,rfl⟩ h0
 grind [bits,MO]
section
variable {n:Nat} {op nn:Int} {R:Run} {U:Mmu} {d:Dev}
theorem HY(hop:op=48){l:List Int}{va:Nat}(hva:va<=4294967295)(hw:(R.wd (l++[(va:Int)])).s.wf)(hf:R.s.flags<=15)(hU:UOk n U)(hd:d.ok):wM n op (R.wd (l++[(va:Int)])).s d (jO n (R.wd l) U d va):=by
 subst hop;have hu:=uD hU (R.wd l) va 2;have ht:=xo n (R.wd l) U va hva 2;have hs:=uC n (R.wd l) U va 2;have hc:=p6 n (R.wd l) U va 2;have hwl:(R.wd l).s.wf:=xp hw (wF hw.d);unfold jO;obtain⟨⟨p,ok,r,u⟩,hq⟩:=Zgn (cC n (R.wd l) U va 2);rw[hq]at hu ht hs hc|-;have hu:UOk n u:=hu;have ht:TrU r.R8:=ht;have hs:r.s=(R.wd l).s:=hs;have hc:ok=(r.R8.RN==0):=hc;have key:∀(v:Int) (o:Bool) (d':Dev),u32 v->d'.ok->d'.out.length<=d.out.length+1->wM n 48 (R.wd (l++[(va:Int)])).s d (sS ⟨p,ok,r,u⟩ d' va v o):=λv o d' hv hd' ho'=>by
  unfold sS;cases o with
  |false=>exact⟨hu,hd',ho',(tr10 (i5 hva)),λh=>by cases h⟩
  |true=>
   refine⟨hu,hd',ho',ht,λ_=>?_⟩;have e:(Run.push r [v]).s=(R.wd (l++[v])).s:=by
    show St.mk _ _ _ _ _ _ _ _ _ _ _ _ _ _ _ _=_;rw[hs]
   show Did 48 _ (Run.push r [v]).s;rw[e];exact Did.of (l:=l) (m:=R.s.r) [(va:Int)] [v] [] [] rfl (xp hwl (Qn (wF hw.d) hv)) hf rfl rfl rfl cH cH
 cases hok:ok with
 |false=>
  rw[hok]at hc;exact⟨hu,hd,Nat.le_succ _,ht,λh=>by grind⟩
 |true=>
  rw[hok]at key;simp only[Bool.not_true,ah];refine bI (wM n 48 (R.wd (l++[(va:Int)])).s d) ?_ ?_
  .grind [Io,w6]
  refine key _ _ _ ?_ hd (Nat.le_succ _);unfold eh;exact bI (λq:Int×Bool=>u32 q.1) (xj hu.m.db _) u0
theorem GV(hop:op=49){l:List Int}{va v:Nat}(hva:va<=4294967295)(hv:v<=4294967295)(hw:(R.wd ((l++[(v:Int)])++[(va:Int)])).s.wf)(hf:R.s.flags<=15)(hU:UOk n U)(hd:d.ok):wM n op (R.wd ((l++[(v:Int)])++[(va:Int)])).s d (jL n (R.wd l) U d va v):=by
 subst hop;have hu:=uD hU (R.wd l) va 3;have ht:=xo n (R.wd l) U va hva 3;have hs:=uC n (R.wd l) U va 3;have hc:=p6 n (R.wd l) U va 3;have hdd:∀z,z∈(l++[(v:Int)])++[(va:Int)]->u32 z:=hw.d;have hwl:(R.wd l).s.wf:=xp hw (wF (wF hdd));unfold jL;obtain⟨⟨p,ok,r,u⟩,hq⟩:=Zgn (cC n (R.wd l) U va 3);rw[hq]at hu ht hs hc|-;have hu:UOk n u:=hu;have ht:TrU r.R8:=ht;have hs:r.s=(R.wd l).s:=hs;have hc:ok=(r.R8.RN==0):=hc;have hdid:Did 49 (R.wd ((l++[(v:Int)])++[(va:Int)])).s r.s:=by
  rw[hs];exact Did.of (l:=l) (m:=R.s.r) [(v:Int),(va:Int)] [] [] [] rfl hwl hf rfl cH cH cH cH
 cases hok:ok with
 |false=>
  rw[hok]at hc;exact⟨hu,hd,Nat.le_succ _,ht,λh=>by grind⟩
 |true=>
  simp only[Bool.not_true,ah];refine bI (wM n 49 (R.wd ((l++[(v:Int)])++[(va:Int)])).s d) ?_ ?_
  .obtain⟨h1,h2,h3⟩:=Et hu.m hd (w6 p.toNat) hv;obtain⟨⟨o,M',d'⟩,hq2⟩:=Zgn (cF n u.m d (w6 p.toNat) v);rw[hq2]at h1 h2 h3;rw[hq2];cases o with
   |false=>exact⟨⟨h1,hu.t⟩,h2,h3,(tr10 (i5 hva)),λh=>by cases h⟩
   |true=>exact⟨⟨h1,hu.t⟩,h2,h3,ht,λ_=>hdid⟩
  exact⟨⟨hu.m.SQ _ _ 4,hu.t⟩,hd,Nat.le_succ _,ht,λ_=>hdid⟩
theorem u7(hn:bO op=((1,1),(0,0))){l:List Int}{va k:Nat}(hva:va<=4294967295)(hk:k<=4)(hw:(R.wd (l++[(va:Int)])).s.wf)(hf:R.s.flags<=15)(hU:UOk n U)(hd:d.ok):wM n op (R.wd (l++[(va:Int)])).s d (fM.of (nc n (R.wd l) U va k) d):=by
 have hwl:(R.wd l).s.wf:=xp hw (wF hw.d);have hv:=H0 hU (R.wd l).sp va hk;exact⟨rA hU _ _ _ _,hd,Nat.le_succ _,Bw n U _ va k hva 2,λ_=>Did.of (l:=l) (m:=R.s.r) [(va:Int)] [_] [] [] hn (xp hwl (Qn (wF hw.d) hv)) hf rfl rfl rfl cH (by simp[nc,Run.push])⟩
theorem u6(hn:bO op=((2,0),(0,0))){l:List Int}{v:Int}{va k:Nat}(hva:va<=4294967295)(hw:(R.wd ((l++[v])++[(va:Int)])).s.wf)(hf:R.s.flags<=15)(hU:UOk n U)(hd:d.ok):wM n op (R.wd ((l++[v])++[(va:Int)])).s d (fM.of (mL n (R.wd l) U va k v) d):=by
 have hdd:∀z,z∈(l++[v])++[(va:Int)]->u32 z:=hw.d;have hwl:(R.wd l).s.wf:=xp hw (wF (wF hdd));exact⟨Dw hU _ _ _ _,hd,Nat.le_succ _,Bw n U _ va k hva 3,λ_=>Did.of (l:=l) (m:=R.s.r) [v,(va:Int)] [] [] [] hn hwl hf rfl cH (by simp[mL]) cH (by simp[mL])⟩
theorem xw:eB.length=16:=aE
theorem DN(hw:R.s.wf)(hf:R.s.flags<=15)(hc:0<=R.count/\R.count<=18446744073709551615)(ht:R.R8=Tr.none)(hU:UOk n U)(hd:d.ok)(hnn:u32 nn)(h1:(bO op).1.1<=R.s.d.length)(hst:dC op nn R=none)(hrk:(cB op nn R).1=false):wM n op R.s d (dD n op nn ⟨R,U,d⟩):=by
 have ht':TrU R.R8:=by rw[ht];exact trN
 have h0:∀{op},bO op=((0,0),(0,0))->∀(s':St),s'.wf->s'.flags<=15->s'.count=R.s.count->s'.d=R.s.d->s'.r=R.s.r->Did op R.s s':=λhn s' a1 a2 a3 a4 a5=>
  Did.of (l:=R.s.d) (m:=R.s.r) [] [] [] [] hn a1 a2 a3 cH (by simp[a4]) cH (by simp[a5])
 by_cases e:op=48
 .subst e;obtain⟨R,l,x,rfl⟩:=Run.snoc (show 1<=R.s.d.length from h1);have hx:=IA (l:=l) hw.d;obtain⟨va,rfl⟩:∃va:Nat,x=va:=ap hx.1;have hva:va<=4294967295:=by have:(va:Int)<=_:=hx.2;omega
  have he:dD n 48 nn ⟨R.wd (l++[(va:Int)]),U,d⟩=jO n (R.wd l) U d va:=by show jO _ _ _ _ _=_;rw[Run.pop_wd,Run.top_wd];rfl
  grind [HY]
 have e48:(op==48)=false:=by simpa using e
 by_cases e:op=49
 .subst e;obtain⟨R,l,y,x,rfl⟩:=Run.SJ (show 2<=R.s.d.length from h1);have hx:=IA (l:=l++[y]) hw.d;have hy:=IA (l:=l) (wF (l:=l++[y]) hw.d);obtain⟨va,rfl⟩:∃va:Nat,x=va:=ap hx.1;obtain⟨v,rfl⟩:∃v:Nat,y=v:=ap hy.1;have hva:va<=4294967295:=by have:(va:Int)<=_:=hx.2;omega
  have hv:v<=4294967295:=by have:(v:Int)<=_:=hy.2;omega
  have he:dD n 49 nn ⟨R.wd ((l++[(v:Int)])++[(va:Int)]),U,d⟩=jL n (R.wd l) U d va v:=by show jL _ _ _ _ _ _=_;rw[Run.pop_wd,Run.top_wd,Run.pop_wd,Run.top_wd];rfl
  grind [GV]
 have e49:(op==49)=false:=by simpa using e
 by_cases e:op=50
 .subst e;obtain⟨R,l,x,rfl⟩:=Run.snoc (show 1<=R.s.d.length from h1);have hx:=IA (l:=l) hw.d;obtain⟨va,rfl⟩:∃va:Nat,x=va:=ap hx.1;have hva:va<=4294967295:=by have:(va:Int)<=_:=hx.2;omega
  have he:dD n 50 nn ⟨R.wd (l++[(va:Int)]),U,d⟩=fM.of (nc n (R.wd l) U va 4) d:=by show fM.of (nc _ _ _ _ _) _=_;rw[Run.pop_wd,Run.top_wd];rfl
  rw[he];exact u7 rfl hva Wq7 hw hf hU hd
 have e50:(op==50)=false:=by simpa using e
 by_cases e:op=51
 .subst e;obtain⟨R,l,y,x,rfl⟩:=Run.SJ (show 2<=R.s.d.length from h1);have hx:=IA (l:=l++[y]) hw.d;obtain⟨va,rfl⟩:∃va:Nat,x=va:=ap hx.1;have hva:va<=4294967295:=by have:(va:Int)<=_:=hx.2;omega
  have he:dD n 51 nn ⟨R.wd ((l++[y])++[(va:Int)]),U,d⟩=fM.of (mL n (R.wd l) U va 4 y) d:=by show fM.of (mL _ _ _ _ _ _) _=_;rw[Run.pop_wd,Run.top_wd,Run.pop_wd,Run.top_wd];rfl
  rw[he];exact u6 rfl hva hw hf hU hd
 have e51:(op==51)=false:=by simpa using e
 by_cases e:op=52
 .subst e;obtain⟨R,l,x,rfl⟩:=Run.snoc (show 1<=R.s.d.length from h1);have hx:=IA (l:=l) hw.d;obtain⟨va,rfl⟩:∃va:Nat,x=va:=ap hx.1;have hva:va<=4294967295:=by have:(va:Int)<=_:=hx.2;omega
  have he:dD n 52 nn ⟨R.wd (l++[(va:Int)]),U,d⟩=fM.of (nc n (R.wd l) U va 1) d:=by show fM.of (nc _ _ _ _ _) _=_;rw[Run.pop_wd,Run.top_wd];rfl
  rw[he];exact u7 rfl hva Wq7 hw hf hU hd
 have e52:(op==52)=false:=by simpa using e
 by_cases e:op=53
 .subst e;obtain⟨R,l,y,x,rfl⟩:=Run.SJ (show 2<=R.s.d.length from h1);have hx:=IA (l:=l++[y]) hw.d;obtain⟨va,rfl⟩:∃va:Nat,x=va:=ap hx.1;have hva:va<=4294967295:=by have:(va:Int)<=_:=hx.2;omega
  have he:dD n 53 nn ⟨R.wd ((l++[y])++[(va:Int)]),U,d⟩=fM.of (mL n (R.wd l) U va 1 y) d:=by show fM.of (mL _ _ _ _ _ _) _=_;rw[Run.pop_wd,Run.top_wd,Run.pop_wd,Run.top_wd];rfl
  rw[he];exact u6 rfl hva hw hf hU hd
 have e53:(op==53)=false:=by simpa using e
 by_cases e:op=64
 .subst e;exact⟨hU,hd,Nat.le_succ _,tr11,λh=>by cases h⟩
 have e64:(op==64)=false:=by simpa using e
 by_cases e:op=65
 .subst e;exact⟨hU,hd,Nat.le_succ _,ht',λ_=>h0 rfl R.s.back ⟨hw.epc,hw.flags,hw.root,hw.vec,hw.epc,hw.RN,hw.addr,hw.count,hw.d,hw.r⟩ hf rfl rfl rfl⟩
 have e65:(op==65)=false:=by simpa using e
 by_cases e:op=66
 .subst e;have hwc:(R.s.SE R.count).wf:=⟨hw.pc,hw.flags,hw.root,hw.vec,hw.epc,hw.RN,hw.addr,hc,hw.d,hw.r⟩;exact⟨hU,hd,Nat.le_succ _,ht',λ_=>Did.of (l:=R.s.d) (m:=R.s.r) [] [((R.s.SE R.count).get nn).1] [] [] rfl (xp hw (Qn hw.d (get_u32 hwc nn))) hf rfl cH rfl cH (az _).symm⟩
 have e66:(op==66)=false:=by simpa using e
 by_cases e:op=67
 .subst e;obtain⟨R,l,x,rfl⟩:=Run.snoc (show 1<=R.s.d.length from h1);have hwl:(R.wd l).s.wf:=xp hw (wF (l:=l) hw.d);have hs:=set_wf hwl hf nn (IA (l:=l) hw.d);obtain⟨q1,q2⟩:=St.set_dr (R.wd l).s nn x;have he:dD n 67 nn ⟨R.wd (l++[x]),U,d⟩=⟨(R.wd l).ws ((R.wd l).s.set nn x).1,bif nn==1||nn==2 then⟨U.m,eB⟩else U,d⟩:=by show fM.mk _ _ _=_;rw[Run.pop_wd,Run.top_wd]
  rw[he];exact⟨bI (UOk n) ⟨hU.m,xw⟩ hU,hd,Nat.le_succ _,ht',λ_=>Did.of (l:=l) (m:=R.s.r) [x] [] [] [] rfl hs.1 hs.2.1 hs.2.2 rfl bR cH bR⟩
 have e67:(op==67)=false:=by simpa using e
 by_cases e:op=68
 .subst e;obtain⟨R,l,x,rfl⟩:=Run.snoc (show 1<=R.s.d.length from h1);have he:dD n 68 nn ⟨R.wd (l++[x]),U,d⟩=⟨R.wd l,⟨U.m,wV U.t x.toNat⟩,d⟩:=by show fM.mk _ _ _=_;rw[Run.pop_wd,Run.top_wd]
  rw[he];exact⟨⟨hU.m,(JI _ _).trans hU.t⟩,hd,Nat.le_succ _,ht',λ_=>Did.of (l:=l) (m:=R.s.r) [x] [] [] [] rfl (xp hw (wF (l:=l) hw.d)) hf rfl rfl cH cH cH⟩
 have e68:(op==68)=false:=by simpa using e
 by_cases e:op=69
 .subst e;exact⟨hU,hd,Nat.le_succ _,ht',λ_=>h0 rfl R.s.halt ⟨hw.pc,hw.flags,hw.root,hw.vec,hw.epc,hw.RN,hw.addr,hw.count,hw.d,hw.r⟩ hf rfl rfl rfl⟩
 have e69:(op==69)=false:=by simpa using e
 have he:dD n op nn ⟨R,U,d⟩=⟨R,U,d⟩:=by simp only[dD, *,ah]
 have hn:bO op=((0,0),(0,0)):=by
  have n1:(op==1)=false:=by cases h:(op==1)with|false=>rfl|true=>(have:=jZ h;subst this;cases hst)
  have n2:(op==2)=false:=by cases h:(op==2)with|false=>rfl|true=>(have:=jZ h;subst this;cases hst)
  have n3:(op==3)=false:=by cases h:(op==3)with|false=>rfl|true=>(have:=jZ h;subst this;cases hst)
  have n4:(op==4)=false:=by cases h:(op==4)with|false=>rfl|true=>(have:=jZ h;subst this;cases hst)
  have n5:(op==5)=false:=by cases h:(op==5)with|false=>rfl|true=>(have:=jZ h;subst this;cases hst)
  have n6:(op==6)=false:=by cases h:(op==6)with|false=>rfl|true=>(have:=jZ h;subst this;cases hst)
  have n7:(op==7)=false:=by cases h:(op==7)with|false=>rfl|true=>(have:=jZ h;subst this;cases hst)
  have n8:(op==8)=false:=by cases h:(op==8)with|false=>rfl|true=>(have:=jZ h;subst this;cases hst)
  have n16:(op==16)=false:=by cases h:(op==16)with|false=>rfl|true=>(have:=jZ h;subst this;cases hrk)
  have n17:(op==17)=false:=by cases h:(op==17)with|false=>rfl|true=>(have:=jZ h;subst this;cases hrk)
  have n18:(op==18)=false:=by cases h:(op==18)with|false=>rfl|true=>(have:=jZ h;subst this;cases hrk)
  have n19:(op==19)=false:=by cases h:(op==19)with|false=>rfl|true=>(have:=jZ h;subst this;cases hrk)
  have n20:(op==20)=false:=by cases h:(op==20)with|false=>rfl|true=>(have:=jZ h;subst this;cases hrk)
  have n21:(op==21)=false:=by cases h:(op==21)with|false=>rfl|true=>(have:=jZ h;subst this;cases hrk)
  have n22:(op==22)=false:=by cases h:(op==22)with|false=>rfl|true=>(have:=jZ h;subst this;cases hrk)
  have n23:(op==23)=false:=by cases h:(op==23)with|false=>rfl|true=>(have:=jZ h;subst this;cases hrk)
  have n24:(op==24)=false:=by cases h:(op==24)with|false=>rfl|true=>(have:=jZ h;subst this;cases hrk)
  have n25:(op==25)=false:=by cases h:(op==25)with|false=>rfl|true=>(have:=jZ h;subst this;cases hrk)
  have n38:(op==38)=false:=by cases h:(op==38)with|false=>rfl|true=>(have:=jZ h;subst this;cases hrk)
  have n39:(op==39)=false:=by cases h:(op==39)with|false=>rfl|true=>(have:=jZ h;subst this;cases hrk)
  have n40:(op==40)=false:=by cases h:(op==40)with|false=>rfl|true=>(have:=jZ h;subst this;cases hrk)
  unfold bO;simp only[*,ah]
 rw[he];exact⟨hU,hd,Nat.le_succ _,ht',λ_=>h0 hn R.s hw hf rfl rfl rfl⟩
theorem DR{s:St}(h:s.wf):s.next.wf:=by
 refine⟨h.pc,h.flags,h.root,h.vec,h.epc,h.RN,h.addr,?_,h.d,h.r⟩
 grind [IntKind.wrap_u64]
theorem Jv{s:St}(h:s.wf)(c:Int){a:Int}(ha:u32 a):(s.R8 c a).wf:=⟨h.vec,h.flags,h.root,h.vec,h.pc,wrap_u32 _,ha,h.count,h.d,h.r⟩
theorem KQ{s:St}(hw:s.wf)(hr:s.right=true)(hnn:u32 nn)(hck:eu s op nn=0)(hU:UOk n U)(hd:d.ok):wM n op s.next d (iB n s op nn U d):=by
 obtain⟨h16,r16,f15⟩:=St.fits hr;obtain⟨n1,n2⟩:=nL hck;have hwn:=DR hw
 have hw0:(eP s op).s.wf:=GF hwn (wrap_u32 _);have key:∀{m:fM},wM n op (eP s op).s d m->wM n op s.next d m:=λh=>⟨h.u,h.dv,h.o,h.t,λhc=>by
  have h1:=h.did hc;exact⟨h1.wf,h1.fl,h1.cnt,h1.dl,h1.dt,h1.rl,h1.rt⟩⟩
 unfold iB;cases hst:dC op nn (eP s op)with
 |some R'=>
  obtain⟨h1,h2, -, -⟩:=JQ hw0 f15 hnn n1 n2 hst;exact key ⟨hU,hd,Nat.le_succ _,by show TrU R'.R8;rw[h2];exact trN,λ_=>h1⟩
 |none=>
  cases hrk:(cB op nn (eP s op)).1 with
  |true=>
   obtain⟨h1,h2, -, -⟩:=Hc hw0 f15 n1 n2 hrk;refine key ⟨hU,hd,Nat.le_succ _,?_,λ_=>h1⟩
   grind [TrU,cB,eP,trN,u0]
  |false=>
   refine iw ?_;rw[qo op nn _ hrk];exact key (DN hw0 f15 hw.count rfl hU hd hnn n1 hst hrk)
structure Goes(n:Nat)(s:St)(d:Dev)(q:Res×Mmu×Dev):Prop where
 wf:q.1.s.wf
 right:q.1.s.right=true
 cnt:q.1.s.count=IntKind.u64.wrap (s.count+1)
 u:UOk n q.2.1
 dv:q.2.2.ok
 o:q.2.2.out.length<=d.out.length+1
theorem DU{s:St}{q:(Nat×Nat)×(Nat×Nat)}(h:kU s q=0):(s.d.length:Int) - q.1.1+q.1.2<=16/\(s.r.length:Int) - q.2.1+q.2.2<=16:=by
 grind [kU]
theorem CI{s:St}{op n:Int}(h:eu s op n=0):(s.d.length:Int) - (bO op).1.1+(bO op).1.2<=16/\(s.r.length:Int) - (bO op).2.1+(bO op).2.2<=16:=by
 unfold eu at h;revert h;refine Wq71 ?_;refine Wq71 ?_;exact DU
theorem Mt{s s':St}(h:Did op s s')(hs:s.d.length<=16/\s.r.length<=16)(hn:(bO op).1.1<=s.d.length/\(bO op).2.1<=s.r.length)(hr:(s.d.length:Int) - (bO op).1.1+(bO op).1.2<=16/\(s.r.length:Int) - (bO op).2.1+(bO op).2.2<=16):s'.right=true:=by
 grind [h.dl,h.rl,h.fl,St.right]
theorem wj{s:St}(hw:s.wf)(hr:s.right=true)(hnn:u32 nn)(hU:UOk n U)(hd:d.ok):Goes n s d (pG n s op nn U d):=by
 have hU':UOk n ⟨U.m.calm,U.t⟩:=⟨hU.m.calm,hU.t⟩;have hfit:=St.fits hr;unfold pG;rw[hr];simp only[Bool.not_true,ah];cases hck:(eu s op nn !=0)with
 |true=>exact⟨Jv (DR hw) _ u0,hr,rfl,hU',hd,Nat.le_succ _⟩
 |false=>
  have hck0:eu s op nn=0:=by simpa using hck
  have hA:=KQ (n:=n) hw hr hnn hck0 hU' hd;refine iw ?_;obtain⟨m,hm⟩:=Zgn (iB n s op nn ⟨U.m.calm,U.t⟩ d);rw[hm]at hA|-;unfold we;cases hc:(m.r.R8.RN !=0)with
  |true=>exact⟨Jv (DR hw) _ hA.t.1,hr,rfl,hA.u,hA.dv,hA.o⟩
  |false=>
   have h1:=hA.did bR;have c1:=nL hck0;have c2:=CI hck0;exact⟨h1.wf,Mt h1 ⟨hfit.1,hfit.2.1⟩ c1 c2,h1.cnt,hA.u,hA.dv,hA.o⟩
end
end
end Go.Ink
