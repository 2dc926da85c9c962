/- Lemmas. -/
import Derived.Test.YtkegldppffignaaGreatDoorPaa
import Derived.Test.YtkegldppffignaaGreatDoorPab
import Derived.Test.YtkegldppffignaaGreatDoorPac
import Derived.Test.YtkegldppffignaaGreatDoorPae
set_option linter.unusedSimpArgs false
set_option linter.unusedVariables false
set_option maxRecDepth 100000
set_option maxHeartbeats 4000000
namespace Go.Ink
open Go.RowKit
abbrev gi.of(p:Run×Mmu)(d:Dev):gi:=⟨p.1,p.2,d⟩
abbrev Run.ws(R:Run)(s:St):Run:=⟨s,R.count,R.M3,R.device⟩
abbrev St.Ny(s:St)(c:Int):St:=⟨s.pc,s.d,s.r,s.flags,s.MQ,s.MU,s.ie,s.root,s.vec,s.epc,s.MR,s.addr,s.M1,s.eie,c,s.halted⟩
abbrev St.halt(s:St):St:=⟨s.pc,s.d,s.r,s.flags,s.MQ,s.MU,s.ie,s.root,s.vec,s.epc,s.MR,s.addr,s.M1,s.eie,s.count,true⟩
def dM(n:Nat)(op nn:Int)(m:gi):gi:=
 bif op==48 then jZ n m.r.pop m.u m.d m.r.top.toNat else
 bif op==49 then jX n m.r.pop.pop m.u m.d m.r.top.toNat m.r.pop.top.toNat else
 bif op==50 then gi.of (mI n m.r.pop m.u m.r.top.toNat 4) m.d else
 bif op==51 then gi.of (mh n m.r.pop.pop m.u m.r.top.toNat 4 m.r.pop.top) m.d else
 bif op==52 then gi.of (mI n m.r.pop m.u m.r.top.toNat 1) m.d else
 bif op==53 then gi.of (mh n m.r.pop.pop m.u m.r.top.toNat 1 m.r.pop.top) m.d else
 bif op==64 then⟨m.r.wt ⟨11,0⟩,m.u,m.d⟩else
 bif op==65 then⟨m.r.ws m.r.s.back,m.u,m.d⟩else
 bif op==66 then⟨m.r.push [((m.r.s.Ny m.r.count).get nn).1],m.u,m.d⟩else
 bif op==67 then⟨m.r.pop.ws (m.r.pop.s.set nn m.r.top).1,bif nn==1||nn==2 then⟨m.u.m,dz⟩else m.u,m.d⟩else
 bif op==68 then⟨m.r.pop,⟨m.u.m,uK m.u.t m.r.top.toNat⟩,m.d⟩else
 bif op==69 then⟨m.r.ws m.r.s.halt,m.u,m.d⟩else m
theorem St.set_dr(s:St)(reg v:Int):(s.set reg v).1.d=s.d/\(s.set reg v).1.r=s.r:=by
 unfold St.set
 repeat (refine bO (λq:St×Bool=>q.1.d=s.d/\q.1.r=s.r) ⟨rfl,rfl⟩ ?_)
 exact de
end Go.Ink
namespace Go.Proofs.YtkegldppffignaaGreatDoor
open Go.RowKit Go.Ink Go.Proofs.Tryz
attribute [local irreducible] OpY bS
theorem Gb(br bu bb:Nat)(L:fu)(D:p8)(X:kb)(Y:nw)(R:Run)(U:Mmu)(d:Dev)(op nn:Int)(hnn:u32 nn)(hw:∀x,x∈R.s.d->u32 x)(hdl:R.s.d.length<=100000)(hrl:R.s.r.length<=100000)(hn:(bY op).1.1<=R.s.d.length)(hT:U.t.length=16)(hroot:u32 R.s.root)(hd:d.wf)(ho:d.out.length<=1000000000)
  (w:World) (hi:Inv w (bM (lJ br bu bb L D X Y ⟨R,U,d⟩)) (lJ br bu bb L D X Y ⟨R,U,d⟩) w):
  Ctr prog 162 [.pointer (some ⟨br,0,none⟩),.agg #[.int .i64 op,.int .u32 nn]] w (lJ br bu bb L D X Y ⟨R,U,d⟩) (λv cs=>∃X' Y',v= .tuple #[]/\cs=lJ br bu bb L D X' Y' (dM L.n op nn ⟨R,U,d⟩)):=by
 have hu1:=hnn.1;have hu2:=hnn.2;refine bN func162 rfl ntmps162 rfl hi ?_;refine Z_2 ?_;refine ZO λb3=>?_;refine rj ?_;refine ZW ?_ ?_<;>intro hc2
 .obtain rfl:=kk hc2;obtain⟨R,l,x,rfl⟩:=Run.snoc (show 1<=R.s.d.length from hn);obtain⟨hx1,hx2⟩:=hw x cE;obtain⟨va,rfl⟩:∃va:Nat,x=va:=ar hx1;have hva:va<=4294967295:=Wq1;have hll:l.length<=100000:=(by have:(l++[(va:Int)]).length<=100000:=hdl;simp only[ae,ak,ao]at this;omega);have HC:=lode_ok br bu bb L D X Y R U d l va hva hll hT hroot hd;have hst:dM L.n 48 nn ⟨R.wd (l++[(va:Int)]),U,d⟩=jZ L.n (R.wd l) U d va:=(by show jZ _ _ _ _ _=_;rw[Run.pop_wd,Run.top_wd];rfl);obtain⟨m',hm'⟩:∃m',jZ L.n (R.wd l) U d va=m':=⟨_,rfl⟩;rw[hm']at HC;rw[hm']at hst;refine Z_2 ?_;refine ZcL (lJ br bu bb L D X Y ⟨R.wd (l++[(va:Int)]),U,d⟩) (λw hi hin=>HC w hin) ?_;rintro _ _ ⟨_,⟨X',Y',rfl,rfl⟩,rfl⟩;refine Z_2 ?_;refine bP (lJ br bu bb L D X' Y' m') Zj ?_;refine Wq3 ?_;rw[hst];exact⟨X',Y',rfl,rfl⟩
 refine Z_6 ?_;refine ZW ?_ ?_<;>intro hc4
 .obtain rfl:=kk hc4;obtain⟨R,l,y,x,rfl⟩:=Run.NC (show 2<=R.s.d.length from hn);obtain⟨hx1,hx2⟩:=hw x cE;obtain⟨hy1,hy2⟩:=hw y cE;obtain⟨va,rfl⟩:∃va:Nat,x=va:=ar hx1;obtain⟨v,rfl⟩:∃v:Nat,y=v:=ar hy1;have hva:va<=4294967295:=Wq1;have hv:v<=4294967295:=Wq1;have hll:l.length<=100000:=(by have:((l++[(v:Int)])++[(va:Int)]).length<=100000:=hdl;simp only[ae,ak,ao]at this;omega);have HC:=stow_ok br bu bb L D X Y R U d l va v hva hv hT hroot hd ho;have hst:dM L.n 49 nn ⟨R.wd ((l++[(v:Int)])++[(va:Int)]),U,d⟩=jX L.n (R.wd l) U d va v:=(by show jX _ _ _ _ _ _=_;rw[Run.pop_wd,Run.top_wd,Run.pop_wd,Run.top_wd];rfl);obtain⟨m',hm'⟩:∃m',jX L.n (R.wd l) U d va v=m':=⟨_,rfl⟩;rw[hm']at HC;rw[hm']at hst;refine Z_2 ?_;refine ZcL (lJ br bu bb L D X Y ⟨R.wd ((l++[(v:Int)])++[(va:Int)]),U,d⟩) (λw hi hin=>HC w hin) ?_;rintro _ _ ⟨_,⟨Y',rfl,rfl⟩,rfl⟩;refine Z_2 ?_;refine bP (lJ br bu bb L D X Y' m') Zj ?_;refine Wq3 ?_;rw[hst];exact⟨X,Y',rfl,rfl⟩
 refine Z_6 ?_;refine ZW ?_ ?_<;>intro hc6
 .obtain rfl:=kk hc6;obtain⟨R,l,x,rfl⟩:=Run.snoc (show 1<=R.s.d.length from hn);obtain⟨hx1,hx2⟩:=hw x cE;obtain⟨va,rfl⟩:∃va:Nat,x=va:=ar hx1;have hva:va<=4294967295:=Wq1;have hll:l.length<=100000:=(by have:(l++[(va:Int)]).length<=100000:=hdl;simp only[ae,ak,ao]at this;omega);have HC:=BI br bu bb L D X R U l va 4 hva Wq5 Wq5 hll hT hroot;have hst:dM L.n 50 nn ⟨R.wd (l++[(va:Int)]),U,d⟩=gi.of (mI L.n (R.wd l) U va 4) d:=(by show gi.of (mI _ _ _ _ _) _=_;rw[Run.pop_wd,Run.top_wd];rfl);obtain⟨m',hm'⟩:∃m',mI L.n (R.wd l) U va 4=m':=⟨_,rfl⟩;rw[hm']at HC;rw[hm']at hst;refine Z_2 ?_;refine ZcL (eJ (kOf br bu D) X (R.wd (l++[(va:Int)]))++uF bu bb L U) (λw hi hin=>HC w hin) ?_;rintro _ _ ⟨_,⟨X',rfl,rfl⟩,rfl⟩;refine Z_2 ?_;refine bP (lJ br bu bb L D X' Y ⟨m'.1,m'.2,d⟩) Zj ?_;refine Wq3 ?_;rw[hst];exact⟨X',Y,rfl,rfl⟩
 refine Z_6 ?_;refine ZW ?_ ?_<;>intro hc8
 .obtain rfl:=kk hc8;obtain⟨R,l,y,x,rfl⟩:=Run.NC (show 2<=R.s.d.length from hn);obtain⟨hx1,hx2⟩:=hw x cE;obtain⟨hy1,hy2⟩:=hw y cE;obtain⟨va,rfl⟩:∃va:Nat,x=va:=ar hx1;obtain⟨v,rfl⟩:∃v:Nat,y=v:=ar hy1;have hva:va<=4294967295:=Wq1;have hv:v<=4294967295:=Wq1;have hll:l.length<=100000:=(by have:((l++[(v:Int)])++[(va:Int)]).length<=100000:=hdl;simp only[ae,ak,ao]at this;omega);have HC:=BH br bu bb L D X R U l va 4 v hva Wq5 Wq5 hll hT hroot;have hst:dM L.n 51 nn ⟨R.wd ((l++[(v:Int)])++[(va:Int)]),U,d⟩=gi.of (mh L.n (R.wd l) U va 4 v) d:=(by show gi.of (mh _ _ _ _ _ _) _=_;rw[Run.pop_wd,Run.top_wd,Run.pop_wd,Run.top_wd];rfl);obtain⟨m',hm'⟩:∃m',mh L.n (R.wd l) U va 4 v=m':=⟨_,rfl⟩;rw[hm']at HC;rw[hm']at hst;refine Z_2 ?_;refine gj (dY (eJ (kOf br bu D) X (R.wd ((l++[(v:Int)])++[(va:Int)]))++uF bu bb L U) rfl (λ_ _=>rfl) Zi (λw hi hin=>HC w hin)) rfl ?_;rintro _ _ ⟨_,⟨rfl,rfl⟩,rfl⟩;refine Z_2 ?_;refine bP (lJ br bu bb L D X Y ⟨m'.1,m'.2,d⟩) Zj ?_;refine Wq3 ?_;rw[hst];exact⟨X,Y,rfl,rfl⟩
 refine Z_6 ?_;refine ZW ?_ ?_<;>intro hc10
 .obtain rfl:=kk hc10;obtain⟨R,l,x,rfl⟩:=Run.snoc (show 1<=R.s.d.length from hn);obtain⟨hx1,hx2⟩:=hw x cE;obtain⟨va,rfl⟩:∃va:Nat,x=va:=ar hx1;have hva:va<=4294967295:=Wq1;have hll:l.length<=100000:=(by have:(l++[(va:Int)]).length<=100000:=hdl;simp only[ae,ak,ao]at this;omega);have HC:=BI br bu bb L D X R U l va 1 hva Wq5 Wq5 hll hT hroot;have hst:dM L.n 52 nn ⟨R.wd (l++[(va:Int)]),U,d⟩=gi.of (mI L.n (R.wd l) U va 1) d:=(by show gi.of (mI _ _ _ _ _) _=_;rw[Run.pop_wd,Run.top_wd];rfl);obtain⟨m',hm'⟩:∃m',mI L.n (R.wd l) U va 1=m':=⟨_,rfl⟩;rw[hm']at HC;rw[hm']at hst;refine Z_2 ?_;refine ZcL (eJ (kOf br bu D) X (R.wd (l++[(va:Int)]))++uF bu bb L U) (λw hi hin=>HC w hin) ?_;rintro _ _ ⟨_,⟨X',rfl,rfl⟩,rfl⟩;refine Z_2 ?_;refine bP (lJ br bu bb L D X' Y ⟨m'.1,m'.2,d⟩) Zj ?_;refine Wq3 ?_;rw[hst];exact⟨X',Y,rfl,rfl⟩
 refine Z_6 ?_;refine ZW ?_ ?_<;>intro hc12
 .obtain rfl:=kk hc12;obtain⟨R,l,y,x,rfl⟩:=Run.NC (show 2<=R.s.d.length from hn);obtain⟨hx1,hx2⟩:=hw x cE;obtain⟨hy1,hy2⟩:=hw y cE;obtain⟨va,rfl⟩:∃va:Nat,x=va:=ar hx1;obtain⟨v,rfl⟩:∃v:Nat,y=v:=ar hy1;have hva:va<=4294967295:=Wq1;have hv:v<=4294967295:=Wq1;have hll:l.length<=100000:=(by have:((l++[(v:Int)])++[(va:Int)]).length<=100000:=hdl;simp only[ae,ak,ao]at this;omega);have HC:=BH br bu bb L D X R U l va 1 v hva Wq5 Wq5 hll hT hroot;have hst:dM L.n 53 nn ⟨R.wd ((l++[(v:Int)])++[(va:Int)]),U,d⟩=gi.of (mh L.n (R.wd l) U va 1 v) d:=(by show gi.of (mh _ _ _ _ _ _) _=_;rw[Run.pop_wd,Run.top_wd,Run.pop_wd,Run.top_wd];rfl);obtain⟨m',hm'⟩:∃m',mh L.n (R.wd l) U va 1 v=m':=⟨_,rfl⟩;rw[hm']at HC;rw[hm']at hst;refine Z_2 ?_;refine gj (dY (eJ (kOf br bu D) X (R.wd ((l++[(v:Int)])++[(va:Int)]))++uF bu bb L U) rfl (λ_ _=>rfl) Zi (λw hi hin=>HC w hin)) rfl ?_;rintro _ _ ⟨_,⟨rfl,rfl⟩,rfl⟩;refine Z_2 ?_;refine bP (lJ br bu bb L D X Y ⟨m'.1,m'.2,d⟩) Zj ?_;refine Wq3 ?_;rw[hst];exact⟨X,Y,rfl,rfl⟩
 refine Z_6 ?_;refine ZW ?_ ?_<;>intro hc14
 .obtain rfl:=kk hc14;refine Z_2 ?_;refine ZcM (eJ (kOf br bu D) X R) (λw hi hin=>ot (kOf br bu D) X R 11 0 w hin) ?_;refine Z_2 ?_;refine bP (lJ br bu bb L D X Y ⟨R.wt ⟨11,0⟩,U,d⟩) Zj ?_;refine Wq3 ?_;exact⟨X,Y,rfl,rfl⟩
 refine Z_6 ?_;refine ZW ?_ ?_<;>intro hc16
 .obtain rfl:=kk hc16;have hR:=Gc R.s X.Ad X.Ar X.cd X.cr;refine Z_5 ?_;refine dN (cz (vs:=R.s.cells (.slice X.Ad R.s.d.length X.cd) (.slice X.Ar R.s.r.length X.cr)) Zrf Zrf Zv0) (cK Zh rfl) rfl ?_;refine ZS (λw hi=>hR w (hi.NM (show Has _ (slD R.s X.Ad X.cd)from Zh) (show Has _ (slR R.s X.Ar X.cr)from Zh) Wq1 Wq1)) ?_;rintro _ _ ⟨_,⟨A1,c1,A2,c2,rfl,rfl⟩,rfl⟩;refine Z_2 ?_;refine dH (fb (ys:=iX (kOf br bu D) ⟨A1,c1,A2,c2⟩ (R.ws R.s.back)) (n:=16) (vs:=R.s.back.cells (.slice A1 R.s.back.d.length c1) (.slice A2 R.s.back.r.length c2)) rfl Zrf rfl rfl (jA rfl) Za rfl (by simp only[ak,ao];omega)) ?_;rintro _ _ ⟨rfl,rfl⟩;refine Z_2 ?_;refine bP (lJ br bu bb L D ⟨A1,c1,A2,c2⟩ Y ⟨R.ws R.s.back,U,d⟩) Zj ?_;refine Wq3 ?_;exact⟨⟨A1,c1,A2,c2⟩,Y,rfl,rfl⟩
 refine Z_6 ?_;refine ZW ?_ ?_<;>intro hc18
 .obtain rfl:=kk hc18;have HG:=Mv (R.s.Ny R.count) (.slice X.Ad R.s.d.length X.cd) (.slice X.Ar R.s.r.length X.cr) nn;obtain⟨⟨g,gk⟩,hg⟩:=Zgn ((R.s.Ny R.count).get nn);rw[hg]at HG;have hst:dM L.n 66 nn ⟨R,U,d⟩=⟨R.push [g],U,d⟩:=(by show gi.mk (R.push [((R.s.Ny R.count).get nn).1]) U d=_;rw[hg]);refine Z_5 ?_;refine dN (cz (vs:=R.s.cells (.slice X.Ad R.s.d.length X.cd) (.slice X.Ar R.s.r.length X.cr)) Zrf Zrf Zv0) (cK Zh rfl) rfl ?_;refine ZN λb4=>?_
  refine ZM ?_;refine Z_9 ?_;refine ZL ?_;refine Z_7 ?_;refine Zy (ce rfl rfl Zv0 Zl) ?_;refine ZSe (λw hi=>HG w) ?_;refine dS ?_;refine jO ?_;rintro _ _ ⟨b70,rfl,rfl⟩;refine ZcL (eJ (kOf br bu D) X R) (λw hi hin=>iY (kOf br bu D) X R _ 1 1 [g] Wq1 w hin (λw' hk=>hi.NE Zi Zh hk)) ?_;rintro _ _ ⟨_,⟨A',c',rfl,rfl⟩,rfl⟩;refine Z_2 ?_;refine bP (lJ br bu bb L D ⟨A',c',X.Ar,X.cr⟩ Y ⟨R.wd (R.s.d++[g]),U,d⟩) Zj ?_;refine Wq3 ?_;rw[hst];exact⟨⟨A',c',X.Ar,X.cr⟩,Y,rfl,rfl⟩
 refine Z_6 ?_;refine ZW ?_ ?_<;>intro hc23
 .obtain rfl:=kk hc23;obtain⟨R,l,x,rfl⟩:=Run.snoc (show 1<=R.s.d.length from hn);obtain⟨hx1,hx2⟩:=hw x cE;obtain⟨va,rfl⟩:∃va:Nat,x=va:=ar hx1;have hva:va<=4294967295:=Wq1;have hll:l.length<=100000:=(by have:(l++[(va:Int)]).length<=100000:=hdl;simp only[ae,ak,ao]at this;omega);have HE:=Mc (R.wd l).s X.Ad X.Ar X.cd X.cr nn va;have hdr:=St.set_dr (R.wd l).s nn va;have hst:dM L.n 67 nn ⟨R.wd (l++[(va:Int)]),U,d⟩=⟨(R.wd l).ws ((R.wd l).s.set nn va).1,bif nn==1||nn==2 then⟨U.m,dz⟩else U,d⟩:=(by show gi.mk _ _ _=_;rw[Run.pop_wd,Run.top_wd]);obtain⟨⟨⟨pc',d',r',fl',su',pg',ie',rt',ve',ep',ca',ad',es',ei',co',ha'⟩,kn⟩,hq⟩:=Zgn ((R.wd l).s.set nn va);rw[hq]at HE hst hdr;obtain⟨hd',hr'⟩:=hdr;have hd':l=d':=hd'.symm;have hr':R.s.r=r':=hr'.symm;subst hd';subst hr';refine Z_3 ?_;refine ZcM (eJ (kOf br bu D) X (R.wd (l++[(va:Int)]))) (λw hi hin=>iz (kOf br bu D) X R l va w hin) ?_;refine Z_4 ?_;refine bU ⟨λj=>List.elem j [15],[]⟩ Zk ?_;refine gO ?_;refine ZE 2 ?_;refine ZFe 3 0 ?_;refine dD 4 rfl Zk Zk Zk Zk (cz (vs:=(R.wd l).s.cells (.slice X.Ad (R.wd l).s.d.length X.cd) (.slice X.Ar (R.wd l).s.r.length X.cr)) Zrf Zrf Zv0) (cK Zh rfl) rfl ?_;refine ZFe 5 1 ?_;refine ZG 6 ?_;refine cG 7 rfl Zk Zk Zk (ce rfl rfl Zv0 Zl) rfl ?_;refine ZE 8 ?_;refine cn 9 Zk ?_;refine ZT (λw hi=>HE w (hi.NM (show Has _ (slD (R.wd l).s X.Ad X.cd)from Zh) (show Has _ (slR (R.wd l).s X.Ar X.cr)from Zh) (by show l.length*4<=_;omega) (by show R.s.r.length*4<=_;have:R.s.r.length<=100000:=hrl;omega))) ?_;rintro _ _ ⟨_,⟨A1,c1,A2,c2,rfl,rfl⟩,rfl⟩;refine ZE 10 ?_;refine ZE 11 ?_;refine ZE 12 ?_;refine ZE 13 ?_;refine ZFe 14 0 ?_;refine cn 15 Zk ?_;refine du rfl rfl (fb (ys:=iX (kOf br bu D) ⟨A1,c1,A2,c2⟩ ((R.wd l).ws ⟨pc',l,R.s.r,fl',su',pg',ie',rt',ve',ep',ca',ad',es',ei',co',ha'⟩)) (n:=16) (vs:=(St.mk pc' l R.s.r fl' su' pg' ie' rt' ve' ep' ca' ad' es' ei' co' ha').cells (.slice A1 l.length c1) (.slice A2 R.s.r.length c2)) rfl Zrf rfl rfl (jA rfl) Za rfl (by simp only[ak,ao];omega)) ZJ ?_;rintro _ _ ⟨rfl,rfl⟩;refine dx ?_;refine mn ?_;refine ZW ?_ ?_<;>intro hc26
  .have h12:(nn==1||nn==2)=true:=(by simpa using hc26);refine Z_5 ?_;refine ZcM (uF bu bb L U) (λw hi hin=>Fe bu bb L U hT w hin) ?_;refine Z_2 ?_;refine bP (lJ br bu bb L D ⟨A1,c1,A2,c2⟩ Y ⟨((R.wd l).ws ⟨pc',l,R.s.r,fl',su',pg',ie',rt',ve',ep',ca',ad',es',ei',co',ha'⟩),⟨U.m,dz⟩,d⟩) Zj ?_;refine Wq3 ?_;rw[hst,tZ h12];exact⟨⟨A1,c1,A2,c2⟩,Y,rfl,rfl⟩
  have h12:(nn==1||nn==2)=false:=(by simpa using hc26);refine Z_2 ?_;refine bP (lJ br bu bb L D ⟨A1,c1,A2,c2⟩ Y ⟨((R.wd l).ws ⟨pc',l,R.s.r,fl',su',pg',ie',rt',ve',ep',ca',ad',es',ei',co',ha'⟩),U,d⟩) Zj ?_;refine Wq3 ?_;rw[hst,lH h12];exact⟨⟨A1,c1,A2,c2⟩,Y,rfl,rfl⟩
 refine Z_6 ?_;refine ZW ?_ ?_<;>intro hc28
 .obtain rfl:=kk hc28;obtain⟨R,l,x,rfl⟩:=Run.snoc (show 1<=R.s.d.length from hn);obtain⟨hx1,hx2⟩:=hw x cE;obtain⟨va,rfl⟩:∃va:Nat,x=va:=ar hx1;have hva:va<=4294967295:=Wq1;have hll:l.length<=100000:=(by have:(l++[(va:Int)]).length<=100000:=hdl;simp only[ae,ak,ao]at this;omega);have hst:dM L.n 68 nn ⟨R.wd (l++[(va:Int)]),U,d⟩=⟨R.wd l,⟨U.m,uK U.t va⟩,d⟩:=(by show gi.mk _ _ _=_;rw[Run.pop_wd,Run.top_wd];rfl);refine Z_3 ?_;refine ZcM (eJ (kOf br bu D) X (R.wd (l++[(va:Int)]))) (λw hi hin=>iz (kOf br bu D) X R l va w hin) ?_;refine gR ?_;refine ZW ?_ ?_<;>intro hc30
  .refine Z_6 ?_;refine ZcM (uF bu bb L U) (λw hi hin=>Jw bu bb L U hT va hva w hin) ?_;refine Z_2 ?_;refine bP (lJ br bu bb L D X Y ⟨R.wd l,⟨U.m,uK U.t va⟩,d⟩) Zj ?_;refine Wq3 ?_;rw[hst];exact⟨X,Y,rfl,rfl⟩
  exact absurd hc30 cE
 refine Z_6 ?_;refine ZW ?_ ?_<;>intro hc32
 .obtain rfl:=kk hc32;refine Z_5 ?_;refine ZL ?_;refine Z_2 ?_;refine bP (lJ br bu bb L D X Y ⟨R.ws R.s.halt,U,d⟩) Zj ?_;refine Wq3 ?_;exact⟨X,Y,rfl,rfl⟩
 have hst:dM L.n op nn ⟨R,U,d⟩=⟨R,U,d⟩:=(by simp only[dM, *,aa]);refine Z_2 ?_;refine bP (lJ br bu bb L D X Y ⟨R,U,d⟩) Zj ?_;refine Wq3 ?_;rw[hst];exact⟨X,Y,rfl,rfl⟩
end Go.Proofs.YtkegldppffignaaGreatDoor
namespace Go.Ink
open Go.RowKit
structure Res where
 s:St
 NN:Bool
 device:Bool
 MK:List Int
abbrev St.next(s:St):St:=s.Ny (IntKind.u64.wrap (s.count+1))
abbrev St.wpc(s:St)(x:Int):St:=⟨x,s.d,s.r,s.flags,s.MQ,s.MU,s.ie,s.root,s.vec,s.epc,s.MR,s.addr,s.M1,s.eie,s.count,s.halted⟩
def eY(s:St)(op:Int):Run:=⟨s.next.wpc (IntKind.u32.wrap (s.pc+IntKind.u32.wrap (cA op))),s.count,Tr.none,false⟩
def hH(n:Nat)(s:St)(op nn:Int)(U:Mmu)(d:Dev):gi:=
 match dK op nn (eY s op)with
 |some R=>⟨R,U,d⟩
 |none=>bif(cJ op nn (eY s op)).1 then⟨(cJ op nn (eY s op)).2,U,d⟩else dM n op nn ⟨(cJ op nn (eY s op)).2,U,d⟩
def rC(s:St)(m:gi):Res:=
 bif m.r.M3.MR !=0 then⟨s.next.M3 m.r.M3.MR m.r.M3.addr,true,m.r.device,ik m.u.m.MS 64⟩else⟨m.r.s,false,m.r.device,ik m.u.m.MS 64⟩
def mq(n:Nat)(s:St)(op nn:Int)(U:Mmu)(d:Dev):Res×Mmu×Dev:=
 bif !s.right then(⟨s,false,false,[]⟩,U,d)else
 bif eH s op nn !=0 then(⟨s.next.M3 (eH s op nn) 0,true,false,[]⟩,⟨U.m.calm,U.t⟩,d)else
 (rC s (hH n s op nn ⟨U.m.calm,U.t⟩ d),(hH n s op nn ⟨U.m.calm,U.t⟩ d).u,(hH n s op nn ⟨U.m.calm,U.t⟩ d).d)
theorem K4(op f:Int)(h:(cY op f).2=false):(cY op f).1=false:=by
 revert h;unfold cY
 repeat (refine bO (λq:Bool×Bool=>q.2=false->q.1=false) (λh=>by cases h) ?_)
 exact λ_=>rfl
theorem pt(op n:Int)(R:Run)(h:(cJ op n R).1=false):(cJ op n R).2=R:=by
 revert h;unfold cJ
 repeat (refine bO (λq:Bool×Run=>q.1=false->q.2=R) (λh=>by cases h) ?_)
 intro h;show(bif(cY op R.s.flags).1 then _ else R)=R;rw[K4 op R.s.flags h]
 rfl
theorem AH{s:St}{q:(Nat×Nat)×(Nat×Nat)}(h:iM s q=0):q.1.1<=s.d.length/\q.2.1<=s.r.length:=by
 unfold iM at h;cases hc:(decide ((s.d.length:Int)<(q.1.1:Int))||decide ((s.r.length:Int)<(q.2.1:Int)))with
 |true=>rw[hc]at h;cases h
 |false=>
  simp only[bz,ah]at hc;omega
theorem nm{s:St}{op n:Int}(h:eH s op n=0):(bY op).1.1<=s.d.length/\(bY op).2.1<=s.r.length:=by
 unfold eH at h;revert h;refine bO (λx:Int=>x=0->(bY op).1.1<=s.d.length/\(bY op).2.1<=s.r.length) (λh=>by cases h) ?_;refine bO (λx:Int=>x=0->(bY op).1.1<=s.d.length/\(bY op).2.1<=s.r.length) (λh=>by cases h) ?_;refine bO (λx:Int=>x=0->(bY op).1.1<=s.d.length/\(bY op).2.1<=s.r.length) (λh=>by cases h) ?_;refine bO (λx:Int=>x=0->(bY op).1.1<=s.d.length/\(bY op).2.1<=s.r.length) (λh=>by cases h) ?_;exact AH
end Go.Ink
namespace Go.Proofs.YtkegldppffignaaGreatDoor
open Go.RowKit Go.Ink Go.Proofs.Tryz
attribute [local irreducible] OpY bS
abbrev lT(r:Res)(X:kb)(Ap:Option Addr)(cp:Nat):List Value:=[.int .u32 r.s.pc,.slice X.Ad r.s.d.length X.cd,.slice X.Ar r.s.r.length X.cr,.int .u32 r.s.flags,.bool r.s.MQ,.bool r.s.MU,.bool r.s.ie,.int .u32 r.s.root,.int .u32 r.s.vec,.int .u32 r.s.epc,.int .u32 r.s.MR,.int .u32 r.s.addr,.bool r.s.M1,.bool r.s.eie,.int .u64 r.s.count,.bool r.s.halted,.bool r.NN,.bool r.device,.slice Ap r.MK.length cp]
abbrev resF(r:Res)(X:kb)(Ap:Option Addr)(cp:Nat):List bL:=[slD r.s X.Ad X.cd,slR r.s X.Ar X.cr,sl .i64 3 Ap r.MK.length cp r.MK]
end Go.Proofs.YtkegldppffignaaGreatDoor
namespace Go.Ink
theorem St.fits{s:St}(h:s.right=true):s.d.length<=16/\s.r.length<=16/\s.flags<=15:=by
 simp only[St.right,aL,aj]at h;omega
end Go.Ink
namespace Go.Proofs.YtkegldppffignaaGreatDoor
open Go.RowKit Go.Ink Go.Proofs.Tryz
attribute [local irreducible] OpY bS
abbrev ubF(bu bb:Nat)(L:fu)(D:p8)(Y:nw)(U:Mmu)(d:Dev):List bL:=uF bu bb L U++lm D L.bm Y d
theorem do_ok(bu bb:Nat)(L:fu)(D:p8)(Y:nw)(s:St)(Ad Ar:Option Addr)(cd cr:Nat)(op nn:Int)(U:Mmu)(d:Dev)(hwf:s.wf)(hnn:u32 nn)(hT:U.t.length=16)(hd:d.wf)(ho:d.out.length<=1000000000)
  (w:World) (hi:Inv w (bM (ubF bu bb L D Y U d)) (ubF bu bb L D Y U d) w) (h:∀w',dG (bM (ubF bu bb L D Y U d)) w w'->oJ w' s Ad Ar cd cr):
  Ctr prog 134 [sv s Ad cd Ar cr,.agg #[.int .i64 op,.int .u32 nn],.pointer (some ⟨bu,0,none⟩),.pointer (some ⟨D.bs,0,none⟩)] w (ubF bu bb L D Y U d)
   (λv cs=>∃X Y' Ap cp,v= .agg (lT (mq L.n s op nn U d).1 X Ap cp).toArray/\cs=resF (mq L.n s op nn U d).1 X Ap cp++ubF bu bb L D Y' (mq L.n s op nn U d).2.1 (mq L.n s op nn U d).2.2):=by
 have HR:=nF s Ad Ar cd cr;have HK:=LL s Ad Ar cd cr op nn hnn;have hbd:=(h w (dG.refl _ _)).hd;have hbr:=(h w (dG.refl _ _)).hr;unfold mq;obtain⟨rt,hrt⟩:=Zgn (s.right);obtain⟨ck,hck⟩:=Zgn (eH s op nn);rw[hrt]at HR|-;rw[hck]at HK|-;obtain⟨UM,UT⟩:=U;have HM:=BW L UM;have HZ:=sJ op;obtain⟨R0,hR0⟩:=Zgn (eY s op);have hmid:hH L.n s op nn ⟨UM.calm,UT⟩ d=(match dK op nn R0 with
  |some R=>⟨R,⟨UM.calm,UT⟩,d⟩
  |none=>bif(cJ op nn R0).1 then⟨(cJ op nn R0).2,⟨UM.calm,UT⟩,d⟩else dM L.n op nn ⟨(cJ op nn R0).2,⟨UM.calm,UT⟩,d⟩):=by rw[<-hR0];rfl
 unfold eY at hR0;obtain⟨sz,hsz⟩:=Zgn (cA op);rw[hsz]at HZ hR0;obtain⟨pc',hpc⟩:=Zgn (IntKind.u32.wrap (s.pc+IntKind.u32.wrap sz));rw[hpc]at hR0;refine bN func134 rfl ntmps134 rfl hi ?_;refine Z_2 ?_;refine ZO λb4=>?_;refine ZO λb5=>?_
 refine ZN λb8=>?_
 refine Z_6 ?_;refine ZSe (λw hi=>HR w) ?_;refine Z_3 ?_;refine ZW ?_ ?_<;>intro hc1
 .refine Z_3 ?_;refine ZS (λw hi=>jv s Ad Ar cd cr w (h w hi.Nb)) ?_;rintro _ _ ⟨_,⟨A1,c1,A2,c2,rfl,rfl⟩,rfl⟩;refine ZA ?_;refine dC 3 1 ?_;refine ZM ?_;refine Z_4 ?_;refine bP ([row b8 (lT ⟨s,false,false,[]⟩ ⟨A1,c1,A2,c2⟩ none 0) 230]++(resF ⟨s,false,false,[]⟩ ⟨A1,c1,A2,c2⟩ none 0++ubF bu bb L D Y ⟨UM,UT⟩ d)) Zj ?_;refine mi (cs':=[slv _ _ _ _ _ _,slv _ _ _ _ _ _,slv _ _ _ _ _ _,row _ _ _,exC _ _ _ _,row _ _ _,row _ _ _,row _ _ _,row _ _ _,row _ _ _,slv _ _ _ _ _ _,slv _ _ _ _ _ _,row _ _ _,slv _ _ _ _ _ _]) (.inl rfl) Zu rfl rfl Zh Zrf Zrf ?_;rw[tZ hc1];exact⟨⟨A1,c1,A2,c2⟩,Y,none,0,rfl,rfl⟩
 refine Z_9 ?_;refine ZW ?_ ?_<;>intro hc3
 .refine Z_2 ?_;refine ZSe (λw hi=>lO bu L.bm bb w (hi.get Zh)) ?_;refine ZcM ([eA L UM]) (λw hi hin=>HM w hin) ?_;refine Z_5 ?_;refine ZS (λw hi=>jv s Ad Ar cd cr w (h w hi.Nb)) ?_;rintro _ _ ⟨_,⟨A1,c1,A2,c2,rfl,rfl⟩,rfl⟩;refine ZN λb9=>?_
  refine ZM ?_;refine Z_6 ?_;refine Zy (df Zv0 Zv0 rfl) ?_;refine Z_1 ?_;refine ZL ?_;refine Z_7 ?_;refine ZSe (λw hi=>HK w (h w hi.Nb)) ?_;refine Z_9 ?_;refine ZW ?_ ?_<;>intro hc8
  .refine Z_4 ?_;refine ZS (λw hi=>qb s.next A1 A2 c1 c2 ck 0 w (hi.NM (show Has _ (slD s A1 c1)from Zh) (show Has _ (slR s A2 c2)from Zh) hbd hbr)) ?_;rintro _ _ ⟨_,⟨A3,c3,A4,c4,rfl,rfl⟩,rfl⟩;refine ZA ?_;refine dC 3 1 ?_;refine ZM ?_;refine Z_4 ?_;refine bP ([row b8 (lT ⟨s.next.M3 ck 0,true,false,[]⟩ ⟨A3,c3,A4,c4⟩ none 0) 230]++(resF ⟨s.next.M3 ck 0,true,false,[]⟩ ⟨A3,c3,A4,c4⟩ none 0++ubF bu bb L D Y ⟨UM.calm,UT⟩ d)) Zj ?_;refine mi (cs':=[slv _ _ _ _ _ _,slv _ _ _ _ _ _,slv _ _ _ _ _ _,row _ _ _,exC _ _ _ _,row _ _ _,row _ _ _,row _ _ _,row _ _ _,row _ _ _,slv _ _ _ _ _ _,slv _ _ _ _ _ _,row _ _ _,slv _ _ _ _ _ _]) (.inl rfl) Zu rfl rfl Zh Zrf Zrf ?_;rw[lH hc1,tZ hc8];exact⟨⟨A3,c3,A4,c4⟩,Y,none,0,rfl,rfl⟩
  refine Z_3 ?_;refine bU ⟨λj=>List.elem j [],[]⟩ Zk ?_;refine ZI 0 ?_;refine ZFe 2 14 ?_;refine ZG 3 ?_;refine ZE 4 ?_;refine ZE 5 ?_;refine cn 1 Zk ?_;refine ZT (λw hi=>jv s.next A1 A2 c1 c2 w (hi.NM (show Has _ (slD s A1 c1)from Zh) (show Has _ (slR s A2 c2)from Zh) hbd hbr)) ?_;rintro _ _ ⟨_,⟨A5,c5,A6,c6,rfl,rfl⟩,rfl⟩;refine ZE 6 ?_;refine cn 7 Zk ?_;refine kf rfl rfl (z7 rfl rfl) ZJ rfl ?_;rintro _ _ ⟨b46,rfl,rfl⟩;refine ZE 8 ?_;refine dx ?_;refine Z_2 ?_;refine bU ⟨λj=>List.elem j [13],[]⟩ Zk ?_;refine gO ?_;refine ZFe 2 0 ?_;refine ZFe 3 0 ?_;refine ZG 4 ?_;refine ZFe 5 0 ?_;refine ZG 6 ?_;refine cn 7 Zk ?_;refine ZT (λw hi=>HZ w) ?_;rintro _ _ ⟨_,⟨rfl,rfl⟩,rfl⟩;refine cG 8 rfl Zk Zk Zk (ce rfl rfl Zv0 rfl) rfl ?_;refine cG 9 rfl Zk Zk Zk (df Zv0 Zv0 hpc) rfl ?_;refine ZE 10 ?_;refine ZFe 11 0 ?_;refine ZFe 12 0 ?_;refine cn 13 Zk ?_;refine ZQ ?_;refine dx ?_;refine Zt ?_;refine da (λq:kb×nw×gi=>[(2,.pointer (some ⟨bu,0,none⟩)),(8,.pointer (some ⟨b8,0,none⟩)),(9,.pointer (some ⟨b9,0,none⟩)),(11,.pointer (some ⟨b46,0,none⟩))]) (λq=>lJ b46 bu bb L D q.1 q.2.1 q.2.2++[row b8 [.int .u32 0,.slice none 0 0,.slice none 0 0,.int .u32 0,.bool false,.bool false,.bool false,.int .u32 0,.int .u32 0,.int .u32 0,.int .u32 0,.int .u32 0,.bool false,.bool false,.int .u64 0,.bool false,.bool false,.bool false,.slice none 0 0] 230,row b9 (s.next.cells (.slice A1 s.next.d.length c1) (.slice A2 s.next.r.length c2)) 47,slD s.next A1 c1,slR s.next A2 c2]) (λq=>hH L.n s op nn ⟨UM.calm,UT⟩ d=q.2.2) ?_ ?_
  .refine Zs ?_;subst hR0;have hrt1:rt=true:=(by simpa using hc1);obtain⟨hd16,hr16, -⟩:=St.fits (hrt.trans hrt1);have hck0:ck=0:=(by simpa using hc8);obtain⟨n1,n2⟩:=nm (hck.trans hck0);have HS:=JS (kOf b46 bu D) ⟨A5,c5,A6,c6⟩ ⟨s.next.wpc pc',s.count,Tr.none,false⟩ op nn (show s.d.length<=100000 by omega) (show s.r.length<=100000 by omega) n1 n2;rcases hst:dK op nn ⟨s.next.wpc pc',s.count,Tr.none,false⟩with _|R1
   .rw[hst]at HS;simp only[Option.isSome_none,Option.getD_none]at HS;have HQ:=λX w hin=>Gf (kOf b46 bu D) X ⟨s.next.wpc pc',s.count,Tr.none,false⟩ op nn hwf.d (show s.d.length<=100000 by omega) (show s.r.length<=100000 by omega) n1 n2 w hin
    obtain⟨⟨bq,R2⟩,hq⟩:=Zgn (cJ op nn ⟨s.next.wpc pc',s.count,Tr.none,false⟩);rw[hq]at HQ;refine Z_3 ?_;refine ZcL (eJ (kOf b46 bu D) ⟨A5,c5,A6,c6⟩ ⟨s.next.wpc pc',s.count,Tr.none,false⟩) (λw hi hin=>HS w hin) ?_;rintro _ _ ⟨_,⟨X1,rfl,rfl⟩,rfl⟩;refine Z_3 ?_;refine jl (bR rfl rfl) Zh Zrf Zrf (Zv rfl) rfl ?_;refine fF (bR rfl rfl) rfl (dY (eJ (kOf b46 bu D) X1 ⟨s.next.wpc pc',s.count,Tr.none,false⟩) rfl (λ_ _=>rfl) Zi (λw hi hin=>HQ X1 w hin)) rfl ?_;rintro _ _ ⟨_,⟨X2,rfl,rfl⟩,rfl⟩;refine Z_4 ?_;refine ZW ?_ ?_<;>intro hc12
    .obtain rfl:bq=false:=(by simpa using hc12);have he:=pt op nn ⟨s.next.wpc pc',s.count,Tr.none,false⟩ (by rw[hq]);rw[hq]at he;have he:R2=_:=he;subst he;have HO:=λX w hin=>Gb b46 bu bb L D X Y ⟨s.next.wpc pc',s.count,Tr.none,false⟩ ⟨UM.calm,UT⟩ d op nn hnn hwf.d (show s.d.length<=100000 by omega) (show s.r.length<=100000 by omega) n1 hT hwf.root hd ho w hin
     obtain⟨m',hm'⟩:∃m',dM L.n op nn ⟨⟨s.next.wpc pc',s.count,Tr.none,false⟩,⟨UM.calm,UT⟩,d⟩=m':=⟨_,rfl⟩;rw[hm']at HO;refine Z_3 ?_;refine ZcL (lJ b46 bu bb L D X2 Y ⟨⟨s.next.wpc pc',s.count,Tr.none,false⟩,⟨UM.calm,UT⟩,d⟩) (λw hi hin=>HO X2 w hin) ?_;rintro _ _ ⟨_,⟨X3,Y3,rfl,rfl⟩,rfl⟩;refine Zn ?_;refine bX ((⟨X3,Y3,m'⟩:kb×nw×gi)) ?_ ?_ ?_
     .exact(by rw[hmid];simp only[hst,hq,aa];exact hm')
     .exact Zwk
     exact Zj
    obtain rfl:bq=true:=(by simpa using hc12);refine Zc ?_;refine bX ((⟨X2,Y,⟨R2,⟨UM.calm,UT⟩,d⟩⟩:kb×nw×gi)) ?_ ?_ ?_
    .exact(by rw[hmid];simp only[hst,hq,ac])
    .exact Zwk
    exact Zj
   rw[hst]at HS;simp only[Option.isSome_some,Option.getD_some]at HS;refine Z_3 ?_;refine ZcL (eJ (kOf b46 bu D) ⟨A5,c5,A6,c6⟩ ⟨s.next.wpc pc',s.count,Tr.none,false⟩) (λw hi hin=>HS w hin) ?_;rintro _ _ ⟨_,⟨X1,rfl,rfl⟩,rfl⟩;refine Z_2 ?_;refine Wq17 ?_;refine eZ (bR rfl rfl) rfl rfl ?_;refine Zy (CZ (q:=false) (Zv rfl) ⟨_,rfl,λ_ e=>by simp at e⟩) ?_;refine Z_2 ?_;refine fS ?_;refine Zc ?_;refine bX ((⟨X1,Y,⟨R1,⟨UM.calm,UT⟩,d⟩⟩:kb×nw×gi)) ?_ ?_ ?_
   .exact(by rw[hmid];simp only[hst])
   .exact Zwk
   exact Zj
  rintro⟨X,Y',m⟩ hm;dsimp only at hm|-;refine Zs (bU ⟨λj=>List.elem j [10],[]⟩ Zk ?_);refine gO ?_;refine ZFe 2 0 ?_;refine dD 3 rfl Zk Zk Zk Zk (cz (vs:=m.r.s.cells (.slice X.Ad m.r.s.d.length X.cd) (.slice X.Ar m.r.s.r.length X.cr)) Zrf Zrf Zv0) (cK Zh rfl) rfl ?_;refine ZE 4 ?_;refine ZE 5 ?_;refine ZFe 6 21 ?_;refine ZG 7 ?_;refine ZE 8 ?_;refine cn 9 Zk ?_;refine ZP λb12=>?_
  refine cn 10 Zk ?_;refine ZR ?_;refine dx ?_;refine gR ?_;refine ZW ?_ ?_<;>intro hc15
  .have he:rC s m=⟨s.next.M3 m.r.M3.MR m.r.M3.addr,true,m.r.device,ik m.u.m.MS 64⟩:=tZ hc15;refine bU ⟨λj=>List.elem j [13,15],[]⟩ Zk ?_;refine ZI 0 ?_;refine ZE 1 ?_;refine ZE 2 ?_;refine ZFe 3 19 ?_;refine ZFe 4 0 ?_;refine ZG 5 ?_;refine ZE 6 ?_;refine ZE 7 ?_;refine ZFe 8 19 ?_;refine ZFe 9 1 ?_;refine ZG 10 ?_;refine cn 11 Zk ?_;refine ZT (λw hi=>qb s.next A1 A2 c1 c2 m.r.M3.MR m.r.M3.addr w (hi.NM (show Has _ (slD s.next A1 c1)from Zh) (show Has _ (slR s.next A2 c2)from Zh) hbd hbr)) ?_;rintro _ _ ⟨_,⟨A7,c7,A8,c8,rfl,rfl⟩,rfl⟩;refine ZFe 12 0 ?_;refine cn 13 Zk ?_;refine du rfl rfl (fb (ys:=lT ⟨s.next.M3 m.r.M3.MR m.r.M3.addr,false,m.r.device,[]⟩ ⟨A7,c7,A8,c8⟩ none 0) (n:=16) (vs:=(s.next.M3 m.r.M3.MR m.r.M3.addr).cells (.slice A7 (s.next.M3 m.r.M3.MR m.r.M3.addr).d.length c7) (.slice A8 (s.next.M3 m.r.M3.MR m.r.M3.addr).r.length c8)) rfl Zrf rfl rfl (jA rfl) Za rfl (by simp only[ak,ao];omega)) ZJ ?_;rintro _ _ ⟨rfl,rfl⟩;refine ZFe 14 16 ?_;refine cn 15 Zk ?_;refine ZQ ?_;refine dx ?_;refine Z_8 ?_;refine ZW ?_ ?_<;>intro hc17
   .refine Z_2 ?_;refine ZSe (λw hi=>lO bu L.bm bb w (hi.get Zh)) ?_;refine ZS (λw hi=>qi L m.u.m w (hi.get Zh)) ?_;rintro _ _ ⟨_,⟨Ap,cp,rfl,rfl⟩,rfl⟩;refine Z_1 ?_;refine ZL ?_;refine Z_5 ?_;refine ZM ?_;refine Z_3 ?_;refine bP ([row b8 (lT ⟨s.next.M3 m.r.M3.MR m.r.M3.addr,true,m.r.device,ik m.u.m.MS 64⟩ ⟨A7,c7,A8,c8⟩ Ap cp) 230]++(resF ⟨s.next.M3 m.r.M3.MR m.r.M3.addr,true,m.r.device,ik m.u.m.MS 64⟩ ⟨A7,c7,A8,c8⟩ Ap cp++ubF bu bb L D Y' m.u m.d)) Zj ?_;refine mi (cs':=[slv _ _ _ _ _ _,slv _ _ _ _ _ _,slv _ _ _ _ _ _,row _ _ _,exC _ _ _ _,row _ _ _,row _ _ _,row _ _ _,row _ _ _,row _ _ _,slv _ _ _ _ _ _,slv _ _ _ _ _ _,row _ _ _,slv _ _ _ _ _ _]) (.inl rfl) Zu rfl rfl Zh Zrf Zrf ?_;rw[lH hc1,lH hc8,hm,he];exact⟨⟨A7,c7,A8,c8⟩,Y',Ap,cp,rfl,rfl⟩
   exact absurd hc17 cE
  have he:rC s m=⟨m.r.s,false,m.r.device,ik m.u.m.MS 64⟩:=lH hc15;refine Z_9 ?_;refine ZW ?_ ?_<;>intro hc17
  .refine Z_2 ?_;refine ZSe (λw hi=>lO bu L.bm bb w (hi.get Zh)) ?_;refine ZS (λw hi=>qi L m.u.m w (hi.get Zh)) ?_;rintro _ _ ⟨_,⟨Ap,cp,rfl,rfl⟩,rfl⟩;refine Z_1 ?_;refine ZL ?_;refine Z_5 ?_;refine ZM ?_;refine Z_3 ?_;refine bP ([row b8 (lT ⟨m.r.s,false,m.r.device,ik m.u.m.MS 64⟩ X Ap cp) 230]++(resF ⟨m.r.s,false,m.r.device,ik m.u.m.MS 64⟩ X Ap cp++ubF bu bb L D Y' m.u m.d)) Zj ?_;refine mi (cs':=[slv _ _ _ _ _ _,slv _ _ _ _ _ _,slv _ _ _ _ _ _,row _ _ _,exC _ _ _ _,row _ _ _,row _ _ _,row _ _ _,row _ _ _,row _ _ _,slv _ _ _ _ _ _,slv _ _ _ _ _ _,row _ _ _,slv _ _ _ _ _ _]) (.inl rfl) Zu rfl rfl Zh Zrf Zrf ?_;rw[lH hc1,lH hc8,hm,he];exact⟨X,Y',Ap,cp,rfl,rfl⟩
  exact absurd hc17 cE
 exact absurd hc3 cE
end Go.Proofs.YtkegldppffignaaGreatDoor
namespace Go.Ink
open Go.RowKit
def L5(R:Run)(va:Nat):Run:=bif((va%4:Nat):Int) !=0 then R.wt ⟨6,va⟩else R.wt ⟨10,va⟩
def otherN(op nn:Int)(R:Run):Run:=
 bif op==48 then L5 R.pop R.top.toNat else
 bif op==49 then L5 R.pop.pop R.top.toNat else
 bif op==50 then R.pop.wt ⟨10,R.top⟩else
 bif op==51 then R.pop.wt ⟨10,R.top⟩else
 bif op==52 then R.pop.wt ⟨10,R.top⟩else
 bif op==53 then R.pop.wt ⟨10,R.top⟩else
 bif op==64 then R.wt ⟨11,0⟩else
 bif op==65 then R.ws R.s.back else
 bif op==66 then R.push [((R.s.Ny R.count).get nn).1]else
 bif op==67 then R.pop.ws (R.pop.s.set nn R.top).1 else
 bif op==68 then R.pop else
 bif op==69 then R.ws R.s.halt else R
def yH(s:St)(op nn:Int):Run:=
 match dK op nn (eY s op)with
 |some R=>R
 |none=>bif(cJ op nn (eY s op)).1 then(cJ op nn (eY s op)).2 else otherN op nn (cJ op nn (eY s op)).2
def Mz(s:St)(R:Run):Res:=
 bif R.M3.MR !=0 then⟨s.next.M3 R.M3.MR R.M3.addr,true,R.device,[]⟩else⟨R.s,false,R.device,[]⟩
def doN(s:St)(op nn:Int):Res:=
 bif !s.right then⟨s,false,false,[]⟩else
 bif eH s op nn !=0 then⟨s.next.M3 (eH s op nn) 0,true,false,[]⟩else
 Mz s (yH s op nn)
end Go.Ink
namespace Go.Proofs.YtkegldppffignaaGreatDoor
open Go.RowKit Go.Ink Go.Proofs.Tryz
attribute [local irreducible] OpY bS
end Go.Proofs.YtkegldppffignaaGreatDoor
namespace Go.Ink
open Go.RowKit
def Dev.init(M4:List Int):Dev:=⟨0,0,0,[],[],rf M4,0,0,0⟩
end Go.Ink
namespace Go.Proofs.YtkegldppffignaaGreatDoor
open Go.RowKit Go.Ink Go.Proofs.Tryz
attribute [local irreducible] OpY bS
theorem oJ.M6{w0 w w':World}{cs cin rest:List bL}{s:St}{Ad Ar:Option Addr}{cd cr:Nat}(h:oJ w0 s Ad Ar cd cr)(hi:Inv w0 [] cs w)(hp:ja cin cs rest)(hk:dG (bM cin) w w'):oJ w' s Ad Ar cd cr:=
 ⟨RdV.M6 h.d hi hp hk,RdV.M6 h.r hi hp hk,h.hd,h.hr⟩
theorem _root_.Go.Ink.Inv.NL{w0 w w':World}{S:List Nat}{cs cin rest:List bL}{s:St}{Ad Ar:Option Addr}{cd cr:Nat}(hi:Inv w0 S cs w)(hp:ja cin cs rest)(h1:Has rest (slD s Ad cd))(h2:Has rest (slR s Ar cr))(hd:s.d.length*4<=140737488355328)(hr:s.r.length*4<=140737488355328)(hk:dG (bM cin) w w'):oJ w' s Ad Ar cd cr:=
 ⟨hi.NE hp h1 hk,hi.NE hp h2 hk,hd,hr⟩
theorem IU(bm:Nat)(A:Option Addr)(c:Nat)(l:List Int)(hl:l.length<=1024)(w:World)(h:Rd w .u8 A l.length c l):Ctr prog 53 [.pointer (some ⟨bm,0,none⟩),.slice A l.length c] w []
  (λv cs=>∃D,v= .tuple #[.pointer (some ⟨D.bs,0,none⟩),.int .i64 0]/\cs=lm D bm ⟨none,0,none,0⟩ (Dev.init l)):=by
 obtain⟨dd,hdd⟩:=Zgn (rf l);unfold Dev.init;rw[hdd];have HD:=λw (hi:Rd w .u8 A l.length c l)=>IB A c l hl w hi
 rw[hdd]at HD;refine bN func53 rfl ntmps53 rfl (Inv.start w) ?_;refine jd ?_;refine fS ?_;refine Z_5 ?_;refine ZS (λw hi=>HD w (h.MZ hi)) ?_;rintro _ _ ⟨_,⟨bdr,bdk,rfl,rfl⟩,rfl⟩;refine gy ?_;refine fS ?_;refine Z_4 ?_;refine ZS (λw hi=>Hi w) ?_;rintro _ _ ⟨_,⟨bi,rfl,rfl⟩,rfl⟩;refine ZS (λw hi=>FD w) ?_;rintro _ _ ⟨_,⟨bti,rfl,rfl⟩,rfl⟩;refine ZS (λw hi=>IM w) ?_;rintro _ _ ⟨_,⟨bcn,rfl,rfl⟩,rfl⟩;refine Z_3 ?_;refine ZO λb24=>?_
 refine ZA ?_;refine dC 5 1 ?_;refine dC 5 1 ?_;refine Z_4 ?_;refine bP (lm ⟨b24,bi,bti,bcn,bdr,bdk⟩ bm ⟨none,0,none,0⟩ ⟨0,0,0,[],[],dd,0,0,0⟩) Zj ?_;refine EJ ?_;exact⟨⟨b24,bi,bti,bcn,bdr,bdk⟩,rfl,rfl⟩
structure _root_.Go.Ink.RMLoc where
 bm:Nat
 bB:Nat
 bT:Nat
end Go.Proofs.YtkegldppffignaaGreatDoor
namespace Go.Ink
open Go.RowKit
end Go.Ink
namespace Go.Proofs.YtkegldppffignaaGreatDoor
open Go.RowKit Go.Ink Go.Proofs.Tryz
attribute [local irreducible] OpY bS
end Go.Proofs.YtkegldppffignaaGreatDoor
namespace Go.Ink
open Go.RowKit
theorem Eu{l:List Int}(h:l.length<=1024):(rf l).length=1024:=by simp[rf];omega
theorem IE{l:List Int}(h:u8s l):u8s (rf l):=λx hx=>by
 rcases aS.1 hx with hx|hx
 .exact h x hx
 rw[List.eq_of_mem_replicate hx];decide
theorem init_wf{l:List Int}(h:l.length<=1024)(hb:u8s l):(Dev.init l).wf:=⟨λx hx=>(by cases hx),Eu h,IE hb,aq _,aq _,aq _⟩
end Go.Ink
namespace Go.Proofs.YtkegldppffignaaGreatDoor
open Go.RowKit Go.Ink Go.Proofs.Tryz
attribute [local irreducible] OpY bS
theorem wV(w:World)(k:IntKind):Rd w k none 0 0 []:=⟨rfl,by simp,by simp,by simp,by simp⟩
end Go.Proofs.YtkegldppffignaaGreatDoor
