/- Lemmas. -/
import Derived.Test.YtakodpimdalajaaGreatDoorPaa
import Derived.Test.YtakodpimdalajaaGreatDoorPab
import Derived.Test.YtakodpimdalajaaGreatDoorPac
import Derived.Test.YtakodpimdalajaaGreatDoorPae
set_option linter.unusedSimpArgs false
set_option linter.unusedVariables false
set_option maxRecDepth 100000
set_option maxHeartbeats 4000000
namespace Go.Ink
open Go.RowKit
abbrev iw.of(p:Run×Mmu)(d:Dev):iw:=⟨p.1,p.2,d⟩
abbrev Run.ws(R:Run)(s:St):Run:=⟨s,R.count,R.JA,R.device⟩
abbrev St.JZ(s:St)(c:Int):St:=⟨s.pc,s.d,s.r,s.flags,s.Jq,s.Jv,s.ie,s.root,s.vec,s.epc,s.Jr,s.addr,s.JC,s.eie,c,s.halted⟩
abbrev St.halt(s:St):St:=⟨s.pc,s.d,s.r,s.flags,s.Jq,s.Jv,s.ie,s.root,s.vec,s.epc,s.Jr,s.addr,s.JC,s.eie,s.count,true⟩
def dO(n:Nat)(op nn:Int)(m:iw):iw:=
 bif op==48 then ln n m.r.pop m.u m.d m.r.top.toNat else
 bif op==49 then lm n m.r.pop.pop m.u m.d m.r.top.toNat m.r.pop.top.toNat else
 bif op==50 then iw.of (lN n m.r.pop m.u m.r.top.toNat 4) m.d else
 bif op==51 then iw.of (lp n m.r.pop.pop m.u m.r.top.toNat 4 m.r.pop.top) m.d else
 bif op==52 then iw.of (lN n m.r.pop m.u m.r.top.toNat 1) m.d else
 bif op==53 then iw.of (lp n m.r.pop.pop m.u m.r.top.toNat 1 m.r.pop.top) m.d else
 bif op==64 then⟨m.r.wt ⟨11,0⟩,m.u,m.d⟩else
 bif op==65 then⟨m.r.ws m.r.s.back,m.u,m.d⟩else
 bif op==66 then⟨m.r.push [((m.r.s.JZ m.r.count).get nn).1],m.u,m.d⟩else
 bif op==67 then⟨m.r.pop.ws (m.r.pop.s.set nn m.r.top).1,bif nn==1||nn==2 then⟨m.u.m,eE⟩else m.u,m.d⟩else
 bif op==68 then⟨m.r.pop,⟨m.u.m,sI m.u.t m.r.top.toNat⟩,m.d⟩else
 bif op==69 then⟨m.r.ws m.r.s.halt,m.u,m.d⟩else m
theorem St.set_dr(s:St)(reg v:Int):(s.set reg v).1.d=s.d∧(s.set reg v).1.r=s.r:=by
 unfold St.set
 repeat (refine bM (fun q:St×Bool=>q.1.d=s.d∧q.1.r=s.r) ⟨rfl,rfl⟩ ?_)
 exact df
end Go.Ink
namespace Go.Proofs.YtakodpimdalajaaGreatDoor
open Go.RowKit Go.Ink Go.Proofs.Tryz
attribute [local irreducible] OpY bP
theorem Ds(br bu bb:Nat)(L:fa)(D:pL)(X:jq)(Y:lz)(R:Run)(U:Mmu)(d:Dev)(op nn:Int)(hnn:u32 nn)(hw:∀x,x∈R.s.d→u32 x)(hdl:R.s.d.length≤100000)(hrl:R.s.r.length≤100000)(hn:(bS op).1.1≤R.s.d.length)(hT:U.t.length=16)(hroot:u32 R.s.root)(hd:d.wf)(ho:d.out.length≤1000000000)
  (w:World) (hi:Inv w (bK (kN br bu bb L D X Y ⟨R,U,d⟩)) (kN br bu bb L D X Y ⟨R,U,d⟩) w):
  Ctr prog 143 [.pointer (some ⟨br,0,none⟩),.agg #[.int .i64 op,.int .u32 nn]] w (kN br bu bb L D X Y ⟨R,U,d⟩) (fun v cs=>∃X' Y',v= .tuple #[]∧cs=kN br bu bb L D X' Y' (dO L.n op nn ⟨R,U,d⟩)):=by
 have hu1:=hnn.1;have hu2:=hnn.2;refine bL func143 rfl ntmps143 rfl hi ?_;refine Z_2 ?_;refine ZO fun b3=>?_;refine p6 ?_;refine ZW ?_ ?_<;>intro hc2
 ·obtain rfl:=jY hc2;obtain⟨R,l,x,rfl⟩:=Run.snoc (show 1≤R.s.d.length from hn);obtain⟨hx1,hx2⟩:=hw x cJ;obtain⟨va,rfl⟩:∃va:Nat,x=va:=aq hx1;have hva:va≤4294967295:=Wq1;have hll:l.length≤100000:=(by have:(l++[(va:Int)]).length≤100000:=hdl;simp only[ae,aj,ao]at this;omega);have HC:=lode_ok br bu bb L D X Y R U d l va hva hll hT hroot hd;have hst:dO L.n 48 nn ⟨R.wd (l++[(va:Int)]),U,d⟩=ln L.n (R.wd l) U d va:=(by show ln _ _ _ _ _=_;rw[Run.pop_wd,Run.top_wd];rfl);obtain⟨m',hm'⟩:∃m',ln L.n (R.wd l) U d va=m':=⟨_,rfl⟩;rw[hm']at HC;rw[hm']at hst;refine Z_2 ?_;refine ZcL (kN br bu bb L D X Y ⟨R.wd (l++[(va:Int)]),U,d⟩) (fun w hi hin=>HC w hin) ?_;rintro _ _ ⟨_,⟨X',Y',rfl,rfl⟩,rfl⟩;refine Z_2 ?_;refine bN (kN br bu bb L D X' Y' m') Zj ?_;refine Wq3 ?_;rw[hst];exact⟨X',Y',rfl,rfl⟩
 refine Z_6 ?_;refine ZW ?_ ?_<;>intro hc4
 ·obtain rfl:=jY hc4;obtain⟨R,l,y,x,rfl⟩:=Run.J3 (show 2≤R.s.d.length from hn);obtain⟨hx1,hx2⟩:=hw x cJ;obtain⟨hy1,hy2⟩:=hw y cJ;obtain⟨va,rfl⟩:∃va:Nat,x=va:=aq hx1;obtain⟨v,rfl⟩:∃v:Nat,y=v:=aq hy1;have hva:va≤4294967295:=Wq1;have hv:v≤4294967295:=Wq1;have hll:l.length≤100000:=(by have:((l++[(v:Int)])++[(va:Int)]).length≤100000:=hdl;simp only[ae,aj,ao]at this;omega);have HC:=stow_ok br bu bb L D X Y R U d l va v hva hv hT hroot hd ho;have hst:dO L.n 49 nn ⟨R.wd ((l++[(v:Int)])++[(va:Int)]),U,d⟩=lm L.n (R.wd l) U d va v:=(by show lm _ _ _ _ _ _=_;rw[Run.pop_wd,Run.top_wd,Run.pop_wd,Run.top_wd];rfl);obtain⟨m',hm'⟩:∃m',lm L.n (R.wd l) U d va v=m':=⟨_,rfl⟩;rw[hm']at HC;rw[hm']at hst;refine Z_2 ?_;refine ZcL (kN br bu bb L D X Y ⟨R.wd ((l++[(v:Int)])++[(va:Int)]),U,d⟩) (fun w hi hin=>HC w hin) ?_;rintro _ _ ⟨_,⟨Y',rfl,rfl⟩,rfl⟩;refine Z_2 ?_;refine bN (kN br bu bb L D X Y' m') Zj ?_;refine Wq3 ?_;rw[hst];exact⟨X,Y',rfl,rfl⟩
 refine Z_6 ?_;refine ZW ?_ ?_<;>intro hc6
 ·obtain rfl:=jY hc6;obtain⟨R,l,x,rfl⟩:=Run.snoc (show 1≤R.s.d.length from hn);obtain⟨hx1,hx2⟩:=hw x cJ;obtain⟨va,rfl⟩:∃va:Nat,x=va:=aq hx1;have hva:va≤4294967295:=Wq1;have hll:l.length≤100000:=(by have:(l++[(va:Int)]).length≤100000:=hdl;simp only[ae,aj,ao]at this;omega);have HC:=zh br bu bb L D X R U l va 4 hva Wq5 Wq5 hll hT hroot;have hst:dO L.n 50 nn ⟨R.wd (l++[(va:Int)]),U,d⟩=iw.of (lN L.n (R.wd l) U va 4) d:=(by show iw.of (lN _ _ _ _ _) _=_;rw[Run.pop_wd,Run.top_wd];rfl);obtain⟨m',hm'⟩:∃m',lN L.n (R.wd l) U va 4=m':=⟨_,rfl⟩;rw[hm']at HC;rw[hm']at hst;refine Z_2 ?_;refine ZcL (eh (kOf br bu D) X (R.wd (l++[(va:Int)]))++uF bu bb L U) (fun w hi hin=>HC w hin) ?_;rintro _ _ ⟨_,⟨X',rfl,rfl⟩,rfl⟩;refine Z_2 ?_;refine bN (kN br bu bb L D X' Y ⟨m'.1,m'.2,d⟩) Zj ?_;refine Wq3 ?_;rw[hst];exact⟨X',Y,rfl,rfl⟩
 refine Z_6 ?_;refine ZW ?_ ?_<;>intro hc8
 ·obtain rfl:=jY hc8;obtain⟨R,l,y,x,rfl⟩:=Run.J3 (show 2≤R.s.d.length from hn);obtain⟨hx1,hx2⟩:=hw x cJ;obtain⟨hy1,hy2⟩:=hw y cJ;obtain⟨va,rfl⟩:∃va:Nat,x=va:=aq hx1;obtain⟨v,rfl⟩:∃v:Nat,y=v:=aq hy1;have hva:va≤4294967295:=Wq1;have hv:v≤4294967295:=Wq1;have hll:l.length≤100000:=(by have:((l++[(v:Int)])++[(va:Int)]).length≤100000:=hdl;simp only[ae,aj,ao]at this;omega);have HC:=zg br bu bb L D X R U l va 4 v hva Wq5 Wq5 hll hT hroot;have hst:dO L.n 51 nn ⟨R.wd ((l++[(v:Int)])++[(va:Int)]),U,d⟩=iw.of (lp L.n (R.wd l) U va 4 v) d:=(by show iw.of (lp _ _ _ _ _ _) _=_;rw[Run.pop_wd,Run.top_wd,Run.pop_wd,Run.top_wd];rfl);obtain⟨m',hm'⟩:∃m',lp L.n (R.wd l) U va 4 v=m':=⟨_,rfl⟩;rw[hm']at HC;rw[hm']at hst;refine Z_2 ?_;refine fb (eB (eh (kOf br bu D) X (R.wd ((l++[(v:Int)])++[(va:Int)]))++uF bu bb L U) rfl (fun _ _=>rfl) Zi (fun w hi hin=>HC w hin)) rfl ?_;rintro _ _ ⟨_,⟨rfl,rfl⟩,rfl⟩;refine Z_2 ?_;refine bN (kN br bu bb L D X Y ⟨m'.1,m'.2,d⟩) Zj ?_;refine Wq3 ?_;rw[hst];exact⟨X,Y,rfl,rfl⟩
 refine Z_6 ?_;refine ZW ?_ ?_<;>intro hc10
 ·obtain rfl:=jY hc10;obtain⟨R,l,x,rfl⟩:=Run.snoc (show 1≤R.s.d.length from hn);obtain⟨hx1,hx2⟩:=hw x cJ;obtain⟨va,rfl⟩:∃va:Nat,x=va:=aq hx1;have hva:va≤4294967295:=Wq1;have hll:l.length≤100000:=(by have:(l++[(va:Int)]).length≤100000:=hdl;simp only[ae,aj,ao]at this;omega);have HC:=zh br bu bb L D X R U l va 1 hva Wq5 Wq5 hll hT hroot;have hst:dO L.n 52 nn ⟨R.wd (l++[(va:Int)]),U,d⟩=iw.of (lN L.n (R.wd l) U va 1) d:=(by show iw.of (lN _ _ _ _ _) _=_;rw[Run.pop_wd,Run.top_wd];rfl);obtain⟨m',hm'⟩:∃m',lN L.n (R.wd l) U va 1=m':=⟨_,rfl⟩;rw[hm']at HC;rw[hm']at hst;refine Z_2 ?_;refine ZcL (eh (kOf br bu D) X (R.wd (l++[(va:Int)]))++uF bu bb L U) (fun w hi hin=>HC w hin) ?_;rintro _ _ ⟨_,⟨X',rfl,rfl⟩,rfl⟩;refine Z_2 ?_;refine bN (kN br bu bb L D X' Y ⟨m'.1,m'.2,d⟩) Zj ?_;refine Wq3 ?_;rw[hst];exact⟨X',Y,rfl,rfl⟩
 refine Z_6 ?_;refine ZW ?_ ?_<;>intro hc12
 ·obtain rfl:=jY hc12;obtain⟨R,l,y,x,rfl⟩:=Run.J3 (show 2≤R.s.d.length from hn);obtain⟨hx1,hx2⟩:=hw x cJ;obtain⟨hy1,hy2⟩:=hw y cJ;obtain⟨va,rfl⟩:∃va:Nat,x=va:=aq hx1;obtain⟨v,rfl⟩:∃v:Nat,y=v:=aq hy1;have hva:va≤4294967295:=Wq1;have hv:v≤4294967295:=Wq1;have hll:l.length≤100000:=(by have:((l++[(v:Int)])++[(va:Int)]).length≤100000:=hdl;simp only[ae,aj,ao]at this;omega);have HC:=zg br bu bb L D X R U l va 1 v hva Wq5 Wq5 hll hT hroot;have hst:dO L.n 53 nn ⟨R.wd ((l++[(v:Int)])++[(va:Int)]),U,d⟩=iw.of (lp L.n (R.wd l) U va 1 v) d:=(by show iw.of (lp _ _ _ _ _ _) _=_;rw[Run.pop_wd,Run.top_wd,Run.pop_wd,Run.top_wd];rfl);obtain⟨m',hm'⟩:∃m',lp L.n (R.wd l) U va 1 v=m':=⟨_,rfl⟩;rw[hm']at HC;rw[hm']at hst;refine Z_2 ?_;refine fb (eB (eh (kOf br bu D) X (R.wd ((l++[(v:Int)])++[(va:Int)]))++uF bu bb L U) rfl (fun _ _=>rfl) Zi (fun w hi hin=>HC w hin)) rfl ?_;rintro _ _ ⟨_,⟨rfl,rfl⟩,rfl⟩;refine Z_2 ?_;refine bN (kN br bu bb L D X Y ⟨m'.1,m'.2,d⟩) Zj ?_;refine Wq3 ?_;rw[hst];exact⟨X,Y,rfl,rfl⟩
 refine Z_6 ?_;refine ZW ?_ ?_<;>intro hc14
 ·obtain rfl:=jY hc14;refine Z_2 ?_;refine ZcM (eh (kOf br bu D) X R) (fun w hi hin=>np (kOf br bu D) X R 11 0 w hin) ?_;refine Z_2 ?_;refine bN (kN br bu bb L D X Y ⟨R.wt ⟨11,0⟩,U,d⟩) Zj ?_;refine Wq3 ?_;exact⟨X,Y,rfl,rfl⟩
 refine Z_6 ?_;refine ZW ?_ ?_<;>intro hc16
 ·obtain rfl:=jY hc16;have hR:=Dt R.s X.Ad X.Ar X.cd X.cr;refine Z_5 ?_;refine dL (cn (vs:=R.s.cells (.slice X.Ad R.s.d.length X.cd) (.slice X.Ar R.s.r.length X.cr)) Zrf Zrf Zv0) (cI Zh rfl) rfl ?_;refine ZS (fun w hi=>hR w (hi.Kp (show Has _ (slD R.s X.Ad X.cd)from Zh) (show Has _ (slR R.s X.Ar X.cr)from Zh) Wq1 Wq1)) ?_;rintro _ _ ⟨_,⟨A1,c1,A2,c2,rfl,rfl⟩,rfl⟩;refine Z_2 ?_;refine dD (eG (ys:=iE (kOf br bu D) ⟨A1,c1,A2,c2⟩ (R.ws R.s.back)) (n:=16) (vs:=R.s.back.cells (.slice A1 R.s.back.d.length c1) (.slice A2 R.s.back.r.length c2)) rfl Zrf rfl rfl (jp rfl) Za rfl (by simp only[aj,ao];omega)) ?_;rintro _ _ ⟨rfl,rfl⟩;refine Z_2 ?_;refine bN (kN br bu bb L D ⟨A1,c1,A2,c2⟩ Y ⟨R.ws R.s.back,U,d⟩) Zj ?_;refine Wq3 ?_;exact⟨⟨A1,c1,A2,c2⟩,Y,rfl,rfl⟩
 refine Z_6 ?_;refine ZW ?_ ?_<;>intro hc18
 ·obtain rfl:=jY hc18;have HG:=I5 (R.s.JZ R.count) (.slice X.Ad R.s.d.length X.cd) (.slice X.Ar R.s.r.length X.cr) nn;obtain⟨⟨g,gk⟩,hg⟩:=Zgn ((R.s.JZ R.count).get nn);rw[hg]at HG;have hst:dO L.n 66 nn ⟨R,U,d⟩=⟨R.push [g],U,d⟩:=(by show iw.mk (R.push [((R.s.JZ R.count).get nn).1]) U d=_;rw[hg]);refine Z_5 ?_;refine dL (cn (vs:=R.s.cells (.slice X.Ad R.s.d.length X.cd) (.slice X.Ar R.s.r.length X.cr)) Zrf Zrf Zv0) (cI Zh rfl) rfl ?_;refine ZN fun b4=>?_
  refine ZM ?_;refine Z_9 ?_;refine ZL ?_;refine Z_7 ?_;refine Zy (bW rfl rfl Zv0 Zl) ?_;refine ZSe (fun w hi=>HG w) ?_;refine dS ?_;refine ku ?_;rintro _ _ ⟨b70,rfl,rfl⟩;refine ZcL (eh (kOf br bu D) X R) (fun w hi hin=>iG (kOf br bu D) X R _ 1 1 [g] Wq1 w hin (fun w' hk=>hi.J8 Zi Zh hk)) ?_;rintro _ _ ⟨_,⟨A',c',rfl,rfl⟩,rfl⟩;refine Z_2 ?_;refine bN (kN br bu bb L D ⟨A',c',X.Ar,X.cr⟩ Y ⟨R.wd (R.s.d++[g]),U,d⟩) Zj ?_;refine Wq3 ?_;rw[hst];exact⟨⟨A',c',X.Ar,X.cr⟩,Y,rfl,rfl⟩
 refine Z_6 ?_;refine ZW ?_ ?_<;>intro hc23
 ·obtain rfl:=jY hc23;obtain⟨R,l,x,rfl⟩:=Run.snoc (show 1≤R.s.d.length from hn);obtain⟨hx1,hx2⟩:=hw x cJ;obtain⟨va,rfl⟩:∃va:Nat,x=va:=aq hx1;have hva:va≤4294967295:=Wq1;have hll:l.length≤100000:=(by have:(l++[(va:Int)]).length≤100000:=hdl;simp only[ae,aj,ao]at this;omega);have HE:=IU (R.wd l).s X.Ad X.Ar X.cd X.cr nn va;have hdr:=St.set_dr (R.wd l).s nn va;have hst:dO L.n 67 nn ⟨R.wd (l++[(va:Int)]),U,d⟩=⟨(R.wd l).ws ((R.wd l).s.set nn va).1,bif nn==1||nn==2 then⟨U.m,eE⟩else U,d⟩:=(by show iw.mk _ _ _=_;rw[Run.pop_wd,Run.top_wd]);obtain⟨⟨⟨pc',d',r',fl',su',pg',ie',rt',ve',ep',ca',ad',es',ei',co',ha'⟩,kn⟩,hq⟩:=Zgn ((R.wd l).s.set nn va);rw[hq]at HE hst hdr;obtain⟨hd',hr'⟩:=hdr;have hd':l=d':=hd'.symm;have hr':R.s.r=r':=hr'.symm;subst hd';subst hr';refine Z_3 ?_;refine ZcM (eh (kOf br bu D) X (R.wd (l++[(va:Int)]))) (fun w hi hin=>gV (kOf br bu D) X R l va w hin) ?_;refine Z_4 ?_;refine bR ⟨fun j=>List.elem j [15],[]⟩ Zk ?_;refine gn ?_;refine ZE 2 ?_;refine ZFe 3 0 ?_;refine dm 4 rfl Zk Zk Zk Zk (cn (vs:=(R.wd l).s.cells (.slice X.Ad (R.wd l).s.d.length X.cd) (.slice X.Ar (R.wd l).s.r.length X.cr)) Zrf Zrf Zv0) (cI Zh rfl) rfl ?_;refine ZFe 5 1 ?_;refine ZG 6 ?_;refine cD 7 rfl Zk Zk Zk (bW rfl rfl Zv0 Zl) rfl ?_;refine ZE 8 ?_;refine ce 9 Zk ?_;refine ZT (fun w hi=>HE w (hi.Kp (show Has _ (slD (R.wd l).s X.Ad X.cd)from Zh) (show Has _ (slR (R.wd l).s X.Ar X.cr)from Zh) (by show l.length*4≤_;omega) (by show R.s.r.length*4≤_;have:R.s.r.length≤100000:=hrl;omega))) ?_;rintro _ _ ⟨_,⟨A1,c1,A2,c2,rfl,rfl⟩,rfl⟩;refine ZE 10 ?_;refine ZE 11 ?_;refine ZE 12 ?_;refine ZE 13 ?_;refine ZFe 14 0 ?_;refine ce 15 Zk ?_;refine dp rfl rfl (eG (ys:=iE (kOf br bu D) ⟨A1,c1,A2,c2⟩ ((R.wd l).ws ⟨pc',l,R.s.r,fl',su',pg',ie',rt',ve',ep',ca',ad',es',ei',co',ha'⟩)) (n:=16) (vs:=(St.mk pc' l R.s.r fl' su' pg' ie' rt' ve' ep' ca' ad' es' ei' co' ha').cells (.slice A1 l.length c1) (.slice A2 R.s.r.length c2)) rfl Zrf rfl rfl (jp rfl) Za rfl (by simp only[aj,ao];omega)) ZJ ?_;rintro _ _ ⟨rfl,rfl⟩;refine dr ?_;refine lw ?_;refine ZW ?_ ?_<;>intro hc26
  ·have h12:(nn==1||nn==2)=true:=(by simpa using hc26);refine Z_5 ?_;refine ZcM (uF bu bb L U) (fun w hi hin=>CN bu bb L U hT w hin) ?_;refine Z_2 ?_;refine bN (kN br bu bb L D ⟨A1,c1,A2,c2⟩ Y ⟨((R.wd l).ws ⟨pc',l,R.s.r,fl',su',pg',ie',rt',ve',ep',ca',ad',es',ei',co',ha'⟩),⟨U.m,eE⟩,d⟩) Zj ?_;refine Wq3 ?_;rw[hst,sj h12];exact⟨⟨A1,c1,A2,c2⟩,Y,rfl,rfl⟩
  have h12:(nn==1||nn==2)=false:=(by simpa using hc26);refine Z_2 ?_;refine bN (kN br bu bb L D ⟨A1,c1,A2,c2⟩ Y ⟨((R.wd l).ws ⟨pc',l,R.s.r,fl',su',pg',ie',rt',ve',ep',ca',ad',es',ei',co',ha'⟩),U,d⟩) Zj ?_;refine Wq3 ?_;rw[hst,kJ h12];exact⟨⟨A1,c1,A2,c2⟩,Y,rfl,rfl⟩
 refine Z_6 ?_;refine ZW ?_ ?_<;>intro hc28
 ·obtain rfl:=jY hc28;obtain⟨R,l,x,rfl⟩:=Run.snoc (show 1≤R.s.d.length from hn);obtain⟨hx1,hx2⟩:=hw x cJ;obtain⟨va,rfl⟩:∃va:Nat,x=va:=aq hx1;have hva:va≤4294967295:=Wq1;have hll:l.length≤100000:=(by have:(l++[(va:Int)]).length≤100000:=hdl;simp only[ae,aj,ao]at this;omega);have hst:dO L.n 68 nn ⟨R.wd (l++[(va:Int)]),U,d⟩=⟨R.wd l,⟨U.m,sI U.t va⟩,d⟩:=(by show iw.mk _ _ _=_;rw[Run.pop_wd,Run.top_wd];rfl);refine Z_3 ?_;refine ZcM (eh (kOf br bu D) X (R.wd (l++[(va:Int)]))) (fun w hi hin=>gV (kOf br bu D) X R l va w hin) ?_;refine gE ?_;refine ZW ?_ ?_<;>intro hc30
  ·refine Z_6 ?_;refine ZcM (uF bu bb L U) (fun w hi hin=>F8 bu bb L U hT va hva w hin) ?_;refine Z_2 ?_;refine bN (kN br bu bb L D X Y ⟨R.wd l,⟨U.m,sI U.t va⟩,d⟩) Zj ?_;refine Wq3 ?_;rw[hst];exact⟨X,Y,rfl,rfl⟩
  exact absurd hc30 cJ
 refine Z_6 ?_;refine ZW ?_ ?_<;>intro hc32
 ·obtain rfl:=jY hc32;refine Z_5 ?_;refine ZL ?_;refine Z_2 ?_;refine bN (kN br bu bb L D X Y ⟨R.ws R.s.halt,U,d⟩) Zj ?_;refine Wq3 ?_;exact⟨X,Y,rfl,rfl⟩
 have hst:dO L.n op nn ⟨R,U,d⟩=⟨R,U,d⟩:=(by simp only[dO, *,aa]);refine Z_2 ?_;refine bN (kN br bu bb L D X Y ⟨R,U,d⟩) Zj ?_;refine Wq3 ?_;rw[hst];exact⟨X,Y,rfl,rfl⟩
end Go.Proofs.YtakodpimdalajaaGreatDoor
namespace Go.Ink
open Go.RowKit
structure Res where
 s:St
 Kn:Bool
 device:Bool
 Jl:List Int
abbrev St.next(s:St):St:=s.JZ (IntKind.u64.wrap (s.count+1))
abbrev St.wpc(s:St)(x:Int):St:=⟨x,s.d,s.r,s.flags,s.Jq,s.Jv,s.ie,s.root,s.vec,s.epc,s.Jr,s.addr,s.JC,s.eie,s.count,s.halted⟩
def eN(s:St)(op:Int):Run:=⟨s.next.wpc (IntKind.u32.wrap (s.pc+IntKind.u32.wrap (cy op))),s.count,Tr.none,false⟩
def ru(n:Nat)(s:St)(op nn:Int)(U:Mmu)(d:Dev):iw:=
 match dF op nn (eN s op)with
 |some R=>⟨R,U,d⟩
 |none=>bif(cH op nn (eN s op)).1 then⟨(cH op nn (eN s op)).2,U,d⟩else dO n op nn ⟨(cH op nn (eN s op)).2,U,d⟩
def B8(s:St)(m:iw):Res:=
 bif m.r.JA.Jr !=0 then⟨s.next.JA m.r.JA.Jr m.r.JA.addr,true,m.r.device,ia m.u.m.Jt 64⟩else⟨m.r.s,false,m.r.device,ia m.u.m.Jt 64⟩
def vr(n:Nat)(s:St)(op nn:Int)(U:Mmu)(d:Dev):Res×Mmu×Dev:=
 bif !s.right then(⟨s,false,false,[]⟩,U,d)else
 bif gc s op nn !=0 then(⟨s.next.JA (gc s op nn) 0,true,false,[]⟩,⟨U.m.calm,U.t⟩,d)else
 (B8 s (ru n s op nn ⟨U.m.calm,U.t⟩ d),(ru n s op nn ⟨U.m.calm,U.t⟩ d).u,(ru n s op nn ⟨U.m.calm,U.t⟩ d).d)
theorem Hu(op f:Int)(h:(cY op f).2=false):(cY op f).1=false:=by
 revert h;unfold cY
 repeat (refine bM (fun q:Bool×Bool=>q.2=false→q.1=false) (fun h=>by cases h) ?_)
 exact fun _=>rfl
theorem og(op n:Int)(R:Run)(h:(cH op n R).1=false):(cH op n R).2=R:=by
 revert h;unfold cH
 repeat (refine bM (fun q:Bool×Run=>q.1=false→q.2=R) (fun h=>by cases h) ?_)
 intro h;show(bif(cY op R.s.flags).1 then _ else R)=R;rw[Hu op R.s.flags h]
 rfl
theorem yo{s:St}{q:(Nat×Nat)×(Nat×Nat)}(h:j8 s q=0):q.1.1≤s.d.length∧q.2.1≤s.r.length:=by
 unfold j8 at h;cases hc:(decide ((s.d.length:Int)<(q.1.1:Int))||decide ((s.r.length:Int)<(q.2.1:Int)))with
 |true=>rw[hc]at h;cases h
 |false=>
  simp only[bj,ah]at hc;omega
theorem mw{s:St}{op n:Int}(h:gc s op n=0):(bS op).1.1≤s.d.length∧(bS op).2.1≤s.r.length:=by
 unfold gc at h;revert h;refine bM (fun x:Int=>x=0→(bS op).1.1≤s.d.length∧(bS op).2.1≤s.r.length) (fun h=>by cases h) ?_;refine bM (fun x:Int=>x=0→(bS op).1.1≤s.d.length∧(bS op).2.1≤s.r.length) (fun h=>by cases h) ?_;refine bM (fun x:Int=>x=0→(bS op).1.1≤s.d.length∧(bS op).2.1≤s.r.length) (fun h=>by cases h) ?_;refine bM (fun x:Int=>x=0→(bS op).1.1≤s.d.length∧(bS op).2.1≤s.r.length) (fun h=>by cases h) ?_;exact yo
end Go.Ink
namespace Go.Proofs.YtakodpimdalajaaGreatDoor
open Go.RowKit Go.Ink Go.Proofs.Tryz
attribute [local irreducible] OpY bP
abbrev kW(r:Res)(X:jq)(Ap:Option Addr)(cp:Nat):List Value:=[.int .u32 r.s.pc,.slice X.Ad r.s.d.length X.cd,.slice X.Ar r.s.r.length X.cr,.int .u32 r.s.flags,.bool r.s.Jq,.bool r.s.Jv,.bool r.s.ie,.int .u32 r.s.root,.int .u32 r.s.vec,.int .u32 r.s.epc,.int .u32 r.s.Jr,.int .u32 r.s.addr,.bool r.s.JC,.bool r.s.eie,.int .u64 r.s.count,.bool r.s.halted,.bool r.Kn,.bool r.device,.slice Ap r.Jl.length cp]
abbrev resF(r:Res)(X:jq)(Ap:Option Addr)(cp:Nat):List bJ:=[slD r.s X.Ad X.cd,slR r.s X.Ar X.cr,sl .i64 3 Ap r.Jl.length cp r.Jl]
end Go.Proofs.YtakodpimdalajaaGreatDoor
namespace Go.Ink
theorem St.fits{s:St}(h:s.right=true):s.d.length≤16∧s.r.length≤16∧s.flags≤15:=by
 simp only[St.right,aB,ak]at h;omega
end Go.Ink
namespace Go.Proofs.YtakodpimdalajaaGreatDoor
open Go.RowKit Go.Ink Go.Proofs.Tryz
attribute [local irreducible] OpY bP
abbrev ubF(bu bb:Nat)(L:fa)(D:pL)(Y:lz)(U:Mmu)(d:Dev):List bJ:=uF bu bb L U++mV D L.bm Y d
theorem do_ok(bu bb:Nat)(L:fa)(D:pL)(Y:lz)(s:St)(Ad Ar:Option Addr)(cd cr:Nat)(op nn:Int)(U:Mmu)(d:Dev)(hwf:s.wf)(hnn:u32 nn)(hT:U.t.length=16)(hd:d.wf)(ho:d.out.length≤1000000000)
  (w:World) (hi:Inv w (bK (ubF bu bb L D Y U d)) (ubF bu bb L D Y U d) w) (h:∀w',dC (bK (ubF bu bb L D Y U d)) w w'→lA w' s Ad Ar cd cr):
  Ctr prog 99 [sv s Ad cd Ar cr,.agg #[.int .i64 op,.int .u32 nn],.pointer (some ⟨bu,0,none⟩),.pointer (some ⟨D.bs,0,none⟩)] w (ubF bu bb L D Y U d)
   (fun v cs=>∃X Y' Ap cp,v= .agg (kW (vr L.n s op nn U d).1 X Ap cp).toArray∧cs=resF (vr L.n s op nn U d).1 X Ap cp++ubF bu bb L D Y' (vr L.n s op nn U d).2.1 (vr L.n s op nn U d).2.2):=by
 have HR:=mJ s Ad Ar cd cr;have HK:=Iv s Ad Ar cd cr op nn hnn;have hbd:=(h w (dC.refl _ _)).hd;have hbr:=(h w (dC.refl _ _)).hr;unfold vr;obtain⟨rt,hrt⟩:=Zgn (s.right);obtain⟨ck,hck⟩:=Zgn (gc s op nn);rw[hrt]at HR⊢;rw[hck]at HK⊢;obtain⟨UM,UT⟩:=U;have HM:=zu L UM;have HZ:=uE op;obtain⟨R0,hR0⟩:=Zgn (eN s op);have hmid:ru L.n s op nn ⟨UM.calm,UT⟩ d=(match dF op nn R0 with
  |some R=>⟨R,⟨UM.calm,UT⟩,d⟩
  |none=>bif(cH op nn R0).1 then⟨(cH op nn R0).2,⟨UM.calm,UT⟩,d⟩else dO L.n op nn ⟨(cH op nn R0).2,⟨UM.calm,UT⟩,d⟩):=by rw[←hR0];rfl
 unfold eN at hR0;obtain⟨sz,hsz⟩:=Zgn (cy op);rw[hsz]at HZ hR0;obtain⟨pc',hpc⟩:=Zgn (IntKind.u32.wrap (s.pc+IntKind.u32.wrap sz));rw[hpc]at hR0;refine bL func99 rfl ntmps99 rfl hi ?_;refine Z_2 ?_;refine ZO fun b4=>?_;refine ZO fun b5=>?_
 refine ZN fun b8=>?_
 refine Z_6 ?_;refine ZSe (fun w hi=>HR w) ?_;refine Z_3 ?_;refine ZW ?_ ?_<;>intro hc1
 ·refine Z_3 ?_;refine ZS (fun w hi=>iY s Ad Ar cd cr w (h w hi.JJ)) ?_;rintro _ _ ⟨_,⟨A1,c1,A2,c2,rfl,rfl⟩,rfl⟩;refine ZA ?_;refine dy 3 1 ?_;refine ZM ?_;refine Z_4 ?_;refine bN ([row b8 (kW ⟨s,false,false,[]⟩ ⟨A1,c1,A2,c2⟩ none 0) 195]++(resF ⟨s,false,false,[]⟩ ⟨A1,c1,A2,c2⟩ none 0++ubF bu bb L D Y ⟨UM,UT⟩ d)) Zj ?_;refine lP (cs':=[slv _ _ _ _ _ _,slv _ _ _ _ _ _,slv _ _ _ _ _ _,row _ _ _,exC _ _ _ _,row _ _ _,row _ _ _,row _ _ _,row _ _ _,row _ _ _,slv _ _ _ _ _ _,slv _ _ _ _ _ _,row _ _ _,slv _ _ _ _ _ _]) (.inl rfl) Zu rfl rfl Zh Zrf Zrf ?_;rw[sj hc1];exact⟨⟨A1,c1,A2,c2⟩,Y,none,0,rfl,rfl⟩
 refine Z_9 ?_;refine ZW ?_ ?_<;>intro hc3
 ·refine Z_2 ?_;refine ZSe (fun w hi=>kQ bu L.bm bb w (hi.get Zh)) ?_;refine ZcM ([ek L UM]) (fun w hi hin=>HM w hin) ?_;refine Z_5 ?_;refine ZS (fun w hi=>iY s Ad Ar cd cr w (h w hi.JJ)) ?_;rintro _ _ ⟨_,⟨A1,c1,A2,c2,rfl,rfl⟩,rfl⟩;refine ZN fun b9=>?_
  refine ZM ?_;refine Z_6 ?_;refine Zy (cX Zv0 Zv0 rfl) ?_;refine Z_1 ?_;refine ZL ?_;refine Z_7 ?_;refine ZSe (fun w hi=>HK w (h w hi.JJ)) ?_;refine Z_9 ?_;refine ZW ?_ ?_<;>intro hc8
  ·refine Z_4 ?_;refine ZS (fun w hi=>oT s.next A1 A2 c1 c2 ck 0 w (hi.Kp (show Has _ (slD s A1 c1)from Zh) (show Has _ (slR s A2 c2)from Zh) hbd hbr)) ?_;rintro _ _ ⟨_,⟨A3,c3,A4,c4,rfl,rfl⟩,rfl⟩;refine ZA ?_;refine dy 3 1 ?_;refine ZM ?_;refine Z_4 ?_;refine bN ([row b8 (kW ⟨s.next.JA ck 0,true,false,[]⟩ ⟨A3,c3,A4,c4⟩ none 0) 195]++(resF ⟨s.next.JA ck 0,true,false,[]⟩ ⟨A3,c3,A4,c4⟩ none 0++ubF bu bb L D Y ⟨UM.calm,UT⟩ d)) Zj ?_;refine lP (cs':=[slv _ _ _ _ _ _,slv _ _ _ _ _ _,slv _ _ _ _ _ _,row _ _ _,exC _ _ _ _,row _ _ _,row _ _ _,row _ _ _,row _ _ _,row _ _ _,slv _ _ _ _ _ _,slv _ _ _ _ _ _,row _ _ _,slv _ _ _ _ _ _]) (.inl rfl) Zu rfl rfl Zh Zrf Zrf ?_;rw[kJ hc1,sj hc8];exact⟨⟨A3,c3,A4,c4⟩,Y,none,0,rfl,rfl⟩
  refine Z_3 ?_;refine bR ⟨fun j=>List.elem j [],[]⟩ Zk ?_;refine ZI 0 ?_;refine ZFe 2 14 ?_;refine ZG 3 ?_;refine ZE 4 ?_;refine ZE 5 ?_;refine ce 1 Zk ?_;refine ZT (fun w hi=>iY s.next A1 A2 c1 c2 w (hi.Kp (show Has _ (slD s A1 c1)from Zh) (show Has _ (slR s A2 c2)from Zh) hbd hbr)) ?_;rintro _ _ ⟨_,⟨A5,c5,A6,c6,rfl,rfl⟩,rfl⟩;refine ZE 6 ?_;refine ce 7 Zk ?_;refine iZ rfl rfl (sJ rfl rfl) ZJ rfl ?_;rintro _ _ ⟨b46,rfl,rfl⟩;refine ZE 8 ?_;refine dr ?_;refine Z_2 ?_;refine bR ⟨fun j=>List.elem j [13],[]⟩ Zk ?_;refine gn ?_;refine ZFe 2 0 ?_;refine ZFe 3 0 ?_;refine ZG 4 ?_;refine ZFe 5 0 ?_;refine ZG 6 ?_;refine ce 7 Zk ?_;refine ZT (fun w hi=>HZ w) ?_;rintro _ _ ⟨_,⟨rfl,rfl⟩,rfl⟩;refine cD 8 rfl Zk Zk Zk (bW rfl rfl Zv0 rfl) rfl ?_;refine cD 9 rfl Zk Zk Zk (cX Zv0 Zv0 hpc) rfl ?_;refine ZE 10 ?_;refine ZFe 11 0 ?_;refine ZFe 12 0 ?_;refine ce 13 Zk ?_;refine ZQ ?_;refine dr ?_;refine Zt ?_;refine cW (fun q:jq×lz×iw=>[(2,.pointer (some ⟨bu,0,none⟩)),(8,.pointer (some ⟨b8,0,none⟩)),(9,.pointer (some ⟨b9,0,none⟩)),(11,.pointer (some ⟨b46,0,none⟩))]) (fun q=>kN b46 bu bb L D q.1 q.2.1 q.2.2++[row b8 [.int .u32 0,.slice none 0 0,.slice none 0 0,.int .u32 0,.bool false,.bool false,.bool false,.int .u32 0,.int .u32 0,.int .u32 0,.int .u32 0,.int .u32 0,.bool false,.bool false,.int .u64 0,.bool false,.bool false,.bool false,.slice none 0 0] 195,row b9 (s.next.cells (.slice A1 s.next.d.length c1) (.slice A2 s.next.r.length c2)) 44,slD s.next A1 c1,slR s.next A2 c2]) (fun q=>ru L.n s op nn ⟨UM.calm,UT⟩ d=q.2.2) ?_ ?_
  ·refine Zs ?_;subst hR0;have hrt1:rt=true:=(by simpa using hc1);obtain⟨hd16,hr16, -⟩:=St.fits (hrt.trans hrt1);have hck0:ck=0:=(by simpa using hc8);obtain⟨n1,n2⟩:=mw (hck.trans hck0);have HS:=Gm (kOf b46 bu D) ⟨A5,c5,A6,c6⟩ ⟨s.next.wpc pc',s.count,Tr.none,false⟩ op nn (show s.d.length≤100000 by omega) (show s.r.length≤100000 by omega) n1 n2;rcases hst:dF op nn ⟨s.next.wpc pc',s.count,Tr.none,false⟩with _|R1
   ·rw[hst]at HS;simp only[Option.isSome_none,Option.getD_none]at HS;have HQ:=fun X w hin=>Dv (kOf b46 bu D) X ⟨s.next.wpc pc',s.count,Tr.none,false⟩ op nn hwf.d (show s.d.length≤100000 by omega) (show s.r.length≤100000 by omega) n1 n2 w hin
    obtain⟨⟨bq,R2⟩,hq⟩:=Zgn (cH op nn ⟨s.next.wpc pc',s.count,Tr.none,false⟩);rw[hq]at HQ;refine Z_3 ?_;refine ZcL (eh (kOf b46 bu D) ⟨A5,c5,A6,c6⟩ ⟨s.next.wpc pc',s.count,Tr.none,false⟩) (fun w hi hin=>HS w hin) ?_;rintro _ _ ⟨_,⟨X1,rfl,rfl⟩,rfl⟩;refine Z_3 ?_;refine iQ (bZ rfl rfl) Zh Zrf Zrf (Zv rfl) rfl ?_;refine iA (bZ rfl rfl) rfl (eB (eh (kOf b46 bu D) X1 ⟨s.next.wpc pc',s.count,Tr.none,false⟩) rfl (fun _ _=>rfl) Zi (fun w hi hin=>HQ X1 w hin)) rfl ?_;rintro _ _ ⟨_,⟨X2,rfl,rfl⟩,rfl⟩;refine Z_4 ?_;refine ZW ?_ ?_<;>intro hc12
    ·obtain rfl:bq=false:=(by simpa using hc12);have he:=og op nn ⟨s.next.wpc pc',s.count,Tr.none,false⟩ (by rw[hq]);rw[hq]at he;have he:R2=_:=he;subst he;have HO:=fun X w hin=>Ds b46 bu bb L D X Y ⟨s.next.wpc pc',s.count,Tr.none,false⟩ ⟨UM.calm,UT⟩ d op nn hnn hwf.d (show s.d.length≤100000 by omega) (show s.r.length≤100000 by omega) n1 hT hwf.root hd ho w hin
     obtain⟨m',hm'⟩:∃m',dO L.n op nn ⟨⟨s.next.wpc pc',s.count,Tr.none,false⟩,⟨UM.calm,UT⟩,d⟩=m':=⟨_,rfl⟩;rw[hm']at HO;refine Z_3 ?_;refine ZcL (kN b46 bu bb L D X2 Y ⟨⟨s.next.wpc pc',s.count,Tr.none,false⟩,⟨UM.calm,UT⟩,d⟩) (fun w hi hin=>HO X2 w hin) ?_;rintro _ _ ⟨_,⟨X3,Y3,rfl,rfl⟩,rfl⟩;refine Zn ?_;refine bY ((⟨X3,Y3,m'⟩:jq×lz×iw)) ?_ ?_ ?_
     ·exact(by rw[hmid];simp only[hst,hq,aa];exact hm')
     ·exact Zwk
     exact Zj
    obtain rfl:bq=true:=(by simpa using hc12);refine Zc ?_;refine bY ((⟨X2,Y,⟨R2,⟨UM.calm,UT⟩,d⟩⟩:jq×lz×iw)) ?_ ?_ ?_
    ·exact(by rw[hmid];simp only[hst,hq,ac])
    ·exact Zwk
    exact Zj
   rw[hst]at HS;simp only[Option.isSome_some,Option.getD_some]at HS;refine Z_3 ?_;refine ZcL (eh (kOf b46 bu D) ⟨A5,c5,A6,c6⟩ ⟨s.next.wpc pc',s.count,Tr.none,false⟩) (fun w hi hin=>HS w hin) ?_;rintro _ _ ⟨_,⟨X1,rfl,rfl⟩,rfl⟩;refine Z_2 ?_;refine Wq15 ?_;refine Zy (CC (q:=false) (Zv rfl) ⟨_,rfl,fun _ e=>by simp at e⟩) ?_;refine Z_2 ?_;refine gx ?_;refine Zc ?_;refine bY ((⟨X1,Y,⟨R1,⟨UM.calm,UT⟩,d⟩⟩:jq×lz×iw)) ?_ ?_ ?_
   ·exact(by rw[hmid];simp only[hst])
   ·exact Zwk
   exact Zj
  rintro⟨X,Y',m⟩ hm;dsimp only at hm⊢;refine Zs (bR ⟨fun j=>List.elem j [10],[]⟩ Zk ?_);refine gn ?_;refine ZFe 2 0 ?_;refine dm 3 rfl Zk Zk Zk Zk (cn (vs:=m.r.s.cells (.slice X.Ad m.r.s.d.length X.cd) (.slice X.Ar m.r.s.r.length X.cr)) Zrf Zrf Zv0) (cI Zh rfl) rfl ?_;refine ZE 4 ?_;refine ZE 5 ?_;refine ZFe 6 21 ?_;refine ZG 7 ?_;refine ZE 8 ?_;refine ce 9 Zk ?_;refine ZP fun b12=>?_
  refine ce 10 Zk ?_;refine ZR ?_;refine dr ?_;refine gE ?_;refine ZW ?_ ?_<;>intro hc15
  ·have he:B8 s m=⟨s.next.JA m.r.JA.Jr m.r.JA.addr,true,m.r.device,ia m.u.m.Jt 64⟩:=sj hc15;refine bR ⟨fun j=>List.elem j [13,15],[]⟩ Zk ?_;refine ZI 0 ?_;refine ZE 1 ?_;refine ZE 2 ?_;refine ZFe 3 19 ?_;refine ZFe 4 0 ?_;refine ZG 5 ?_;refine ZE 6 ?_;refine ZE 7 ?_;refine ZFe 8 19 ?_;refine ZFe 9 1 ?_;refine ZG 10 ?_;refine ce 11 Zk ?_;refine ZT (fun w hi=>oT s.next A1 A2 c1 c2 m.r.JA.Jr m.r.JA.addr w (hi.Kp (show Has _ (slD s.next A1 c1)from Zh) (show Has _ (slR s.next A2 c2)from Zh) hbd hbr)) ?_;rintro _ _ ⟨_,⟨A7,c7,A8,c8,rfl,rfl⟩,rfl⟩;refine ZFe 12 0 ?_;refine ce 13 Zk ?_;refine dp rfl rfl (eG (ys:=kW ⟨s.next.JA m.r.JA.Jr m.r.JA.addr,false,m.r.device,[]⟩ ⟨A7,c7,A8,c8⟩ none 0) (n:=16) (vs:=(s.next.JA m.r.JA.Jr m.r.JA.addr).cells (.slice A7 (s.next.JA m.r.JA.Jr m.r.JA.addr).d.length c7) (.slice A8 (s.next.JA m.r.JA.Jr m.r.JA.addr).r.length c8)) rfl Zrf rfl rfl (jp rfl) Za rfl (by simp only[aj,ao];omega)) ZJ ?_;rintro _ _ ⟨rfl,rfl⟩;refine ZFe 14 16 ?_;refine ce 15 Zk ?_;refine ZQ ?_;refine dr ?_;refine Z_8 ?_;refine ZW ?_ ?_<;>intro hc17
   ·refine Z_2 ?_;refine ZSe (fun w hi=>kQ bu L.bm bb w (hi.get Zh)) ?_;refine ZS (fun w hi=>oZ L m.u.m w (hi.get Zh)) ?_;rintro _ _ ⟨_,⟨Ap,cp,rfl,rfl⟩,rfl⟩;refine Z_1 ?_;refine ZL ?_;refine Z_5 ?_;refine ZM ?_;refine Z_3 ?_;refine bN ([row b8 (kW ⟨s.next.JA m.r.JA.Jr m.r.JA.addr,true,m.r.device,ia m.u.m.Jt 64⟩ ⟨A7,c7,A8,c8⟩ Ap cp) 195]++(resF ⟨s.next.JA m.r.JA.Jr m.r.JA.addr,true,m.r.device,ia m.u.m.Jt 64⟩ ⟨A7,c7,A8,c8⟩ Ap cp++ubF bu bb L D Y' m.u m.d)) Zj ?_;refine lP (cs':=[slv _ _ _ _ _ _,slv _ _ _ _ _ _,slv _ _ _ _ _ _,row _ _ _,exC _ _ _ _,row _ _ _,row _ _ _,row _ _ _,row _ _ _,row _ _ _,slv _ _ _ _ _ _,slv _ _ _ _ _ _,row _ _ _,slv _ _ _ _ _ _]) (.inl rfl) Zu rfl rfl Zh Zrf Zrf ?_;rw[kJ hc1,kJ hc8,hm,he];exact⟨⟨A7,c7,A8,c8⟩,Y',Ap,cp,rfl,rfl⟩
   exact absurd hc17 cJ
  have he:B8 s m=⟨m.r.s,false,m.r.device,ia m.u.m.Jt 64⟩:=kJ hc15;refine Z_9 ?_;refine ZW ?_ ?_<;>intro hc17
  ·refine Z_2 ?_;refine ZSe (fun w hi=>kQ bu L.bm bb w (hi.get Zh)) ?_;refine ZS (fun w hi=>oZ L m.u.m w (hi.get Zh)) ?_;rintro _ _ ⟨_,⟨Ap,cp,rfl,rfl⟩,rfl⟩;refine Z_1 ?_;refine ZL ?_;refine Z_5 ?_;refine ZM ?_;refine Z_3 ?_;refine bN ([row b8 (kW ⟨m.r.s,false,m.r.device,ia m.u.m.Jt 64⟩ X Ap cp) 195]++(resF ⟨m.r.s,false,m.r.device,ia m.u.m.Jt 64⟩ X Ap cp++ubF bu bb L D Y' m.u m.d)) Zj ?_;refine lP (cs':=[slv _ _ _ _ _ _,slv _ _ _ _ _ _,slv _ _ _ _ _ _,row _ _ _,exC _ _ _ _,row _ _ _,row _ _ _,row _ _ _,row _ _ _,row _ _ _,slv _ _ _ _ _ _,slv _ _ _ _ _ _,row _ _ _,slv _ _ _ _ _ _]) (.inl rfl) Zu rfl rfl Zh Zrf Zrf ?_;rw[kJ hc1,kJ hc8,hm,he];exact⟨X,Y',Ap,cp,rfl,rfl⟩
  exact absurd hc17 cJ
 exact absurd hc3 cJ
end Go.Proofs.YtakodpimdalajaaGreatDoor
namespace Go.Ink
open Go.RowKit
def IK(R:Run)(va:Nat):Run:=bif((va%4:Nat):Int) !=0 then R.wt ⟨6,va⟩else R.wt ⟨10,va⟩
def otherN(op nn:Int)(R:Run):Run:=
 bif op==48 then IK R.pop R.top.toNat else
 bif op==49 then IK R.pop.pop R.top.toNat else
 bif op==50 then R.pop.wt ⟨10,R.top⟩else
 bif op==51 then R.pop.wt ⟨10,R.top⟩else
 bif op==52 then R.pop.wt ⟨10,R.top⟩else
 bif op==53 then R.pop.wt ⟨10,R.top⟩else
 bif op==64 then R.wt ⟨11,0⟩else
 bif op==65 then R.ws R.s.back else
 bif op==66 then R.push [((R.s.JZ R.count).get nn).1]else
 bif op==67 then R.pop.ws (R.pop.s.set nn R.top).1 else
 bif op==68 then R.pop else
 bif op==69 then R.ws R.s.halt else R
def wD(s:St)(op nn:Int):Run:=
 match dF op nn (eN s op)with
 |some R=>R
 |none=>bif(cH op nn (eN s op)).1 then(cH op nn (eN s op)).2 else otherN op nn (cH op nn (eN s op)).2
def I9(s:St)(R:Run):Res:=
 bif R.JA.Jr !=0 then⟨s.next.JA R.JA.Jr R.JA.addr,true,R.device,[]⟩else⟨R.s,false,R.device,[]⟩
def doN(s:St)(op nn:Int):Res:=
 bif !s.right then⟨s,false,false,[]⟩else
 bif gc s op nn !=0 then⟨s.next.JA (gc s op nn) 0,true,false,[]⟩else
 I9 s (wD s op nn)
end Go.Ink
namespace Go.Proofs.YtakodpimdalajaaGreatDoor
open Go.RowKit Go.Ink Go.Proofs.Tryz
attribute [local irreducible] OpY bP
end Go.Proofs.YtakodpimdalajaaGreatDoor
namespace Go.Ink
open Go.RowKit
def Dev.init(JE:List Int):Dev:=⟨0,0,0,[],[],m5 JE,0,0,0⟩
end Go.Ink
namespace Go.Proofs.YtakodpimdalajaaGreatDoor
open Go.RowKit Go.Ink Go.Proofs.Tryz
attribute [local irreducible] OpY bP
theorem lA.JG{w0 w w':World}{cs cin rest:List bJ}{s:St}{Ad Ar:Option Addr}{cd cr:Nat}(h:lA w0 s Ad Ar cd cr)(hi:Inv w0 [] cs w)(hp:ji cin cs rest)(hk:dC (bK cin) w w'):lA w' s Ad Ar cd cr:=
 ⟨RdV.JG h.d hi hp hk,RdV.JG h.r hi hp hk,h.hd,h.hr⟩
theorem _root_.Go.Ink.Inv.Kc{w0 w w':World}{S:List Nat}{cs cin rest:List bJ}{s:St}{Ad Ar:Option Addr}{cd cr:Nat}(hi:Inv w0 S cs w)(hp:ji cin cs rest)(h1:Has rest (slD s Ad cd))(h2:Has rest (slR s Ar cr))(hd:s.d.length*4≤140737488355328)(hr:s.r.length*4≤140737488355328)(hk:dC (bK cin) w w'):lA w' s Ad Ar cd cr:=
 ⟨hi.J8 hp h1 hk,hi.J8 hp h2 hk,hd,hr⟩
theorem Fv(bm:Nat)(A:Option Addr)(c:Nat)(l:List Int)(hl:l.length≤1024)(w:World)(h:Rd w .u8 A l.length c l):Ctr prog 39 [.pointer (some ⟨bm,0,none⟩),.slice A l.length c] w []
  (fun v cs=>∃D,v= .tuple #[.pointer (some ⟨D.bs,0,none⟩),.int .i64 0]∧cs=mV D bm ⟨none,0,none,0⟩ (Dev.init l)):=by
 obtain⟨dd,hdd⟩:=Zgn (m5 l);unfold Dev.init;rw[hdd];have HD:=fun w (hi:Rd w .u8 A l.length c l)=>Fc A c l hl w hi
 rw[hdd]at HD;refine bL func39 rfl ntmps39 rfl (Inv.start w) ?_;refine jA ?_;refine gx ?_;refine Z_5 ?_;refine ZS (fun w hi=>HD w (h.Jz hi)) ?_;rintro _ _ ⟨_,⟨bdr,bdk,rfl,rfl⟩,rfl⟩;refine gL ?_;refine gx ?_;refine Z_4 ?_;refine ZS (fun w hi=>Em w) ?_;rintro _ _ ⟨_,⟨bi,rfl,rfl⟩,rfl⟩;refine ZS (fun w hi=>C1 w) ?_;rintro _ _ ⟨_,⟨bti,rfl,rfl⟩,rfl⟩;refine ZS (fun w hi=>Fm w) ?_;rintro _ _ ⟨_,⟨bcn,rfl,rfl⟩,rfl⟩;refine Z_3 ?_;refine ZO fun b24=>?_
 refine ZA ?_;refine dy 5 1 ?_;refine dy 5 1 ?_;refine Z_4 ?_;refine bN (mV ⟨b24,bi,bti,bcn,bdr,bdk⟩ bm ⟨none,0,none,0⟩ ⟨0,0,0,[],[],dd,0,0,0⟩) Zj ?_;refine Cm ?_;exact⟨⟨b24,bi,bti,bcn,bdr,bdk⟩,rfl,rfl⟩
structure _root_.Go.Ink.RMLoc where
 bm:Nat
 bB:Nat
 bT:Nat
abbrev rf(K:RMLoc)(n:Nat)(data:List Int)(tu:List Bool):List bJ:=[row K.bm [.slice (some ⟨K.bB,0,none⟩) (n*64) (n*64),.slice (some ⟨K.bT,0,none⟩) n n] 147,sl .u8 5 (some ⟨K.bB,0,none⟩) (n*64) (n*64) data,slv 4 1 (some ⟨K.bT,0,none⟩) n n (lv tu)]
abbrev lQ(bx bm:Nat)(T:List TE):bJ:=row bx (.pointer (some ⟨bm,0,none⟩)::eV T) 153
abbrev wi(b bm bd:Nat)(Y:lz)(d:Dev):List bJ:=[row b [.pointer (some ⟨bm,0,none⟩),.int .u32 d.JH,.int .u32 d.mask,.int .u32 d.timer,.slice Y.Ao d.out.length Y.co,.slice Y.Ai d.inp.length Y.ci,.slice (some ⟨bd,0,none⟩) 1024 1024,.int .u32 (d.Jm:Int),.int .u32 (d.place:Int),.int .u32 d.status] 155,b8 Y.Ao Y.co d.out,rdC Y.Ai d.inp.length Y.ci (ints .u8 d.inp),yK bd d.JE]
theorem BB(n:Nat)(hn:n≤64)(w:World):Ctr prog 119 [.int .i64 n] w [] (fun v cs=>∃K,v= .pointer (some ⟨K.bm,0,none⟩)∧cs=rf K n (List.replicate (n*64) 0) (List.replicate n false)):=by
 refine bL func119 rfl ntmps119 rfl (Inv.start w) ?_;refine Z_6 ?_;refine bR ⟨fun j=>List.elem j [],[]⟩ Zk ?_;refine ZE 0 ?_;refine cD 1 rfl Zk Zk Zk (i4 (Zv rfl) (Zv rfl) (show _=((n*64:Nat):Int)from IntWalk.i64_in _ ⟨by omega,by omega⟩|>.trans (by omega))) rfl ?_;refine ZE 3 ?_;refine j4 2 4 Zk ?_ ?_
 ·refine iZ rfl rfl (ju (bytes:=1) (n:=n*64) rfl rfl rfl rfl rfl rfl rfl (by omega) g9) ZJ rfl ?_;rintro _ _ ⟨bB,rfl,rfl⟩;refine ce 4 Zk ?_;refine iZ rfl rfl (ju (bytes:=1) (n:=n) rfl rfl rfl rfl rfl rfl rfl (by omega) g9) ZJ rfl ?_;rintro _ _ ⟨bT,rfl,rfl⟩;refine ZE 5 ?_;refine ce 6 Zk ?_;refine iZ rfl rfl (sJ rfl rfl) ZJ rfl ?_;rintro _ _ ⟨b9,rfl,rfl⟩;refine ZE 7 ?_;refine dr ?_;refine Z_2 ?_;rw[kX,oe];refine bN (rf ⟨b9,bB,bT⟩ n (List.replicate (n*64) 0) (List.replicate n false)) Zj ?_;refine Zrb ([row _ _ _,slv _ _ _ _ _ _,slv _ _ _ _ _ _]) ?_;exact⟨⟨b9,bB,bT⟩,rfl,rfl⟩
 refine iZ rfl rfl (ju (bytes:=1) (n:=n) rfl rfl rfl rfl rfl rfl rfl (by omega) g9) ZJ rfl ?_;rintro _ _ ⟨bT,rfl,rfl⟩;refine ce 2 Zk ?_;refine iZ rfl rfl (ju (bytes:=1) (n:=n*64) rfl rfl rfl rfl rfl rfl rfl (by omega) g9) ZJ rfl ?_;rintro _ _ ⟨bB,rfl,rfl⟩;refine ZE 5 ?_;refine ce 6 Zk ?_;refine iZ rfl rfl (sJ rfl rfl) ZJ rfl ?_;rintro _ _ ⟨b9,rfl,rfl⟩;refine ZE 7 ?_;refine dr ?_;refine Z_2 ?_;rw[kX,oe];refine bN (rf ⟨b9,bB,bT⟩ n (List.replicate (n*64) 0) (List.replicate n false)) Zj ?_;refine Zrb ([row _ _ _,slv _ _ _ _ _ _,slv _ _ _ _ _ _]) ?_;exact⟨⟨b9,bB,bT⟩,rfl,rfl⟩
theorem ye(bm:Nat)(w:World):Ctr prog 86 [.pointer (some ⟨bm,0,none⟩)] w [] (fun v cs=>∃bx,v= .pointer (some ⟨bx,0,none⟩)∧cs=[lQ bx bm eE]):=by
 refine bL func86 rfl ntmps86 rfl (Inv.start w) ?_;refine Z_9 ?_;refine ZO fun b5=>?_
 refine Z_4 ?_;refine Zrb ([row _ _ _]) ?_;exact⟨_,rfl,rfl⟩
theorem yd(bm:Nat)(A:Option Addr)(c:Nat)(l:List Int)(hl:l.length≤1024)(w:World)(h:Rd w .u8 A l.length c l):Ctr prog 88 [.pointer (some ⟨bm,0,none⟩),.slice A l.length c] w []
  (fun v cs=>∃b bd,v= .pointer (some ⟨b,0,none⟩)∧cs=wi b bm bd ⟨none,0,none,0⟩ (Dev.init l)):=by
 refine bL func88 rfl ntmps88 rfl (Inv.start w) ?_;refine Z_7 ?_;refine fb (ju (bytes:=1) (n:=1024) rfl rfl rfl rfl rfl rfl rfl Wq1 g9) rfl ?_;rintro _ _ ⟨bd,rfl,rfl⟩;rw[kX];refine Z_7 ?_;refine fb (tp rfl rfl Za rfl rfl (fun w hi=>h.Jz hi) cO Wq1) rfl ?_;rintro _ _ ⟨rfl,rfl⟩;have hd:(ints .u8 (List.replicate 1024 0)).take 0++(ints .u8 l).take (min l.length 1024)++(ints .u8 (List.replicate 1024 0)).drop (0+min l.length 1024)=ints .u8 (m5 l):=by(rw[Nat.min_eq_left hl,iK,iK,mf,List.take_zero,bA,bl,List.drop_replicate];simp[ints,m5])
 rw[hd];refine Z_7 ?_;refine ZO fun b13=>?_
 refine dy 5 1 ?_;refine wl_nilr ?_;refine Z_4 ?_;refine bN (wi b13 bm bd ⟨none,0,none,0⟩ (Dev.init l)) Zj ?_;refine Zrb ([row _ _ _,slv _ _ _ _ _ _,rdC _ _ _ _,slv _ _ _ _ _ _]) ?_;exact⟨b13,bd,rfl,rfl⟩
end Go.Proofs.YtakodpimdalajaaGreatDoor
namespace Go.Ink
open Go.RowKit
def ig(n:Nat)(b:List Int):List Int:=b++List.replicate (n*64 - b.length) 0
end Go.Ink
namespace Go.Proofs.YtakodpimdalajaaGreatDoor
open Go.RowKit Go.Ink Go.Proofs.Tryz
attribute [local irreducible] OpY bP
end Go.Proofs.YtakodpimdalajaaGreatDoor
namespace Go.Ink
open Go.RowKit
theorem Cc{l:List Int}(h:l.length≤1024):(m5 l).length=1024:=by simp[m5];omega
theorem Ff{l:List Int}(h:u8s l):u8s (m5 l):=fun x hx=>by
 rcases aS.1 hx with hx|hx
 ·exact h x hx
 rw[List.eq_of_mem_replicate hx];decide
theorem init_wf{l:List Int}(h:l.length≤1024)(hb:u8s l):(Dev.init l).wf:=⟨fun x hx=>(by cases hx),Cc h,Ff hb,au _,au _,au _⟩
end Go.Ink
namespace Go.Proofs.YtakodpimdalajaaGreatDoor
open Go.RowKit Go.Ink Go.Proofs.Tryz
attribute [local irreducible] OpY bP
theorem o7(w:World)(k:IntKind):Rd w k none 0 0 []:=⟨rfl,by simp,by simp,by simp,by simp⟩
end Go.Proofs.YtakodpimdalajaaGreatDoor
namespace Go.Ink
open Go.RowKit
theorem u0:u32 0:=⟨by decide,by decide⟩
theorem u1:u32 1:=⟨by decide,by decide⟩
theorem gz(a:Int):u32 (IntKind.u32.wrap a):=by
 unfold u32;rw[aE];omega
theorem hI{n:Nat}(h:n≤4294967295):u32 (n:Int):=⟨by omega,by omega⟩
structure Mem.ok(n:Nat)(M:Mem):Prop where
 dl:M.data.length=n*64
 db:u8s M.data
 tl:M.Jt.length=64
theorem u8s_set{l:List Int}(h:u8s l){a:Nat}{b:Int}(hb:0≤b∧b≤255):u8s (l.set a b):=fun x hx=>by
 rcases List.mem_or_eq_of_mem_set hx with h1|h1
 ·exact h x h1
 rw[h1];exact hb
theorem Mem.ok.put{n:Nat}{M:Mem}(h:M.ok n)(a:Nat){b:Int}(hb:0≤b∧b≤255):(M.put a b).ok n:=
 ⟨by show(M.data.set _ _).length=_;rw[aG];exact h.dl,u8s_set h.db hb,by show(M.Jt.set _ _).length=_;rw[aG];exact h.tl⟩
theorem Mem.ok.J9{n:Nat}{M:Mem}(h:M.ok n)(a:Nat)(v:Int):∀k,(M.J9 a v k).ok n
 |0=>h
 |k+1=>(Mem.ok.J9 h a v k).put _ (nK v k)
theorem Mem.ok.JS{n:Nat}{M:Mem}(h:M.ok n)(l:List Int)(v:Int):∀k,(JS M l v k).ok n
 |0=>h
 |k+1=>(Mem.ok.JS h l v k).put _ (nK v k)
theorem Mem.ok.fill{n:Nat}{M:Mem}(h:M.ok n)(a:Nat){l:List Int}(hl:u8s l):∀k,(M.fill a l k).ok n
 |0=>h
 |k+1=>(Mem.ok.fill h a hl k).put _ (jQ hl k)
theorem Mem.ok.calm{n:Nat}{M:Mem}(h:M.ok n):M.calm.ok n:=⟨h.dl,h.db,aJ⟩
theorem KG{n:Nat}{b:List Int}(h:b.length≤n*64)(hb:u8s b):(Mem.init n b).ok n:=by
 refine⟨by simp[Mem.init];omega,fun x hx=>?_,aJ⟩;rcases aS.1 hx with hx|hx
 ·exact hb x hx
 rw[List.eq_of_mem_replicate hx];decide
theorem AX{n:Nat}{M:Mem}(h:M.ok n)(root va:Nat)(kind:Int)(Jq:Bool):(gI n M root va kind Jq).2.ok n:=by
 unfold gI;refine bM (fun q:(TE×Tr)×Mem=>q.2.ok n) h ?_;cases lZ n M.data root va with
 |none=>exact h
 |some q=>
  obtain⟨a,l⟩:=q;refine bM (fun q:(TE×Tr)×Mem=>q.2.ok n) h ?_;exact bM (fun q:Mem=>q.ok n) (h.J9 _ _ 4) h
def TrU(t:Tr):Prop:=u32 t.addr∧0≤t.Jr∧t.Jr≤255
theorem tr10{a:Int}(h:u32 a):TrU ⟨10,a⟩:=⟨h,by show(0:Int)≤10;decide,by show(10:Int)≤255;decide⟩
theorem trN:TrU Tr.none:=⟨u0,by decide,by decide⟩
theorem tr11:TrU ⟨11,0⟩:=⟨u0,by decide,by decide⟩
theorem EV(kind:Int):0≤fault kind∧fault kind≤255:=by
 unfold fault;refine bM (fun x:Int=>0≤x∧x≤255) Wq5 ?_;refine bM (fun x:Int=>0≤x∧x≤255) Wq5 ?_;exact bM (fun x:Int=>0≤x∧x≤255) Wq5 Wq5
theorem CI(n:Nat)(M:Mem)(root va:Nat)(hva:va≤4294967295)(kind:Int)(Jq:Bool):TrU (gI n M root va kind Jq).1.2:=by
 have hv:=hI hva;have hf:=EV kind;unfold gI;refine bM (fun q:(TE×Tr)×Mem=>TrU q.1.2) (tr10 hv) ?_;cases lZ n M.data root va with
 |none=>exact⟨hv,hf⟩
 |some q=>
  obtain⟨a,l⟩:=q;refine bM (fun q:(TE×Tr)×Mem=>TrU q.1.2) ⟨hv,hf⟩ ?_;exact trN
structure UOk(n:Nat)(U:Mmu):Prop where
 m:U.m.ok n
 t:U.t.length=16
theorem vQ{n:Nat}{U:Mmu}(h:U.m.ok n)(s:Sp)(va:Nat)(kind:Int):(cZ n U s va kind).2.m.ok n:=by
 have hw:=AX h s.root va kind s.Jq;unfold cZ;refine bM (fun q:(Int×Tr)×Mmu=>q.2.m.ok n) h ?_;refine bM (fun q:(Int×Tr)×Mmu=>q.2.m.ok n) h ?_;exact bM (fun q:(Int×Tr)×Mmu=>q.2.m.ok n) hw hw
theorem xT(n:Nat)(U:Mmu)(s:Sp)(va:Nat)(hva:va≤4294967295)(kind:Int):TrU (cZ n U s va kind).1.2:=by
 have hw:=CI n U.m s.root va hva kind s.Jq;have h0:=trN;unfold cZ;refine bM (fun q:(Int×Tr)×Mmu=>TrU q.1.2) h0 ?_;refine bM (fun q:(Int×Tr)×Mmu=>TrU q.1.2) h0 ?_;exact bM (fun q:(Int×Tr)×Mmu=>TrU q.1.2) hw hw
theorem kZ{n:Nat}{U:Mmu}(h:UOk n U)(s:Sp)(va:Nat)(kind:Int):UOk n (cM n U s va kind).2:=by
 refine⟨?_,(rj n U s va kind).trans h.t⟩;have hw:=vQ h.m s va kind;unfold cM;refine bM (fun q:(Int×Tr)×Mmu=>q.2.m.ok n) h.m ?_;refine bM (fun q:(Int×Tr)×Mmu=>q.2.m.ok n) hw ?_;exact bM (fun q:(Int×Tr)×Mmu=>q.2.m.ok n) hw hw
theorem mL(n:Nat)(U:Mmu)(s:Sp)(va:Nat)(hva:va≤4294967295)(kind:Int):TrU (cM n U s va kind).1.2:=by
 have hw:=xT n U s va hva kind;have h1:TrU ⟨10,va⟩:=(tr10 (hI hva));unfold cM;refine bM (fun q:(Int×Tr)×Mmu=>TrU q.1.2) h1 ?_;refine bM (fun q:(Int×Tr)×Mmu=>TrU q.1.2) hw ?_;exact bM (fun q:(Int×Tr)×Mmu=>TrU q.1.2) hw h1
theorem vX(a b:Int)(va k:Nat)(t:Tr)(U:Mmu):(fL a b va k t U).2=U:=by
 unfold fL;refine bM (fun q:(List Int×Tr)×Mmu=>q.2=U) rfl ?_;exact bM (fun q:(List Int×Tr)×Mmu=>q.2=U) rfl rfl
theorem tx(a b:Int){va:Nat}(hva:va≤4294967295)(k:Nat){t:Tr}(ht:TrU t)(U:Mmu):TrU (fL a b va k t U).1.2:=by
 unfold fL;refine bM (fun q:(List Int×Tr)×Mmu=>TrU q.1.2) (tr10 (hI hva)) ?_;exact bM (fun q:(List Int×Tr)×Mmu=>TrU q.1.2) (tr10 (hI (k8 va))) ht
theorem oV{n:Nat}{U:Mmu}(h:UOk n U)(s:Sp)(va k:Nat)(kind:Int):UOk n (eM n U s va k kind).2:=by
 have h1:=kZ h s va kind;have h2:=kZ h1 s (dX va) kind;unfold eM Bp;refine bM (fun q:(List Int×Tr)×Mmu=>UOk n q.2) h1 ?_;refine bM (fun q:(List Int×Tr)×Mmu=>UOk n q.2) ?_ (by rw[vX];exact h1);unfold Bo;exact bM (fun q:(List Int×Tr)×Mmu=>UOk n q.2) h2 (by rw[vX];exact h2)
theorem vU(n:Nat)(U:Mmu)(s:Sp)(va k:Nat)(hva:va≤4294967295)(kind:Int):TrU (eM n U s va k kind).1.2:=by
 have h1:=mL n U s va hva kind;have h2:=mL n (cM n U s va kind).2 s (dX va) (k8 va) kind;unfold eM Bp;refine bM (fun q:(List Int×Tr)×Mmu=>TrU q.1.2) h1 ?_;refine bM (fun q:(List Int×Tr)×Mmu=>TrU q.1.2) ?_ (tx _ _ hva _ h1 _);unfold Bo;exact bM (fun q:(List Int×Tr)×Mmu=>TrU q.1.2) h2 (tx _ _ hva _ h2 _)
theorem BR{n:Nat}{U:Mmu}(h:UOk n U)(s:Sp)(va:Nat){k:Nat}(hk:k≤4):u32 (ov n U s va k).1.1:=by
 have h1:=oV h s va k 2;have h2:=lU h1.m.db (eM n U s va k 2).1.1;have h3:(eM n U s va k 2).1.1.length≤4:=aV oW hk;show u32 (gg _ _);generalize gg (eM n U s va k 2).2.m.data (eM n U s va k 2).1.1=v at h2;generalize (eM n U s va k 2).1.1.length=m at h2 h3;obtain rfl|rfl|rfl|rfl|rfl:m=0∨m=1∨m=2∨m=3∨m=4:=by omega
 all_goals (refine⟨h2.1,?_⟩;simp at h2;omega)
theorem xW{n:Nat}{U:Mmu}(h:UOk n U)(s:Sp)(va k:Nat)(v:Int):UOk n (m7 n U s va k v).2:=by
 have h1:=oV h s va k 3;exact⟨h1.m.JS _ _ _,h1.t⟩
structure Dev.ok(d:Dev):Prop where
 wf:d.wf
 JH:u32 d.JH
 mask:u32 d.mask
 timer:u32 d.timer
 status:u32 d.status
theorem Dev.wf.re{d d':Dev}(h:d.wf)(h1:d'.inp=d.inp)(h2:d'.JE=d.JE)(h3:d'.Jm=d.Jm)(h4:d'.place=d.place):d'.wf:=
 ⟨h1▸h.inpb,h2▸h.JE,h2▸h.Kk,h3▸h.Jm,h4▸h.place,h1▸h.inp⟩
theorem Dev.KG{l:List Int}(h:l.length≤1024)(hb:u8s l):(Dev.init l).ok:=⟨init_wf h hb,u0,u0,u0,u0⟩
theorem gB_u32{l:List Int}(h:u8s l)(a:Nat):u32 (gB l a):=by have:=jQ h a;exact⟨this.1,by omega⟩
theorem Cd{d:Dev}(h:d.ok)(k count:Int):u32 (dq d k count).1.1∧(dq d k count).2.ok∧(dq d k count).2.out=d.out:=by
 have hi:=h.wf.inp;unfold dq;refine bM (fun q:(Int×Bool)×Dev=>u32 q.1.1∧q.2.ok∧q.2.out=d.out) ⟨h.JH,h,rfl⟩ ?_;refine bM (fun q:(Int×Bool)×Dev=>u32 q.1.1∧q.2.ok∧q.2.out=d.out) ⟨h.mask,h,rfl⟩ ?_;refine bM (fun q:(Int×Bool)×Dev=>u32 q.1.1∧q.2.ok∧q.2.out=d.out) ⟨h.timer,h,rfl⟩ ?_;refine bM (fun q:(Int×Bool)×Dev=>u32 q.1.1∧q.2.ok∧q.2.out=d.out) ⟨gz _,h,rfl⟩ ?_;refine bM (fun q:(Int×Bool)×Dev=>u32 q.1.1∧q.2.ok∧q.2.out=d.out) ⟨u0,h,rfl⟩ ?_;refine bM (fun q:(Int×Bool)×Dev=>u32 q.1.1∧q.2.ok∧q.2.out=d.out) ⟨u0,h,rfl⟩ ?_;refine bM (fun q:(Int×Bool)×Dev=>u32 q.1.1∧q.2.ok∧q.2.out=d.out) ⟨gB_u32 h.wf.inpb 0,⟨⟨fun x hx=>h.wf.inpb x (List.mem_of_mem_tail hx),h.wf.JE,h.wf.Kk,h.wf.Jm,h.wf.place,by show d.inp.tail.length≤_;rw[List.length_tail];omega⟩,h.JH,h.mask,h.timer,h.status⟩,rfl⟩ ?_;refine bM (fun q:(Int×Bool)×Dev=>u32 q.1.1∧q.2.ok∧q.2.out=d.out) ⟨hI Wq1,h,rfl⟩ ?_;refine bM (fun q:(Int×Bool)×Dev=>u32 q.1.1∧q.2.ok∧q.2.out=d.out) ⟨hI h.wf.Jm,h,rfl⟩ ?_;refine bM (fun q:(Int×Bool)×Dev=>u32 q.1.1∧q.2.ok∧q.2.out=d.out) ⟨hI h.wf.place,h,rfl⟩ ?_;refine bM (fun q:(Int×Bool)×Dev=>u32 q.1.1∧q.2.ok∧q.2.out=d.out) ⟨h.status,h,rfl⟩ ?_;exact⟨u0,h,rfl⟩
theorem Cb{n:Nat}{M:Mem}(h:M.ok n){JE:List Int}(hl:JE.length=1024)(hb:u8s JE)(Jm a cmd:Nat):(gb n M JE Jm a cmd).2.1.ok n∧(gb n M JE Jm a cmd).2.2.length=1024∧u8s (gb n M JE Jm a cmd).2.2:=by
 unfold gb;cases hk:(!lf n Jm a)with
 |true=>exact⟨h,hl,hb⟩
 |false=>
  have hk':lf n Jm a=true:=by simpa using hk
  simp only[lf,Bool.not_eq_true',bj,ah,bne_eq_false_iff_eq]at hk';obtain⟨⟨h1,h2⟩,h3⟩:=hk';have hdl:=h.dl;simp only[aa];refine bM (fun q:Bool×Mem×List Int=>q.2.1.ok n∧q.2.2.length=1024∧u8s q.2.2) ⟨h.fill _ (fun x hx=>hb x (List.mem_of_mem_drop (List.mem_of_mem_take hx))) _,hl,hb⟩ ?_;refine bM (fun q:Bool×Mem×List Int=>q.2.1.ok n∧q.2.2.length=1024∧u8s q.2.2) ⟨h,?_,fun x hx=>?_⟩ ⟨h,hl,hb⟩
  ·simp only[ae,aC,bn,hl,hdl];omega
  rcases aS.1 hx with hx|hx
  ·rcases aS.1 hx with hx|hx
   ·exact hb x (List.mem_of_mem_take hx)
   exact h.db x (List.mem_of_mem_drop (List.mem_of_mem_take hx))
  exact hb x (List.mem_of_mem_drop hx)
theorem yN{n:Nat}{M:Mem}(hm:M.ok n){d:Dev}(h:d.ok)(k:Int){v:Nat}(hv:v≤4294967295):(cP n M d k v).2.1.ok n∧(cP n M d k v).2.2.ok∧(cP n M d k v).2.2.out.length≤d.out.length+1:=by
 have hD:=Cb hm h.wf.JE h.wf.Kk d.Jm d.place v;have hvu:=hI hv;have h0:M.ok n∧d.ok∧d.out.length≤d.out.length+1:=⟨hm,h,by omega⟩;unfold cP;refine bM (fun q:Bool×Mem×Dev=>q.2.1.ok n∧q.2.2.ok∧q.2.2.out.length≤d.out.length+1) ⟨hm,⟨h.wf.re rfl rfl rfl rfl,gZ .andNot d.JH v,h.mask,h.timer,h.status⟩,Nat.le_succ _⟩ ?_;refine bM (fun q:Bool×Mem×Dev=>q.2.1.ok n∧q.2.2.ok∧q.2.2.out.length≤d.out.length+1) ⟨hm,⟨h.wf.re rfl rfl rfl rfl,h.JH,gZ .and v 255,h.timer,h.status⟩,Nat.le_succ _⟩ ?_;refine bM (fun q:Bool×Mem×Dev=>q.2.1.ok n∧q.2.2.ok∧q.2.2.out.length≤d.out.length+1) ⟨hm,⟨h.wf.re rfl rfl rfl rfl,h.JH,h.mask,hvu,h.status⟩,Nat.le_succ _⟩ ?_;refine bM (fun q:Bool×Mem×Dev=>q.2.1.ok n∧q.2.2.ok∧q.2.2.out.length≤d.out.length+1) ⟨hm,⟨⟨h.wf.inpb,h.wf.JE,h.wf.Kk,h.wf.Jm,h.wf.place,h.wf.inp⟩,h.JH,h.mask,h.timer,h.status⟩,by simp⟩ ?_;refine bM (fun q:Bool×Mem×Dev=>q.2.1.ok n∧q.2.2.ok∧q.2.2.out.length≤d.out.length+1) ⟨hm,⟨⟨h.wf.inpb,h.wf.JE,h.wf.Kk,hv,h.wf.place,h.wf.inp⟩,h.JH,h.mask,h.timer,h.status⟩,Nat.le_succ _⟩ ?_;refine bM (fun q:Bool×Mem×Dev=>q.2.1.ok n∧q.2.2.ok∧q.2.2.out.length≤d.out.length+1) ⟨hm,⟨⟨h.wf.inpb,h.wf.JE,h.wf.Kk,h.wf.Jm,hv,h.wf.inp⟩,h.JH,h.mask,h.timer,h.status⟩,Nat.le_succ _⟩ ?_;refine bM (fun q:Bool×Mem×Dev=>q.2.1.ok n∧q.2.2.ok∧q.2.2.out.length≤d.out.length+1) ⟨hD.1,⟨⟨h.wf.inpb,hD.2.1,hD.2.2,h.wf.Jm,h.wf.place,h.wf.inp⟩,gZ .or d.JH (pm [2]),h.mask,h.timer,bM u32 u0 u1⟩,Nat.le_succ _⟩ ?_;refine bM (fun q:Bool×Mem×Dev=>q.2.1.ok n∧q.2.2.ok∧q.2.2.out.length≤d.out.length+1) h0 ?_;refine bM (fun q:Bool×Mem×Dev=>q.2.1.ok n∧q.2.2.ok∧q.2.2.out.length≤d.out.length+1) h0 ?_;refine bM (fun q:Bool×Mem×Dev=>q.2.1.ok n∧q.2.2.ok∧q.2.2.out.length≤d.out.length+1) h0 ?_;exact bM (fun q:Bool×Mem×Dev=>q.2.1.ok n∧q.2.2.ok∧q.2.2.out.length≤d.out.length+1) h0 h0
structure Did(op:Int)(s s':St):Prop where
 wf:s'.wf
 fl:s'.flags≤15
 cnt:s'.count=s.count
 dl:s'.d.length+(bS op).1.1=s.d.length+(bS op).1.2
 dt:s'.d.take (s.d.length - (bS op).1.1)=s.d.take (s.d.length - (bS op).1.1)
 rl:s'.r.length+(bS op).2.1=s.r.length+(bS op).2.2
 rt:s'.r.take (s.r.length - (bS op).2.1)=s.r.take (s.r.length - (bS op).2.1)
theorem Did.of{op:Int}{s s':St}{l m:List Int}(P X Q Y:List Int)(hn:bS op=((P.length,X.length),(Q.length,Y.length)))(wf:s'.wf)(fl:s'.flags≤15)(cnt:s'.count=s.count)
  (h1:s.d=l++P) (h2:s'.d=l++X) (h3:s.r=m++Q) (h4:s'.r=m++Y):Did op s s':=by
 refine⟨wf,fl,cnt,?_,?_,?_,?_⟩
 ·rw[hn,h1,h2];simp only[ae];omega
 ·rw[hn,h1,h2,ae,Nat.add_sub_cancel,List.take_left,List.take_left]
 ·rw[hn,h3,h4];simp only[ae];omega
 rw[hn,h3,h4,ae,Nat.add_sub_cancel,List.take_left,List.take_left]
theorem sG{s:St}(h:s.wf){l:List Int}(hl:∀x,x∈l→u32 x):(⟨s.pc,l,s.r,s.flags,s.Jq,s.Jv,s.ie,s.root,s.vec,s.epc,s.Jr,s.addr,s.JC,s.eie,s.count,s.halted⟩:St).wf:=⟨h.pc,h.flags,h.root,h.vec,h.epc,h.Jr,h.addr,h.count,hl,h.r⟩
theorem wf_r{s:St}(h:s.wf){l:List Int}(hl:∀x,x∈l→u32 x):(⟨s.pc,s.d,l,s.flags,s.Jq,s.Jv,s.ie,s.root,s.vec,s.epc,s.Jr,s.addr,s.JC,s.eie,s.count,s.halted⟩:St).wf:=⟨h.pc,h.flags,h.root,h.vec,h.epc,h.Jr,h.addr,h.count,h.d,hl⟩
theorem AW{s:St}(h:s.wf){x:Int}(hx:u32 x):(⟨x,s.d,s.r,s.flags,s.Jq,s.Jv,s.ie,s.root,s.vec,s.epc,s.Jr,s.addr,s.JC,s.eie,s.count,s.halted⟩:St).wf:=⟨hx,h.flags,h.root,h.vec,h.epc,h.Jr,h.addr,h.count,h.d,h.r⟩
theorem F2{s:St}(h:s.wf){x:Int}(hx:u32 x):(⟨s.pc,s.d,s.r,x,s.Jq,s.Jv,s.ie,s.root,s.vec,s.epc,s.Jr,s.addr,s.JC,s.eie,s.count,s.halted⟩:St).wf:=⟨h.pc,hx,h.root,h.vec,h.epc,h.Jr,h.addr,h.count,h.d,h.r⟩
theorem AH{l:List Int}{p:Int→Prop}(h:∀x,x∈l→p x){y:Int}(hy:p y):∀x,x∈l++[y]→p x:=fun x hx=>by
 rcases aS.1 hx with h1|h1
 ·exact h x h1
 rw[aL.1 h1];exact hy
theorem pH{l m:List Int}{p:Int→Prop}(h:∀x,x∈l++m→p x):∀x,x∈l→p x:=fun x hx=>h x (List.mem_append_left _ hx)
theorem xB{l:List Int}{y:Int}{p:Int→Prop}(h:∀x,x∈l++[y]→p x):p y:=h y cJ
theorem Dh{op nn:Int}{R R':Run}(hw:R.s.wf)(hf:R.s.flags≤15)(hnn:u32 nn)(h1:(bS op).1.1≤R.s.d.length)(h2:(bS op).2.1≤R.s.r.length)(h:dF op nn R=some R'):Did op R.s R'.s∧R'.JA=R.JA∧R'.device=R.device∧R'.count=R.count:=by
 by_cases e:op=0
 ·subst e;obtain rfl:R=R':=aD h;exact⟨Did.of (l:=R.s.d) (m:=R.s.r) [] [] [] [] rfl hw hf rfl cJ cJ cJ cJ,rfl,rfl,rfl⟩
 have e0:(op==0)=false:=by simpa using e
 by_cases e:op=1
 ·subst e;obtain rfl:R.push [nn]=R':=aD h;exact⟨Did.of (l:=R.s.d) (m:=R.s.r) [] [nn] [] [] rfl (sG hw (AH hw.d hnn)) hf rfl cJ rfl cJ (by simp[Run.push]),rfl,rfl,rfl⟩
 have e1:(op==1)=false:=by simpa using e
 by_cases e:op=2
 ·subst e;obtain rfl:R.push [nn]=R':=aD h;exact⟨Did.of (l:=R.s.d) (m:=R.s.r) [] [nn] [] [] rfl (sG hw (AH hw.d hnn)) hf rfl cJ rfl cJ (by simp[Run.push]),rfl,rfl,rfl⟩
 have e2:(op==2)=false:=by simpa using e
 by_cases e:op=3
 ·subst e;obtain⟨R,l,x,rfl⟩:=Run.snoc (show 1≤R.s.d.length from h1);rw[nc]at h;obtain rfl:=aD h;exact⟨Did.of (l:=l) (m:=R.s.r) [x] [x,x] [] [] rfl (sG hw (by have h3:=AH hw.d (xB hw.d);simpa using h3)) hf rfl rfl rfl cJ cJ,rfl,rfl,rfl⟩
 have e3:(op==3)=false:=by simpa using e
 by_cases e:op=4
 ·subst e;obtain⟨R,l,x,rfl⟩:=Run.snoc (show 1≤R.s.d.length from h1);rw[lK]at h;obtain rfl:=aD h;exact⟨Did.of (l:=l) (m:=R.s.r) [x] [] [] [] rfl (sG hw (pH hw.d)) hf rfl rfl cJ cJ cJ,rfl,rfl,rfl⟩
 have e4:(op==4)=false:=by simpa using e
 by_cases e:op=5
 ·subst e;obtain⟨R,l,x,y,rfl⟩:=Run.J3 (show 2≤R.s.d.length from h1);rw[lI]at h;obtain rfl:=aD h;have hd:∀z,z∈(l++[x])++[y]→u32 z:=hw.d;exact⟨Did.of (l:=l) (m:=R.s.r) [x,y] [y,x] [] [] rfl (sG hw (by have h3:=AH (AH (pH (pH hd)) (xB hd)) (xB (pH hd));simpa using h3)) hf rfl cJ rfl cJ cJ,rfl,rfl,rfl⟩
 have e5:(op==5)=false:=by simpa using e
 by_cases e:op=6
 ·subst e;obtain⟨R,l,x,y,rfl⟩:=Run.J3 (show 2≤R.s.d.length from h1);rw[lJ]at h;obtain rfl:=aD h;have hd:∀z,z∈(l++[x])++[y]→u32 z:=hw.d;exact⟨Did.of (l:=l) (m:=R.s.r) [x,y] [x,y,x] [] [] rfl (sG hw (by have h3:=AH hd (xB (pH hd));simpa using h3)) hf rfl cJ rfl cJ cJ,rfl,rfl,rfl⟩
 have e6:(op==6)=false:=by simpa using e
 by_cases e:op=7
 ·subst e;obtain⟨R,l,x,rfl⟩:=Run.snoc (show 1≤R.s.d.length from h1);rw[m8]at h;obtain rfl:=aD h;have hd:∀z,z∈l++[x]→u32 z:=hw.d;exact⟨Did.of (l:=l) (m:=R.s.r) [x] [] [] [x] rfl (wf_r (sG hw (pH hd)) (AH hw.r (xB hd))) hf rfl rfl cJ cJ rfl,rfl,rfl,rfl⟩
 have e7:(op==7)=false:=by simpa using e
 by_cases e:op=8
 ·subst e;obtain⟨R,l,x,rfl⟩:=Run.snocR (show 1≤R.s.r.length from h2);rw[kR]at h;obtain rfl:=aD h;have hd:∀z,z∈l++[x]→u32 z:=hw.r;exact⟨Did.of (l:=R.s.d) (m:=l) [] [x] [x] [] rfl (sG (wf_r hw (pH hd)) (AH hw.d (xB hd))) hf rfl cJ rfl rfl cJ,rfl,rfl,rfl⟩
 have e8:(op==8)=false:=by simpa using e
 rw[pO nn R e0 e1 e2 e3 e4 e5 e6 e7 e8]at h;cases h
theorem oJ(r:Int):dz r=0∨dz r=1∨dz r=2∨dz r=3:=by
 unfold dz;generalize (bits .and .u32 r 2147483648 !=0)=c1;generalize (r==0)=c2;revert c1 c2;decide
theorem pA(a b r x:Int)(c:Bool)(o:Int):0≤jf a b r (dz x) c o∧jf a b r (dz x) c o≤15:=by
 unfold jf;generalize (o !=0)=c1;rcases oJ x with h|h|h|h<;>rw[h]<;>revert c c1<;>decide
theorem z6{a:Int}(h:u32 a)(k:Nat):u32 (a.fdiv (2^k)):=by
 have hp:(0:Int)<2^k:=Int.pow_pos Wq5;rw[Int.fdiv_eq_ediv_of_nonneg _ (Int.le_of_lt hp)];have h1:=Int.ediv_nonneg h.1 (Int.le_of_lt hp);have h2:=Int.ediv_le_self (2^k) h.1;exact⟨h1,Int.le_trans h2 h.2⟩
def AM(q:Int×Int×Bool):Prop:=u32 q.1∧0≤q.2.1∧q.2.1≤15
theorem nz{r:Int}(h:u32 r):AM (uj r):=by
 refine⟨h,?_⟩;show 0≤dz r∧dz r≤15;rcases oJ r with h|h|h|h<;>rw[h]<;>decide
theorem arDo_ok(op:Int){a b:Int}(ha:u32 a):AM (iu op a b):=by
 have h0:AM (0,0,false):=⟨u0,by decide,by decide⟩;unfold iu;refine bM AM ⟨gz _,pA a b 0 _ _ _⟩ ?_;refine bM AM ⟨gz _,pA a b 0 _ _ _⟩ ?_;refine bM AM ⟨u0,pA a b 0 _ _ _⟩ ?_;refine bM AM (nz (gZ _ _ _)) ?_;refine bM AM (nz (gZ _ _ _)) ?_;refine bM AM (nz (gZ _ _ _)) ?_;refine bM AM (nz ?_) ?_
 ·unfold gQ;exact bM u32 u0 (bM u32 (gz _) (z6 ha _))
 refine bM AM (nz ?_) ?_
 ·unfold gQ;exact bM u32 u0 (bM u32 (gz _) (z6 ha _))
 refine bM AM (nz (gz _)) ?_;exact bM AM (bM AM h0 (nz (gz _))) h0
theorem DS{op:Int}(h1:16≤op)(h2:op≤24):bS op=((2,1),(0,0)):=by
 obtain rfl|rfl|rfl|rfl|rfl|rfl|rfl|rfl|rfl:op=16∨op=17∨op=18∨op=19∨op=20∨op=21∨op=22∨op=23∨op=24:=by omega
 all_goals rfl
theorem BD{op nn:Int}{R:Run}(hw:R.s.wf)(hf:R.s.flags≤15)(h1:(bS op).1.1≤R.s.d.length)(h2:(bS op).2.1≤R.s.r.length)(h:(cH op nn R).1=true):Did op R.s (cH op nn R).2.s∧((cH op nn R).2.JA=R.JA∨(cH op nn R).2.JA=⟨5,0⟩)∧(cH op nn R).2.device=R.device∧(cH op nn R).2.count=R.count:=by
 cases ha:(decide (16≤op)&&decide (op≤25))with
 |true=>
  have h3:=zB ha;rw[h3]at h1;obtain⟨R,l,x,y,rfl⟩:=Run.J3 h1;have hd:∀z,z∈(l++[x])++[y]→u32 z:=hw.d;obtain⟨hv,hf0,hf1⟩:=arDo_ok op (b:=y) (xB (pH hd));obtain⟨⟨v,fl,ok⟩,hq⟩:=Zgn (iu op x y);rw[hq]at hv hf0 hf1;have hv:u32 v:=hv;have hf0:0≤fl:=hf0;have hf1:fl≤15:=hf1;have hst:cH op nn (R.wd ((l++[x])++[y]))=(true,bif op !=25 then((bif ok then R.wd l else(R.wd l).wt ⟨5,0⟩).wfl fl).push [v]else(bif ok then R.wd l else(R.wd l).wt ⟨5,0⟩).wfl fl):=by
   simp only[cH,ha,ac,Run.top_wd,Run.pop_wd,hq]
  simp only[aB,ak]at ha;have hwl:(R.wd l).s.wf:=sG hw (pH (pH hd));rw[hst];have hfu:u32 fl:=⟨hf0,by omega⟩;by_cases e:op=25
  ·subst e;cases ok
   ·exact⟨Did.of (l:=l) (m:=R.s.r) [x,y] [] [] [] rfl (F2 hwl hfu) hf1 rfl cJ cJ cJ cJ,.inr rfl,rfl,rfl⟩
   exact⟨Did.of (l:=l) (m:=R.s.r) [x,y] [] [] [] rfl (F2 hwl hfu) hf1 rfl cJ cJ cJ cJ,.inl rfl,rfl,rfl⟩
  have e':(op !=25)=true:=by simpa using e
  have hn:=DS (op:=op) Wq1 Wq1;simp only[e',ac];cases ok
  ·exact⟨Did.of (l:=l) (m:=R.s.r) [x,y] [v] [] [] hn (sG (F2 hwl hfu) (AH (pH (pH hd)) hv)) hf1 rfl cJ rfl cJ (by simp[Run.push]),.inr rfl,rfl,rfl⟩
  exact⟨Did.of (l:=l) (m:=R.s.r) [x,y] [v] [] [] hn (sG (F2 hwl hfu) (AH (pH (pH hd)) hv)) hf1 rfl cJ rfl cJ (by simp[Run.push]),.inl rfl,rfl,rfl⟩
 |false=>
  have hth:u32 (jl R nn):=gz _;by_cases e:op=38
  ·subst e;exact⟨Did.of (l:=R.s.d) (m:=R.s.r) [] [] [] [R.s.pc] rfl (AW (wf_r hw (AH hw.r hw.pc)) hth) hf rfl cJ (ax _).symm cJ rfl,.inl rfl,rfl,rfl⟩
  have e1:(op==38)=false:=by simpa using e
  by_cases e:op=32
  ·subst e;exact⟨Did.of (l:=R.s.d) (m:=R.s.r) [] [] [] [] rfl (AW hw hth) hf rfl cJ (ax _).symm cJ (ax _).symm,.inl rfl,rfl,rfl⟩
  have e2:(op==32)=false:=by simpa using e
  by_cases e:op=39
  ·subst e;obtain⟨R,l,x,rfl⟩:=Run.snocR (show 1≤R.s.r.length from h2);have hst:cH 39 nn (R.wr (l++[x]))=(true,(R.wr l).wpc x):=by show(_,_)=_;rw[Run.popR_wr,Run.topR_wr]
   rw[hst];have hd:∀z,z∈l++[x]→u32 z:=hw.r;exact⟨Did.of (l:=R.s.d) (m:=l) [] [] [x] [] rfl (AW (wf_r hw (pH hd)) (xB hd)) hf rfl cJ cJ rfl cJ,.inl rfl,rfl,rfl⟩
  have e3:(op==39)=false:=by simpa using e
  by_cases e:op=40
  ·subst e;obtain⟨R,l,x,rfl⟩:=Run.snoc (show 1≤R.s.d.length from h1);have hst:cH 40 nn (R.wd (l++[x]))=(true,(R.wd l).wpc x):=by show(_,_)=_;rw[Run.pop_wd,Run.top_wd]
   rw[hst];have hd:∀z,z∈l++[x]→u32 z:=hw.d;exact⟨Did.of (l:=l) (m:=R.s.r) [x] [] [] [] rfl (AW (sG hw (pH hd)) (xB hd)) hf rfl rfl cJ cJ cJ,.inl rfl,rfl,rfl⟩
  have e4:(op==40)=false:=by simpa using e
  have hst:cH op nn R=((cY op R.s.flags).2,bif(cY op R.s.flags).1 then R.wpc (jl R nn)else R):=by simp only[cH, *,ac,aa]
  rw[hst]at h⊢;have hn:bS op=((0,0),(0,0)):=by
   have h:(cY op R.s.flags).2=true:=h;by_cases e:op=33
   ·subst e;rfl
   by_cases e':op=34
   ·subst e';rfl
   by_cases e'':op=35
   ·subst e'';rfl
   by_cases e5:op=36
   ·subst e5;rfl
   by_cases e6:op=37
   ·subst e6;rfl
   have b1:(op==33)=false:=by simpa using e
   have b2:(op==34)=false:=by simpa using e'
   have b3:(op==35)=false:=by simpa using e''
   have b4:(op==36)=false:=by simpa using e5
   have b5:(op==37)=false:=by simpa using e6
   unfold cY at h;rw[b1,b2,b3,b4,b5]at h;cases h
  cases(cY op R.s.flags).1
  ·exact⟨Did.of (l:=R.s.d) (m:=R.s.r) [] [] [] [] hn hw hf rfl cJ (ax _).symm cJ (ax _).symm,.inl rfl,rfl,rfl⟩
  exact⟨Did.of (l:=R.s.d) (m:=R.s.r) [] [] [] [] hn (AW hw hth) hf rfl cJ (ax _).symm cJ (ax _).symm,.inl rfl,rfl,rfl⟩
end Go.Ink
