/- Lemmas. -/
import Derived.Test.YtakodpimdalajaaGreatDoorQaa
import Derived.Test.YtakodpimdalajaaGreatDoorQab
import Derived.Test.YtakodpimdalajaaGreatDoorQac
import Derived.Test.YtakodpimdalajaaGreatDoorQae
set_option linter.unusedSimpArgs false
set_option linter.unusedVariables false
set_option maxRecDepth 100000
set_option maxHeartbeats 4000000
namespace Go.Ink
open Go.RowKit
abbrev ik.of(p:Run×Mmu)(d:Dev):ik:=⟨p.1,p.2,d⟩
abbrev Run.ws(R:Run)(s:St):Run:=⟨s,R.count,R.Io,R.device⟩
abbrev St.IQ(s:St)(c:Int):St:=⟨s.pc,s.d,s.r,s.flags,s.If,s.Il,s.ie,s.root,s.vec,s.epc,s.Ie,s.addr,s.Ip,s.eie,c,s.halted⟩
abbrev St.halt(s:St):St:=⟨s.pc,s.d,s.r,s.flags,s.If,s.Il,s.ie,s.root,s.vec,s.epc,s.Ie,s.addr,s.Ip,s.eie,s.count,true⟩
def dS(n:Nat)(op nn:Int)(m:ik):ik:=
 bif op==48 then k9 n m.r.pop m.u m.d m.r.top.toNat else
 bif op==49 then k8 n m.r.pop.pop m.u m.d m.r.top.toNat m.r.pop.top.toNat else
 bif op==50 then ik.of (lE n m.r.pop m.u m.r.top.toNat 4) m.d else
 bif op==51 then ik.of (lb n m.r.pop.pop m.u m.r.top.toNat 4 m.r.pop.top) m.d else
 bif op==52 then ik.of (lE n m.r.pop m.u m.r.top.toNat 1) m.d else
 bif op==53 then ik.of (lb n m.r.pop.pop m.u m.r.top.toNat 1 m.r.pop.top) m.d else
 bif op==64 then⟨m.r.wt ⟨11,0⟩,m.u,m.d⟩else
 bif op==65 then⟨m.r.ws m.r.s.back,m.u,m.d⟩else
 bif op==66 then⟨m.r.push [((m.r.s.IQ m.r.count).get nn).1],m.u,m.d⟩else
 bif op==67 then⟨m.r.pop.ws (m.r.pop.s.set nn m.r.top).1,bif nn==1||nn==2 then⟨m.u.m,dM⟩else m.u,m.d⟩else
 bif op==68 then⟨m.r.pop,⟨m.u.m,sf m.u.t m.r.top.toNat⟩,m.d⟩else
 bif op==69 then⟨m.r.ws m.r.s.halt,m.u,m.d⟩else m
theorem St.set_dr(s:St)(reg v:Int):(s.set reg v).1.d=s.d∧(s.set reg v).1.r=s.r:=by
 unfold St.set
 repeat (refine bM (fun q:St×Bool=>q.1.d=s.d∧q.1.r=s.r) ⟨rfl,rfl⟩ ?_)
 exact⟨rfl,rfl⟩
end Go.Ink
namespace Go.Proofs.YtakodpimdalajaaGreatDoor
open Go.RowKit Go.Ink Go.Proofs.Tryz
attribute [local irreducible] OpY bU
theorem Cb(br bu bb:Nat)(L:gR)(D:rZ)(X:hI)(Y:jV)(R:Run)(U:Mmu)(d:Dev)(op nn:Int)(hnn:u32 nn)(hw:∀x,x∈R.s.d→u32 x)(hdl:R.s.d.length≤100000)(hrl:R.s.r.length≤100000)(hn:(bQ op).1.1≤R.s.d.length)(hT:U.t.length=16)(hroot:u32 R.s.root)(hd:d.wf)(ho:d.out.length≤1000000000)
  (w:World) (hi:Inv w (bK (kJ br bu bb L D X Y ⟨R,U,d⟩)) (kJ br bu bb L D X Y ⟨R,U,d⟩) w):
  Ctr prog 143 [.pointer (some ⟨br,0,none⟩),.agg #[.int .i64 op,.int .u32 nn]] w (kJ br bu bb L D X Y ⟨R,U,d⟩) (fun v cs=>∃X' Y',v= .tuple #[]∧cs=kJ br bu bb L D X' Y' (dS L.n op nn ⟨R,U,d⟩)):=by
 have hu1:=hnn.1;have hu2:=hnn.2;refine bL func143 rfl ntmps143 rfl hi ?_;refine Z_2 ?_;refine ZO fun b3=>?_;refine qo ?_;refine ZW ?_ ?_<;>intro hc2
 ·obtain rfl:=jS hc2;obtain⟨R,l,x,rfl⟩:=Run.snoc (show 1≤R.s.d.length from hn);obtain⟨hx1,hx2⟩:=hw x (by simp);obtain⟨va,rfl⟩:∃va:Nat,x=va:=ar hx1;have hva:va≤4294967295:=(by omega);have hll:l.length≤100000:=(by have:(l++[(va:Int)]).length≤100000:=hdl;simp only[ae,ai,ak]at this;omega);have HC:=lode_ok br bu bb L D X Y R U d l va hva hll hT hroot hd;have hst:dS L.n 48 nn ⟨R.wd (l++[(va:Int)]),U,d⟩=k9 L.n (R.wd l) U d va:=(by show k9 _ _ _ _ _=_;rw[Run.pop_wd,Run.top_wd];rfl);obtain⟨m',hm'⟩:∃m',k9 L.n (R.wd l) U d va=m':=⟨_,rfl⟩;rw[hm']at HC;rw[hm']at hst;refine Z_2 ?_;refine ZcL (kJ br bu bb L D X Y ⟨R.wd (l++[(va:Int)]),U,d⟩) (fun w hi hin=>HC w hin) ?_;rintro _ _ ⟨_,⟨X',Y',rfl,rfl⟩,rfl⟩;refine Z_2 ?_;refine bP (kJ br bu bb L D X' Y' m') Zj ?_;refine fE (cs':=[row _ _ _,slv _ _ _ _ _ _,slv _ _ _ _ _ _,row _ _ _,exC _ _ _ _,row _ _ _,row _ _ _,row _ _ _,row _ _ _,row _ _ _,slv _ _ _ _ _ _,slv _ _ _ _ _ _,row _ _ _,slv _ _ _ _ _ _]) (.inr rfl) Zu rfl ?_;rw[hst];exact⟨X',Y',rfl,rfl⟩
 refine Z_6 ?_;refine ZW ?_ ?_<;>intro hc4
 ·obtain rfl:=jS hc4;obtain⟨R,l,y,x,rfl⟩:=Run.IW (show 2≤R.s.d.length from hn);obtain⟨hx1,hx2⟩:=hw x (by simp);obtain⟨hy1,hy2⟩:=hw y (by simp);obtain⟨va,rfl⟩:∃va:Nat,x=va:=ar hx1;obtain⟨v,rfl⟩:∃v:Nat,y=v:=ar hy1;have hva:va≤4294967295:=(by omega);have hv:v≤4294967295:=(by omega);have hll:l.length≤100000:=(by have:((l++[(v:Int)])++[(va:Int)]).length≤100000:=hdl;simp only[ae,ai,ak]at this;omega);have HC:=stow_ok br bu bb L D X Y R U d l va v hva hv hT hroot hd ho;have hst:dS L.n 49 nn ⟨R.wd ((l++[(v:Int)])++[(va:Int)]),U,d⟩=k8 L.n (R.wd l) U d va v:=(by show k8 _ _ _ _ _ _=_;rw[Run.pop_wd,Run.top_wd,Run.pop_wd,Run.top_wd];rfl);obtain⟨m',hm'⟩:∃m',k8 L.n (R.wd l) U d va v=m':=⟨_,rfl⟩;rw[hm']at HC;rw[hm']at hst;refine Z_2 ?_;refine ZcL (kJ br bu bb L D X Y ⟨R.wd ((l++[(v:Int)])++[(va:Int)]),U,d⟩) (fun w hi hin=>HC w hin) ?_;rintro _ _ ⟨_,⟨Y',rfl,rfl⟩,rfl⟩;refine Z_2 ?_;refine bP (kJ br bu bb L D X Y' m') Zj ?_;refine fE (cs':=[row _ _ _,slv _ _ _ _ _ _,slv _ _ _ _ _ _,row _ _ _,exC _ _ _ _,row _ _ _,row _ _ _,row _ _ _,row _ _ _,row _ _ _,slv _ _ _ _ _ _,slv _ _ _ _ _ _,row _ _ _,slv _ _ _ _ _ _]) (.inr rfl) Zu rfl ?_;rw[hst];exact⟨X,Y',rfl,rfl⟩
 refine Z_6 ?_;refine ZW ?_ ?_<;>intro hc6
 ·obtain rfl:=jS hc6;obtain⟨R,l,x,rfl⟩:=Run.snoc (show 1≤R.s.d.length from hn);obtain⟨hx1,hx2⟩:=hw x (by simp);obtain⟨va,rfl⟩:∃va:Nat,x=va:=ar hx1;have hva:va≤4294967295:=(by omega);have hll:l.length≤100000:=(by have:(l++[(va:Int)]).length≤100000:=hdl;simp only[ae,ai,ak]at this;omega);have HC:=yu br bu bb L D X R U l va 4 hva (by decide) (by decide) hll hT hroot;have hst:dS L.n 50 nn ⟨R.wd (l++[(va:Int)]),U,d⟩=ik.of (lE L.n (R.wd l) U va 4) d:=(by show ik.of (lE _ _ _ _ _) _=_;rw[Run.pop_wd,Run.top_wd];rfl);obtain⟨m',hm'⟩:∃m',lE L.n (R.wd l) U va 4=m':=⟨_,rfl⟩;rw[hm']at HC;rw[hm']at hst;refine Z_2 ?_;refine ZcL (dY (kOf br bu D) X (R.wd (l++[(va:Int)]))++uF bu bb L U) (fun w hi hin=>HC w hin) ?_;rintro _ _ ⟨_,⟨X',rfl,rfl⟩,rfl⟩;refine Z_2 ?_;refine bP (kJ br bu bb L D X' Y ⟨m'.1,m'.2,d⟩) Zj ?_;refine fE (cs':=[row _ _ _,slv _ _ _ _ _ _,slv _ _ _ _ _ _,row _ _ _,exC _ _ _ _,row _ _ _,row _ _ _,row _ _ _,row _ _ _,row _ _ _,slv _ _ _ _ _ _,slv _ _ _ _ _ _,row _ _ _,slv _ _ _ _ _ _]) (.inr rfl) Zu rfl ?_;rw[hst];exact⟨X',Y,rfl,rfl⟩
 refine Z_6 ?_;refine ZW ?_ ?_<;>intro hc8
 ·obtain rfl:=jS hc8;obtain⟨R,l,y,x,rfl⟩:=Run.IW (show 2≤R.s.d.length from hn);obtain⟨hx1,hx2⟩:=hw x (by simp);obtain⟨hy1,hy2⟩:=hw y (by simp);obtain⟨va,rfl⟩:∃va:Nat,x=va:=ar hx1;obtain⟨v,rfl⟩:∃v:Nat,y=v:=ar hy1;have hva:va≤4294967295:=(by omega);have hv:v≤4294967295:=(by omega);have hll:l.length≤100000:=(by have:((l++[(v:Int)])++[(va:Int)]).length≤100000:=hdl;simp only[ae,ai,ak]at this;omega);have HC:=yt br bu bb L D X R U l va 4 v hva (by decide) (by decide) hll hT hroot;have hst:dS L.n 51 nn ⟨R.wd ((l++[(v:Int)])++[(va:Int)]),U,d⟩=ik.of (lb L.n (R.wd l) U va 4 v) d:=(by show ik.of (lb _ _ _ _ _ _) _=_;rw[Run.pop_wd,Run.top_wd,Run.pop_wd,Run.top_wd];rfl);obtain⟨m',hm'⟩:∃m',lb L.n (R.wd l) U va 4 v=m':=⟨_,rfl⟩;rw[hm']at HC;rw[hm']at hst;refine Z_2 ?_;refine dJ (dW (dY (kOf br bu D) X (R.wd ((l++[(v:Int)])++[(va:Int)]))++uF bu bb L U) rfl (fun _ _=>rfl) Zi (fun w hi hin=>HC w hin)) rfl ?_;rintro _ _ ⟨_,⟨rfl,rfl⟩,rfl⟩;refine Z_2 ?_;refine bP (kJ br bu bb L D X Y ⟨m'.1,m'.2,d⟩) Zj ?_;refine fE (cs':=[row _ _ _,slv _ _ _ _ _ _,slv _ _ _ _ _ _,row _ _ _,exC _ _ _ _,row _ _ _,row _ _ _,row _ _ _,row _ _ _,row _ _ _,slv _ _ _ _ _ _,slv _ _ _ _ _ _,row _ _ _,slv _ _ _ _ _ _]) (.inr rfl) Zu rfl ?_;rw[hst];exact⟨X,Y,rfl,rfl⟩
 refine Z_6 ?_;refine ZW ?_ ?_<;>intro hc10
 ·obtain rfl:=jS hc10;obtain⟨R,l,x,rfl⟩:=Run.snoc (show 1≤R.s.d.length from hn);obtain⟨hx1,hx2⟩:=hw x (by simp);obtain⟨va,rfl⟩:∃va:Nat,x=va:=ar hx1;have hva:va≤4294967295:=(by omega);have hll:l.length≤100000:=(by have:(l++[(va:Int)]).length≤100000:=hdl;simp only[ae,ai,ak]at this;omega);have HC:=yu br bu bb L D X R U l va 1 hva (by decide) (by decide) hll hT hroot;have hst:dS L.n 52 nn ⟨R.wd (l++[(va:Int)]),U,d⟩=ik.of (lE L.n (R.wd l) U va 1) d:=(by show ik.of (lE _ _ _ _ _) _=_;rw[Run.pop_wd,Run.top_wd];rfl);obtain⟨m',hm'⟩:∃m',lE L.n (R.wd l) U va 1=m':=⟨_,rfl⟩;rw[hm']at HC;rw[hm']at hst;refine Z_2 ?_;refine ZcL (dY (kOf br bu D) X (R.wd (l++[(va:Int)]))++uF bu bb L U) (fun w hi hin=>HC w hin) ?_;rintro _ _ ⟨_,⟨X',rfl,rfl⟩,rfl⟩;refine Z_2 ?_;refine bP (kJ br bu bb L D X' Y ⟨m'.1,m'.2,d⟩) Zj ?_;refine fE (cs':=[row _ _ _,slv _ _ _ _ _ _,slv _ _ _ _ _ _,row _ _ _,exC _ _ _ _,row _ _ _,row _ _ _,row _ _ _,row _ _ _,row _ _ _,slv _ _ _ _ _ _,slv _ _ _ _ _ _,row _ _ _,slv _ _ _ _ _ _]) (.inr rfl) Zu rfl ?_;rw[hst];exact⟨X',Y,rfl,rfl⟩
 refine Z_6 ?_;refine ZW ?_ ?_<;>intro hc12
 ·obtain rfl:=jS hc12;obtain⟨R,l,y,x,rfl⟩:=Run.IW (show 2≤R.s.d.length from hn);obtain⟨hx1,hx2⟩:=hw x (by simp);obtain⟨hy1,hy2⟩:=hw y (by simp);obtain⟨va,rfl⟩:∃va:Nat,x=va:=ar hx1;obtain⟨v,rfl⟩:∃v:Nat,y=v:=ar hy1;have hva:va≤4294967295:=(by omega);have hv:v≤4294967295:=(by omega);have hll:l.length≤100000:=(by have:((l++[(v:Int)])++[(va:Int)]).length≤100000:=hdl;simp only[ae,ai,ak]at this;omega);have HC:=yt br bu bb L D X R U l va 1 v hva (by decide) (by decide) hll hT hroot;have hst:dS L.n 53 nn ⟨R.wd ((l++[(v:Int)])++[(va:Int)]),U,d⟩=ik.of (lb L.n (R.wd l) U va 1 v) d:=(by show ik.of (lb _ _ _ _ _ _) _=_;rw[Run.pop_wd,Run.top_wd,Run.pop_wd,Run.top_wd];rfl);obtain⟨m',hm'⟩:∃m',lb L.n (R.wd l) U va 1 v=m':=⟨_,rfl⟩;rw[hm']at HC;rw[hm']at hst;refine Z_2 ?_;refine dJ (dW (dY (kOf br bu D) X (R.wd ((l++[(v:Int)])++[(va:Int)]))++uF bu bb L U) rfl (fun _ _=>rfl) Zi (fun w hi hin=>HC w hin)) rfl ?_;rintro _ _ ⟨_,⟨rfl,rfl⟩,rfl⟩;refine Z_2 ?_;refine bP (kJ br bu bb L D X Y ⟨m'.1,m'.2,d⟩) Zj ?_;refine fE (cs':=[row _ _ _,slv _ _ _ _ _ _,slv _ _ _ _ _ _,row _ _ _,exC _ _ _ _,row _ _ _,row _ _ _,row _ _ _,row _ _ _,row _ _ _,slv _ _ _ _ _ _,slv _ _ _ _ _ _,row _ _ _,slv _ _ _ _ _ _]) (.inr rfl) Zu rfl ?_;rw[hst];exact⟨X,Y,rfl,rfl⟩
 refine Z_6 ?_;refine ZW ?_ ?_<;>intro hc14
 ·obtain rfl:=jS hc14;refine Z_2 ?_;refine ZcM (dY (kOf br bu D) X R) (fun w hi hin=>mY (kOf br bu D) X R 11 0 w hin) ?_;refine Z_2 ?_;refine bP (kJ br bu bb L D X Y ⟨R.wt ⟨11,0⟩,U,d⟩) Zj ?_;refine fE (cs':=[row _ _ _,slv _ _ _ _ _ _,slv _ _ _ _ _ _,row _ _ _,exC _ _ _ _,row _ _ _,row _ _ _,row _ _ _,row _ _ _,row _ _ _,slv _ _ _ _ _ _,slv _ _ _ _ _ _,row _ _ _,slv _ _ _ _ _ _]) (.inr rfl) Zu rfl ?_;exact⟨X,Y,rfl,rfl⟩
 refine Z_6 ?_;refine ZW ?_ ?_<;>intro hc16
 ·obtain rfl:=jS hc16;have hR:=Cc R.s X.Ad X.Ar X.cd X.cr;refine Z_5 ?_;refine dX (cB (vs:=R.s.cells (.slice X.Ad R.s.d.length X.cd) (.slice X.Ar R.s.r.length X.cr)) Zrf Zrf Zv0) (cX Zh rfl) rfl ?_;refine ZS (fun w hi=>hR w (hi.rdSt (show Has _ (slD R.s X.Ad X.cd)from Zh) (show Has _ (slR R.s X.Ar X.cr)from Zh) (by omega) (by omega))) ?_;rintro _ _ ⟨_,⟨A1,c1,A2,c2,rfl,rfl⟩,rfl⟩;refine Z_2 ?_;refine dy (fv (ys:=ix (kOf br bu D) ⟨A1,c1,A2,c2⟩ (R.ws R.s.back)) (n:=16) (vs:=R.s.back.cells (.slice A1 R.s.back.d.length c1) (.slice A2 R.s.back.r.length c2)) rfl Zrf rfl rfl (iE rfl) Za rfl (by simp only[ai,ak];omega)) ?_;rintro _ _ ⟨rfl,rfl⟩;refine Z_2 ?_;refine bP (kJ br bu bb L D ⟨A1,c1,A2,c2⟩ Y ⟨R.ws R.s.back,U,d⟩) Zj ?_;refine fE (cs':=[row _ _ _,slv _ _ _ _ _ _,slv _ _ _ _ _ _,row _ _ _,exC _ _ _ _,row _ _ _,row _ _ _,row _ _ _,row _ _ _,row _ _ _,slv _ _ _ _ _ _,slv _ _ _ _ _ _,row _ _ _,slv _ _ _ _ _ _]) (.inr rfl) Zu rfl ?_;exact⟨⟨A1,c1,A2,c2⟩,Y,rfl,rfl⟩
 refine Z_6 ?_;refine ZW ?_ ?_<;>intro hc18
 ·obtain rfl:=jS hc18;have HG:=Hw (R.s.IQ R.count) (.slice X.Ad R.s.d.length X.cd) (.slice X.Ar R.s.r.length X.cr) nn;obtain⟨⟨g,gk⟩,hg⟩:=Zgn ((R.s.IQ R.count).get nn);rw[hg]at HG;have hst:dS L.n 66 nn ⟨R,U,d⟩=⟨R.push [g],U,d⟩:=(by show ik.mk (R.push [((R.s.IQ R.count).get nn).1]) U d=_;rw[hg]);refine Z_5 ?_;refine dX (cB (vs:=R.s.cells (.slice X.Ad R.s.d.length X.cd) (.slice X.Ar R.s.r.length X.cr)) Zrf Zrf Zv0) (cX Zh rfl) rfl ?_;refine ZN fun b4=>?_
  refine ZM ?_;refine Z_9 ?_;refine ZL ?_;refine Z_7 ?_;refine Zy (ce rfl rfl Zv0 Zl) ?_;refine ZSe (fun w hi=>HG w) ?_;refine eJ ?_;refine dJ (bZ rfl rfl Zrf Zrf rfl rfl) rfl ?_;rintro _ _ ⟨b70,rfl,rfl⟩;refine ZcL (dY (kOf br bu D) X R) (fun w hi hin=>gN (kOf br bu D) X R _ 1 1 [g] (by omega) w hin (fun w' hk=>hi.I2 Zi Zh hk)) ?_;rintro _ _ ⟨_,⟨A',c',rfl,rfl⟩,rfl⟩;refine Z_2 ?_;refine bP (kJ br bu bb L D ⟨A',c',X.Ar,X.cr⟩ Y ⟨R.wd (R.s.d++[g]),U,d⟩) Zj ?_;refine fE (cs':=[row _ _ _,slv _ _ _ _ _ _,slv _ _ _ _ _ _,row _ _ _,exC _ _ _ _,row _ _ _,row _ _ _,row _ _ _,row _ _ _,row _ _ _,slv _ _ _ _ _ _,slv _ _ _ _ _ _,row _ _ _,slv _ _ _ _ _ _]) (.inr rfl) Zu rfl ?_;rw[hst];exact⟨⟨A',c',X.Ar,X.cr⟩,Y,rfl,rfl⟩
 refine Z_6 ?_;refine ZW ?_ ?_<;>intro hc23
 ·obtain rfl:=jS hc23;obtain⟨R,l,x,rfl⟩:=Run.snoc (show 1≤R.s.d.length from hn);obtain⟨hx1,hx2⟩:=hw x (by simp);obtain⟨va,rfl⟩:∃va:Nat,x=va:=ar hx1;have hva:va≤4294967295:=(by omega);have hll:l.length≤100000:=(by have:(l++[(va:Int)]).length≤100000:=hdl;simp only[ae,ai,ak]at this;omega);have HE:=Hf (R.wd l).s X.Ad X.Ar X.cd X.cr nn va;have hdr:=St.set_dr (R.wd l).s nn va;have hst:dS L.n 67 nn ⟨R.wd (l++[(va:Int)]),U,d⟩=⟨(R.wd l).ws ((R.wd l).s.set nn va).1,bif nn==1||nn==2 then⟨U.m,dM⟩else U,d⟩:=(by show ik.mk _ _ _=_;rw[Run.pop_wd,Run.top_wd]);obtain⟨⟨⟨pc',d',r',fl',su',pg',ie',rt',ve',ep',ca',ad',es',ei',co',ha'⟩,kn⟩,hq⟩:=Zgn ((R.wd l).s.set nn va);rw[hq]at HE hst hdr;obtain⟨hd',hr'⟩:=hdr;have hd':l=d':=hd'.symm;have hr':R.s.r=r':=hr'.symm;subst hd';subst hr';refine Z_3 ?_;refine ZcM (dY (kOf br bu D) X (R.wd (l++[(va:Int)]))) (fun w hi hin=>gX (kOf br bu D) X R l va w hin) ?_;refine Z_4 ?_;refine bX ⟨fun j=>List.elem j [15],[]⟩ Zk ?_;refine ZE 0 ?_;refine ZE 1 ?_;refine ZE 2 ?_;refine ZFe 3 0 ?_;refine eX 4 rfl Zk Zk Zk Zk (cB (vs:=(R.wd l).s.cells (.slice X.Ad (R.wd l).s.d.length X.cd) (.slice X.Ar (R.wd l).s.r.length X.cr)) Zrf Zrf Zv0) (cX Zh rfl) rfl ?_;refine ZFe 5 1 ?_;refine ZG 6 ?_;refine cN 7 rfl Zk Zk Zk (ce rfl rfl Zv0 Zl) rfl ?_;refine ZE 8 ?_;refine cw 9 Zk ?_;refine ZT (fun w hi=>HE w (hi.rdSt (show Has _ (slD (R.wd l).s X.Ad X.cd)from Zh) (show Has _ (slR (R.wd l).s X.Ar X.cr)from Zh) (by show l.length*4≤_;omega) (by show R.s.r.length*4≤_;have:R.s.r.length≤100000:=hrl;omega))) ?_;rintro _ _ ⟨_,⟨A1,c1,A2,c2,rfl,rfl⟩,rfl⟩;refine ZE 10 ?_;refine ZE 11 ?_;refine ZE 12 ?_;refine ZE 13 ?_;refine ZFe 14 0 ?_;refine cw 15 Zk ?_;refine dz rfl rfl (fv (ys:=ix (kOf br bu D) ⟨A1,c1,A2,c2⟩ ((R.wd l).ws ⟨pc',l,R.s.r,fl',su',pg',ie',rt',ve',ep',ca',ad',es',ei',co',ha'⟩)) (n:=16) (vs:=(St.mk pc' l R.s.r fl' su' pg' ie' rt' ve' ep' ca' ad' es' ei' co' ha').cells (.slice A1 l.length c1) (.slice A2 R.s.r.length c2)) rfl Zrf rfl rfl (iE rfl) Za rfl (by simp only[ai,ak];omega)) ZJ ?_;rintro _ _ ⟨rfl,rfl⟩;refine bN Zk ?_;refine mL ?_;refine ZW ?_ ?_<;>intro hc26
  ·have h12:(nn==1||nn==2)=true:=(by simpa using hc26);refine Z_5 ?_;refine ZcM (uF bu bb L U) (fun w hi hin=>BB bu bb L U hT w hin) ?_;refine Z_2 ?_;refine bP (kJ br bu bb L D ⟨A1,c1,A2,c2⟩ Y ⟨((R.wd l).ws ⟨pc',l,R.s.r,fl',su',pg',ie',rt',ve',ep',ca',ad',es',ei',co',ha'⟩),⟨U.m,dM⟩,d⟩) Zj ?_;refine fE (cs':=[row _ _ _,slv _ _ _ _ _ _,slv _ _ _ _ _ _,row _ _ _,exC _ _ _ _,row _ _ _,row _ _ _,row _ _ _,row _ _ _,row _ _ _,slv _ _ _ _ _ _,slv _ _ _ _ _ _,row _ _ _,slv _ _ _ _ _ _]) (.inr rfl) Zu rfl ?_;rw[hst,rQ h12];exact⟨⟨A1,c1,A2,c2⟩,Y,rfl,rfl⟩
  have h12:(nn==1||nn==2)=false:=(by simpa using hc26);refine Z_2 ?_;refine bP (kJ br bu bb L D ⟨A1,c1,A2,c2⟩ Y ⟨((R.wd l).ws ⟨pc',l,R.s.r,fl',su',pg',ie',rt',ve',ep',ca',ad',es',ei',co',ha'⟩),U,d⟩) Zj ?_;refine fE (cs':=[row _ _ _,slv _ _ _ _ _ _,slv _ _ _ _ _ _,row _ _ _,exC _ _ _ _,row _ _ _,row _ _ _,row _ _ _,row _ _ _,row _ _ _,slv _ _ _ _ _ _,slv _ _ _ _ _ _,row _ _ _,slv _ _ _ _ _ _]) (.inr rfl) Zu rfl ?_;rw[hst,kF h12];exact⟨⟨A1,c1,A2,c2⟩,Y,rfl,rfl⟩
 refine Z_6 ?_;refine ZW ?_ ?_<;>intro hc28
 ·obtain rfl:=jS hc28;obtain⟨R,l,x,rfl⟩:=Run.snoc (show 1≤R.s.d.length from hn);obtain⟨hx1,hx2⟩:=hw x (by simp);obtain⟨va,rfl⟩:∃va:Nat,x=va:=ar hx1;have hva:va≤4294967295:=(by omega);have hll:l.length≤100000:=(by have:(l++[(va:Int)]).length≤100000:=hdl;simp only[ae,ai,ak]at this;omega);have hst:dS L.n 68 nn ⟨R.wd (l++[(va:Int)]),U,d⟩=⟨R.wd l,⟨U.m,sf U.t va⟩,d⟩:=(by show ik.mk _ _ _=_;rw[Run.pop_wd,Run.top_wd];rfl);refine Z_3 ?_;refine ZcM (dY (kOf br bu D) X (R.wd (l++[(va:Int)]))) (fun w hi hin=>gX (kOf br bu D) X R l va w hin) ?_;refine gQ ?_;refine ZW ?_ ?_<;>intro hc30
  ·refine Z_6 ?_;refine ZcM (uF bu bb L U) (fun w hi hin=>EJ bu bb L U hT va hva w hin) ?_;refine Z_2 ?_;refine bP (kJ br bu bb L D X Y ⟨R.wd l,⟨U.m,sf U.t va⟩,d⟩) Zj ?_;refine fE (cs':=[row _ _ _,slv _ _ _ _ _ _,slv _ _ _ _ _ _,row _ _ _,exC _ _ _ _,row _ _ _,row _ _ _,row _ _ _,row _ _ _,row _ _ _,slv _ _ _ _ _ _,slv _ _ _ _ _ _,row _ _ _,slv _ _ _ _ _ _]) (.inr rfl) Zu rfl ?_;rw[hst];exact⟨X,Y,rfl,rfl⟩
  exact absurd hc30 (by simp)
 refine Z_6 ?_;refine ZW ?_ ?_<;>intro hc32
 ·obtain rfl:=jS hc32;refine Z_5 ?_;refine ZL ?_;refine Z_2 ?_;refine bP (kJ br bu bb L D X Y ⟨R.ws R.s.halt,U,d⟩) Zj ?_;refine fE (cs':=[row _ _ _,slv _ _ _ _ _ _,slv _ _ _ _ _ _,row _ _ _,exC _ _ _ _,row _ _ _,row _ _ _,row _ _ _,row _ _ _,row _ _ _,slv _ _ _ _ _ _,slv _ _ _ _ _ _,row _ _ _,slv _ _ _ _ _ _]) (.inr rfl) Zu rfl ?_;exact⟨X,Y,rfl,rfl⟩
 have hst:dS L.n op nn ⟨R,U,d⟩=⟨R,U,d⟩:=(by simp only[dS, *,aa]);refine Z_2 ?_;refine bP (kJ br bu bb L D X Y ⟨R,U,d⟩) Zj ?_;refine fE (cs':=[row _ _ _,slv _ _ _ _ _ _,slv _ _ _ _ _ _,row _ _ _,exC _ _ _ _,row _ _ _,row _ _ _,row _ _ _,row _ _ _,row _ _ _,slv _ _ _ _ _ _,slv _ _ _ _ _ _,row _ _ _,slv _ _ _ _ _ _]) (.inr rfl) Zu rfl ?_;rw[hst];exact⟨X,Y,rfl,rfl⟩
end Go.Proofs.YtakodpimdalajaaGreatDoor
namespace Go.Ink
open Go.RowKit
structure Res where
 s:St
 Jc:Bool
 device:Bool
 H8:List Int
abbrev St.next(s:St):St:=s.IQ (IntKind.u64.wrap (s.count+1))
abbrev St.wpc(s:St)(x:Int):St:=⟨x,s.d,s.r,s.flags,s.If,s.Il,s.ie,s.root,s.vec,s.epc,s.Ie,s.addr,s.Ip,s.eie,s.count,s.halted⟩
def eW(s:St)(op:Int):Run:=⟨s.next.wpc (IntKind.u32.wrap (s.pc+IntKind.u32.wrap (cz op))),s.count,Tr.none,false⟩
def kA(n:Nat)(s:St)(op nn:Int)(U:Mmu)(d:Dev):ik:=
 match dK op nn (eW s op)with
 |some R=>⟨R,U,d⟩
 |none=>bif(cL op nn (eW s op)).1 then⟨(cL op nn (eW s op)).2,U,d⟩else dS n op nn ⟨(cL op nn (eW s op)).2,U,d⟩
def uX(s:St)(m:ik):Res:=
 bif m.r.Io.Ie !=0 then⟨s.next.Io m.r.Io.Ie m.r.Io.addr,true,m.r.device,iw m.u.m.Ii 64⟩else⟨m.r.s,false,m.r.device,iw m.u.m.Ii 64⟩
def sq(n:Nat)(s:St)(op nn:Int)(U:Mmu)(d:Dev):Res×Mmu×Dev:=
 bif !s.right then(⟨s,false,false,[]⟩,U,d)else
 bif eO s op nn !=0 then(⟨s.next.Io (eO s op nn) 0,true,false,[]⟩,⟨U.m.calm,U.t⟩,d)else
 (uX s (kA n s op nn ⟨U.m.calm,U.t⟩ d),(kA n s op nn ⟨U.m.calm,U.t⟩ d).u,(kA n s op nn ⟨U.m.calm,U.t⟩ d).d)
theorem Gi(op f:Int)(h:(dc op f).2=false):(dc op f).1=false:=by
 revert h;unfold dc
 repeat (refine bM (fun q:Bool×Bool=>q.2=false→q.1=false) (fun h=>by cases h) ?_)
 exact fun _=>rfl
theorem nL(op n:Int)(R:Run)(h:(cL op n R).1=false):(cL op n R).2=R:=by
 revert h;unfold cL
 repeat (refine bM (fun q:Bool×Run=>q.1=false→q.2=R) (fun h=>by cases h) ?_)
 intro h;show(bif(dc op R.s.flags).1 then _ else R)=R;rw[Gi op R.s.flags h]
 rfl
theorem xK{s:St}{q:(Nat×Nat)×(Nat×Nat)}(h:jl s q=0):q.1.1≤s.d.length∧q.2.1≤s.r.length:=by
 unfold jl at h;cases hc:(decide ((s.d.length:Int)<(q.1.1:Int))||decide ((s.r.length:Int)<(q.2.1:Int)))with
 |true=>rw[hc]at h;cases h
 |false=>
  simp only[bj,aj]at hc;omega
theorem lZ{s:St}{op n:Int}(h:eO s op n=0):(bQ op).1.1≤s.d.length∧(bQ op).2.1≤s.r.length:=by
 unfold eO at h;revert h;refine bM (fun x:Int=>x=0→(bQ op).1.1≤s.d.length∧(bQ op).2.1≤s.r.length) (fun h=>by cases h) ?_;refine bM (fun x:Int=>x=0→(bQ op).1.1≤s.d.length∧(bQ op).2.1≤s.r.length) (fun h=>by cases h) ?_;refine bM (fun x:Int=>x=0→(bQ op).1.1≤s.d.length∧(bQ op).2.1≤s.r.length) (fun h=>by cases h) ?_;refine bM (fun x:Int=>x=0→(bQ op).1.1≤s.d.length∧(bQ op).2.1≤s.r.length) (fun h=>by cases h) ?_;exact xK
end Go.Ink
namespace Go.Proofs.YtakodpimdalajaaGreatDoor
open Go.RowKit Go.Ink Go.Proofs.Tryz
attribute [local irreducible] OpY bU
abbrev kP(r:Res)(X:hI)(Ap:Option Addr)(cp:Nat):List Value:=[.int .u32 r.s.pc,.slice X.Ad r.s.d.length X.cd,.slice X.Ar r.s.r.length X.cr,.int .u32 r.s.flags,.bool r.s.If,.bool r.s.Il,.bool r.s.ie,.int .u32 r.s.root,.int .u32 r.s.vec,.int .u32 r.s.epc,.int .u32 r.s.Ie,.int .u32 r.s.addr,.bool r.s.Ip,.bool r.s.eie,.int .u64 r.s.count,.bool r.s.halted,.bool r.Jc,.bool r.device,.slice Ap r.H8.length cp]
abbrev resF(r:Res)(X:hI)(Ap:Option Addr)(cp:Nat):List bJ:=[slD r.s X.Ad X.cd,slR r.s X.Ar X.cr,sl .i64 3 Ap r.H8.length cp r.H8]
end Go.Proofs.YtakodpimdalajaaGreatDoor
namespace Go.Ink
theorem St.fits{s:St}(h:s.right=true):s.d.length≤16∧s.r.length≤16∧s.flags≤15:=by
 simp only[St.right,az,ap]at h;omega
end Go.Ink
namespace Go.Proofs.YtakodpimdalajaaGreatDoor
open Go.RowKit Go.Ink Go.Proofs.Tryz
attribute [local irreducible] OpY bU
abbrev ubF(bu bb:Nat)(L:gR)(D:rZ)(Y:jV)(U:Mmu)(d:Dev):List bJ:=uF bu bb L U++m7 D L.bm Y d
theorem do_ok(bu bb:Nat)(L:gR)(D:rZ)(Y:jV)(s:St)(Ad Ar:Option Addr)(cd cr:Nat)(op nn:Int)(U:Mmu)(d:Dev)(hwf:s.wf)(hnn:u32 nn)(hT:U.t.length=16)(hd:d.wf)(ho:d.out.length≤1000000000)
  (w:World) (hi:Inv w (bK (ubF bu bb L D Y U d)) (ubF bu bb L D Y U d) w) (h:∀w',dR (bK (ubF bu bb L D Y U d)) w w'→px w' s Ad Ar cd cr):
  Ctr prog 99 [sv s Ad cd Ar cr,.agg #[.int .i64 op,.int .u32 nn],.pointer (some ⟨bu,0,none⟩),.pointer (some ⟨D.bs,0,none⟩)] w (ubF bu bb L D Y U d)
   (fun v cs=>∃X Y' Ap cp,v= .agg (kP (sq L.n s op nn U d).1 X Ap cp).toArray∧cs=resF (sq L.n s op nn U d).1 X Ap cp++ubF bu bb L D Y' (sq L.n s op nn U d).2.1 (sq L.n s op nn U d).2.2):=by
 have HR:=nJ s Ad Ar cd cr;have HK:=GM s Ad Ar cd cr op nn hnn;have hbd:=(h w (dR.refl _ _)).hd;have hbr:=(h w (dR.refl _ _)).hr;unfold sq;obtain⟨rt,hrt⟩:=Zgn (s.right);obtain⟨ck,hck⟩:=Zgn (eO s op nn);rw[hrt]at HR⊢;rw[hck]at HK⊢;obtain⟨UM,UT⟩:=U;have HM:=uq L UM;have HZ:=tZ op;obtain⟨R0,hR0⟩:=Zgn (eW s op);have hmid:kA L.n s op nn ⟨UM.calm,UT⟩ d=(match dK op nn R0 with
  |some R=>⟨R,⟨UM.calm,UT⟩,d⟩
  |none=>bif(cL op nn R0).1 then⟨(cL op nn R0).2,⟨UM.calm,UT⟩,d⟩else dS L.n op nn ⟨(cL op nn R0).2,⟨UM.calm,UT⟩,d⟩):=by rw[←hR0];rfl
 unfold eW at hR0;obtain⟨sz,hsz⟩:=Zgn (cz op);rw[hsz]at HZ hR0;obtain⟨pc',hpc⟩:=Zgn (IntKind.u32.wrap (s.pc+IntKind.u32.wrap sz));rw[hpc]at hR0;refine bL func99 rfl ntmps99 rfl hi ?_;refine Z_2 ?_;refine ZO fun b4=>?_;refine ZO fun b5=>?_
 refine ZN fun b8=>?_
 refine Z_6 ?_;refine ZSe (fun w hi=>HR w) ?_;refine Z_3 ?_;refine ZW ?_ ?_<;>intro hc1
 ·refine Z_3 ?_;refine ZS (fun w hi=>jP s Ad Ar cd cr w (h w hi.Iz)) ?_;rintro _ _ ⟨_,⟨A1,c1,A2,c2,rfl,rfl⟩,rfl⟩;refine ZA ?_;refine dC 3 1 ?_;refine ZM ?_;refine Z_4 ?_;refine bP ([row b8 (kP ⟨s,false,false,[]⟩ ⟨A1,c1,A2,c2⟩ none 0) 195]++(resF ⟨s,false,false,[]⟩ ⟨A1,c1,A2,c2⟩ none 0++ubF bu bb L D Y ⟨UM,UT⟩ d)) Zj ?_;refine mS (cs':=[slv _ _ _ _ _ _,slv _ _ _ _ _ _,slv _ _ _ _ _ _,row _ _ _,exC _ _ _ _,row _ _ _,row _ _ _,row _ _ _,row _ _ _,row _ _ _,slv _ _ _ _ _ _,slv _ _ _ _ _ _,row _ _ _,slv _ _ _ _ _ _]) (.inl rfl) Zu rfl rfl Zh Zrf Zrf ?_;rw[rQ hc1];exact⟨⟨A1,c1,A2,c2⟩,Y,none,0,rfl,rfl⟩
 refine Z_9 ?_;refine ZW ?_ ?_<;>intro hc3
 ·refine Z_2 ?_;refine ZSe (fun w hi=>kL bu L.bm bb w (hi.get Zh)) ?_;refine ZcM ([eL L UM]) (fun w hi hin=>HM w hin) ?_;refine Z_5 ?_;refine ZS (fun w hi=>jP s Ad Ar cd cr w (h w hi.Iz)) ?_;rintro _ _ ⟨_,⟨A1,c1,A2,c2,rfl,rfl⟩,rfl⟩;refine ZN fun b9=>?_
  refine ZM ?_;refine Z_6 ?_;refine Zy (cy Zv0 Zv0 rfl) ?_;refine Z_1 ?_;refine ZL ?_;refine Z_7 ?_;refine ZSe (fun w hi=>HK w (h w hi.Iz)) ?_;refine Z_9 ?_;refine ZW ?_ ?_<;>intro hc8
  ·refine Z_4 ?_;refine ZS (fun w hi=>qz s.next A1 A2 c1 c2 ck 0 w (hi.rdSt (show Has _ (slD s A1 c1)from Zh) (show Has _ (slR s A2 c2)from Zh) hbd hbr)) ?_;rintro _ _ ⟨_,⟨A3,c3,A4,c4,rfl,rfl⟩,rfl⟩;refine ZA ?_;refine dC 3 1 ?_;refine ZM ?_;refine Z_4 ?_;refine bP ([row b8 (kP ⟨s.next.Io ck 0,true,false,[]⟩ ⟨A3,c3,A4,c4⟩ none 0) 195]++(resF ⟨s.next.Io ck 0,true,false,[]⟩ ⟨A3,c3,A4,c4⟩ none 0++ubF bu bb L D Y ⟨UM.calm,UT⟩ d)) Zj ?_;refine mS (cs':=[slv _ _ _ _ _ _,slv _ _ _ _ _ _,slv _ _ _ _ _ _,row _ _ _,exC _ _ _ _,row _ _ _,row _ _ _,row _ _ _,row _ _ _,row _ _ _,slv _ _ _ _ _ _,slv _ _ _ _ _ _,row _ _ _,slv _ _ _ _ _ _]) (.inl rfl) Zu rfl rfl Zh Zrf Zrf ?_;rw[kF hc1,rQ hc8];exact⟨⟨A3,c3,A4,c4⟩,Y,none,0,rfl,rfl⟩
  refine Z_3 ?_;refine bX ⟨fun j=>List.elem j [],[]⟩ Zk ?_;refine ZI 0 ?_;refine ZFe 2 14 ?_;refine ZG 3 ?_;refine ZE 4 ?_;refine ZE 5 ?_;refine cw 1 Zk ?_;refine ZT (fun w hi=>jP s.next A1 A2 c1 c2 w (hi.rdSt (show Has _ (slD s A1 c1)from Zh) (show Has _ (slR s A2 c2)from Zh) hbd hbr)) ?_;rintro _ _ ⟨_,⟨A5,c5,A6,c6,rfl,rfl⟩,rfl⟩;refine ZE 6 ?_;refine cw 7 Zk ?_;refine gn rfl rfl (qD rfl rfl) ZJ rfl ?_;rintro _ _ ⟨b46,rfl,rfl⟩;refine ZE 8 ?_;refine bN Zk ?_;refine Z_2 ?_;refine bX ⟨fun j=>List.elem j [13],[]⟩ Zk ?_;refine ZE 0 ?_;refine ZE 1 ?_;refine ZFe 2 0 ?_;refine ZFe 3 0 ?_;refine ZG 4 ?_;refine ZFe 5 0 ?_;refine ZG 6 ?_;refine cw 7 Zk ?_;refine ZT (fun w hi=>HZ w) ?_;rintro _ _ ⟨_,⟨rfl,rfl⟩,rfl⟩;refine cN 8 rfl Zk Zk Zk (ce rfl rfl Zv0 rfl) rfl ?_;refine cN 9 rfl Zk Zk Zk (cy Zv0 Zv0 hpc) rfl ?_;refine ZE 10 ?_;refine ZFe 11 0 ?_;refine ZFe 12 0 ?_;refine cw 13 Zk ?_;refine ZQ ?_;refine bN Zk ?_;refine Zt ?_;refine cS (fun q:hI×jV×ik=>[(2,.pointer (some ⟨bu,0,none⟩)),(8,.pointer (some ⟨b8,0,none⟩)),(9,.pointer (some ⟨b9,0,none⟩)),(11,.pointer (some ⟨b46,0,none⟩))]) (fun q=>kJ b46 bu bb L D q.1 q.2.1 q.2.2++[row b8 [.int .u32 0,.slice none 0 0,.slice none 0 0,.int .u32 0,.bool false,.bool false,.bool false,.int .u32 0,.int .u32 0,.int .u32 0,.int .u32 0,.int .u32 0,.bool false,.bool false,.int .u64 0,.bool false,.bool false,.bool false,.slice none 0 0] 195,row b9 (s.next.cells (.slice A1 s.next.d.length c1) (.slice A2 s.next.r.length c2)) 44,slD s.next A1 c1,slR s.next A2 c2]) (fun q=>kA L.n s op nn ⟨UM.calm,UT⟩ d=q.2.2) ?_ ?_
  ·refine Zs ?_;subst hR0;have hrt1:rt=true:=(by simpa using hc1);obtain⟨hd16,hr16, -⟩:=St.fits (hrt.trans hrt1);have hck0:ck=0:=(by simpa using hc8);obtain⟨n1,n2⟩:=lZ (hck.trans hck0);have HS:=E6 (kOf b46 bu D) ⟨A5,c5,A6,c6⟩ ⟨s.next.wpc pc',s.count,Tr.none,false⟩ op nn (show s.d.length≤100000 by omega) (show s.r.length≤100000 by omega) n1 n2;rcases hst:dK op nn ⟨s.next.wpc pc',s.count,Tr.none,false⟩with _|R1
   ·rw[hst]at HS;simp only[Option.isSome_none,Option.getD_none]at HS;have HQ:=fun X w hin=>Cf (kOf b46 bu D) X ⟨s.next.wpc pc',s.count,Tr.none,false⟩ op nn hwf.d (show s.d.length≤100000 by omega) (show s.r.length≤100000 by omega) n1 n2 w hin
    obtain⟨⟨bq,R2⟩,hq⟩:=Zgn (cL op nn ⟨s.next.wpc pc',s.count,Tr.none,false⟩);rw[hq]at HQ;refine Z_3 ?_;refine ZcL (dY (kOf b46 bu D) ⟨A5,c5,A6,c6⟩ ⟨s.next.wpc pc',s.count,Tr.none,false⟩) (fun w hi hin=>HS w hin) ?_;rintro _ _ ⟨_,⟨X1,rfl,rfl⟩,rfl⟩;refine Z_3 ?_;refine iM (cu rfl rfl) Zh Zrf Zrf (Zv rfl) rfl ?_;refine jm (cu rfl rfl) rfl (dW (dY (kOf b46 bu D) X1 ⟨s.next.wpc pc',s.count,Tr.none,false⟩) rfl (fun _ _=>rfl) Zi (fun w hi hin=>HQ X1 w hin)) rfl ?_;rintro _ _ ⟨_,⟨X2,rfl,rfl⟩,rfl⟩;refine Z_4 ?_;refine ZW ?_ ?_<;>intro hc12
    ·obtain rfl:bq=false:=(by simpa using hc12);have he:=nL op nn ⟨s.next.wpc pc',s.count,Tr.none,false⟩ (by rw[hq]);rw[hq]at he;have he:R2=_:=he;subst he;have HO:=fun X w hin=>Cb b46 bu bb L D X Y ⟨s.next.wpc pc',s.count,Tr.none,false⟩ ⟨UM.calm,UT⟩ d op nn hnn hwf.d (show s.d.length≤100000 by omega) (show s.r.length≤100000 by omega) n1 hT hwf.root hd ho w hin
     obtain⟨m',hm'⟩:∃m',dS L.n op nn ⟨⟨s.next.wpc pc',s.count,Tr.none,false⟩,⟨UM.calm,UT⟩,d⟩=m':=⟨_,rfl⟩;rw[hm']at HO;refine Z_3 ?_;refine ZcL (kJ b46 bu bb L D X2 Y ⟨⟨s.next.wpc pc',s.count,Tr.none,false⟩,⟨UM.calm,UT⟩,d⟩) (fun w hi hin=>HO X2 w hin) ?_;rintro _ _ ⟨_,⟨X3,Y3,rfl,rfl⟩,rfl⟩;refine Zn ?_;refine cq ((⟨X3,Y3,m'⟩:hI×jV×ik)) ?_ ?_ ?_
     ·exact(by rw[hmid];simp only[hst,hq,aa];exact hm')
     ·exact Zwk
     exact Zj
    obtain rfl:bq=true:=(by simpa using hc12);refine Zc ?_;refine cq ((⟨X2,Y,⟨R2,⟨UM.calm,UT⟩,d⟩⟩:hI×jV×ik)) ?_ ?_ ?_
    ·exact(by rw[hmid];simp only[hst,hq,ac])
    ·exact Zwk
    exact Zj
   rw[hst]at HS;simp only[Option.isSome_some,Option.getD_some]at HS;refine Z_3 ?_;refine ZcL (dY (kOf b46 bu D) ⟨A5,c5,A6,c6⟩ ⟨s.next.wpc pc',s.count,Tr.none,false⟩) (fun w hi hin=>HS w hin) ?_;rintro _ _ ⟨_,⟨X1,rfl,rfl⟩,rfl⟩;refine Z_2 ?_;refine dk (cu rfl rfl) rfl rfl ?_;refine dk (cu rfl rfl) rfl rfl ?_;refine dk (cu rfl rfl) rfl rfl ?_;refine dk (cu rfl rfl) rfl rfl ?_;refine Zy (Bp (q:=false) (Zv rfl) ⟨_,rfl,fun _ e=>by simp at e⟩) ?_;refine Z_2 ?_;refine bV rfl (rfl) ?_;refine Zc ?_;refine cq ((⟨X1,Y,⟨R1,⟨UM.calm,UT⟩,d⟩⟩:hI×jV×ik)) ?_ ?_ ?_
   ·exact(by rw[hmid];simp only[hst])
   ·exact Zwk
   exact Zj
  rintro⟨X,Y',m⟩ hm;dsimp only at hm⊢;refine Zs (bX ⟨fun j=>List.elem j [10],[]⟩ Zk ?_);refine ZE 0 ?_;refine ZE 1 ?_;refine ZFe 2 0 ?_;refine eX 3 rfl Zk Zk Zk Zk (cB (vs:=m.r.s.cells (.slice X.Ad m.r.s.d.length X.cd) (.slice X.Ar m.r.s.r.length X.cr)) Zrf Zrf Zv0) (cX Zh rfl) rfl ?_;refine ZE 4 ?_;refine ZE 5 ?_;refine ZFe 6 21 ?_;refine ZG 7 ?_;refine ZE 8 ?_;refine cw 9 Zk ?_;refine ZP fun b12=>?_
  refine cw 10 Zk ?_;refine ZR ?_;refine bN Zk ?_;refine gQ ?_;refine ZW ?_ ?_<;>intro hc15
  ·have he:uX s m=⟨s.next.Io m.r.Io.Ie m.r.Io.addr,true,m.r.device,iw m.u.m.Ii 64⟩:=rQ hc15;refine bX ⟨fun j=>List.elem j [13,15],[]⟩ Zk ?_;refine ZI 0 ?_;refine ZE 1 ?_;refine ZE 2 ?_;refine ZFe 3 19 ?_;refine ZFe 4 0 ?_;refine ZG 5 ?_;refine ZE 6 ?_;refine ZE 7 ?_;refine ZFe 8 19 ?_;refine ZFe 9 1 ?_;refine ZG 10 ?_;refine cw 11 Zk ?_;refine ZT (fun w hi=>qz s.next A1 A2 c1 c2 m.r.Io.Ie m.r.Io.addr w (hi.rdSt (show Has _ (slD s.next A1 c1)from Zh) (show Has _ (slR s.next A2 c2)from Zh) hbd hbr)) ?_;rintro _ _ ⟨_,⟨A7,c7,A8,c8,rfl,rfl⟩,rfl⟩;refine ZFe 12 0 ?_;refine cw 13 Zk ?_;refine dz rfl rfl (fv (ys:=kP ⟨s.next.Io m.r.Io.Ie m.r.Io.addr,false,m.r.device,[]⟩ ⟨A7,c7,A8,c8⟩ none 0) (n:=16) (vs:=(s.next.Io m.r.Io.Ie m.r.Io.addr).cells (.slice A7 (s.next.Io m.r.Io.Ie m.r.Io.addr).d.length c7) (.slice A8 (s.next.Io m.r.Io.Ie m.r.Io.addr).r.length c8)) rfl Zrf rfl rfl (iE rfl) Za rfl (by simp only[ai,ak];omega)) ZJ ?_;rintro _ _ ⟨rfl,rfl⟩;refine ZFe 14 16 ?_;refine cw 15 Zk ?_;refine ZQ ?_;refine bN Zk ?_;refine Z_8 ?_;refine ZW ?_ ?_<;>intro hc17
   ·refine Z_2 ?_;refine ZSe (fun w hi=>kL bu L.bm bb w (hi.get Zh)) ?_;refine ZS (fun w hi=>sQ L m.u.m w (hi.get Zh)) ?_;rintro _ _ ⟨_,⟨Ap,cp,rfl,rfl⟩,rfl⟩;refine Z_1 ?_;refine ZL ?_;refine Z_5 ?_;refine ZM ?_;refine Z_3 ?_;refine bP ([row b8 (kP ⟨s.next.Io m.r.Io.Ie m.r.Io.addr,true,m.r.device,iw m.u.m.Ii 64⟩ ⟨A7,c7,A8,c8⟩ Ap cp) 195]++(resF ⟨s.next.Io m.r.Io.Ie m.r.Io.addr,true,m.r.device,iw m.u.m.Ii 64⟩ ⟨A7,c7,A8,c8⟩ Ap cp++ubF bu bb L D Y' m.u m.d)) Zj ?_;refine mS (cs':=[slv _ _ _ _ _ _,slv _ _ _ _ _ _,slv _ _ _ _ _ _,row _ _ _,exC _ _ _ _,row _ _ _,row _ _ _,row _ _ _,row _ _ _,row _ _ _,slv _ _ _ _ _ _,slv _ _ _ _ _ _,row _ _ _,slv _ _ _ _ _ _]) (.inl rfl) Zu rfl rfl Zh Zrf Zrf ?_;rw[kF hc1,kF hc8,hm,he];exact⟨⟨A7,c7,A8,c8⟩,Y',Ap,cp,rfl,rfl⟩
   exact absurd hc17 (by simp)
  have he:uX s m=⟨m.r.s,false,m.r.device,iw m.u.m.Ii 64⟩:=kF hc15;refine Z_9 ?_;refine ZW ?_ ?_<;>intro hc17
  ·refine Z_2 ?_;refine ZSe (fun w hi=>kL bu L.bm bb w (hi.get Zh)) ?_;refine ZS (fun w hi=>sQ L m.u.m w (hi.get Zh)) ?_;rintro _ _ ⟨_,⟨Ap,cp,rfl,rfl⟩,rfl⟩;refine Z_1 ?_;refine ZL ?_;refine Z_5 ?_;refine ZM ?_;refine Z_3 ?_;refine bP ([row b8 (kP ⟨m.r.s,false,m.r.device,iw m.u.m.Ii 64⟩ X Ap cp) 195]++(resF ⟨m.r.s,false,m.r.device,iw m.u.m.Ii 64⟩ X Ap cp++ubF bu bb L D Y' m.u m.d)) Zj ?_;refine mS (cs':=[slv _ _ _ _ _ _,slv _ _ _ _ _ _,slv _ _ _ _ _ _,row _ _ _,exC _ _ _ _,row _ _ _,row _ _ _,row _ _ _,row _ _ _,row _ _ _,slv _ _ _ _ _ _,slv _ _ _ _ _ _,row _ _ _,slv _ _ _ _ _ _]) (.inl rfl) Zu rfl rfl Zh Zrf Zrf ?_;rw[kF hc1,kF hc8,hm,he];exact⟨X,Y',Ap,cp,rfl,rfl⟩
  exact absurd hc17 (by simp)
 exact absurd hc3 (by simp)
end Go.Proofs.YtakodpimdalajaaGreatDoor
namespace Go.Ink
open Go.RowKit
def G8(R:Run)(va:Nat):Run:=bif((va%4:Nat):Int) !=0 then R.wt ⟨6,va⟩else R.wt ⟨10,va⟩
def otherN(op nn:Int)(R:Run):Run:=
 bif op==48 then G8 R.pop R.top.toNat else
 bif op==49 then G8 R.pop.pop R.top.toNat else
 bif op==50 then R.pop.wt ⟨10,R.top⟩else
 bif op==51 then R.pop.wt ⟨10,R.top⟩else
 bif op==52 then R.pop.wt ⟨10,R.top⟩else
 bif op==53 then R.pop.wt ⟨10,R.top⟩else
 bif op==64 then R.wt ⟨11,0⟩else
 bif op==65 then R.ws R.s.back else
 bif op==66 then R.push [((R.s.IQ R.count).get nn).1]else
 bif op==67 then R.pop.ws (R.pop.s.set nn R.top).1 else
 bif op==68 then R.pop else
 bif op==69 then R.ws R.s.halt else R
def vY(s:St)(op nn:Int):Run:=
 match dK op nn (eW s op)with
 |some R=>R
 |none=>bif(cL op nn (eW s op)).1 then(cL op nn (eW s op)).2 else otherN op nn (cL op nn (eW s op)).2
def HJ(s:St)(R:Run):Res:=
 bif R.Io.Ie !=0 then⟨s.next.Io R.Io.Ie R.Io.addr,true,R.device,[]⟩else⟨R.s,false,R.device,[]⟩
def doN(s:St)(op nn:Int):Res:=
 bif !s.right then⟨s,false,false,[]⟩else
 bif eO s op nn !=0 then⟨s.next.Io (eO s op nn) 0,true,false,[]⟩else
 HJ s (vY s op nn)
end Go.Ink
namespace Go.Proofs.YtakodpimdalajaaGreatDoor
open Go.RowKit Go.Ink Go.Proofs.Tryz
attribute [local irreducible] OpY bU
end Go.Proofs.YtakodpimdalajaaGreatDoor
namespace Go.Ink
open Go.RowKit
def Dev.init(It:List Int):Dev:=⟨0,0,0,[],[],mK It,0,0,0⟩
end Go.Ink
namespace Go.Proofs.YtakodpimdalajaaGreatDoor
open Go.RowKit Go.Ink Go.Proofs.Tryz
attribute [local irreducible] OpY bU
theorem px.Ir{w0 w w':World}{cs cin rest:List bJ}{s:St}{Ad Ar:Option Addr}{cd cr:Nat}(h:px w0 s Ad Ar cd cr)(hi:Inv w0 [] cs w)(hp:jU cin cs rest)(hk:dR (bK cin) w w'):px w' s Ad Ar cd cr:=
 ⟨RdV.Ir h.d hi hp hk,RdV.Ir h.r hi hp hk,h.hd,h.hr⟩
theorem _root_.Go.Ink.Inv.IS{w0 w w':World}{S:List Nat}{cs cin rest:List bJ}{s:St}{Ad Ar:Option Addr}{cd cr:Nat}(hi:Inv w0 S cs w)(hp:jU cin cs rest)(h1:Has rest (slD s Ad cd))(h2:Has rest (slR s Ar cr))(hd:s.d.length*4≤140737488355328)(hr:s.r.length*4≤140737488355328)(hk:dR (bK cin) w w'):px w' s Ad Ar cd cr:=
 ⟨hi.I2 hp h1 hk,hi.I2 hp h2 hk,hd,hr⟩
theorem Ee(bm:Nat)(A:Option Addr)(c:Nat)(l:List Int)(hl:l.length≤1024)(w:World)(h:Rd w .u8 A l.length c l):Ctr prog 39 [.pointer (some ⟨bm,0,none⟩),.slice A l.length c] w []
  (fun v cs=>∃D,v= .tuple #[.pointer (some ⟨D.bs,0,none⟩),.int .i64 0]∧cs=m7 D bm ⟨none,0,none,0⟩ (Dev.init l)):=by
 obtain⟨dd,hdd⟩:=Zgn (mK l);unfold Dev.init;rw[hdd];have HD:=fun w (hi:Rd w .u8 A l.length c l)=>DZ A c l hl w hi
 rw[hdd]at HD;refine bL func39 rfl ntmps39 rfl (Inv.start w) ?_;refine jT ?_;refine bV rfl (rfl) ?_;refine Z_5 ?_;refine ZS (fun w hi=>HD w (h.Iy hi)) ?_;rintro _ _ ⟨_,⟨bdr,bdk,rfl,rfl⟩,rfl⟩;refine iG ?_;refine bV rfl (rfl) ?_;refine Z_4 ?_;refine ZS (fun w hi=>C8 w) ?_;rintro _ _ ⟨_,⟨bi,rfl,rfl⟩,rfl⟩;refine ZS (fun w hi=>BP w) ?_;rintro _ _ ⟨_,⟨bti,rfl,rfl⟩,rfl⟩;refine ZS (fun w hi=>D8 w) ?_;rintro _ _ ⟨_,⟨bcn,rfl,rfl⟩,rfl⟩;refine Z_3 ?_;refine ZO fun b24=>?_
 refine ZA ?_;refine dC 5 1 ?_;refine dC 5 1 ?_;refine Z_4 ?_;refine bP (m7 ⟨b24,bi,bti,bcn,bdr,bdk⟩ bm ⟨none,0,none,0⟩ ⟨0,0,0,[],[],dd,0,0,0⟩) Zj ?_;refine ft (cs':=[row _ _ _,row _ _ _,row _ _ _,row _ _ _,slv _ _ _ _ _ _,slv _ _ _ _ _ _,row _ _ _,slv _ _ _ _ _ _]) (.inl rfl) Zu rfl rfl rfl ?_;exact⟨⟨b24,bi,bti,bcn,bdr,bdk⟩,rfl,rfl⟩
theorem CF(A:Option Addr)(c n:Nat)(l:List Int)(hn0:1≤n)(hn:n≤64)(hl:l.length≤n*64)(hb:u8s l)(w:World)(h:Rd w .u8 A l.length c l):Ctr prog 37 [.slice A l.length c,.int .i64 n] w []
  (fun v cs=>∃L,L.n=n∧v= .pointer (some ⟨L.bm,0,none⟩)∧cs=[eL L (Mem.init n l)]):=by
 have HN:=fun bp w (hi:Inv w (bK [eZ bp (List.replicate 16384 0) (List.replicate 256 (-1)) (List.replicate 4 (-1))]) [eZ bp (List.replicate 16384 0) (List.replicate 256 (-1)) (List.replicate 4 (-1))] w)=>nnew_ok bp (List.replicate 16384 0) (List.replicate 256 (-1)) (List.replicate 4 (-1)) ⟨aM,aM,rfl⟩ 0 n (by decide) hn0 hn rfl (by rw[show oH (List.replicate 4 (-1)) 4=0 from rfl];omega) (by intro x hx;rw[List.eq_of_mem_replicate hx];decide) w hi
 have HE:=Mem.init_eq hl;refine bL func37 rfl ntmps37 rfl (Inv.start w) ?_;refine Z_7 ?_;refine ZS (fun w hi=>fnew_ok w) ?_;rintro _ _ ⟨_,⟨bp,rfl,rfl⟩,rfl⟩;refine eJ ?_;refine bV rfl (rfl) ?_;refine Z_6 ?_;refine ZcL ([eZ bp (List.replicate 16384 0) (List.replicate 256 (-1)) (List.replicate 4 (-1))]) (fun w hi hin=>HN bp w hin) ?_;rintro _ _ ⟨_,⟨bt,bf,bg,rfl,rfl⟩,rfl⟩;refine w8 ?_;refine bV rfl (rfl) ?_;refine Z_6 ?_;refine ZS (fun w hi=>rnew_ok bp bt w) ?_;rintro _ _ ⟨_,⟨bm,rfl,rfl⟩,rfl⟩;refine eJ ?_;refine EC (bs:=[bp,bt,bf,bg,bm]) (F:=Bg ⟨bp,bt,bf,bg,bm,0,n⟩ (List.replicate 64 false)) (hb:=fun _=>rfl) (p:=fC ⟨bp,bt,bf,bg,bm,0,n⟩ (Mem.new n)) ⟨List.replicate 16384 0,List.replicate 256 (-1),(List.replicate 4 (-1)).set 0 n,List.replicate n (-1),List.replicate n false⟩ (fC.new (L:=⟨bp,bt,bf,bg,bm,0,n⟩) (show(0:Nat)<4 by decide) hn0 hn) Zi ?_;refine Z_9 ?_;refine jm (cD rfl rfl) rfl (dW ([eL ⟨bp,bt,bf,bg,bm,0,n⟩ (Mem.new n)]) rfl (fun _ _=>rfl) Zi (fun w hi hin=>Fe ⟨bp,bt,bf,bg,bm,0,n⟩ (Mem.new n) A c l hl hb w hin (fun w' hk=>RdV.Ir h hi Zi hk))) rfl ?_;rintro _ _ ⟨_,⟨rfl,rfl⟩,rfl⟩;refine Z_4 ?_;refine bV rfl (rfl) ?_;refine Z_5 ?_;refine ZcM ([eL ⟨bp,bt,bf,bg,bm,0,n⟩ ((Mem.new n).fill 0 l l.length)]) (fun w hi hin=>uq ⟨bp,bt,bf,bg,bm,0,n⟩ ((Mem.new n).fill 0 l l.length) w hin) ?_;rw[HE];refine Z_9 ?_;refine Zrb ([exC _ _ _ _]) ?_;exact⟨⟨bp,bt,bf,bg,bm,0,n⟩,rfl,rfl,rfl⟩
structure _root_.Go.Ink.RMLoc where
 bm:Nat
 bB:Nat
 bT:Nat
abbrev un(K:RMLoc)(n:Nat)(data:List Int)(tu:List Bool):List bJ:=[row K.bm [.slice (some ⟨K.bB,0,none⟩) (n*64) (n*64),.slice (some ⟨K.bT,0,none⟩) n n] 147,sl .u8 5 (some ⟨K.bB,0,none⟩) (n*64) (n*64) data,slv 4 1 (some ⟨K.bT,0,none⟩) n n (lf tu)]
abbrev qP(bx bm:Nat)(T:List TE):bJ:=row bx (.pointer (some ⟨bm,0,none⟩)::fc T) 153
abbrev z9(b bm bd:Nat)(Y:jV)(d:Dev):List bJ:=[row b [.pointer (some ⟨bm,0,none⟩),.int .u32 d.Iu,.int .u32 d.mask,.int .u32 d.timer,.slice Y.Ao d.out.length Y.co,.slice Y.Ai d.inp.length Y.ci,.slice (some ⟨bd,0,none⟩) 1024 1024,.int .u32 (d.H9:Int),.int .u32 (d.place:Int),.int .u32 d.status] 155,b8 Y.Ao Y.co d.out,rdC Y.Ai d.inp.length Y.ci (ints .u8 d.inp),DX bd d.It]
theorem Aa(n:Nat)(hn:n≤64)(w:World):Ctr prog 119 [.int .i64 n] w [] (fun v cs=>∃K,v= .pointer (some ⟨K.bm,0,none⟩)∧cs=un K n (List.replicate (n*64) 0) (List.replicate n false)):=by
 refine bL func119 rfl ntmps119 rfl (Inv.start w) ?_;refine Z_6 ?_;refine bX ⟨fun j=>List.elem j [],[]⟩ Zk ?_;refine ZE 0 ?_;refine cN 1 rfl Zk Zk Zk (iH (Zv rfl) (Zv rfl) (show _=((n*64:Nat):Int)from IntWalk.i64_in _ ⟨by omega,by omega⟩|>.trans (by omega))) rfl ?_;refine ZE 3 ?_;refine jY 2 4 Zk ?_ ?_
 ·refine gn rfl rfl (iJ (bytes:=1) (n:=n*64) rfl rfl rfl rfl rfl rfl rfl (by omega) (by simp only[maxLen];omega)) ZJ rfl ?_;rintro _ _ ⟨bB,rfl,rfl⟩;refine cw 4 Zk ?_;refine gn rfl rfl (iJ (bytes:=1) (n:=n) rfl rfl rfl rfl rfl rfl rfl (by omega) (by simp only[maxLen];omega)) ZJ rfl ?_;rintro _ _ ⟨bT,rfl,rfl⟩;refine ZE 5 ?_;refine cw 6 Zk ?_;refine gn rfl rfl (qD rfl rfl) ZJ rfl ?_;rintro _ _ ⟨b9,rfl,rfl⟩;refine ZE 7 ?_;refine bN Zk ?_;refine Z_2 ?_;rw[jC,nK];refine bP (un ⟨b9,bB,bT⟩ n (List.replicate (n*64) 0) (List.replicate n false)) Zj ?_;refine Zrb ([row _ _ _,slv _ _ _ _ _ _,slv _ _ _ _ _ _]) ?_;exact⟨⟨b9,bB,bT⟩,rfl,rfl⟩
 refine gn rfl rfl (iJ (bytes:=1) (n:=n) rfl rfl rfl rfl rfl rfl rfl (by omega) (by simp only[maxLen];omega)) ZJ rfl ?_;rintro _ _ ⟨bT,rfl,rfl⟩;refine cw 2 Zk ?_;refine gn rfl rfl (iJ (bytes:=1) (n:=n*64) rfl rfl rfl rfl rfl rfl rfl (by omega) (by simp only[maxLen];omega)) ZJ rfl ?_;rintro _ _ ⟨bB,rfl,rfl⟩;refine ZE 5 ?_;refine cw 6 Zk ?_;refine gn rfl rfl (qD rfl rfl) ZJ rfl ?_;rintro _ _ ⟨b9,rfl,rfl⟩;refine ZE 7 ?_;refine bN Zk ?_;refine Z_2 ?_;rw[jC,nK];refine bP (un ⟨b9,bB,bT⟩ n (List.replicate (n*64) 0) (List.replicate n false)) Zj ?_;refine Zrb ([row _ _ _,slv _ _ _ _ _ _,slv _ _ _ _ _ _]) ?_;exact⟨⟨b9,bB,bT⟩,rfl,rfl⟩
theorem xA(bm:Nat)(w:World):Ctr prog 86 [.pointer (some ⟨bm,0,none⟩)] w [] (fun v cs=>∃bx,v= .pointer (some ⟨bx,0,none⟩)∧cs=[qP bx bm dM]):=by
 refine bL func86 rfl ntmps86 rfl (Inv.start w) ?_;refine Z_9 ?_;refine ZO fun b5=>?_
 refine Z_4 ?_;refine Zrb ([row _ _ _]) ?_;exact⟨_,rfl,rfl⟩
theorem xz(bm:Nat)(A:Option Addr)(c:Nat)(l:List Int)(hl:l.length≤1024)(w:World)(h:Rd w .u8 A l.length c l):Ctr prog 88 [.pointer (some ⟨bm,0,none⟩),.slice A l.length c] w []
  (fun v cs=>∃b bd,v= .pointer (some ⟨b,0,none⟩)∧cs=z9 b bm bd ⟨none,0,none,0⟩ (Dev.init l)):=by
 refine bL func88 rfl ntmps88 rfl (Inv.start w) ?_;refine Z_7 ?_;refine dJ (iJ (bytes:=1) (n:=1024) rfl rfl rfl rfl rfl rfl rfl (by omega) (by simp only[maxLen];omega)) rfl ?_;rintro _ _ ⟨bd,rfl,rfl⟩;rw[jC];refine Z_7 ?_;refine dJ (ly rfl rfl Za rfl rfl (fun w hi=>h.Iy hi) cY (by omega)) rfl ?_;rintro _ _ ⟨rfl,rfl⟩;have hd:(ints .u8 (List.replicate 1024 0)).take 0++(ints .u8 l).take (min l.length 1024)++(ints .u8 (List.replicate 1024 0)).drop (0+min l.length 1024)=ints .u8 (mK l):=by(rw[Nat.min_eq_left hl,iB,iB,lR,List.take_zero,bG,bl,List.drop_replicate];simp[ints,mK])
 rw[hd];refine Z_7 ?_;refine ZO fun b13=>?_
 refine dC 5 1 ?_;refine wl_nilr ?_;refine Z_4 ?_;refine bP (z9 b13 bm bd ⟨none,0,none,0⟩ (Dev.init l)) Zj ?_;refine Zrb ([row _ _ _,slv _ _ _ _ _ _,rdC _ _ _ _,slv _ _ _ _ _ _]) ?_;exact⟨b13,bd,rfl,rfl⟩
end Go.Proofs.YtakodpimdalajaaGreatDoor
namespace Go.Ink
open Go.RowKit
def jh(n:Nat)(b:List Int):List Int:=b++List.replicate (n*64 - b.length) 0
end Go.Ink
namespace Go.Proofs.YtakodpimdalajaaGreatDoor
open Go.RowKit Go.Ink Go.Proofs.Tryz
attribute [local irreducible] OpY bU
end Go.Proofs.YtakodpimdalajaaGreatDoor
namespace Go.Ink
open Go.RowKit
theorem AV{l:List Int}(h:l.length≤1024):(mK l).length=1024:=by simp[mK];omega
theorem D1{l:List Int}(h:u8s l):u8s (mK l):=fun x hx=>by
 rcases aV.1 hx with hx|hx
 ·exact h x hx
 rw[List.eq_of_mem_replicate hx];decide
theorem init_wf{l:List Int}(h:l.length≤1024)(hb:u8s l):(Dev.init l).wf:=⟨fun x hx=>(by cases hx),AV h,D1 hb,ax _,ax _,ax _⟩
end Go.Ink
namespace Go.Proofs.YtakodpimdalajaaGreatDoor
open Go.RowKit Go.Ink Go.Proofs.Tryz
attribute [local irreducible] OpY bU
theorem Cg(w:World)(k:IntKind):Rd w k none 0 0 []:=⟨rfl,by simp,by simp,by simp,by simp⟩
end Go.Proofs.YtakodpimdalajaaGreatDoor
