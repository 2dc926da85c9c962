/- Lemmas. -/
import Derived.Test.YtomjgmbccamgiaaGreatDoorQaa
import Derived.Test.YtomjgmbccamgiaaGreatDoorQab
import Derived.Test.YtomjgmbccamgiaaGreatDoorQac
import Derived.Test.YtomjgmbccamgiaaGreatDoorQae
set_option linter.unusedSimpArgs false
set_option linter.unusedVariables false
set_option maxRecDepth 100000
set_option maxHeartbeats 4000000
namespace Go.Ink
open Go.RowKit
abbrev iu.of(p:Run×Mmu)(d:Dev):iu:=⟨p.1,p.2,d⟩
abbrev Run.ws(R:Run)(s:St):Run:=⟨s,R.count,R.Iv,R.device⟩
abbrev St.IZ(s:St)(c:Int):St:=⟨s.pc,s.d,s.r,s.flags,s.Il,s.It,s.ie,s.root,s.vec,s.epc,s.Im,s.addr,s.Ix,s.eie,c,s.halted⟩
abbrev St.halt(s:St):St:=⟨s.pc,s.d,s.r,s.flags,s.Il,s.It,s.ie,s.root,s.vec,s.epc,s.Im,s.addr,s.Ix,s.eie,s.count,true⟩
def dV(n:Nat)(op nn:Int)(m:iu):iu:=
 bif op==48 then lm n m.r.pop m.u m.d m.r.top.toNat else
 bif op==49 then lj n m.r.pop.pop m.u m.d m.r.top.toNat m.r.pop.top.toNat else
 bif op==50 then iu.of (lL n m.r.pop m.u m.r.top.toNat 4) m.d else
 bif op==51 then iu.of (lp n m.r.pop.pop m.u m.r.top.toNat 4 m.r.pop.top) m.d else
 bif op==52 then iu.of (lL n m.r.pop m.u m.r.top.toNat 1) m.d else
 bif op==53 then iu.of (lp n m.r.pop.pop m.u m.r.top.toNat 1 m.r.pop.top) m.d else
 bif op==64 then⟨m.r.wt ⟨11,0⟩,m.u,m.d⟩else
 bif op==65 then⟨m.r.ws m.r.s.back,m.u,m.d⟩else
 bif op==66 then⟨m.r.push [((m.r.s.IZ m.r.count).get nn).1],m.u,m.d⟩else
 bif op==67 then⟨m.r.pop.ws (m.r.pop.s.set nn m.r.top).1,bif nn==1||nn==2 then⟨m.u.m,eE⟩else m.u,m.d⟩else
 bif op==68 then⟨m.r.pop,⟨m.u.m,sJ m.u.t m.r.top.toNat⟩,m.d⟩else
 bif op==69 then⟨m.r.ws m.r.s.halt,m.u,m.d⟩else m
theorem St.set_dr(s:St)(reg v:Int):(s.set reg v).1.d=s.d∧(s.set reg v).1.r=s.r:=by
 unfold St.set
 repeat (refine bN (fun q:St×Bool=>q.1.d=s.d∧q.1.r=s.r) ⟨rfl,rfl⟩ ?_)
 exact⟨rfl,rfl⟩
end Go.Ink
namespace Go.Proofs.YtomjgmbccamgiaaGreatDoor
open Go.RowKit Go.Ink Go.Proofs.Tryz
attribute [local irreducible] OpY bW
theorem CB(br bu bb:Nat)(L:gQ)(D:p6)(X:iv)(Y:j0)(R:Run)(U:Mmu)(d:Dev)(op nn:Int)(hnn:u32 nn)(hw:∀x,x∈R.s.d→u32 x)(hdl:R.s.d.length≤100000)(hrl:R.s.r.length≤100000)(hn:(bV op).1.1≤R.s.d.length)(hT:U.t.length=16)(hroot:u32 R.s.root)(hd:d.wf)(ho:d.out.length≤1000000000)
  (w:World) (hi:Inv w (bK (kN br bu bb L D X Y ⟨R,U,d⟩)) (kN br bu bb L D X Y ⟨R,U,d⟩) w):
  Ctr prog 131 [.pointer (some ⟨br,0,none⟩),.agg #[.int .i64 op,.int .u32 nn]] w (kN br bu bb L D X Y ⟨R,U,d⟩) (fun v cs=>∃X' Y',v= .tuple #[]∧cs=kN br bu bb L D X' Y' (dV L.n op nn ⟨R,U,d⟩)):=by
 have hu1:=hnn.1;have hu2:=hnn.2;refine bL func131 rfl ntmps131 rfl hi ?_;refine Z_2 ?_;refine ZO fun b3=>?_;refine qp ?_;refine ZW ?_ ?_<;>intro hc2
 ·obtain rfl:=jV hc2;obtain⟨R,l,x,rfl⟩:=Run.snoc (show 1≤R.s.d.length from hn);obtain⟨hx1,hx2⟩:=hw x (by simp);obtain⟨va,rfl⟩:∃va:Nat,x=va:=ar hx1;have hva:va≤4294967295:=(by omega);have hll:l.length≤100000:=(by have:(l++[(va:Int)]).length≤100000:=hdl;simp only[ae,ai,ao]at this;omega);have HC:=lode_ok br bu bb L D X Y R U d l va hva hll hT hroot hd;have hst:dV L.n 48 nn ⟨R.wd (l++[(va:Int)]),U,d⟩=lm L.n (R.wd l) U d va:=(by show lm _ _ _ _ _=_;rw[Run.pop_wd,Run.top_wd];rfl);obtain⟨m',hm'⟩:∃m',lm L.n (R.wd l) U d va=m':=⟨_,rfl⟩;rw[hm']at HC;rw[hm']at hst;refine Z_2 ?_;refine ZcL (kN br bu bb L D X Y ⟨R.wd (l++[(va:Int)]),U,d⟩) (fun w hi hin=>HC w hin) ?_;rintro _ _ ⟨_,⟨X',Y',rfl,rfl⟩,rfl⟩;refine Z_2 ?_;refine bQ (kN br bu bb L D X' Y' m') Zj ?_;refine fL (cs':=[row _ _ _,slv _ _ _ _ _ _,slv _ _ _ _ _ _,row _ _ _,exC _ _ _ _,row _ _ _,row _ _ _,row _ _ _,row _ _ _,row _ _ _,slv _ _ _ _ _ _,slv _ _ _ _ _ _,row _ _ _,slv _ _ _ _ _ _]) (.inr rfl) Zu rfl ?_;rw[hst];exact⟨X',Y',rfl,rfl⟩
 refine Z_6 ?_;refine ZW ?_ ?_<;>intro hc4
 ·obtain rfl:=jV hc4;obtain⟨R,l,y,x,rfl⟩:=Run.I4 (show 2≤R.s.d.length from hn);obtain⟨hx1,hx2⟩:=hw x (by simp);obtain⟨hy1,hy2⟩:=hw y (by simp);obtain⟨va,rfl⟩:∃va:Nat,x=va:=ar hx1;obtain⟨v,rfl⟩:∃v:Nat,y=v:=ar hy1;have hva:va≤4294967295:=(by omega);have hv:v≤4294967295:=(by omega);have hll:l.length≤100000:=(by have:((l++[(v:Int)])++[(va:Int)]).length≤100000:=hdl;simp only[ae,ai,ao]at this;omega);have HC:=stow_ok br bu bb L D X Y R U d l va v hva hv hT hroot hd ho;have hst:dV L.n 49 nn ⟨R.wd ((l++[(v:Int)])++[(va:Int)]),U,d⟩=lj L.n (R.wd l) U d va v:=(by show lj _ _ _ _ _ _=_;rw[Run.pop_wd,Run.top_wd,Run.pop_wd,Run.top_wd];rfl);obtain⟨m',hm'⟩:∃m',lj L.n (R.wd l) U d va v=m':=⟨_,rfl⟩;rw[hm']at HC;rw[hm']at hst;refine Z_2 ?_;refine ZcL (kN br bu bb L D X Y ⟨R.wd ((l++[(v:Int)])++[(va:Int)]),U,d⟩) (fun w hi hin=>HC w hin) ?_;rintro _ _ ⟨_,⟨Y',rfl,rfl⟩,rfl⟩;refine Z_2 ?_;refine bQ (kN br bu bb L D X Y' m') Zj ?_;refine fL (cs':=[row _ _ _,slv _ _ _ _ _ _,slv _ _ _ _ _ _,row _ _ _,exC _ _ _ _,row _ _ _,row _ _ _,row _ _ _,row _ _ _,row _ _ _,slv _ _ _ _ _ _,slv _ _ _ _ _ _,row _ _ _,slv _ _ _ _ _ _]) (.inr rfl) Zu rfl ?_;rw[hst];exact⟨X,Y',rfl,rfl⟩
 refine Z_6 ?_;refine ZW ?_ ?_<;>intro hc6
 ·obtain rfl:=jV hc6;obtain⟨R,l,x,rfl⟩:=Run.snoc (show 1≤R.s.d.length from hn);obtain⟨hx1,hx2⟩:=hw x (by simp);obtain⟨va,rfl⟩:∃va:Nat,x=va:=ar hx1;have hva:va≤4294967295:=(by omega);have hll:l.length≤100000:=(by have:(l++[(va:Int)]).length≤100000:=hdl;simp only[ae,ai,ao]at this;omega);have HC:=yP br bu bb L D X R U l va 4 hva (by decide) (by decide) hll hT hroot;have hst:dV L.n 50 nn ⟨R.wd (l++[(va:Int)]),U,d⟩=iu.of (lL L.n (R.wd l) U va 4) d:=(by show iu.of (lL _ _ _ _ _) _=_;rw[Run.pop_wd,Run.top_wd];rfl);obtain⟨m',hm'⟩:∃m',lL L.n (R.wd l) U va 4=m':=⟨_,rfl⟩;rw[hm']at HC;rw[hm']at hst;refine Z_2 ?_;refine ZcL (JF (kOf br bu D) X (R.wd (l++[(va:Int)]))++uF bu bb L U) (fun w hi hin=>HC w hin) ?_;rintro _ _ ⟨_,⟨X',rfl,rfl⟩,rfl⟩;refine Z_2 ?_;refine bQ (kN br bu bb L D X' Y ⟨m'.1,m'.2,d⟩) Zj ?_;refine fL (cs':=[row _ _ _,slv _ _ _ _ _ _,slv _ _ _ _ _ _,row _ _ _,exC _ _ _ _,row _ _ _,row _ _ _,row _ _ _,row _ _ _,row _ _ _,slv _ _ _ _ _ _,slv _ _ _ _ _ _,row _ _ _,slv _ _ _ _ _ _]) (.inr rfl) Zu rfl ?_;rw[hst];exact⟨X',Y,rfl,rfl⟩
 refine Z_6 ?_;refine ZW ?_ ?_<;>intro hc8
 ·obtain rfl:=jV hc8;obtain⟨R,l,y,x,rfl⟩:=Run.I4 (show 2≤R.s.d.length from hn);obtain⟨hx1,hx2⟩:=hw x (by simp);obtain⟨hy1,hy2⟩:=hw y (by simp);obtain⟨va,rfl⟩:∃va:Nat,x=va:=ar hx1;obtain⟨v,rfl⟩:∃v:Nat,y=v:=ar hy1;have hva:va≤4294967295:=(by omega);have hv:v≤4294967295:=(by omega);have hll:l.length≤100000:=(by have:((l++[(v:Int)])++[(va:Int)]).length≤100000:=hdl;simp only[ae,ai,ao]at this;omega);have HC:=yO br bu bb L D X R U l va 4 v hva (by decide) (by decide) hll hT hroot;have hst:dV L.n 51 nn ⟨R.wd ((l++[(v:Int)])++[(va:Int)]),U,d⟩=iu.of (lp L.n (R.wd l) U va 4 v) d:=(by show iu.of (lp _ _ _ _ _ _) _=_;rw[Run.pop_wd,Run.top_wd,Run.pop_wd,Run.top_wd];rfl);obtain⟨m',hm'⟩:∃m',lp L.n (R.wd l) U va 4 v=m':=⟨_,rfl⟩;rw[hm']at HC;rw[hm']at hst;refine Z_2 ?_;refine dM (dR (JF (kOf br bu D) X (R.wd ((l++[(v:Int)])++[(va:Int)]))++uF bu bb L U) rfl (fun _ _=>rfl) Zi (fun w hi hin=>HC w hin)) rfl ?_;rintro _ _ ⟨_,⟨rfl,rfl⟩,rfl⟩;refine Z_2 ?_;refine bQ (kN br bu bb L D X Y ⟨m'.1,m'.2,d⟩) Zj ?_;refine fL (cs':=[row _ _ _,slv _ _ _ _ _ _,slv _ _ _ _ _ _,row _ _ _,exC _ _ _ _,row _ _ _,row _ _ _,row _ _ _,row _ _ _,row _ _ _,slv _ _ _ _ _ _,slv _ _ _ _ _ _,row _ _ _,slv _ _ _ _ _ _]) (.inr rfl) Zu rfl ?_;rw[hst];exact⟨X,Y,rfl,rfl⟩
 refine Z_6 ?_;refine ZW ?_ ?_<;>intro hc10
 ·obtain rfl:=jV hc10;obtain⟨R,l,x,rfl⟩:=Run.snoc (show 1≤R.s.d.length from hn);obtain⟨hx1,hx2⟩:=hw x (by simp);obtain⟨va,rfl⟩:∃va:Nat,x=va:=ar hx1;have hva:va≤4294967295:=(by omega);have hll:l.length≤100000:=(by have:(l++[(va:Int)]).length≤100000:=hdl;simp only[ae,ai,ao]at this;omega);have HC:=yP br bu bb L D X R U l va 1 hva (by decide) (by decide) hll hT hroot;have hst:dV L.n 52 nn ⟨R.wd (l++[(va:Int)]),U,d⟩=iu.of (lL L.n (R.wd l) U va 1) d:=(by show iu.of (lL _ _ _ _ _) _=_;rw[Run.pop_wd,Run.top_wd];rfl);obtain⟨m',hm'⟩:∃m',lL L.n (R.wd l) U va 1=m':=⟨_,rfl⟩;rw[hm']at HC;rw[hm']at hst;refine Z_2 ?_;refine ZcL (JF (kOf br bu D) X (R.wd (l++[(va:Int)]))++uF bu bb L U) (fun w hi hin=>HC w hin) ?_;rintro _ _ ⟨_,⟨X',rfl,rfl⟩,rfl⟩;refine Z_2 ?_;refine bQ (kN br bu bb L D X' Y ⟨m'.1,m'.2,d⟩) Zj ?_;refine fL (cs':=[row _ _ _,slv _ _ _ _ _ _,slv _ _ _ _ _ _,row _ _ _,exC _ _ _ _,row _ _ _,row _ _ _,row _ _ _,row _ _ _,row _ _ _,slv _ _ _ _ _ _,slv _ _ _ _ _ _,row _ _ _,slv _ _ _ _ _ _]) (.inr rfl) Zu rfl ?_;rw[hst];exact⟨X',Y,rfl,rfl⟩
 refine Z_6 ?_;refine ZW ?_ ?_<;>intro hc12
 ·obtain rfl:=jV hc12;obtain⟨R,l,y,x,rfl⟩:=Run.I4 (show 2≤R.s.d.length from hn);obtain⟨hx1,hx2⟩:=hw x (by simp);obtain⟨hy1,hy2⟩:=hw y (by simp);obtain⟨va,rfl⟩:∃va:Nat,x=va:=ar hx1;obtain⟨v,rfl⟩:∃v:Nat,y=v:=ar hy1;have hva:va≤4294967295:=(by omega);have hv:v≤4294967295:=(by omega);have hll:l.length≤100000:=(by have:((l++[(v:Int)])++[(va:Int)]).length≤100000:=hdl;simp only[ae,ai,ao]at this;omega);have HC:=yO br bu bb L D X R U l va 1 v hva (by decide) (by decide) hll hT hroot;have hst:dV L.n 53 nn ⟨R.wd ((l++[(v:Int)])++[(va:Int)]),U,d⟩=iu.of (lp L.n (R.wd l) U va 1 v) d:=(by show iu.of (lp _ _ _ _ _ _) _=_;rw[Run.pop_wd,Run.top_wd,Run.pop_wd,Run.top_wd];rfl);obtain⟨m',hm'⟩:∃m',lp L.n (R.wd l) U va 1 v=m':=⟨_,rfl⟩;rw[hm']at HC;rw[hm']at hst;refine Z_2 ?_;refine dM (dR (JF (kOf br bu D) X (R.wd ((l++[(v:Int)])++[(va:Int)]))++uF bu bb L U) rfl (fun _ _=>rfl) Zi (fun w hi hin=>HC w hin)) rfl ?_;rintro _ _ ⟨_,⟨rfl,rfl⟩,rfl⟩;refine Z_2 ?_;refine bQ (kN br bu bb L D X Y ⟨m'.1,m'.2,d⟩) Zj ?_;refine fL (cs':=[row _ _ _,slv _ _ _ _ _ _,slv _ _ _ _ _ _,row _ _ _,exC _ _ _ _,row _ _ _,row _ _ _,row _ _ _,row _ _ _,row _ _ _,slv _ _ _ _ _ _,slv _ _ _ _ _ _,row _ _ _,slv _ _ _ _ _ _]) (.inr rfl) Zu rfl ?_;rw[hst];exact⟨X,Y,rfl,rfl⟩
 refine Z_6 ?_;refine ZW ?_ ?_<;>intro hc14
 ·obtain rfl:=jV hc14;refine Z_2 ?_;refine ZcM (JF (kOf br bu D) X R) (fun w hi hin=>nj (kOf br bu D) X R 11 0 w hin) ?_;refine Z_2 ?_;refine bQ (kN br bu bb L D X Y ⟨R.wt ⟨11,0⟩,U,d⟩) Zj ?_;refine fL (cs':=[row _ _ _,slv _ _ _ _ _ _,slv _ _ _ _ _ _,row _ _ _,exC _ _ _ _,row _ _ _,row _ _ _,row _ _ _,row _ _ _,row _ _ _,slv _ _ _ _ _ _,slv _ _ _ _ _ _,row _ _ _,slv _ _ _ _ _ _]) (.inr rfl) Zu rfl ?_;exact⟨X,Y,rfl,rfl⟩
 refine Z_6 ?_;refine ZW ?_ ?_<;>intro hc16
 ·obtain rfl:=jV hc16;have hR:=CC R.s X.Ad X.Ar X.cd X.cr;refine Z_5 ?_;refine dU (cC (vs:=R.s.cells (.slice X.Ad R.s.d.length X.cd) (.slice X.Ar R.s.r.length X.cr)) Zrf Zrf Zv0) (cL Zh rfl) rfl ?_;refine ZS (fun w hi=>hR w (hi.Jh (show Has _ (slD R.s X.Ad X.cd)from Zh) (show Has _ (slR R.s X.Ar X.cr)from Zh) (by omega) (by omega))) ?_;rintro _ _ ⟨_,⟨A1,c1,A2,c2,rfl,rfl⟩,rfl⟩;refine Z_2 ?_;refine dz (dK (ys:=iC (kOf br bu D) ⟨A1,c1,A2,c2⟩ (R.ws R.s.back)) (n:=16) (vs:=R.s.back.cells (.slice A1 R.s.back.d.length c1) (.slice A2 R.s.back.r.length c2)) rfl Zrf rfl rfl (iK rfl) Za rfl (by simp only[ai,ao];omega)) ?_;rintro _ _ ⟨rfl,rfl⟩;refine Z_2 ?_;refine bQ (kN br bu bb L D ⟨A1,c1,A2,c2⟩ Y ⟨R.ws R.s.back,U,d⟩) Zj ?_;refine fL (cs':=[row _ _ _,slv _ _ _ _ _ _,slv _ _ _ _ _ _,row _ _ _,exC _ _ _ _,row _ _ _,row _ _ _,row _ _ _,row _ _ _,row _ _ _,slv _ _ _ _ _ _,slv _ _ _ _ _ _,row _ _ _,slv _ _ _ _ _ _]) (.inr rfl) Zu rfl ?_;exact⟨⟨A1,c1,A2,c2⟩,Y,rfl,rfl⟩
 refine Z_6 ?_;refine ZW ?_ ?_<;>intro hc18
 ·obtain rfl:=jV hc18;have HG:=HY (R.s.IZ R.count) (.slice X.Ad R.s.d.length X.cd) (.slice X.Ar R.s.r.length X.cr) nn;obtain⟨⟨g,gk⟩,hg⟩:=Zgn ((R.s.IZ R.count).get nn);rw[hg]at HG;have hst:dV L.n 66 nn ⟨R,U,d⟩=⟨R.push [g],U,d⟩:=(by show iu.mk (R.push [((R.s.IZ R.count).get nn).1]) U d=_;rw[hg]);refine Z_5 ?_;refine dU (cC (vs:=R.s.cells (.slice X.Ad R.s.d.length X.cd) (.slice X.Ar R.s.r.length X.cr)) Zrf Zrf Zv0) (cL Zh rfl) rfl ?_;refine ZN fun b4=>?_
  refine ZM ?_;refine Z_9 ?_;refine ZL ?_;refine Z_7 ?_;refine Zy (cu rfl rfl Zv0 Zl) ?_;refine ZSe (fun w hi=>HG w) ?_;refine eK ?_;refine dM (cm rfl rfl Zrf Zrf rfl rfl) rfl ?_;rintro _ _ ⟨b70,rfl,rfl⟩;refine ZcL (JF (kOf br bu D) X R) (fun w hi hin=>gW (kOf br bu D) X R _ 1 1 [g] (by omega) w hin (fun w' hk=>hi.Jb Zi Zh hk)) ?_;rintro _ _ ⟨_,⟨A',c',rfl,rfl⟩,rfl⟩;refine Z_2 ?_;refine bQ (kN br bu bb L D ⟨A',c',X.Ar,X.cr⟩ Y ⟨R.wd (R.s.d++[g]),U,d⟩) Zj ?_;refine fL (cs':=[row _ _ _,slv _ _ _ _ _ _,slv _ _ _ _ _ _,row _ _ _,exC _ _ _ _,row _ _ _,row _ _ _,row _ _ _,row _ _ _,row _ _ _,slv _ _ _ _ _ _,slv _ _ _ _ _ _,row _ _ _,slv _ _ _ _ _ _]) (.inr rfl) Zu rfl ?_;rw[hst];exact⟨⟨A',c',X.Ar,X.cr⟩,Y,rfl,rfl⟩
 refine Z_6 ?_;refine ZW ?_ ?_<;>intro hc23
 ·obtain rfl:=jV hc23;obtain⟨R,l,x,rfl⟩:=Run.snoc (show 1≤R.s.d.length from hn);obtain⟨hx1,hx2⟩:=hw x (by simp);obtain⟨va,rfl⟩:∃va:Nat,x=va:=ar hx1;have hva:va≤4294967295:=(by omega);have hll:l.length≤100000:=(by have:(l++[(va:Int)]).length≤100000:=hdl;simp only[ae,ai,ao]at this;omega);have HE:=Hr (R.wd l).s X.Ad X.Ar X.cd X.cr nn va;have hdr:=St.set_dr (R.wd l).s nn va;have hst:dV L.n 67 nn ⟨R.wd (l++[(va:Int)]),U,d⟩=⟨(R.wd l).ws ((R.wd l).s.set nn va).1,bif nn==1||nn==2 then⟨U.m,eE⟩else U,d⟩:=(by show iu.mk _ _ _=_;rw[Run.pop_wd,Run.top_wd]);obtain⟨⟨⟨pc',d',r',fl',su',pg',ie',rt',ve',ep',ca',ad',es',ei',co',ha'⟩,kn⟩,hq⟩:=Zgn ((R.wd l).s.set nn va);rw[hq]at HE hst hdr;obtain⟨hd',hr'⟩:=hdr;have hd':l=d':=hd'.symm;have hr':R.s.r=r':=hr'.symm;subst hd';subst hr';refine Z_3 ?_;refine ZcM (JF (kOf br bu D) X (R.wd (l++[(va:Int)]))) (fun w hi hin=>ia (kOf br bu D) X R l va w hin) ?_;refine Z_4 ?_;refine cj ⟨fun j=>List.elem j [15],[]⟩ Zk ?_;refine ZE 0 ?_;refine ZE 1 ?_;refine ZE 2 ?_;refine ZFe 3 0 ?_;refine eQ 4 rfl Zk Zk Zk Zk (cC (vs:=(R.wd l).s.cells (.slice X.Ad (R.wd l).s.d.length X.cd) (.slice X.Ar (R.wd l).s.r.length X.cr)) Zrf Zrf Zv0) (cL Zh rfl) rfl ?_;refine ZFe 5 1 ?_;refine ZG 6 ?_;refine cR 7 rfl Zk Zk Zk (cu rfl rfl Zv0 Zl) rfl ?_;refine ZE 8 ?_;refine cE 9 Zk ?_;refine ZT (fun w hi=>HE w (hi.Jh (show Has _ (slD (R.wd l).s X.Ad X.cd)from Zh) (show Has _ (slR (R.wd l).s X.Ar X.cr)from Zh) (by show l.length*4≤_;omega) (by show R.s.r.length*4≤_;have:R.s.r.length≤100000:=hrl;omega))) ?_;rintro _ _ ⟨_,⟨A1,c1,A2,c2,rfl,rfl⟩,rfl⟩;refine ZE 10 ?_;refine ZE 11 ?_;refine ZE 12 ?_;refine ZE 13 ?_;refine ZFe 14 0 ?_;refine cE 15 Zk ?_;refine dC rfl rfl (dK (ys:=iC (kOf br bu D) ⟨A1,c1,A2,c2⟩ ((R.wd l).ws ⟨pc',l,R.s.r,fl',su',pg',ie',rt',ve',ep',ca',ad',es',ei',co',ha'⟩)) (n:=16) (vs:=(St.mk pc' l R.s.r fl' su' pg' ie' rt' ve' ep' ca' ad' es' ei' co' ha').cells (.slice A1 l.length c1) (.slice A2 R.s.r.length c2)) rfl Zrf rfl rfl (iK rfl) Za rfl (by simp only[ai,ao];omega)) ZJ ?_;rintro _ _ ⟨rfl,rfl⟩;refine bO Zk ?_;refine ln ?_;refine ZW ?_ ?_<;>intro hc26
  ·have h12:(nn==1||nn==2)=true:=(by simpa using hc26);refine Z_5 ?_;refine ZcM (uF bu bb L U) (fun w hi hin=>B1 bu bb L U hT w hin) ?_;refine Z_2 ?_;refine bQ (kN br bu bb L D ⟨A1,c1,A2,c2⟩ Y ⟨((R.wd l).ws ⟨pc',l,R.s.r,fl',su',pg',ie',rt',ve',ep',ca',ad',es',ei',co',ha'⟩),⟨U.m,eE⟩,d⟩) Zj ?_;refine fL (cs':=[row _ _ _,slv _ _ _ _ _ _,slv _ _ _ _ _ _,row _ _ _,exC _ _ _ _,row _ _ _,row _ _ _,row _ _ _,row _ _ _,row _ _ _,slv _ _ _ _ _ _,slv _ _ _ _ _ _,row _ _ _,slv _ _ _ _ _ _]) (.inr rfl) Zu rfl ?_;rw[hst,sk h12];exact⟨⟨A1,c1,A2,c2⟩,Y,rfl,rfl⟩
  have h12:(nn==1||nn==2)=false:=(by simpa using hc26);refine Z_2 ?_;refine bQ (kN br bu bb L D ⟨A1,c1,A2,c2⟩ Y ⟨((R.wd l).ws ⟨pc',l,R.s.r,fl',su',pg',ie',rt',ve',ep',ca',ad',es',ei',co',ha'⟩),U,d⟩) Zj ?_;refine fL (cs':=[row _ _ _,slv _ _ _ _ _ _,slv _ _ _ _ _ _,row _ _ _,exC _ _ _ _,row _ _ _,row _ _ _,row _ _ _,row _ _ _,row _ _ _,slv _ _ _ _ _ _,slv _ _ _ _ _ _,row _ _ _,slv _ _ _ _ _ _]) (.inr rfl) Zu rfl ?_;rw[hst,kH h12];exact⟨⟨A1,c1,A2,c2⟩,Y,rfl,rfl⟩
 refine Z_6 ?_;refine ZW ?_ ?_<;>intro hc28
 ·obtain rfl:=jV hc28;obtain⟨R,l,x,rfl⟩:=Run.snoc (show 1≤R.s.d.length from hn);obtain⟨hx1,hx2⟩:=hw x (by simp);obtain⟨va,rfl⟩:∃va:Nat,x=va:=ar hx1;have hva:va≤4294967295:=(by omega);have hll:l.length≤100000:=(by have:(l++[(va:Int)]).length≤100000:=hdl;simp only[ae,ai,ao]at this;omega);have hst:dV L.n 68 nn ⟨R.wd (l++[(va:Int)]),U,d⟩=⟨R.wd l,⟨U.m,sJ U.t va⟩,d⟩:=(by show iu.mk _ _ _=_;rw[Run.pop_wd,Run.top_wd];rfl);refine Z_3 ?_;refine ZcM (JF (kOf br bu D) X (R.wd (l++[(va:Int)]))) (fun w hi hin=>ia (kOf br bu D) X R l va w hin) ?_;refine gK ?_;refine ZW ?_ ?_<;>intro hc30
  ·refine Z_6 ?_;refine ZcM (uF bu bb L U) (fun w hi hin=>Fh bu bb L U hT va hva w hin) ?_;refine Z_2 ?_;refine bQ (kN br bu bb L D X Y ⟨R.wd l,⟨U.m,sJ U.t va⟩,d⟩) Zj ?_;refine fL (cs':=[row _ _ _,slv _ _ _ _ _ _,slv _ _ _ _ _ _,row _ _ _,exC _ _ _ _,row _ _ _,row _ _ _,row _ _ _,row _ _ _,row _ _ _,slv _ _ _ _ _ _,slv _ _ _ _ _ _,row _ _ _,slv _ _ _ _ _ _]) (.inr rfl) Zu rfl ?_;rw[hst];exact⟨X,Y,rfl,rfl⟩
  exact absurd hc30 (by simp)
 refine Z_6 ?_;refine ZW ?_ ?_<;>intro hc32
 ·obtain rfl:=jV hc32;refine Z_5 ?_;refine ZL ?_;refine Z_2 ?_;refine bQ (kN br bu bb L D X Y ⟨R.ws R.s.halt,U,d⟩) Zj ?_;refine fL (cs':=[row _ _ _,slv _ _ _ _ _ _,slv _ _ _ _ _ _,row _ _ _,exC _ _ _ _,row _ _ _,row _ _ _,row _ _ _,row _ _ _,row _ _ _,slv _ _ _ _ _ _,slv _ _ _ _ _ _,row _ _ _,slv _ _ _ _ _ _]) (.inr rfl) Zu rfl ?_;exact⟨X,Y,rfl,rfl⟩
 have hst:dV L.n op nn ⟨R,U,d⟩=⟨R,U,d⟩:=(by simp only[dV, *,aa]);refine Z_2 ?_;refine bQ (kN br bu bb L D X Y ⟨R,U,d⟩) Zj ?_;refine fL (cs':=[row _ _ _,slv _ _ _ _ _ _,slv _ _ _ _ _ _,row _ _ _,exC _ _ _ _,row _ _ _,row _ _ _,row _ _ _,row _ _ _,row _ _ _,slv _ _ _ _ _ _,slv _ _ _ _ _ _,row _ _ _,slv _ _ _ _ _ _]) (.inr rfl) Zu rfl ?_;rw[hst];exact⟨X,Y,rfl,rfl⟩
end Go.Proofs.YtomjgmbccamgiaaGreatDoor
namespace Go.Ink
open Go.RowKit
structure Res where
 s:St
 Jk:Bool
 device:Bool
 Ig:List Int
abbrev St.next(s:St):St:=s.IZ (IntKind.u64.wrap (s.count+1))
abbrev St.wpc(s:St)(x:Int):St:=⟨x,s.d,s.r,s.flags,s.Il,s.It,s.ie,s.root,s.vec,s.epc,s.Im,s.addr,s.Ix,s.eie,s.count,s.halted⟩
def eY(s:St)(op:Int):Run:=⟨s.next.wpc (IntKind.u32.wrap (s.pc+IntKind.u32.wrap (cG op))),s.count,Tr.none,false⟩
def rA(n:Nat)(s:St)(op nn:Int)(U:Mmu)(d:Dev):iu:=
 match dO op nn (eY s op)with
 |some R=>⟨R,U,d⟩
 |none=>bif(cQ op nn (eY s op)).1 then⟨(cQ op nn (eY s op)).2,U,d⟩else dV n op nn ⟨(cQ op nn (eY s op)).2,U,d⟩
def Bl(s:St)(m:iu):Res:=
 bif m.r.Iv.Im !=0 then⟨s.next.Iv m.r.Iv.Im m.r.Iv.addr,true,m.r.device,iB m.u.m.Ip 64⟩else⟨m.r.s,false,m.r.device,iB m.u.m.Ip 64⟩
def vd(n:Nat)(s:St)(op nn:Int)(U:Mmu)(d:Dev):Res×Mmu×Dev:=
 bif !s.right then(⟨s,false,false,[]⟩,U,d)else
 bif gg s op nn !=0 then(⟨s.next.Iv (gg s op nn) 0,true,false,[]⟩,⟨U.m.calm,U.t⟩,d)else
 (Bl s (rA n s op nn ⟨U.m.calm,U.t⟩ d),(rA n s op nn ⟨U.m.calm,U.t⟩ d).u,(rA n s op nn ⟨U.m.calm,U.t⟩ d).d)
theorem GD(op f:Int)(h:(dg op f).2=false):(dg op f).1=false:=by
 revert h;unfold dg
 repeat (refine bN (fun q:Bool×Bool=>q.2=false→q.1=false) (fun h=>by cases h) ?_)
 exact fun _=>rfl
theorem nT(op n:Int)(R:Run)(h:(cQ op n R).1=false):(cQ op n R).2=R:=by
 revert h;unfold cQ
 repeat (refine bN (fun q:Bool×Run=>q.1=false→q.2=R) (fun h=>by cases h) ?_)
 intro h;show(bif(dg op R.s.flags).1 then _ else R)=R;rw[GD op R.s.flags h]
 rfl
theorem xX{s:St}{q:(Nat×Nat)×(Nat×Nat)}(h:j7 s q=0):q.1.1≤s.d.length∧q.2.1≤s.r.length:=by
 unfold j7 at h;cases hc:(decide ((s.d.length:Int)<(q.1.1:Int))||decide ((s.r.length:Int)<(q.2.1:Int)))with
 |true=>rw[hc]at h;cases h
 |false=>
  simp only[bl,aj]at hc;omega
theorem mm{s:St}{op n:Int}(h:gg s op n=0):(bV op).1.1≤s.d.length∧(bV op).2.1≤s.r.length:=by
 unfold gg at h;revert h;refine bN (fun x:Int=>x=0→(bV op).1.1≤s.d.length∧(bV op).2.1≤s.r.length) (fun h=>by cases h) ?_;refine bN (fun x:Int=>x=0→(bV op).1.1≤s.d.length∧(bV op).2.1≤s.r.length) (fun h=>by cases h) ?_;refine bN (fun x:Int=>x=0→(bV op).1.1≤s.d.length∧(bV op).2.1≤s.r.length) (fun h=>by cases h) ?_;refine bN (fun x:Int=>x=0→(bV op).1.1≤s.d.length∧(bV op).2.1≤s.r.length) (fun h=>by cases h) ?_;exact xX
end Go.Ink
namespace Go.Proofs.YtomjgmbccamgiaaGreatDoor
open Go.RowKit Go.Ink Go.Proofs.Tryz
attribute [local irreducible] OpY bW
abbrev kV(r:Res)(X:iv)(Ap:Option Addr)(cp:Nat):List Value:=[.int .u32 r.s.pc,.slice X.Ad r.s.d.length X.cd,.slice X.Ar r.s.r.length X.cr,.int .u32 r.s.flags,.bool r.s.Il,.bool r.s.It,.bool r.s.ie,.int .u32 r.s.root,.int .u32 r.s.vec,.int .u32 r.s.epc,.int .u32 r.s.Im,.int .u32 r.s.addr,.bool r.s.Ix,.bool r.s.eie,.int .u64 r.s.count,.bool r.s.halted,.bool r.Jk,.bool r.device,.slice Ap r.Ig.length cp]
abbrev resF(r:Res)(X:iv)(Ap:Option Addr)(cp:Nat):List bJ:=[slD r.s X.Ad X.cd,slR r.s X.Ar X.cr,sl .i64 3 Ap r.Ig.length cp r.Ig]
end Go.Proofs.YtomjgmbccamgiaaGreatDoor
namespace Go.Ink
theorem St.fits{s:St}(h:s.right=true):s.d.length≤16∧s.r.length≤16∧s.flags≤15:=by
 simp only[St.right,aB,ap]at h;omega
end Go.Ink
namespace Go.Proofs.YtomjgmbccamgiaaGreatDoor
open Go.RowKit Go.Ink Go.Proofs.Tryz
attribute [local irreducible] OpY bW
abbrev ubF(bu bb:Nat)(L:gQ)(D:p6)(Y:j0)(U:Mmu)(d:Dev):List bJ:=uF bu bb L U++mO D L.bm Y d
theorem do_ok(bu bb:Nat)(L:gQ)(D:p6)(Y:j0)(s:St)(Ad Ar:Option Addr)(cd cr:Nat)(op nn:Int)(U:Mmu)(d:Dev)(hwf:s.wf)(hnn:u32 nn)(hT:U.t.length=16)(hd:d.wf)(ho:d.out.length≤1000000000)
  (w:World) (hi:Inv w (bK (ubF bu bb L D Y U d)) (ubF bu bb L D Y U d) w) (h:∀w',dQ (bK (ubF bu bb L D Y U d)) w w'→mR w' s Ad Ar cd cr):
  Ctr prog 95 [sv s Ad cd Ar cr,.agg #[.int .i64 op,.int .u32 nn],.pointer (some ⟨bu,0,none⟩),.pointer (some ⟨D.bs,0,none⟩)] w (ubF bu bb L D Y U d)
   (fun v cs=>∃X Y' Ap cp,v= .agg (kV (vd L.n s op nn U d).1 X Ap cp).toArray∧cs=resF (vd L.n s op nn U d).1 X Ap cp++ubF bu bb L D Y' (vd L.n s op nn U d).2.1 (vd L.n s op nn U d).2.2):=by
 have HR:=mC s Ad Ar cd cr;have HK:=G6 s Ad Ar cd cr op nn hnn;have hbd:=(h w (dQ.refl _ _)).hd;have hbr:=(h w (dQ.refl _ _)).hr;unfold vd;obtain⟨rt,hrt⟩:=Zgn (s.right);obtain⟨ck,hck⟩:=Zgn (gg s op nn);rw[hrt]at HR⊢;rw[hck]at HK⊢;obtain⟨UM,UT⟩:=U;have HM:=uE L UM;have HZ:=uo op;obtain⟨R0,hR0⟩:=Zgn (eY s op);have hmid:rA L.n s op nn ⟨UM.calm,UT⟩ d=(match dO op nn R0 with
  |some R=>⟨R,⟨UM.calm,UT⟩,d⟩
  |none=>bif(cQ op nn R0).1 then⟨(cQ op nn R0).2,⟨UM.calm,UT⟩,d⟩else dV L.n op nn ⟨(cQ op nn R0).2,⟨UM.calm,UT⟩,d⟩):=by rw[←hR0];rfl
 unfold eY at hR0;obtain⟨sz,hsz⟩:=Zgn (cG op);rw[hsz]at HZ hR0;obtain⟨pc',hpc⟩:=Zgn (IntKind.u32.wrap (s.pc+IntKind.u32.wrap sz));rw[hpc]at hR0;refine bL func95 rfl ntmps95 rfl hi ?_;refine Z_2 ?_;refine ZO fun b4=>?_;refine ZO fun b5=>?_
 refine ZN fun b8=>?_
 refine Z_6 ?_;refine ZSe (fun w hi=>HR w) ?_;refine Z_3 ?_;refine ZW ?_ ?_<;>intro hc1
 ·refine Z_3 ?_;refine ZS (fun w hi=>jp s Ad Ar cd cr w (h w hi.IG)) ?_;rintro _ _ ⟨_,⟨A1,c1,A2,c2,rfl,rfl⟩,rfl⟩;refine ZA ?_;refine dB 3 1 ?_;refine ZM ?_;refine Z_4 ?_;refine bQ ([row b8 (kV ⟨s,false,false,[]⟩ ⟨A1,c1,A2,c2⟩ none 0) 201]++(resF ⟨s,false,false,[]⟩ ⟨A1,c1,A2,c2⟩ none 0++ubF bu bb L D Y ⟨UM,UT⟩ d)) Zj ?_;refine kk (cs':=[slv _ _ _ _ _ _,slv _ _ _ _ _ _,slv _ _ _ _ _ _,row _ _ _,exC _ _ _ _,row _ _ _,row _ _ _,row _ _ _,row _ _ _,row _ _ _,slv _ _ _ _ _ _,slv _ _ _ _ _ _,row _ _ _,slv _ _ _ _ _ _]) (.inl rfl) Zu rfl rfl Zh Zrf Zrf ?_;rw[sk hc1];exact⟨⟨A1,c1,A2,c2⟩,Y,none,0,rfl,rfl⟩
 refine Z_9 ?_;refine ZW ?_ ?_<;>intro hc3
 ·refine Z_2 ?_;refine ZSe (fun w hi=>kR bu L.bm bb w (hi.get Zh)) ?_;refine ZcM ([eH L UM]) (fun w hi hin=>HM w hin) ?_;refine Z_5 ?_;refine ZS (fun w hi=>jp s Ad Ar cd cr w (h w hi.IG)) ?_;rintro _ _ ⟨_,⟨A1,c1,A2,c2,rfl,rfl⟩,rfl⟩;refine ZN fun b9=>?_
  refine ZM ?_;refine Z_6 ?_;refine Zy (cF Zv0 Zv0 rfl) ?_;refine Z_1 ?_;refine ZL ?_;refine Z_7 ?_;refine ZSe (fun w hi=>HK w (h w hi.IG)) ?_;refine Z_9 ?_;refine ZW ?_ ?_<;>intro hc8
  ·refine Z_4 ?_;refine ZS (fun w hi=>oO s.next A1 A2 c1 c2 ck 0 w (hi.Jh (show Has _ (slD s A1 c1)from Zh) (show Has _ (slR s A2 c2)from Zh) hbd hbr)) ?_;rintro _ _ ⟨_,⟨A3,c3,A4,c4,rfl,rfl⟩,rfl⟩;refine ZA ?_;refine dB 3 1 ?_;refine ZM ?_;refine Z_4 ?_;refine bQ ([row b8 (kV ⟨s.next.Iv ck 0,true,false,[]⟩ ⟨A3,c3,A4,c4⟩ none 0) 201]++(resF ⟨s.next.Iv ck 0,true,false,[]⟩ ⟨A3,c3,A4,c4⟩ none 0++ubF bu bb L D Y ⟨UM.calm,UT⟩ d)) Zj ?_;refine kk (cs':=[slv _ _ _ _ _ _,slv _ _ _ _ _ _,slv _ _ _ _ _ _,row _ _ _,exC _ _ _ _,row _ _ _,row _ _ _,row _ _ _,row _ _ _,row _ _ _,slv _ _ _ _ _ _,slv _ _ _ _ _ _,row _ _ _,slv _ _ _ _ _ _]) (.inl rfl) Zu rfl rfl Zh Zrf Zrf ?_;rw[kH hc1,sk hc8];exact⟨⟨A3,c3,A4,c4⟩,Y,none,0,rfl,rfl⟩
  refine Z_3 ?_;refine cj ⟨fun j=>List.elem j [],[]⟩ Zk ?_;refine ZI 0 ?_;refine ZFe 2 14 ?_;refine ZG 3 ?_;refine ZE 4 ?_;refine ZE 5 ?_;refine cE 1 Zk ?_;refine ZT (fun w hi=>jp s.next A1 A2 c1 c2 w (hi.Jh (show Has _ (slD s A1 c1)from Zh) (show Has _ (slR s A2 c2)from Zh) hbd hbr)) ?_;rintro _ _ ⟨_,⟨A5,c5,A6,c6,rfl,rfl⟩,rfl⟩;refine ZE 6 ?_;refine cE 7 Zk ?_;refine gu rfl rfl (qX rfl rfl) ZJ rfl ?_;rintro _ _ ⟨b46,rfl,rfl⟩;refine ZE 8 ?_;refine bO Zk ?_;refine Z_2 ?_;refine cj ⟨fun j=>List.elem j [13],[]⟩ Zk ?_;refine ZE 0 ?_;refine ZE 1 ?_;refine ZFe 2 0 ?_;refine ZFe 3 0 ?_;refine ZG 4 ?_;refine ZFe 5 0 ?_;refine ZG 6 ?_;refine cE 7 Zk ?_;refine ZT (fun w hi=>HZ w) ?_;rintro _ _ ⟨_,⟨rfl,rfl⟩,rfl⟩;refine cR 8 rfl Zk Zk Zk (cu rfl rfl Zv0 rfl) rfl ?_;refine cR 9 rfl Zk Zk Zk (cF Zv0 Zv0 hpc) rfl ?_;refine ZE 10 ?_;refine ZFe 11 0 ?_;refine ZFe 12 0 ?_;refine cE 13 Zk ?_;refine ZQ ?_;refine bO Zk ?_;refine Zt ?_;refine de (fun q:iv×j0×iu=>[(2,.pointer (some ⟨bu,0,none⟩)),(8,.pointer (some ⟨b8,0,none⟩)),(9,.pointer (some ⟨b9,0,none⟩)),(11,.pointer (some ⟨b46,0,none⟩))]) (fun q=>kN b46 bu bb L D q.1 q.2.1 q.2.2++[row b8 [.int .u32 0,.slice none 0 0,.slice none 0 0,.int .u32 0,.bool false,.bool false,.bool false,.int .u32 0,.int .u32 0,.int .u32 0,.int .u32 0,.int .u32 0,.bool false,.bool false,.int .u64 0,.bool false,.bool false,.bool false,.slice none 0 0] 201,row b9 (s.next.cells (.slice A1 s.next.d.length c1) (.slice A2 s.next.r.length c2)) 38,slD s.next A1 c1,slR s.next A2 c2]) (fun q=>rA L.n s op nn ⟨UM.calm,UT⟩ d=q.2.2) ?_ ?_
  ·refine Zs ?_;subst hR0;have hrt1:rt=true:=(by simpa using hc1);obtain⟨hd16,hr16, -⟩:=St.fits (hrt.trans hrt1);have hck0:ck=0:=(by simpa using hc8);obtain⟨n1,n2⟩:=mm (hck.trans hck0);have HS:=Fz (kOf b46 bu D) ⟨A5,c5,A6,c6⟩ ⟨s.next.wpc pc',s.count,Tr.none,false⟩ op nn (show s.d.length≤100000 by omega) (show s.r.length≤100000 by omega) n1 n2;rcases hst:dO op nn ⟨s.next.wpc pc',s.count,Tr.none,false⟩with _|R1
   ·rw[hst]at HS;simp only[Option.isSome_none,Option.getD_none]at HS;have HQ:=fun X w hin=>CE (kOf b46 bu D) X ⟨s.next.wpc pc',s.count,Tr.none,false⟩ op nn hwf.d (show s.d.length≤100000 by omega) (show s.r.length≤100000 by omega) n1 n2 w hin
    obtain⟨⟨bq,R2⟩,hq⟩:=Zgn (cQ op nn ⟨s.next.wpc pc',s.count,Tr.none,false⟩);rw[hq]at HQ;refine Z_3 ?_;refine ZcL (JF (kOf b46 bu D) ⟨A5,c5,A6,c6⟩ ⟨s.next.wpc pc',s.count,Tr.none,false⟩) (fun w hi hin=>HS w hin) ?_;rintro _ _ ⟨_,⟨X1,rfl,rfl⟩,rfl⟩;refine Z_3 ?_;refine iO (bP rfl rfl) Zh Zrf Zrf (Zv rfl) rfl ?_;refine ku (bP rfl rfl) rfl (dR (JF (kOf b46 bu D) X1 ⟨s.next.wpc pc',s.count,Tr.none,false⟩) rfl (fun _ _=>rfl) Zi (fun w hi hin=>HQ X1 w hin)) rfl ?_;rintro _ _ ⟨_,⟨X2,rfl,rfl⟩,rfl⟩;refine Z_4 ?_;refine ZW ?_ ?_<;>intro hc12
    ·obtain rfl:bq=false:=(by simpa using hc12);have he:=nT op nn ⟨s.next.wpc pc',s.count,Tr.none,false⟩ (by rw[hq]);rw[hq]at he;have he:R2=_:=he;subst he;have HO:=fun X w hin=>CB b46 bu bb L D X Y ⟨s.next.wpc pc',s.count,Tr.none,false⟩ ⟨UM.calm,UT⟩ d op nn hnn hwf.d (show s.d.length≤100000 by omega) (show s.r.length≤100000 by omega) n1 hT hwf.root hd ho w hin
     obtain⟨m',hm'⟩:∃m',dV L.n op nn ⟨⟨s.next.wpc pc',s.count,Tr.none,false⟩,⟨UM.calm,UT⟩,d⟩=m':=⟨_,rfl⟩;rw[hm']at HO;refine Z_3 ?_;refine ZcL (kN b46 bu bb L D X2 Y ⟨⟨s.next.wpc pc',s.count,Tr.none,false⟩,⟨UM.calm,UT⟩,d⟩) (fun w hi hin=>HO X2 w hin) ?_;rintro _ _ ⟨_,⟨X3,Y3,rfl,rfl⟩,rfl⟩;refine Zn ?_;refine cz ((⟨X3,Y3,m'⟩:iv×j0×iu)) ?_ ?_ ?_
     ·exact(by rw[hmid];simp only[hst,hq,aa];exact hm')
     ·exact Zwk
     exact Zj
    obtain rfl:bq=true:=(by simpa using hc12);refine Zc ?_;refine cz ((⟨X2,Y,⟨R2,⟨UM.calm,UT⟩,d⟩⟩:iv×j0×iu)) ?_ ?_ ?_
    ·exact(by rw[hmid];simp only[hst,hq,ac])
    ·exact Zwk
    exact Zj
   rw[hst]at HS;simp only[Option.isSome_some,Option.getD_some]at HS;refine Z_3 ?_;refine ZcL (JF (kOf b46 bu D) ⟨A5,c5,A6,c6⟩ ⟨s.next.wpc pc',s.count,Tr.none,false⟩) (fun w hi hin=>HS w hin) ?_;rintro _ _ ⟨_,⟨X1,rfl,rfl⟩,rfl⟩;refine Z_2 ?_;refine dr (bP rfl rfl) rfl rfl ?_;refine dr (bP rfl rfl) rfl rfl ?_;refine dr (bP rfl rfl) rfl rfl ?_;refine dr (bP rfl rfl) rfl rfl ?_;refine Zy (p7 (q:=false) (Zv rfl) ⟨_,rfl,fun _ e=>by simp at e⟩) ?_;refine Z_2 ?_;refine bY rfl (rfl) ?_;refine Zc ?_;refine cz ((⟨X1,Y,⟨R1,⟨UM.calm,UT⟩,d⟩⟩:iv×j0×iu)) ?_ ?_ ?_
   ·exact(by rw[hmid];simp only[hst])
   ·exact Zwk
   exact Zj
  rintro⟨X,Y',m⟩ hm;dsimp only at hm⊢;refine Zs (cj ⟨fun j=>List.elem j [10],[]⟩ Zk ?_);refine ZE 0 ?_;refine ZE 1 ?_;refine ZFe 2 0 ?_;refine eQ 3 rfl Zk Zk Zk Zk (cC (vs:=m.r.s.cells (.slice X.Ad m.r.s.d.length X.cd) (.slice X.Ar m.r.s.r.length X.cr)) Zrf Zrf Zv0) (cL Zh rfl) rfl ?_;refine ZE 4 ?_;refine ZE 5 ?_;refine ZFe 6 21 ?_;refine ZG 7 ?_;refine ZE 8 ?_;refine cE 9 Zk ?_;refine ZP fun b12=>?_
  refine cE 10 Zk ?_;refine ZR ?_;refine bO Zk ?_;refine gK ?_;refine ZW ?_ ?_<;>intro hc15
  ·have he:Bl s m=⟨s.next.Iv m.r.Iv.Im m.r.Iv.addr,true,m.r.device,iB m.u.m.Ip 64⟩:=sk hc15;refine cj ⟨fun j=>List.elem j [13,15],[]⟩ Zk ?_;refine ZI 0 ?_;refine ZE 1 ?_;refine ZE 2 ?_;refine ZFe 3 19 ?_;refine ZFe 4 0 ?_;refine ZG 5 ?_;refine ZE 6 ?_;refine ZE 7 ?_;refine ZFe 8 19 ?_;refine ZFe 9 1 ?_;refine ZG 10 ?_;refine cE 11 Zk ?_;refine ZT (fun w hi=>oO s.next A1 A2 c1 c2 m.r.Iv.Im m.r.Iv.addr w (hi.Jh (show Has _ (slD s.next A1 c1)from Zh) (show Has _ (slR s.next A2 c2)from Zh) hbd hbr)) ?_;rintro _ _ ⟨_,⟨A7,c7,A8,c8,rfl,rfl⟩,rfl⟩;refine ZFe 12 0 ?_;refine cE 13 Zk ?_;refine dC rfl rfl (dK (ys:=kV ⟨s.next.Iv m.r.Iv.Im m.r.Iv.addr,false,m.r.device,[]⟩ ⟨A7,c7,A8,c8⟩ none 0) (n:=16) (vs:=(s.next.Iv m.r.Iv.Im m.r.Iv.addr).cells (.slice A7 (s.next.Iv m.r.Iv.Im m.r.Iv.addr).d.length c7) (.slice A8 (s.next.Iv m.r.Iv.Im m.r.Iv.addr).r.length c8)) rfl Zrf rfl rfl (iK rfl) Za rfl (by simp only[ai,ao];omega)) ZJ ?_;rintro _ _ ⟨rfl,rfl⟩;refine ZFe 14 16 ?_;refine cE 15 Zk ?_;refine ZQ ?_;refine bO Zk ?_;refine Z_8 ?_;refine ZW ?_ ?_<;>intro hc17
   ·refine Z_2 ?_;refine ZSe (fun w hi=>kR bu L.bm bb w (hi.get Zh)) ?_;refine ZS (fun w hi=>tw L m.u.m w (hi.get Zh)) ?_;rintro _ _ ⟨_,⟨Ap,cp,rfl,rfl⟩,rfl⟩;refine Z_1 ?_;refine ZL ?_;refine Z_5 ?_;refine ZM ?_;refine Z_3 ?_;refine bQ ([row b8 (kV ⟨s.next.Iv m.r.Iv.Im m.r.Iv.addr,true,m.r.device,iB m.u.m.Ip 64⟩ ⟨A7,c7,A8,c8⟩ Ap cp) 201]++(resF ⟨s.next.Iv m.r.Iv.Im m.r.Iv.addr,true,m.r.device,iB m.u.m.Ip 64⟩ ⟨A7,c7,A8,c8⟩ Ap cp++ubF bu bb L D Y' m.u m.d)) Zj ?_;refine kk (cs':=[slv _ _ _ _ _ _,slv _ _ _ _ _ _,slv _ _ _ _ _ _,row _ _ _,exC _ _ _ _,row _ _ _,row _ _ _,row _ _ _,row _ _ _,row _ _ _,slv _ _ _ _ _ _,slv _ _ _ _ _ _,row _ _ _,slv _ _ _ _ _ _]) (.inl rfl) Zu rfl rfl Zh Zrf Zrf ?_;rw[kH hc1,kH hc8,hm,he];exact⟨⟨A7,c7,A8,c8⟩,Y',Ap,cp,rfl,rfl⟩
   exact absurd hc17 (by simp)
  have he:Bl s m=⟨m.r.s,false,m.r.device,iB m.u.m.Ip 64⟩:=kH hc15;refine Z_9 ?_;refine ZW ?_ ?_<;>intro hc17
  ·refine Z_2 ?_;refine ZSe (fun w hi=>kR bu L.bm bb w (hi.get Zh)) ?_;refine ZS (fun w hi=>tw L m.u.m w (hi.get Zh)) ?_;rintro _ _ ⟨_,⟨Ap,cp,rfl,rfl⟩,rfl⟩;refine Z_1 ?_;refine ZL ?_;refine Z_5 ?_;refine ZM ?_;refine Z_3 ?_;refine bQ ([row b8 (kV ⟨m.r.s,false,m.r.device,iB m.u.m.Ip 64⟩ X Ap cp) 201]++(resF ⟨m.r.s,false,m.r.device,iB m.u.m.Ip 64⟩ X Ap cp++ubF bu bb L D Y' m.u m.d)) Zj ?_;refine kk (cs':=[slv _ _ _ _ _ _,slv _ _ _ _ _ _,slv _ _ _ _ _ _,row _ _ _,exC _ _ _ _,row _ _ _,row _ _ _,row _ _ _,row _ _ _,row _ _ _,slv _ _ _ _ _ _,slv _ _ _ _ _ _,row _ _ _,slv _ _ _ _ _ _]) (.inl rfl) Zu rfl rfl Zh Zrf Zrf ?_;rw[kH hc1,kH hc8,hm,he];exact⟨X,Y',Ap,cp,rfl,rfl⟩
  exact absurd hc17 (by simp)
 exact absurd hc3 (by simp)
end Go.Proofs.YtomjgmbccamgiaaGreatDoor
namespace Go.Ink
open Go.RowKit
def Hl(R:Run)(va:Nat):Run:=bif((va%4:Nat):Int) !=0 then R.wt ⟨6,va⟩else R.wt ⟨10,va⟩
def otherN(op nn:Int)(R:Run):Run:=
 bif op==48 then Hl R.pop R.top.toNat else
 bif op==49 then Hl R.pop.pop R.top.toNat else
 bif op==50 then R.pop.wt ⟨10,R.top⟩else
 bif op==51 then R.pop.wt ⟨10,R.top⟩else
 bif op==52 then R.pop.wt ⟨10,R.top⟩else
 bif op==53 then R.pop.wt ⟨10,R.top⟩else
 bif op==64 then R.wt ⟨11,0⟩else
 bif op==65 then R.ws R.s.back else
 bif op==66 then R.push [((R.s.IZ R.count).get nn).1]else
 bif op==67 then R.pop.ws (R.pop.s.set nn R.top).1 else
 bif op==68 then R.pop else
 bif op==69 then R.ws R.s.halt else R
def wk(s:St)(op nn:Int):Run:=
 match dO op nn (eY s op)with
 |some R=>R
 |none=>bif(cQ op nn (eY s op)).1 then(cQ op nn (eY s op)).2 else otherN op nn (cQ op nn (eY s op)).2
def H6(s:St)(R:Run):Res:=
 bif R.Iv.Im !=0 then⟨s.next.Iv R.Iv.Im R.Iv.addr,true,R.device,[]⟩else⟨R.s,false,R.device,[]⟩
def doN(s:St)(op nn:Int):Res:=
 bif !s.right then⟨s,false,false,[]⟩else
 bif gg s op nn !=0 then⟨s.next.Iv (gg s op nn) 0,true,false,[]⟩else
 H6 s (wk s op nn)
end Go.Ink
namespace Go.Proofs.YtomjgmbccamgiaaGreatDoor
open Go.RowKit Go.Ink Go.Proofs.Tryz
attribute [local irreducible] OpY bW
end Go.Proofs.YtomjgmbccamgiaaGreatDoor
namespace Go.Ink
open Go.RowKit
def Dev.init(ID:List Int):Dev:=⟨0,0,0,[],[],mZ ID,0,0,0⟩
end Go.Ink
namespace Go.Proofs.YtomjgmbccamgiaaGreatDoor
open Go.RowKit Go.Ink Go.Proofs.Tryz
attribute [local irreducible] OpY bW
theorem mR.Iz{w0 w w':World}{cs cin rest:List bJ}{s:St}{Ad Ar:Option Addr}{cd cr:Nat}(h:mR w0 s Ad Ar cd cr)(hi:Inv w0 [] cs w)(hp:jX cin cs rest)(hk:dQ (bK cin) w w'):mR w' s Ad Ar cd cr:=
 ⟨RdV.Iz h.d hi hp hk,RdV.Iz h.r hi hp hk,h.hd,h.hr⟩
theorem _root_.Go.Ink.Inv.I0{w0 w w':World}{S:List Nat}{cs cin rest:List bJ}{s:St}{Ad Ar:Option Addr}{cd cr:Nat}(hi:Inv w0 S cs w)(hp:jX cin cs rest)(h1:Has rest (slD s Ad cd))(h2:Has rest (slR s Ar cr))(hd:s.d.length*4≤140737488355328)(hr:s.r.length*4≤140737488355328)(hk:dQ (bK cin) w w'):mR w' s Ad Ar cd cr:=
 ⟨hi.Jb hp h1 hk,hi.Jb hp h2 hk,hd,hr⟩
theorem ED(bm:Nat)(A:Option Addr)(c:Nat)(l:List Int)(hl:l.length≤1024)(w:World)(h:Rd w .u8 A l.length c l):Ctr prog 31 [.pointer (some ⟨bm,0,none⟩),.slice A l.length c] w []
  (fun v cs=>∃D,v= .tuple #[.pointer (some ⟨D.bs,0,none⟩),.int .i64 0]∧cs=mO D bm ⟨none,0,none,0⟩ (Dev.init l)):=by
 obtain⟨dd,hdd⟩:=Zgn (mZ l);unfold Dev.init;rw[hdd];have HD:=fun w (hi:Rd w .u8 A l.length c l)=>Ek A c l hl w hi
 rw[hdd]at HD;refine bL func31 rfl ntmps31 rfl (Inv.start w) ?_;refine jW ?_;refine bY rfl (rfl) ?_;refine Z_5 ?_;refine ZS (fun w hi=>HD w (h.IB hi)) ?_;rintro _ _ ⟨_,⟨bdr,bdk,rfl,rfl⟩,rfl⟩;refine ic ?_;refine bY rfl (rfl) ?_;refine Z_4 ?_;refine ZS (fun w hi=>DA w) ?_;rintro _ _ ⟨_,⟨bi,rfl,rfl⟩,rfl⟩;refine ZS (fun w hi=>Ch w) ?_;rintro _ _ ⟨_,⟨bti,rfl,rfl⟩,rfl⟩;refine ZS (fun w hi=>Ew w) ?_;rintro _ _ ⟨_,⟨bcn,rfl,rfl⟩,rfl⟩;refine Z_3 ?_;refine ZO fun b24=>?_
 refine ZA ?_;refine dB 5 1 ?_;refine dB 5 1 ?_;refine Z_4 ?_;refine bQ (mO ⟨b24,bi,bti,bcn,bdr,bdk⟩ bm ⟨none,0,none,0⟩ ⟨0,0,0,[],[],dd,0,0,0⟩) Zj ?_;refine fw (cs':=[row _ _ _,row _ _ _,row _ _ _,row _ _ _,slv _ _ _ _ _ _,slv _ _ _ _ _ _,row _ _ _,slv _ _ _ _ _ _]) (.inl rfl) Zu rfl rfl rfl ?_;exact⟨⟨b24,bi,bti,bcn,bdr,bdk⟩,rfl,rfl⟩
theorem Da(A:Option Addr)(c n:Nat)(l:List Int)(hn0:1≤n)(hn:n≤64)(hl:l.length≤n*64)(hb:u8s l)(w:World)(h:Rd w .u8 A l.length c l):Ctr prog 29 [.slice A l.length c,.int .i64 n] w []
  (fun v cs=>∃L,L.n=n∧v= .pointer (some ⟨L.bm,0,none⟩)∧cs=[eH L (Mem.init n l)]):=by
 have HN:=fun bp w (hi:Inv w (bK [ff bp (List.replicate 16384 0) (List.replicate 256 (-1)) (List.replicate 4 (-1))]) [ff bp (List.replicate 16384 0) (List.replicate 256 (-1)) (List.replicate 4 (-1))] w)=>nnew_ok bp (List.replicate 16384 0) (List.replicate 256 (-1)) (List.replicate 4 (-1)) ⟨aO,aO,rfl⟩ 0 n (by decide) hn0 hn rfl (by rw[show oQ (List.replicate 4 (-1)) 4=0 from rfl];omega) (by intro x hx;rw[List.eq_of_mem_replicate hx];decide) w hi
 have HE:=Mem.init_eq hl;refine bL func29 rfl ntmps29 rfl (Inv.start w) ?_;refine Z_7 ?_;refine ZS (fun w hi=>fnew_ok w) ?_;rintro _ _ ⟨_,⟨bp,rfl,rfl⟩,rfl⟩;refine eK ?_;refine bY rfl (rfl) ?_;refine Z_6 ?_;refine ZcL ([ff bp (List.replicate 16384 0) (List.replicate 256 (-1)) (List.replicate 4 (-1))]) (fun w hi hin=>HN bp w hin) ?_;rintro _ _ ⟨_,⟨bt,bf,bg,rfl,rfl⟩,rfl⟩;refine xk ?_;refine bY rfl (rfl) ?_;refine Z_6 ?_;refine ZS (fun w hi=>rnew_ok bp bt w) ?_;rintro _ _ ⟨_,⟨bm,rfl,rfl⟩,rfl⟩;refine eK ?_;refine E9 (bs:=[bp,bt,bf,bg,bm]) (F:=BD ⟨bp,bt,bf,bg,bm,0,n⟩ (List.replicate 64 false)) (hb:=fun _=>rfl) (p:=fH ⟨bp,bt,bf,bg,bm,0,n⟩ (Mem.new n)) ⟨List.replicate 16384 0,List.replicate 256 (-1),(List.replicate 4 (-1)).set 0 n,List.replicate n (-1),List.replicate n false⟩ (fH.new (L:=⟨bp,bt,bf,bg,bm,0,n⟩) (show(0:Nat)<4 by decide) hn0 hn) Zi ?_;refine Z_9 ?_;refine ku (bS rfl rfl) rfl (dR ([eH ⟨bp,bt,bf,bg,bm,0,n⟩ (Mem.new n)]) rfl (fun _ _=>rfl) Zi (fun w hi hin=>FF ⟨bp,bt,bf,bg,bm,0,n⟩ (Mem.new n) A c l hl hb w hin (fun w' hk=>RdV.Iz h hi Zi hk))) rfl ?_;rintro _ _ ⟨_,⟨rfl,rfl⟩,rfl⟩;refine Z_4 ?_;refine bY rfl (rfl) ?_;refine Z_5 ?_;refine ZcM ([eH ⟨bp,bt,bf,bg,bm,0,n⟩ ((Mem.new n).fill 0 l l.length)]) (fun w hi hin=>uE ⟨bp,bt,bf,bg,bm,0,n⟩ ((Mem.new n).fill 0 l l.length) w hin) ?_;rw[HE];refine Z_9 ?_;refine Zrb ([exC _ _ _ _]) ?_;exact⟨⟨bp,bt,bf,bg,bm,0,n⟩,rfl,rfl,rfl⟩
structure _root_.Go.Ink.RMLoc where
 bm:Nat
 bB:Nat
 bT:Nat
abbrev uC(K:RMLoc)(n:Nat)(data:List Int)(tu:List Bool):List bJ:=[row K.bm [.slice (some ⟨K.bB,0,none⟩) (n*64) (n*64),.slice (some ⟨K.bT,0,none⟩) n n] 212,sl .u8 5 (some ⟨K.bB,0,none⟩) (n*64) (n*64) data,slv 4 1 (some ⟨K.bT,0,none⟩) n n (ls tu)]
abbrev ro(bx bm:Nat)(T:List TE):bJ:=row bx (.pointer (some ⟨bm,0,none⟩)::eC T) 148
abbrev AL(b bm bd:Nat)(Y:j0)(d:Dev):List bJ:=[row b [.pointer (some ⟨bm,0,none⟩),.int .u32 d.IH,.int .u32 d.mask,.int .u32 d.timer,.slice Y.Ao d.out.length Y.co,.slice Y.Ai d.inp.length Y.ci,.slice (some ⟨bd,0,none⟩) 1024 1024,.int .u32 (d.Ih:Int),.int .u32 (d.place:Int),.int .u32 d.status] 214,b8 Y.Ao Y.co d.out,rdC Y.Ai d.inp.length Y.ci (ints .u8 d.inp),Ei bd d.ID]
theorem AM(n:Nat)(hn:n≤64)(w:World):Ctr prog 100 [.int .i64 n] w [] (fun v cs=>∃K,v= .pointer (some ⟨K.bm,0,none⟩)∧cs=uC K n (List.replicate (n*64) 0) (List.replicate n false)):=by
 refine bL func100 rfl ntmps100 rfl (Inv.start w) ?_;refine Z_6 ?_;refine cj ⟨fun j=>List.elem j [],[]⟩ Zk ?_;refine ZE 0 ?_;refine cR 1 rfl Zk Zk Zk (i3 (Zv rfl) (Zv rfl) (show _=((n*64:Nat):Int)from IntWalk.i64_in _ ⟨by omega,by omega⟩|>.trans (by omega))) rfl ?_;refine ZE 3 ?_;refine j4 2 4 Zk ?_ ?_
 ·refine gu rfl rfl (jr (bytes:=1) (n:=n*64) rfl rfl rfl rfl rfl rfl rfl (by omega) (by simp only[maxLen];omega)) ZJ rfl ?_;rintro _ _ ⟨bB,rfl,rfl⟩;refine cE 4 Zk ?_;refine gu rfl rfl (jr (bytes:=1) (n:=n) rfl rfl rfl rfl rfl rfl rfl (by omega) (by simp only[maxLen];omega)) ZJ rfl ?_;rintro _ _ ⟨bT,rfl,rfl⟩;refine ZE 5 ?_;refine cE 6 Zk ?_;refine gu rfl rfl (qX rfl rfl) ZJ rfl ?_;rintro _ _ ⟨b9,rfl,rfl⟩;refine ZE 7 ?_;refine bO Zk ?_;refine Z_2 ?_;rw[kW,nS];refine bQ (uC ⟨b9,bB,bT⟩ n (List.replicate (n*64) 0) (List.replicate n false)) Zj ?_;refine Zrb ([row _ _ _,slv _ _ _ _ _ _,slv _ _ _ _ _ _]) ?_;exact⟨⟨b9,bB,bT⟩,rfl,rfl⟩
 refine gu rfl rfl (jr (bytes:=1) (n:=n) rfl rfl rfl rfl rfl rfl rfl (by omega) (by simp only[maxLen];omega)) ZJ rfl ?_;rintro _ _ ⟨bT,rfl,rfl⟩;refine cE 2 Zk ?_;refine gu rfl rfl (jr (bytes:=1) (n:=n*64) rfl rfl rfl rfl rfl rfl rfl (by omega) (by simp only[maxLen];omega)) ZJ rfl ?_;rintro _ _ ⟨bB,rfl,rfl⟩;refine ZE 5 ?_;refine cE 6 Zk ?_;refine gu rfl rfl (qX rfl rfl) ZJ rfl ?_;rintro _ _ ⟨b9,rfl,rfl⟩;refine ZE 7 ?_;refine bO Zk ?_;refine Z_2 ?_;rw[kW,nS];refine bQ (uC ⟨b9,bB,bT⟩ n (List.replicate (n*64) 0) (List.replicate n false)) Zj ?_;refine Zrb ([row _ _ _,slv _ _ _ _ _ _,slv _ _ _ _ _ _]) ?_;exact⟨⟨b9,bB,bT⟩,rfl,rfl⟩
theorem xM(bm:Nat)(w:World):Ctr prog 67 [.pointer (some ⟨bm,0,none⟩)] w [] (fun v cs=>∃bx,v= .pointer (some ⟨bx,0,none⟩)∧cs=[ro bx bm eE]):=by
 refine bL func67 rfl ntmps67 rfl (Inv.start w) ?_;refine Z_9 ?_;refine ZO fun b5=>?_
 refine Z_4 ?_;refine Zrb ([row _ _ _]) ?_;exact⟨_,rfl,rfl⟩
theorem xL(bm:Nat)(A:Option Addr)(c:Nat)(l:List Int)(hl:l.length≤1024)(w:World)(h:Rd w .u8 A l.length c l):Ctr prog 69 [.pointer (some ⟨bm,0,none⟩),.slice A l.length c] w []
  (fun v cs=>∃b bd,v= .pointer (some ⟨b,0,none⟩)∧cs=AL b bm bd ⟨none,0,none,0⟩ (Dev.init l)):=by
 refine bL func69 rfl ntmps69 rfl (Inv.start w) ?_;refine Z_7 ?_;refine dM (jr (bytes:=1) (n:=1024) rfl rfl rfl rfl rfl rfl rfl (by omega) (by simp only[maxLen];omega)) rfl ?_;rintro _ _ ⟨bd,rfl,rfl⟩;rw[kW];refine Z_7 ?_;refine dM (tf rfl rfl Za rfl rfl (fun w hi=>h.IB hi) cY (by omega)) rfl ?_;rintro _ _ ⟨rfl,rfl⟩;have hd:(ints .u8 (List.replicate 1024 0)).take 0++(ints .u8 l).take (min l.length 1024)++(ints .u8 (List.replicate 1024 0)).drop (0+min l.length 1024)=ints .u8 (mZ l):=by(rw[Nat.min_eq_left hl,iG,iG,ma,List.take_zero,bA,bo,List.drop_replicate];simp[ints,mZ])
 rw[hd];refine Z_7 ?_;refine ZO fun b13=>?_
 refine dB 5 1 ?_;refine wl_nilr ?_;refine Z_4 ?_;refine bQ (AL b13 bm bd ⟨none,0,none,0⟩ (Dev.init l)) Zj ?_;refine Zrb ([row _ _ _,slv _ _ _ _ _ _,rdC _ _ _ _,slv _ _ _ _ _ _]) ?_;exact⟨b13,bd,rfl,rfl⟩
end Go.Proofs.YtomjgmbccamgiaaGreatDoor
namespace Go.Ink
open Go.RowKit
def jl(n:Nat)(b:List Int):List Int:=b++List.replicate (n*64 - b.length) 0
end Go.Ink
namespace Go.Proofs.YtomjgmbccamgiaaGreatDoor
open Go.RowKit Go.Ink Go.Proofs.Tryz
attribute [local irreducible] OpY bW
end Go.Proofs.YtomjgmbccamgiaaGreatDoor
namespace Go.Ink
open Go.RowKit
theorem Bo{l:List Int}(h:l.length≤1024):(mZ l).length=1024:=by simp[mZ];omega
theorem Em{l:List Int}(h:u8s l):u8s (mZ l):=fun x hx=>by
 rcases aV.1 hx with hx|hx
 ·exact h x hx
 rw[List.eq_of_mem_replicate hx];decide
theorem init_wf{l:List Int}(h:l.length≤1024)(hb:u8s l):(Dev.init l).wf:=⟨fun x hx=>(by cases hx),Bo h,Em hb,aw _,aw _,aw _⟩
end Go.Ink
namespace Go.Proofs.YtomjgmbccamgiaaGreatDoor
open Go.RowKit Go.Ink Go.Proofs.Tryz
attribute [local irreducible] OpY bW
theorem xN(w:World)(k:IntKind):Rd w k none 0 0 []:=⟨rfl,by simp,by simp,by simp,by simp⟩
end Go.Proofs.YtomjgmbccamgiaaGreatDoor
