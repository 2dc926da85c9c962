/- Lemmas. -/
import Derived.Test.YtbkgmdgackknfaaGreatDoorPax
set_option linter.unusedSimpArgs false
set_option linter.unusedVariables false
set_option maxRecDepth 100000
set_option maxHeartbeats 4000000
namespace Go.Ink
open Go.RowKit Go.Proofs.Tryz
theorem BC{w0:World}{S:List Nat}{cs:List bC}{bb o t:Nat}{xs:List Value}{v:Value}(hc:∀w,Inv w0 S cs w->(row bb xs t).ok w)(hv:xs[o]? =some v):∀w,Inv w0 S cs w->cells [(⟨bb,o,none⟩,v)] w:=λw hi z hz=>by
 rw[aB]at hz;subst hz;have h1:w.heap[bb]? =some (.cells xs.toArray t (0,0)):=hc w hi;simp[World.cell?,h1,hv]
theorem oG.flush{E:EnX}(h:oG E)(ml:Nat)(fl:Int):oG ⟨E.bc,E.mr,E.room,⟨ml,none,0,fl,[],[]⟩,[],E.last,E.Sl,E.Sh,E.begun⟩:=
 ⟨ro.none h.ca.rm _ _ _ _,h.eg.flush,(λy hy=>nomatch hy),h.last⟩
section
attribute [local irreducible] OpY bH
theorem LU(H:sG)(G:Gst)(n:Nat)(hG:G.ok n)(w:World)(hi:Inv w (bD (gsF H G)) (gsF H G) w):
  Ctr prog 60 [.p H.bg] w (gsF H G) (λ_ cs=>∃G',(G'.ok n/\(G'.s,G'.U,G'.d)=(G.s,G.U,G.d))/\cs=gsF H G'):=by
 obtain⟨s,X,Y,U,d,o⟩:=G;cases o with
 |none=>
  refine Zfn func60 ntmps60 hi ?_;refine Z_9 ?_;refine iU ?_;refine Zc (bG (gsF H ⟨s,X,Y,U,d,none⟩) Zj ?_);exact iY (cs':=(gsF H ⟨s,X,Y,U,d,none⟩)) (.inr rfl) Zu rfl ⟨⟨s,X,Y,U,d,none⟩,⟨hG,rfl⟩,rfl⟩
 |some E=>
  have hE:=hG.e E rfl;refine Zfn func60 ntmps60 hi ?_;refine Z_9 ?_;refine oU ?_;refine Zr (Jb (bs:=bD (enF H.be E)) (F:=λ_:Unit=>enF H.be E) (hb:=λ_=>rfl) (p:=λ_=>True) Zd (λ_ _=>?_));refine Z_4 ?_;refine dz (enF H.be E) (λw hi hin=>Mk H.be E w hin) ?_;rintro _ _ ⟨ml,fl,rfl⟩;refine lY (enF H.be ⟨E.bc,E.mr,E.room,⟨ml,none,0,fl,[],[]⟩,[],E.last,E.Sl,E.Sh,E.begun⟩) Zi (Zn (bG (gsF H ⟨s,X,Y,U,d,some ⟨E.bc,E.mr,E.room,⟨ml,none,0,fl,[],[]⟩,[],E.last,E.Sl,E.Sh,E.begun⟩⟩) Zj ?_));exact iY (cs':=(gsF H ⟨s,X,Y,U,d,some ⟨E.bc,E.mr,E.room,⟨ml,none,0,fl,[],[]⟩,[],E.last,E.Sl,E.Sh,E.begun⟩⟩)) (.inr rfl) Zu rfl ⟨⟨s,X,Y,U,d,some ⟨E.bc,E.mr,E.room,⟨ml,none,0,fl,[],[]⟩,[],E.last,E.Sl,E.Sh,E.begun⟩⟩,⟨⟨hG.g,λE' h=>by cases h;exact hE.flush ml fl⟩,rfl⟩,rfl⟩
theorem Ee(b:Nat)(A:Option Addr)(c:Nat)(n:Int)(hn:n<0\/8<=n)(w:World)(h:Rd w .i64 A 1 c [n]):Ctr prog 59 [.p b,.slice A 1 c] w [] (λx cs=>x= .bool false/\cs=[]):=by
 obtain⟨ad,rfl⟩:=h.some_ Wq1;refine Zfs func59 ntmps59 ?_;refine IB ?_;refine bN (λ_:Unit=>[(0,.p b),(5,.w 0),(8,.slice (some ad) 1 c),(9,.i 1),(10,.i 0)]) (λ_=>[]) (λ_=>True) (λ_=>0) (()) ?_ ?_ ?_ ?_
 .trivial
 .exact Zwk
 .exact Zu
 rintro - -;refine Z_6 ?_;refine oU ?_;refine Z_6 ?_;refine Zy (bS (j:=0) rfl Zrf (Zv rfl) (Zv rfl) Wq2 Wq2) ?_;refine dK (bF Zrf Zv0) (dL h rfl) rfl (iT ?_);refine bW rfl (bR) (fD ?_);exact pM
theorem LN(H:sG)(G:Gst)(A:Option Addr)(c:Nat)(n:Int)(w:World)(hi:Inv w (bD (gsF H G)) (gsF H G) w)(h:∀w',cY (bD (gsF H G)) w w'->Rd w' .i64 A 1 c [n]):
  Ctr prog 59 [.p H.D.bi,.slice A 1 c] w (gsF H G) (λv cs=>v= .bool (!(decide (n<0)||decide (8<=n)))/\cs=gsF H ⟨G.s,G.X,G.Y,G.U,bif decide (n<0)||decide (8<=n)then G.d else G.d.raise n.toNat,G.o⟩):=by
 obtain⟨s,X,Y,U,d,o⟩:=G;cases hb:(decide (n<0)||decide (8<=n))with
 |true=>
  rw[Bool.or_eq_true,ae,ae]at hb;refine Ctr.via (cin:=[]) (rest:=gsF H ⟨s,X,Y,U,d,o⟩) hi (λ_=>Ee H.D.bi A c n hb w (h w (cY.refl _ _))) ?_
  grind
 |false=>
  rw[Bool.or_eq_false_iff,ac,ac]at hb;obtain⟨k,rfl⟩:∃k:Nat,n=k:=ap Wq1;obtain⟨R,hs,hs2⟩:∃R,eJ [pT H.D.bi d.Sc d.mask] (gsF H ⟨s,X,Y,U,d,o⟩) R/\eJ [pT H.D.bi (d.raise k).Sc d.mask] (gsF H ⟨s,X,Y,U,d.raise k,o⟩) R:=⟨_,by repeat (first|exact .nil _|(apply eJ.cons;(repeat (first|exact .head _ _|apply Del.tail)))),by repeat (first|exact .nil _|(apply eJ.cons;(repeat (first|exact .head _ _|apply Del.tail))))⟩;refine Ctr.via (hi.perm hs.perm) (λhi2=>nA H.D.bi d.Sc d.mask A c [k] (λx hx=>by grind) w hi2 (λw' hk=>h w' (hi.SC hs hk))) ?_;rintro v cout w' ⟨rfl,rfl⟩ h3;exact⟨_,⟨rfl,rfl⟩,h3.perm hs2.perm.symm⟩
section
variable {bp:Nat} {P:oW} {gs:List MG} {i:Nat} {g:MG} {w:World}
theorem RB{g g':MG}{q:St×Mmu×Dev}(h1:g'.H=g.H)(h2:g'.dead=g.dead)(h:(g'.G.s,g'.G.U,g'.G.d)=q):g'.abs=⟨g.H.L.n,q.1,q.2.1,q.2.2,g.dead⟩:=by
 grind [MG.abs]
theorem sj(hM:lx bp P gs)(hg:gs[i]? =some g)(hd:g.dead=false):g.G.ok g.H.L.n:=((hM.at_ i g hg).2.2.1 hd).2
theorem OV(hM:lx bp P gs)(hg:gs[i]? =some g)(hd:g.dead=false)(hf:g.abs.SA 900000000)(m:Int)(hm0: -9223372036854775808<=m)(hm:m<=10000)(hi:Inv w (bD (iE bp P gs)) (iE bp P gs) w)(ht:∀w',cY (bD (iE bp P gs)) w w'->fE w'):
  Ctr prog 44 [.p g.H.bg,.i m] w (iE bp P gs) (λv cs=>∃P' g',((v= .i (g.abs.ran m)/\g'.abs=g.abs.run m)/\g'.H=g.H/\lx bp P' (gs.set i g'))/\cs=iE bp P' (gs.set i g')):=by
 have ho:g.G.d.out.length<=900000000:=hf.o;have hn:g.H.L.n<=64:=hf.n64;refine(uf (K:=λv G'=>v= .i (g.abs.ran m)/\(G'.s,G'.U,G'.d)=fZ g.H.L.n m g.G.s g.G.U g.G.d) hM hg hd hi (λhK hi2=>LM (g.H.on P) g.G (by show g.H.L.n<=_;omega) (sj hM hg hd) m hm0 Wq1 Wq1 w hi2 (λw' hk=>ht w' (hK w' hk))) ?_).mono ?_
 .rintro v cs ⟨G',⟨h1,h2, -⟩,h3,h4⟩;exact⟨G',⟨h3,h2⟩,h1,h4⟩
 exact Wq222
theorem mgin_ok(hM:lx bp P gs)(hg:gs[i]? =some g)(hd:g.dead=false){k:Nat}(hf:g.abs.SA k)(A:Option Addr)(c:Nat)(l:List Int)(hl:l.length<=1000)(hb:u8s l)(hi:Inv w (bD (iE bp P gs)) (iE bp P gs) w)(h:∀w',cY (bD (iE bp P gs)) w w'->Rd w' .u8 A l.length c l):
  Ctr prog 58 [.p g.H.bg,.slice A l.length c] w (iE bp P gs) (λv cs=>∃P' g',((v= .i (g.abs.d.SD l:Int)/\g'.abs={g.abs with d:=g.abs.d.Sx l})/\g'.H=g.H/\lx bp P' (gs.set i g'))/\cs=iE bp P' (gs.set i g')):=by
 have hok:=sj hM hg hd;refine(uf (K:=λv G'=>v= .i (g.abs.d.SD l:Int)/\(G'.s,G'.U,G'.d)=(g.G.s,g.G.U,g.G.d.Sx l)) hM hg hd hi (λhK hi2=>LR (g.H.on P) g.G hf.i.i64 A c l hl w hi2 (λw' hk=>h w' (hK w' hk))) ?_).mono ?_
 .rintro v cs ⟨Y',h1,h2⟩;exact⟨⟨g.G.s,g.G.X,Y',g.G.U,g.G.d.Sx l,g.G.o⟩,⟨h1,rfl⟩,⟨(Bi hok.g hf.i hb).1,hok.e⟩,h2⟩
 exact Wq222
theorem Hs(hM:lx bp P gs)(hg:gs[i]? =some g)(hd:g.dead=false){k:Nat}(hf:g.abs.SA k)(A:Option Addr)(c:Nat)(n:Int)(hi:Inv w (bD (iE bp P gs)) (iE bp P gs) w)(h:∀w',cY (bD (iE bp P gs)) w w'->Rd w' .i64 A 1 c [n]):
  Ctr prog 59 [.p g.H.D.bi,.slice A 1 c] w (iE bp P gs) (λv cs=>∃P' g',((v= .bool (!(decide (n<0)||decide (8<=n)))/\g'.abs={g.abs with d:=bif decide (n<0)||decide (8<=n)then g.abs.d else g.abs.d.raise n.toNat})/\g'.H=g.H/\lx bp P' (gs.set i g'))/\cs=iE bp P' (gs.set i g')):=by
 have hok:=sj hM hg hd;refine(uf (K:=λv G'=>v= .bool (!(decide (n<0)||decide (8<=n)))/\(G'.s,G'.U,G'.d)=(g.G.s,g.G.U,bif decide (n<0)||decide (8<=n)then g.G.d else g.G.d.raise n.toNat)) hM hg hd hi (λhK hi2=>LN (g.H.on P) g.G A c n w hi2 (λw' hk=>h w' (hK w' hk))) ?_).mono ?_
 .rintro v cs ⟨h1,h2⟩;refine⟨⟨g.G.s,g.G.X,g.G.Y,g.G.U,bif decide (n<0)||decide (8<=n)then g.G.d else g.G.d.raise n.toNat,g.G.o⟩,⟨h1,rfl⟩,⟨?_,hok.e⟩,h2⟩;exact bI (λd=>GOk g.H.L.n g.G.s g.G.U d) hok.g (xL hok.g hf.i n.toNat).1
 exact Wq222
theorem Ht(hM:lx bp P gs)(hg:gs[i]? =some g)(hd:g.dead=false)(hi:Inv w (bD (iE bp P gs)) (iE bp P gs) w):
  Ctr prog 60 [.p g.H.bg] w (iE bp P gs) (λv cs=>∃P' g',(g'.abs=g.abs/\g'.H=g.H/\lx bp P' (gs.set i g'))/\cs=iE bp P' (gs.set i g')):=by
 have hok:=sj hM hg hd;refine(uf (K:=λv G'=>(G'.s,G'.U,G'.d)=(g.G.s,g.G.U,g.G.d)) hM hg hd hi (λhK hi2=>LU (g.H.on P) g.G g.H.L.n hok w hi2) ?_).mono ?_
 .grind
 rintro v cs ⟨P',g',⟨h2,h3,h4,h5⟩,h6⟩;exact⟨P',g',⟨(RB h3 (h4.trans hd.symm) h2).trans rfl,h3,h5⟩,h6⟩
theorem KR(hM:lx bp P gs)(hg:gs[i]? =some g)(hd:g.dead=false)(hi:Inv w (bD (iE bp P gs)) (iE bp P gs) w):
  Ctr prog 61 [.p g.H.bg] w (iE bp P gs) (λv cs=>∃P' g',(g'.abs={g.abs with dead:=true}/\g'.H=g.H/\lx bp P' (gs.set i g'))/\cs=iE bp P' (gs.set i g')):=by
 refine(OT hM hg hd hi).mono ?_;rintro v cs ⟨P',h5,h6⟩;exact⟨P',⟨g.H,g.G,[],[],true⟩,⟨rfl,rfl,h5⟩,h6⟩
end
theorem sP(bm:Nat)(m:Mon)(i:Int)(w:World)(h:(mI bm m).ok w):Ctr prog 38 [.p bm,.i i] w [] (λv cs=>v= .bool (decide (0<=i)&&decide (i<(m.gs.length:Int)))/\cs=[]):=by
 refine Zfs func38 ntmps38 ?_;refine iT ?_;refine fN (bM rfl rfl) (bF Zrf (bU rfl)) (dc kP rfl) rfl (Z_7 ?_);exact pM
theorem mone_no(bm:Nat)(m:Mon)(x:ItR)(hx:(decide (0<=x.RP)&&decide (x.RP<(m.gs.length:Int)))=false)(w:World)(h:(mI bm m).ok w):
  Ctr prog 37 [.p bm,.agg x.cells.toArray] w [] (λv cs=>v= .agg (Ou.cells ⟨0,dT,22⟩ uc).toArray/\cs=[]):=by
 have HI:=sP bm m x.RP;rw[hx]at HI;refine Zfs func37 ntmps37 ?_;refine Z_2 ?_;refine ZO λb3=>?_;refine ZN λb4=>?_
 refine Z_8 ?_;refine ZSe (λw hi=>HI w (bC.old h hi)) ?_;refine Z_3 ?_;refine oU ?_;refine Z_3 ?_;refine iD ?_;exact bG [row b4 (Ou.cells ⟨0,dT,22⟩ uc) 47] Zj M3
theorem KN(bm bp ad c:Nat)(P:oW)(gs:List MG)(i:Nat)(g:MG)(hg:gs[i]? =some g)(kd n:Int)(A:Option Addr)(e nb:Nat)(w:World)(h:(mI bm ⟨bp,some ⟨ad,0,none⟩,c,P,gs⟩).ok w)(h2:(ptrC ⟨bp,some ⟨ad,0,none⟩,c,P,gs⟩).ok w)(h3:(Aa g.H g.G true).ok w):
  Ctr prog 37 [.p bm,.agg #[.i kd,.i (i:Int),.i n,.slice A nb e]] w [] (λv cs=>v= .agg (Ou.cells (if kd=6 then⟨0,mN,0⟩else⟨0,dT,26⟩) uc).toArray/\cs=[]):=by
 have hil:=(aj.1 hg).1;have HI:=sP bm ⟨bp,some ⟨ad,0,none⟩,c,P,gs⟩ i;rw[ay (show(0:Int)<=(i:Int) by omega),ay (show(i:Int)<(gs.length:Int) by omega)]at HI;have hp:(gs.map pU)[i]? =some (pU g):=by rw[aW,hg];rfl
 have hr:RdV w 1 (sA ad) gs.length c (gs.map pU):=eL h2;refine Zfs func37 ntmps37 ?_;refine Z_2 ?_;refine ZO λb3=>?_;refine ZN λb4=>?_
 refine Z_8 ?_;refine ZSe (λw hi=>HI w (bC.old h hi)) ?_;refine ji ?_;refine Z_3 ?_;refine Dd ?_;refine ZFe 2 1 ?_;refine Zy5 3 rfl (bF Zrf Zv0) (dc h rfl) ?_;refine ZFe 4 1 ?_;refine ZG 5 ?_;refine Zy4 6 rfl (bS (j:=i) rfl Zrf (Zv rfl) (Zv rfl) Wq2 Wq2) ?_;refine Zy5 7 rfl (bF Zrf Zv0) (dL hr hp) ?_;refine ZE 8 ?_;refine eQ ?_;refine Z_5 ?_;refine ZSe (λw hi=>yh g.H g.G true w (bC.old h3 hi)) ?_;refine Zw7 ?_ ?_<;>intro hc4
 .have hk:kd≠6:=bR;rw[if_neg hk];refine Z_3 ?_;refine iD ?_;exact bG [row b4 (Ou.cells ⟨0,dT,26⟩ uc) 47] Zj M3
 obtain rfl:kd=6:=bR;rw[if_pos rfl];refine sw ?_;refine iU ?_;refine Z_6 ?_;refine iU ?_;refine Z_6 ?_;refine iU ?_;refine Z_6 ?_;refine iU ?_;refine Z_6 ?_;refine iU ?_;refine Z_6 ?_;refine oU ?_;refine Z_3 ?_;refine ZSe (λw hi=>Ch g.H g.G w (bC.old h3 hi)) ?_;refine ZA ?_;refine mC ?_;exact bG [row b4 (Ou.cells ⟨0,mN,0⟩ uc) 47] Zj M3
abbrev DY(bm bp ad c n:Nat)(ps:List Value)(P:oW)(cs:List bC):List bC:=[row bm [.p bp,.slice (sA ad) n c] 85,slv 86 1 (sA ad) n c ps,ia bp P,bQ cs]
theorem KM(bm bp ad c:Nat)(P:oW)(gs:List MG)(i:Nat)(g:MG)(hM:lx bp P gs)(hg:gs[i]? =some g)(hd:g.dead=false)(hf:g.abs.SA 900000000)(kd n:Int)(A:Option Addr)(e:Nat)(b:List Int)(hb:u8s b)(hbl:b.length<=1000)(hn: -9223372036854775808<=n)(w:World)
  (hi:Inv w (bD (DY bm bp ad c gs.length (gs.map pU) P (gs.flatMap MG.cs))) (DY bm bp ad c gs.length (gs.map pU) P (gs.flatMap MG.cs)) w) (hA:∀w',cY (bD (DY bm bp ad c gs.length (gs.map pU) P (gs.flatMap MG.cs))) w w'->Rd w' .u8 A b.length e b) (ht:∀w',cY (bD (DY bm bp ad c gs.length (gs.map pU) P (gs.flatMap MG.cs))) w w'->fE w'):
  Ctr prog 37 [.p bm,.agg #[.i kd,.i (i:Int),.i n,.slice A b.length e]] w (DY bm bp ad c gs.length (gs.map pU) P (gs.flatMap MG.cs))
   (λv cs=>∃P' g' Y L,(g'.abs=(g.abs.one ⟨kd,i,n,b⟩).1/\g'.H=g.H/\lx bp P' (gs.set i g')/\∀w,(bQ L).ok w->xf w (g.abs.one ⟨kd,i,n,b⟩).2.v Y)/\v= .agg (Ou.cells (g.abs.one ⟨kd,i,n,b⟩).2 Y).toArray/\cs=bQ L::DY bm bp ad c gs.length (gs.map pU) P' ((gs.set i g').flatMap MG.cs)):=by
 have hil:=(aj.1 hg).1;have HI:∀w,(row bm [.p bp,.slice (sA ad) gs.length c] 85).ok w->_:=λw h=>sP bm ⟨bp,some ⟨ad,0,none⟩,c,P,gs⟩ i w h
 rw[ay (show(0:Int)<=(i:Int) by omega),ay (show(i:Int)<(gs.length:Int) by omega)]at HI;have hp:(gs.map pU)[i]? =some (pU g):=by rw[aW,hg];rfl
 obtain⟨gn,hgn⟩:=Zgn (gs.length);obtain⟨ps,hps⟩:=Zgn (gs.map pU);have hda:g.abs.dead=false:=hd;have hwf:=hf.wf;have HR:=λ(m:Int) hm0 hm w hi ht=>OV (w:=w) hM hg hd hf m hm0 hm hi ht
 have HN:=λw hi h=>mgin_ok (w:=w) hM hg hd hf A e b hbl hb hi h
 have HRa:=λB cb w hi h=>Hs (w:=w) hM hg hd hf B cb n hi h
 have HF:=λw hi=>Ht (w:=w) hM hg hd hi
 have HK:=λw hi=>KR (w:=w) hM hg hd hi
 have hse:∀{w0 w:World} {S:List Nat} {cs rest:List bC},Inv w0 S cs w->eJ (iE bp P gs) cs rest->∀c,c∈gsF (g.H.on P) g.G->c.ok w:=λhi hs=>DX hM hg hd hi hs
 have hV:=FY (g.H.on P) g.G (sj hM hg hd) (show g.G.d.out.length<=1000000000 from aN hf.o Wq7);have hvw:g.abs.view=g.G.view:=by
  show(bif g.abs.dead then _ else _)=_;rw[hda]
  rfl
 have hst:g.G.s.d.length<=16/\g.G.s.r.length<=16:=⟨(St.fits hf.g.right).1,(St.fits hf.g.right).2.1⟩;have hself:gs.set i g=gs:=ze hg;obtain⟨a,ha⟩:=Zgn (g.abs);rw[ha]at hda HR HN HRa HF HK hvw|-;rw[hgn,hps]at hi hA ht|-;rw[hgn]at HI;rw[hps]at hp;refine Zfn func37 ntmps37 hi ?_;refine Z_2 ?_;refine ZO λb3=>?_;refine ZN λb4=>?_
 refine Z_8 ?_;refine ZSe (λw hi=>HI w (hi.get Zh)) ?_;refine ji ?_;refine Z_3 ?_;refine Dd ?_;refine ZFe 2 1 ?_;refine ZG 3 ?_;refine ZFe 4 1 ?_;refine ZG 5 ?_;refine Zy4 6 rfl (bV (j:=i) (sz:=1) (r:=i) rfl Zrf (Zv rfl) (Zv rfl) Wq2 Wq2 Wq1) ?_;refine Zy5 7 rfl (bF Zrf Zv0) (cM Zh hp) ?_;refine ZE 8 ?_;refine eQ ?_;refine Z_5 ?_;refine ZSe (λw hi=>yh (g.H.on P) g.G false w (hse hi Zi _ cH)) ?_;refine Z_7 ?_;refine iU ?_;refine sw ?_;refine ZW ?_ ?_<;>intro hc8
 .obtain rfl:kd=1:=bR;have e1:a.one ⟨1,i,n,b⟩=(a.run (min n 10000),⟨a.ran (min n 10000),dT,0⟩):=(by unfold Ag.one;grind);rw[e1];refine Z_5 ?_;refine Zy (Ns (Zv rfl) (Zv rfl) (show _=min n 10000 from by omega)) ?_;refine dz (iE bp P gs) (λw hi hin=>HR (min n 10000) Wq1 Wq1 w hin (λw' hk=>ht w' (hi.SC Zi hk))) ?_;rintro _ _ ⟨P',g',⟨⟨rfl,h1⟩,h2,h3⟩,rfl⟩;refine ZA ?_;refine mC ?_;exact kt (bG (row b4 (Ou.cells ⟨a.ran (min n 10000),dT,0⟩ uc) 47::bQ []::DY bm bp ad c gn ps P' ((gs.set i g').flatMap MG.cs)) Zj Wq44)
 refine Zw6 ?_ ?_<;>intro hc10
 .obtain rfl:kd=2:=bR;have e1:a.one ⟨2,i,n,b⟩=({a with d:=a.d.Sx b},⟨a.d.SD b,dT,0⟩):=(by unfold Ag.one;grind);rw[e1];refine Z_5 ?_;refine dz (iE bp P gs) (λw hi hin=>HN w hin (λw' hk=>hA w' (hi.SC Zi hk))) ?_;rintro _ _ ⟨P',g',⟨⟨rfl,h1⟩,h2,h3⟩,rfl⟩;refine ZA ?_;refine mC ?_;exact kt (bG (row b4 (Ou.cells ⟨a.d.SD b,dT,0⟩ uc) 47::bQ []::DY bm bp ad c gn ps P' ((gs.set i g').flatMap MG.cs)) Zj Wq44)
 refine Zw6 ?_ ?_<;>intro hc12
 .obtain rfl:kd=3:=bR;have e1:a.one ⟨3,i,n,b⟩=(bif decide (n<0)||decide (8<=n)then(a,⟨0,dT,1⟩)else({a with d:=a.d.raise n.toNat},⟨0,dT,0⟩)):=(by unfold Ag.one;grind);rw[e1];refine Zs (ig ⟨λj=>List.elem j [10],[]⟩ [(0,0),(1,0),(2,0),(3,4),(4,0),(5,0),(6,1),(7,0),(8,4),(9,2),(10,2),(11,0)] Zk Zk ?_);refine nN ?_;refine dx rfl (Gw Zv0) rfl (dx rfl (dF 0 rfl Zv0 Zf) rfl (kb rfl (bF Zrf (Zv rfl)) (BC (λw hi=>hse hi Zi (Aa (g.H.on P) g.G false) cH) rfl) rfl (dx rfl (Gw Zv0) rfl (dx rfl (dF 0 rfl Zv0 Zf) rfl (AZ rfl (bF Zrf (Zv rfl)) (BC (λw hi=>hse hi Zi (MH (g.H.on P).D (g.H.on P).L.bm g.G.d) cH) rfl) rfl (dx rfl (dF 2 rfl Zv0 Zf) rfl (MS ?_)))))));refine eW ?_;refine la rfl rfl (i6 rfl rfl Zrf Zrf rfl rfl) ZJ rfl ?_;rintro _ _ ⟨b57,rfl,rfl⟩;refine eW ?_;refine ZcSn (iE bp P gs) (λw hi hin=>HRa (sA b57) 1 w hin (λw' hk=>hi.Sr Zi (show Has _ (slv 3 1 (sA b57) 1 1 [.i n])from Zh) hk)) ?_;rintro _ _ ⟨P',g',⟨⟨rfl,h1⟩,h2,h3⟩,rfl⟩;refine dx rfl (Nr Zv0 rfl) rfl (lb (Zt (ZW ?_ ?_)))<;>intro hc13
  .have hbd:(decide (n<0)||decide (8<=n))=true:=bR;rw[hbd]at h1|-;refine Z_3 ?_;refine mC ?_;exact kt (bG (row b4 (Ou.cells ⟨0,dT,1⟩ uc) 47::bQ []::DY bm bp ad c gn ps P' ((gs.set i g').flatMap MG.cs)) Zj Wq44)
  have hbd:(decide (n<0)||decide (8<=n))=false:=bR;rw[hbd]at h1|-;exact Wq137
 refine Zw6 ?_ ?_<;>intro hc15
 .obtain rfl:kd=4:=bR;have e1:a.one ⟨4,i,n,b⟩=(a,⟨0,dT,0⟩):=(by unfold Ag.one;grind);rw[e1];refine Z_2 ?_;refine dz (iE bp P gs) (λw hi hin=>HF w hin) ?_;rintro _ _ ⟨P',g',⟨h1,h2,h3⟩,rfl⟩;exact Wq137
 refine Zw6 ?_ ?_<;>intro hc17
 .obtain rfl:kd=5:=bR;have e1:a.one ⟨5,i,n,b⟩=({a with dead:=true},⟨0,dT,0⟩):=(by unfold Ag.one;grind);rw[e1];refine Z_2 ?_;refine dz (iE bp P gs) (λw hi hin=>HK w hin) ?_;rintro _ _ ⟨P',g',⟨h1,h2,h3⟩,rfl⟩;exact Wq137
 refine Zw6 ?_ ?_<;>intro hc19
 .obtain rfl:kd=6:=bR;have e1:a.one ⟨6,i,n,b⟩=(a,⟨0,a.view,0⟩):=(by unfold Ag.one;grind);rw[e1,hvw];refine Z_3 ?_;refine ZSn (λw hi=>hV w (hse hi Zi)) ?_;rintro _ _ ⟨Y,rfl,rfl⟩;refine lY (vwC g.G.view Y) Zi (ZA ?_);refine mC ?_;exact bG (row b4 (Ou.cells ⟨0,g.G.view,0⟩ Y) 47::bQ (vwC g.G.view Y)::DY bm bp ad c gn ps P (gs.flatMap MG.cs)) Zj (pR (cs':=(bQ (vwC g.G.view Y)::DY bm bp ad c gn ps P (gs.flatMap MG.cs))) (.inl rfl) Zu rfl rfl Zh Zrf Zrf ⟨P,g,Y,vwC g.G.view Y,⟨ha,rfl,hself.symm▸hM,λw h=>vw_rd (jk h) (by show g.G.s.d.length*4<=_;omega) (by show g.G.s.r.length*4<=_;omega)⟩,rfl,by rw[hself]⟩)
 have e1:a.one ⟨kd,i,n,b⟩=(a,⟨0,dT,1⟩):=(by unfold Ag.one;grind);rw[e1];refine Z_3 ?_;refine mC ?_;exact kt (bG (row b4 (Ou.cells ⟨0,dT,1⟩ uc) 47::bQ []::DY bm bp ad c gn ps P (gs.flatMap MG.cs)) Zj (pR (cs':=(bQ []::DY bm bp ad c gn ps P (gs.flatMap MG.cs))) (.inl rfl) Zu rfl rfl Zh Zrf Zrf ⟨P,g,uc,[],⟨ha,rfl,hself.symm▸hM,λw _=>tN w⟩,rfl,by rw[hself]⟩))
theorem CZ.ok.RU{w0 w:World}{cs:List bC}{a:CZ}(h:a.ok w0)(hi:Inv w0 [] cs w):a.ok w:=⟨h.v,h.at_,h.rd.RU hi,h.bs⟩
structure ItR.ok(W:World)(x:ItR):Prop where
 rd:Rd W .u8 x.A x.b.length x.c x.b
 bs:u8s x.b
structure BoR where
 A:Option Addr
 c:Nat
 l:List CZ
 RG:Int
 B:Option Addr
 e:Nat
 k:List Int
abbrev BoR.cells(x:BoR):List Value:=[.slice x.A x.l.length x.c,.i x.RG,.slice x.B x.k.length x.e]
theorem BoR.RO(x:BoR):x.cells.length=3:=rfl
structure BoR.ok(W:World)(x:BoR):Prop where
 rd:RdV W 5 x.A x.l.length x.c (x.l.flatMap CZ.cells)
 raw:∀a,a∈x.l->a.ok W
 dk:Rd W .u8 x.B x.k.length x.e x.k
 bs:u8s x.k
theorem ItR.ok.RU{w0 w:World}{cs:List bC}{x:ItR}(h:x.ok w0)(hi:Inv w0 [] cs w):x.ok w:=⟨h.rd.RU hi,h.bs⟩
theorem BoR.ok.RU{w0 w:World}{cs:List bC}{x:BoR}(h:x.ok w0)(hi:Inv w0 [] cs w):x.ok w:=⟨h.rd.RU hi,λa ha=>(h.raw a ha).RU hi,h.dk.RU hi,h.bs⟩
set_option maxRecDepth 100000 in
theorem KC{W:World}{es:List Value}(h:Arg prog W 35 es):∃x:ItR,es=x.cells/\x.ok W:=by
 obtain⟨hl,hf⟩:=h.struct rfl;have hl:es.length=4:=hl
 match es,hl with
 |[c0,c1,c2,c3],_=>
  have k0:Arg prog W _ [c0]:=hf 0 _ rfl;have k1:Arg prog W _ [c1]:=hf 1 _ rfl;have k2:Arg prog W _ [c2]:=hf 2 _ rfl;have k3:Arg prog W _ [c3]:=hf 3 _ rfl;obtain⟨n0,rfl,m0⟩:=Rx rfl k0;obtain⟨n1,rfl,m1⟩:=Rx rfl k1;obtain⟨n2,rfl,m2⟩:=Rx rfl k2;obtain⟨A2,d2,x2,e2,r2,b2,z2⟩:=k3.ints (e:=5) (k:= .u8) rfl rfl rfl;obtain rfl:c3=_:=by simpa using e2
  exact⟨⟨n0,n1,n2,A2,d2,x2⟩,rfl,⟨r2,λx hx=>Je (z2 x hx)⟩⟩
set_option maxRecDepth 100000 in
theorem gM{W:World}{v:Value}(h:wP prog W 23 v):∃(A:Option Addr) (c:Nat) (l:List ItR),v= .slice A l.length c/\RdV W 4 A l.length c (l.flatMap ItR.cells)/\∀x,x∈l->x.ok W:=by
 obtain⟨A,c,xs,h1,h2,h3,h4⟩:=wP.rows (e:=35) rfl rfl ItR.RO ⟨0,0,0,none,0,[]⟩ (λes he=>KC he) h;exact⟨A,c,xs,h1,h2,h3⟩
theorem Hd{w0:World}{S:List Nat}{cs:List bC}{sz n c b:Nat}{ad:Addr}{xs vs:List Value}(h:∀w',cY S w0 w'->RdV w' sz (some ad) n c xs)(hv:∀j v,vs[j]? =some v->xs[b+j]? =some v):∀w,Inv w0 S cs w->cells (ez (ad.add b) 0 vs) w:=λw hi=>
 dY (cs:=[]) (h w hi.Sf) hv w ⟨cY.refl _ _,by simp[bD],(λ_ h=>by cases h),(λ_ h=>by simp[bD]at h)⟩
theorem Inv.join0{w0 w:World}{S:List Nat}{cs:List bC}(h:Inv w0 S cs w):Inv w0 S (bQ []::cs) w:=(h.more (vP w)).perm List.perm_append_comm
theorem Hr{bm:Nat}{m:Mon}:∃r,eJ (iE m.bp m.P m.gs) (dq bm m) r:=⟨_,by repeat (first|exact .nil _|(apply eJ.cons;(repeat (first|exact .head _ _|apply Del.tail))))⟩
theorem mone_ok(bm:Nat)(m:Mon)(k:Nat)(hm:m.ok k)(hk:k<=900000000)(x:ItR)(hb:u8s x.b)(hbl:x.b.length<=1000)(hn: -9223372036854775808<=x.n)(w:World)(hi:Inv w (bD (dq bm m)) (dq bm m) w)(hA:∀w',cY (bD (dq bm m)) w w'->Rd w' .u8 x.A x.b.length x.c x.b)(ht:∀w',cY (bD (dq bm m)) w w'->fE w'):
  Ctr prog 37 [.p bm,.agg x.cells.toArray] w (dq bm m) (λv cs=>∃m' Y L,(m'.ok (k+80000)/\m'.l=(dB m.l x.it).1/\∀w,(bQ L).ok w->xf w (dB m.l x.it).2.v Y)/\v= .agg (Ou.cells (dB m.l x.it).2 Y).toArray/\cs=bQ L::dq bm m'):=by
 obtain⟨kd,gu,n,A,e,b⟩:=x;dsimp only at hb hbl hn hA;cases hc:(decide (0<=gu)&&decide (gu<(m.gs.length:Int)))with
 |false=>
  have e1:dB m.l ⟨kd,gu,n,b⟩=(m.l,⟨0,dT,22⟩):=FE (by rw[m.len];exact hc);show Ctr _ _ _ _ _ (λv cs=>∃m' Y L,(m'.ok (k+80000)/\m'.l=(dB m.l ⟨kd,gu,n,b⟩).1/\∀w,(bQ L).ok w->xf w (dB m.l ⟨kd,gu,n,b⟩).2.v Y)/\v= .agg (Ou.cells (dB m.l ⟨kd,gu,n,b⟩).2 Y).toArray/\cs=bQ L::dq bm m');rw[e1];refine Ctr.via (cin:=[]) (rest:=dq bm m) hi (λ_=>mone_no bm m ⟨kd,gu,n,A,e,b⟩ hc w (hi.ok _ (.head _))) ?_;rintro v cout w' ⟨rfl,rfl⟩ h3;exact⟨_,⟨m,uc,[],⟨hm.le Wq1,rfl,λw _=>tN w⟩,rfl,rfl⟩,Inv.join0 h3⟩
 |true=>
  rw[aD,ae,ae]at hc;obtain⟨i,rfl⟩:∃i:Nat,gu=i:=ap hc.1;have hil:i<m.gs.length:=by omega
  obtain⟨g,hg⟩:∃g,m.gs[i]? =some g:=⟨_,aa hil⟩;have hga:=Mon.at_ hg;have hf:g.abs.SA k:=hm.f _ (ak hga);have e1:dB m.l ⟨kd,i,n,b⟩=(m.l.set i (g.abs.one ⟨kd,i,n,b⟩).1,(g.abs.one ⟨kd,i,n,b⟩).2):=ug hga rfl;have hfi:=Hq (x:=⟨kd,i,n,b⟩) hm.f hb;show Ctr _ _ _ _ _ (λv cs=>∃m' Y L,(m'.ok (k+80000)/\m'.l=(dB m.l ⟨kd,i,n,b⟩).1/\∀w,(bQ L).ok w->xf w (dB m.l ⟨kd,i,n,b⟩).2.v Y)/\v= .agg (Ou.cells (dB m.l ⟨kd,i,n,b⟩).2 Y).toArray/\cs=bQ L::dq bm m');rw[e1]at hfi|-;obtain⟨r,hs⟩:=Hr (bm:=bm) (m:=m);obtain⟨bp,A0,c,P,gs⟩:=m;dsimp only at hg hil hs;obtain⟨ad,rfl⟩:=dV (hi.ok (slv 86 1 A0 gs.length c (gs.map pU)) (.tail _ (.head _))) Wq1;cases hd:g.dead with
  |true=>
   have hdd:g.abs.dead=true:=hd;obtain⟨q1,q2⟩:=zH (x:=⟨kd,i,n,b⟩) hdd;rw[q1,q2];refine Ctr.via (cin:=[]) (rest:=dq bm ⟨bp,some ⟨ad,0,none⟩,c,P,gs⟩) hi (λ_=>KN bm bp ad c P gs i g hg kd n A e b.length w (hi.ok _ (.head _)) (hi.ok _ (.tail _ (.head _))) (ue hg hd hi hs)) ?_;rintro v cout w' ⟨rfl,rfl⟩ h3;refine⟨_,⟨⟨bp,some ⟨ad,0,none⟩,c,P,gs⟩,uc,[],⟨hm.le Wq1,(ze hga).symm,λw _=>?_⟩,rfl,rfl⟩,Inv.join0 h3⟩
   grind [mN,dT,uc,AA,tN]
  |false=>
   refine(KM bm bp ad c P gs i g hm.g hg hd (hf.le hk) kd n A e b hb hbl hn w hi hA ht).mono ?_;rintro v cs ⟨P',g',Y,L,⟨h1,h2,h3,h4⟩,h5,h6⟩;have e5:(⟨bp,some ⟨ad,0,none⟩,c,P',gs.set i g'⟩:Mon).l=(Mon.l ⟨bp,some ⟨ad,0,none⟩,c,P,gs⟩).set i (g.abs.one ⟨kd,i,n,b⟩).1:=by
    rw[<-h1];exact List.map_set
   refine⟨⟨bp,some ⟨ad,0,none⟩,c,P',gs.set i g'⟩,Y,L,⟨⟨h3,by grind⟩,e5,h4⟩,h5,?_⟩;rw[h6];show _=bQ L::[row bm [.p bp,.slice (sA ad) (gs.set i g').length c] 85,slv 86 1 (sA ad) (gs.set i g').length c ((gs.set i g').map pU),ia bp P',bQ ((gs.set i g').flatMap MG.cs)];rw[List.length_set,Pz hg h2]
theorem ouR_one(z:OuR):∀u∈z.cells,u.oneCell'=true:=mO rfl
abbrev ouF(A:Option Addr)(c:Nat)(Z:List OuR)(J:List bC):List bC:=[slv 47 25 A Z.length c (Z.flatMap OuR.cells),bQ J]
def OuOk(J:List bC)(Z:List OuR):Prop:=∀w,(bQ J).ok w->∀z,z∈Z->xf w z.o.v z.Y
theorem OuOk.snoc{J L:List bC}{Z:List OuR}{z:OuR}(h:OuOk J Z)(hz:∀w,(bQ L).ok w->xf w z.o.v z.Y):OuOk [bQ L,bQ J] (Z++[z]):=λw hj y hy=>by
 have e:∀c,c∈[bQ L,bQ J]->c.ok w:=jk hj;rcases aF.1 hy with q|q
 .exact h w (e _ (.tail _ (.head _))) y q
 grind
theorem xR(bm:Nat)(m:Mon)(k:Nat)(hm:m.ok k)(xs:List ItR)(hk:k+80000*xs.length<=900000000)(A:Option Addr)(c:Nat)(hx:∀x,x∈xs->u8s x.b/\x.b.length<=1000/\ -9223372036854775808<=x.n)(w:World)(hi:Inv w (bD (dq bm m)) (dq bm m) w)(hA:∀w',cY (bD (dq bm m)) w w'->RdV w' 4 A xs.length c (xs.flatMap ItR.cells))(hB:∀w',cY (bD (dq bm m)) w w'->∀x,x∈xs->Rd w' .u8 x.A x.b.length x.c x.b)(ht:∀w',cY (bD (dq bm m)) w w'->fE w'):
  Ctr prog 17 [.p bm,.slice A xs.length c] w (dq bm m) (λv cs=>∃m' Z A' c' J,(m'.ok (k+80000*xs.length)/\m'.l=DW m.l (xs.map ItR.it)/\Z.map OuR.o=wW m.l (xs.map ItR.it)/\OuOk J Z)/\v= .slice A' Z.length c'/\cs=ouF A' c' Z J++dq bm m'):=by
 obtain⟨l0,hl0⟩:=Zgn (m.l);rw[hl0];obtain⟨S,hS⟩:=Zgn (bD (dq bm m));refine Zfn func17 ntmps17 hi ?_;rw[hS]at hA hB ht|-;refine kM ?_;refine cT 47 25 (jS (dN (ouF none 0 [] []++dq bm m) Zj (Z_6 ?_)));refine bN (λq:Nat×Mon×List OuR×Option Addr×Nat×List bC=>[(0,.p bm),(5,.slice q.2.2.2.1 q.2.2.1.length q.2.2.2.2.1),(8,.slice A xs.length c),(9,.i (xs.length:Int)),(10,.i (q.1:Int))]) (λq=>ouF q.2.2.2.1 q.2.2.2.2.1 q.2.2.1 q.2.2.2.2.2++dq bm q.2.1) (λq=>q.1<=xs.length/\q.2.1.ok (k+80000*q.1)/\q.2.1.l=DW l0 ((xs.take q.1).map ItR.it)/\q.2.2.1.map OuR.o=wW l0 ((xs.take q.1).map ItR.it)/\OuOk q.2.2.2.2.2 q.2.2.1) (λq=>xs.length - q.1) ((⟨0,m,[],none,0,[]⟩:Nat×Mon×List OuR×Option Addr×Nat×List bC)) ?_ ?_ ?_ ?_
 .exact⟨au _,hm,hl0,rfl,λw _ z hz=>by cases hz⟩
 .exact Zwk
 .exact Zu
 rintro⟨i,m,Z,A2,c2,J⟩ ⟨hi0,hm,hl,hZ,hJ⟩;dsimp only at hi0 hm hl hZ hJ|-;have hZl:Z.length=i:=(by have e:=congrArg List.length hZ;rw[aV,vq,aV,aI]at e;omega);refine Zw6 ?_ ?_<;>intro hc3
 .simp only[ae]at hc3;have hil:i<xs.length:=Wq1;obtain⟨x,hxi⟩:∃x,xs[i]? =some x:=⟨_,aa hil⟩;have hxm:=ak hxi;obtain⟨hx1,hx2,hx3⟩:=hx x hxm;obtain⟨ad,rfl⟩:=(hA w (cY.refl _ _)).some_ Wq1;have htk:(xs.take (i+1)).map ItR.it=(xs.take i).map ItR.it++[x.it]:=(by rw[List.take_add_one,hxi];simp);have hM:=mone_ok bm m (k+80000*i) hm Wq1 x hx1 hx2 hx3;rw[hl]at hM;have hsn:=BT (l:=l0) (xs:=(xs.take i).map ItR.it) (x:=x.it);have hso:=xQ (l:=l0) (xs:=(xs.take i).map ItR.it) (x:=x.it);rw[<-htk]at hsn hso;rw[<-hsn]at hM;obtain⟨o,ho⟩:=Zgn ((dB (DW l0 ((xs.take i).map ItR.it)) x.it).2);rw[ho]at hM hso;refine Z_6 ?_;refine wJ ?_;refine dK (bP (vs:=x.cells) Zrf Zrf Zv0) (Hd hA (λj v hj=>da ItR.RO (i:=j) hxi hj)) rfl ?_;refine ZN λb7=>?_
  refine jh ?_;refine dz (dq bm m) (λw hi hin=>hM w hin (λw' hk=>hB w' (hi.SC Zi hk) x hxm) (λw' hk=>ht w' (hi.SC Zi hk))) ?_;rintro _ _ ⟨m2,Y,L,⟨hm2,hl2,hL⟩,rfl,rfl⟩;refine jj ?_;rintro _ _ ⟨b18,rfl,rfl⟩;refine fW (cj (e:=47) (sz:=25) (bytes:=232) rfl rfl Za rfl rfl (λw hi=>hi.rd (show Has _ (slv 47 25 (sA b18) 1 1 (OuR.cells ⟨o,Y⟩))from Zh)) (ouR_one ⟨o,Y⟩) gq Wq1) rfl ?_;rintro _ _ ⟨A3,c3,rfl,rfl⟩;rw[show Z.length+1=(Z++[(⟨o,Y⟩:OuR)]).length from(by grind),show Z.flatMap OuR.cells++OuR.cells ⟨o,Y⟩=(Z++[(⟨o,Y⟩:OuR)]).flatMap OuR.cells from(by grind)];refine lY [bQ L,bQ J] Zi (gv ?_);have hZ2:(Z++[(⟨o,Y⟩:OuR)]).map OuR.o=wW l0 ((xs.take (i+1)).map ItR.it):=bR;refine bJ ((⟨i+1,m2,Z++[(⟨o,Y⟩:OuR)],A3,c3,[bQ L,bQ J]⟩:Nat×Mon×List OuR×Option Addr×Nat×List bC)) ?_ ?_ ?_
  .exact⟨⟨show i+1<=xs.length by omega,hm2.le Wq1,hl2,hZ2,hJ.snoc hL⟩,show xs.length - (i+1)<xs.length - i by omega⟩
  .exact Zwk
  exact Zj
 simp only[ac]at hc3;obtain rfl:i=xs.length:=Wq1;refine fD ?_;refine Zrb ((ouF A2 c2 Z J++dq bm m)) ?_;rw[bl]at hl hZ;exact⟨m,Z,A2,c2,J,⟨hm,hl,hZ,hJ⟩,rfl,rfl⟩
theorem sa(bm:Nat)(m:Mon)(w:World)(h:(mI bm m).ok w):Ctr prog 22 [.p bm] w [] (λv cs=>v= .i (m.l.length:Int)/\cs=[]):=by
 rw[m.len];refine Zfs func22 ntmps22 ?_;refine tH ?_;refine Z_5 ?_;exact pM
theorem Ho(bm:Nat)(m:Mon)(i:Int)(hx:(decide (0<=i)&&decide (i<(m.gs.length:Int)))=false)(w:World)(h:(mI bm m).ok w):
  Ctr prog 19 [.p bm,.i i] w [] (λv cs=>v= .tuple #[vv dT uc,.bool false]/\cs=[]):=by
 have HI:=sP bm m i;rw[hx]at HI;refine Zfs func19 ntmps19 ?_;refine Z_2 ?_;refine ZN λb4=>?_;refine Z_8 ?_;refine ZSe (λw hi=>HI w (bC.old h hi)) ?_;refine Z_3 ?_;refine oU ?_;refine Z_3 ?_;refine mC ?_;refine bG [row b4 (dT.cells uc) 45] Zj (CW ?_);exact fy
theorem ft(bm:Nat)(m:Mon)(k:Nat)(hm:m.ok k)(hk:k<=1000000000)(i:Nat)(a:Ag)(ha:m.l[i]? =some a)(w:World){w0:World}{S:List Nat}{cs rest:List bC}(hi:Inv w0 S cs w)(hs:eJ (dq bm m) cs rest):
  Ctr prog 19 [.p bm,.i (i:Int)] w [] (λv cs=>∃Y L,(∀w,(bQ L).ok w->xf w a.view Y)/\v= .tuple #[vv a.view Y,.bool true]/\cs=[bQ L]):=by
 obtain⟨g,hg,rfl⟩:=Mon.get ha;have hil:=(aj.1 hg).1;have hf:g.abs.SA k:=hm.f _ (ak ha);have h1:(mI bm m).ok w:=hi.okS hs _ (.head _);have h2:(ptrC m).ok w:=hi.okS hs _ (.tail _ (.head _));have hi2:Inv w0 S (dq bm m++rest) w:=hi.perm hs.perm;obtain⟨r,hs2⟩:∃r,eJ (iE m.bp m.P m.gs) (dq bm m++rest) r:=⟨_,by repeat (first|exact .nil _|(apply eJ.cons;(repeat (first|exact .head _ _|apply Del.tail))))⟩;obtain⟨ad,hA⟩:=dV h2 Wq1;have HI:=sP bm m i;rw[ay (show(0:Int)<=(i:Int) by omega),ay (show(i:Int)<(m.gs.length:Int) by omega)]at HI;have hp:(m.gs.map pU)[i]? =some (pU g):=by rw[aW,hg];rfl
 have hr:RdV w 1 m.A m.gs.length m.c (m.gs.map pU):=eL h2;rw[hA]at hr;have hst:g.G.s.d.length<=16/\g.G.s.r.length<=16:=⟨(St.fits hf.g.right).1,(St.fits hf.g.right).2.1⟩;cases hd:g.dead with
 |true=>
  have hv:g.abs.view=mN:=by
   show(bif g.dead then _ else _)=_;rw[hd]
   rfl
  have h3:=ue hg hd hi2 hs2;rw[hv];refine Zfs func19 ntmps19 ?_;refine Z_2 ?_;refine ZN λb4=>?_;refine Z_8 ?_;refine ZSe (λw hi=>HI w (bC.old h1 hi)) ?_;refine ji ?_;refine Wq57 ?_;refine ZSe (λw hi=>Ch g.H g.G w (bC.old h3 hi)) ?_;refine iD ?_;exact kt (bG [row b4 (mN.cells uc) 45,bQ []] Zj (ph (cs':=[bQ []]) (.inl rfl) Zu rfl rfl rfl Zh Zrf Zrf ⟨uc,[],λw _=>AA w,rfl,rfl⟩))
 |false=>
  have hv:g.abs.view=g.G.view:=by
   show(bif g.dead then _ else _)=_;rw[hd]
   rfl
  have h3:=DX hm.g hg hd hi2 hs2;rw[hv];refine Zfs func19 ntmps19 ?_;refine Z_2 ?_;refine ZN λb4=>?_;refine Z_8 ?_;refine ZSe (λw hi=>HI w (bC.old h1 hi)) ?_;refine ji ?_;refine Wq57 ?_;refine ZSn (λw hi=>FY (g.H.on m.P) g.G (sj hm.g hg hd) (aN hf.o hk) w (λc hc=>bC.old (h3 c hc) hi)) ?_;rintro _ _ ⟨Y,rfl,rfl⟩;refine lY (vwC g.G.view Y) Zi (iD ?_);exact bG [row b4 (g.G.view.cells Y) 45,bQ (vwC g.G.view Y)] Zj (ph (cs':=[bQ (vwC g.G.view Y)]) (.inl rfl) Zu rfl rfl rfl Zh Zrf Zrf ⟨Y,vwC g.G.view Y,λw h=>vw_rd (jk h) (by show g.G.s.d.length*4<=_;omega) (by show g.G.s.r.length*4<=_;omega),rfl,rfl⟩)
theorem OW(bm:Nat)(m:Mon)(w:World)(hl:dg m.P.B m.P.ow m.P.pr)(h:(mI bm m).ok w)(h2:(ia m.bp m.P).ok w):Ctr prog 26 [.p bm] w [] (λv cs=>v= .i (nE m.P.ow 256:Int)/\cs=[]):=by
 refine Zfs func26 ntmps26 ?_;refine tH ?_;refine ZSe (λw hi=>Oz m.bp m.P.B m.P.ow m.P.pr hl w (bC.old h2 hi)) ?_;exact mF
theorem Ctr.same{P:Program}{f:FuncId}{args:List Value}{w:World}{cs:List bC}{X:Value}(hi:Inv w (bD cs) cs w)(h:Ctr P f args w [] (λv c=>v=X/\c=[])):Ctr P f args w cs (λv c=>v=X/\c=cs):=
 Ctr.via (cin:=[]) (rest:=cs) hi (λ_=>h) λv cout w' ⟨h1,h2⟩ h3=>⟨cs,⟨h1,rfl⟩,by grind⟩
structure Im where
 A:Option Addr
 c:Nat
 l:List Int
 B:Option Addr
 e:Nat
 k:List Int
 n:Int
abbrev Im.cells(x:Im):List Value:=[.slice x.A x.l.length x.c,.slice x.B x.k.length x.e,.i x.n]
theorem Im.RO(x:Im):x.cells.length=3:=rfl
structure Im.rd(x:Im)(w:World):Prop where
 l:Rd w .u8 x.A x.l.length x.c x.l
 k:Rd w .u8 x.B x.k.length x.e x.k
theorem Im.rd.RU{w0 w:World}{cs:List bC}{x:Im}(h:x.rd w0)(hi:Inv w0 [] cs w):x.rd w:=⟨h.l.RU hi,h.k.RU hi⟩
def Im.ag(x:Im):Ag:=⟨x.n.toNat,St.new,⟨Mem.load x.n.toNat x.l,eB⟩,Dev.init x.k,false⟩
def Im.SN(x:Im):Bool:=decide ((if 0>x.n then 0 else x.n)<(((x.l.length+63)/64:Nat):Int))||decide (1024<x.k.length)
def Im.why(u:Int)(x:Im):Int:=bif x.SN then 3 else bif decide (x.n<1)||decide (64<x.n)then 1 else bif decide (240<x.n+u)then 13 else 0
def jG:Int->List Im->Int
 |_,[]=>0
 |u,x::xs=>bif x.why u==0 then jG (u+x.n) xs else x.why u
def oT(L:List Im):Int:=bif decide ((L.length:Int)<1)||decide ((4:Int)<(L.length:Int))then 1 else jG 0 L
theorem Jd(u:Int)(x:Im):(x.SN=true/\x.why u=3)\/(x.SN=false/\(x.n<1\/64<x.n)/\x.why u=1)\/(x.SN=false/\(1<=x.n/\x.n<=64)/\240<x.n+u/\x.why u=13)\/(x.SN=false/\(1<=x.n/\x.n<=64)/\x.n+u<=240/\x.why u=0):=by
 unfold Im.why;cases h1:x.SN with
 |true=>grind
 |false=>
  grind
theorem D7{x:Im}(h:x.SN=false)(h1:1<=x.n):x.l.length<=x.n.toNat*64/\x.k.length<=1024:=by
 grind [Im.SN]
theorem pr_le{P:oW}(h:lT P):∀x,x∈P.pr->x<=1000:=by
 have hl:=h.len.pr;have hs:=h.sum;obtain⟨a,b,c,d,e⟩:∃a b c d,P.pr=[a,b,c,d]:=by
  match hh:P.pr,hl with
  |[a,b,c,d],_=>grind
 grind [rz]
def Ot:oW:=⟨List.replicate 16384 0,List.replicate 256 (-1),List.replicate 4 (-1)⟩
theorem Oq:lT Ot:=by
 refine⟨Kp,λf hf=> .inl ?_,λo p hp=>?_,by decide⟩
 .show(List.replicate 256 (-1:Int))[f]? =_
  grind
 show((cI (List.replicate 256 (-1)) (o:Int) 256).length:Int)<=_
 grind [mn]
theorem mon0_ok(bp:Nat):Mon.ok 0 ⟨bp,none,0,Ot,[]⟩:=
 ⟨⟨Oq,au _,λo _ h=>by show(List.replicate 4 (-1:Int))[o]? =_;grind,λi g h=>by cases h⟩,λa h=>by cases h⟩
theorem Im.SA{x:Im}(hl:u8s x.l)(hk:u8s x.k)(h:x.SN=false)(h1:1<=x.n/\x.n<=64):x.ag.SA 0:=
 ⟨FJ hl (D7 h h1.1).2 hk,init_in _,Lr _,aL _,by show x.n.toNat<=64;omega⟩
theorem EB(tr:Bool)(A:Option Addr)(c:Nat)(L:List Im)(hL:∀x,x∈L->u8s x.l/\u8s x.k/\x.l.length<=4611686018427387904)(w:World)(h:RdV w 3 A L.length c (L.flatMap Im.cells))(hr:∀x,x∈L->x.rd w):
  Ctr prog 15 [.bool tr,.slice A L.length c] w [] (λv cs=>(oT L=0/\∃bm m,(m.ok 0/\m.l=L.map Im.ag)/\v= .tuple #[.p bm,.i 0]/\cs=dq bm m)\/(oT L≠0/\v= .tuple #[.pointer none,.i (oT L)]/\cs=[])):=by
 have HF:=L3;have hm0:=mon0_ok;have hs0:fY Ot.pr 4=0:=rfl;have hp0:(⟨List.replicate 16384 0,List.replicate 256 (-1),List.replicate 4 (-1)⟩:oW)=Ot:=rfl;obtain⟨B0,hB0⟩:=Zgn (List.replicate 16384 (0:Int));obtain⟨W0,hW0⟩:=Zgn (List.replicate 256 (-1:Int));obtain⟨P0,hP0⟩:=Zgn (List.replicate 4 (-1:Int));rw[hB0,hW0,hP0]at HF hp0;rw[<-hp0]at hm0 hs0;unfold oT;refine Zfs func15 ntmps15 ?_;refine IB ?_;refine ZW ?_ ?_<;>intro hc1
 .rw[hc1];refine Z_8 ?_;refine mQ ?_;exact .inr ⟨(show(1:Int)≠0 by decide),rfl,rfl⟩
 rw[hc1,ah];rw[Bool.or_eq_false_iff,ac,ac]at hc1;obtain⟨W,hW⟩:=Zgn (jG 0 L);rw[hW];obtain⟨ad,rfl⟩:=h.some_ Wq1;refine Z_4 ?_;refine ZSn (λw hi=>HF w) ?_;rintro _ _ ⟨bp,rfl,rfl⟩;refine ZA ?_;refine ZO λb21=>?_
 refine Z_6 ?_;refine cT 86 1 (jS (dN (dq b21 ⟨bp,none,0,⟨B0,W0,P0⟩,[]⟩) Zj (Z_6 ?_)));refine bN (λq:Nat×Mon×Int=>[(0,.bool tr),(6,.p b21),(22,.slice (some ad) L.length c),(23,.i (L.length:Int)),(24,.i (q.1:Int))]) (λq=>dq b21 q.2.1) (λq=>q.1<=L.length/\q.2.1.ok 0/\q.2.1.l=(L.take q.1).map Im.ag/\fY q.2.1.P.pr 4=q.2.2/\jG q.2.2 (L.drop q.1)=W) (λq=>L.length - q.1) ((⟨0,⟨bp,none,0,⟨B0,W0,P0⟩,[]⟩,0⟩:Nat×Mon×Int)) ?_ ?_ ?_ ?_
 .exact⟨au _,hm0 bp,rfl,hs0,hW⟩
 .exact Zwk
 .exact Zu
 rintro⟨i,⟨bp,A1,c1,P,gs⟩,u⟩ ⟨hi0,hm,hl,hsu,hwy⟩;dsimp only at hi0 hsu hwy|-;have hgl:gs.length=i:=(by have e:=congrArg List.length hl;rw[Mon.len,aV,aI]at e;grind);refine Zw6 ?_ ?_<;>intro hc5
 .simp only[ae]at hc5;have hil:i<L.length:=Wq1;obtain⟨x,hxi⟩:∃x,L[i]? =some x:=⟨_,aa hil⟩;have hxm:=ak hxi;obtain⟨hx1,hx2,hx3⟩:=hL x hxm;have hxr:=hr x hxm;have htk:(L.take (i+1)).map Im.ag=(L.take i).map Im.ag++[x.ag]:=(by rw[List.take_add_one,hxi];simp);have hdr:L.drop i=x::L.drop (i+1):=(by have e:=aj.1 hxi;obtain⟨e1,e2⟩:=e;rw[List.drop_eq_getElem_cons e1,e2]);rw[hdr]at hwy;have hwy:(bif x.why u==0 then jG (u+x.n) (L.drop (i+1))else x.why u)=W:=hwy;have hno:P.pr[gs.length]? =some (-1):=hm.g.rest gs.length (aL _) Wq1;have hPL:=hm.g.SL.len;have hPb:=pr_le hm.g.SL;have hq4:(⟨bp,A1,c1,P,gs⟩:Mon).gs.length<=4:=(show gs.length<=4 by omega);refine Z_7 ?_;refine wJ ?_;refine dK (bP (vs:=x.cells) Zrf Zrf Zv0) (dY h (λj v hj=>da Im.RO (i:=j) hxi hj)) rfl ?_;refine ZN λb8=>?_
  refine ZA ?_;refine mD ?_;rcases Jd u x with⟨z1,z2⟩|⟨z1,z3,z2⟩|⟨z1,z3,z4,z2⟩|⟨z1,z3,z4,z2⟩
  .rw[z2]at hwy;have hwy:(3:Int)=W:=hwy;subst hwy;unfold Im.SN at z1;rw[Bool.or_eq_true,ae,ae]at z1;refine Wq205 ?_;refine Zy5 5 rfl (bP (vs:=x.cells) Zrf Zrf Zv0) (cO Zh rfl) ?_;refine ZE 6 ?_;refine cn 7 Zk (pL ([ia bp P]) (λw hi hin=>Ctr.same hin (gnoL_ok bp i x.n x.A x.B x.c x.e x.l.length x.k.length hx3 z1 tr w)) ?_);rintro _ _ ⟨rfl,rfl⟩;refine Qq ?_;refine oU ?_;refine iT ?_;refine mQ ?_;exact .inr ⟨(show(3:Int)≠0 by decide),rfl,rfl⟩
  .rw[z2]at hwy;have hwy:(1:Int)=W:=hwy;subst hwy;unfold Im.SN at z1;rw[Bool.or_eq_false_iff,ac,ac]at z1;refine Wq205 ?_;refine Zy5 5 rfl (bP (vs:=x.cells) Zrf Zrf Zv0) (cO Zh rfl) ?_;refine ZE 6 ?_;refine cn 7 Zk (pL ([ia bp P]) (λw hi hin=>Ctr.same hin (gnoB_ok bp i x.n x.A x.B x.c x.e x.l.length x.k.length hx3 z1.1 z1.2 z3 tr w)) ?_);rintro _ _ ⟨rfl,rfl⟩;refine Qq ?_;refine oU ?_;refine iT ?_;refine mQ ?_;exact .inr ⟨(show(1:Int)≠0 by decide),rfl,rfl⟩
  .have hno2:P.pr[i]? =some (-1):=bR;have z7:240<x.n+fY P.pr 4:=Wq1;rw[z2]at hwy;have hwy:(13:Int)=W:=hwy;subst hwy;obtain⟨z5,z6⟩:=D7 z1 z3.1;obtain⟨xA,xc,xl,xB,xe,xk,xn⟩:=x;dsimp only at z3 z4 z5 z6 z7;obtain⟨n,rfl⟩:∃n:Nat,xn=n:=ap Wq1;rw[aM]at z5;have hFull:=gnoF_ok bp P.B P.ow P.pr hPL i n Wq1 Wq1 Wq1 hno2 z7 hPb xA xB xc xe xl.length xk.length z5 z6 tr;refine Wq337 ?_;refine pL ([ia bp P]) (λw hi hin=>Ctr.same hin (hFull w (hin.ok _ (.head _)))) ?_;rintro _ _ ⟨rfl,rfl⟩;refine Qq ?_;refine oU ?_;refine iT ?_;refine mQ ?_;exact .inr ⟨(show(13:Int)≠0 by decide),rfl,rfl⟩
  rw[z2]at hwy;have hwy:jG (u+x.n) (L.drop (i+1))=W:=hwy;obtain⟨z5,z6⟩:=D7 z1 z3.1;have hxf:=Im.SA hx1 hx2 z1 z3;obtain⟨xA,xc,xl,xB,xe,xk,xn⟩:=x;dsimp only at z3 z4 z5 z6 hx1 hx2;obtain⟨n,rfl⟩:∃n:Nat,xn=n:=ap Wq1;rw[aM]at z5;have hNew:=λw hi hA hB=>mon_new (w:=w) hm.g (show gs.length<4 by omega) n Wq1 Wq1 bR hPb xA xB xc xe xl xk z5 hx1 z6 hx2 tr hi hA hB
  dsimp only at hNew;rw[hgl]at hNew;refine Wq337 ?_;refine pL (iE bp P gs) (λw hi hin=>hNew w hin (λw' hk=>RdV.RT hxr.l hi Zi hk) (λw' hk=>RdV.RT hxr.k hi Zi hk)) ?_;rintro _ _ ⟨P',g,⟨q1,q2,q3,q4,q5,q6,q7, -⟩,rfl,rfl⟩;refine Qq ?_;refine iU ?_;refine Z_9 ?_;refine kY ?_;rintro _ _ ⟨b49,rfl,rfl⟩;refine fW (cj (e:=86) (sz:=1) (bytes:=8) rfl rfl Za rfl rfl (λw hi=>hi.rd (show Has _ (slv 86 1 (sA b49) 1 1 [pU g])from Zh)) (mO rfl) gq Wq1) rfl ?_;rintro _ _ ⟨A2,c2,rfl,rfl⟩;refine mP ?_;refine gh ?_;have hga:g.abs=Im.ag ⟨xA,xc,xl,xB,xe,xk,(n:Int)⟩:=(by unfold MG.abs Im.ag;grind);have hl2:(⟨bp,A2,c2,P',gs++[g]⟩:Mon).l=(L.take (i+1)).map Im.ag:=(by rw[htk,<-hga];show(gs++[g]).map MG.abs=_;rw[List.map_append];exact congrArg (λz=>z++[g.abs]) hl);have hok2:Mon.ok 0 ⟨bp,A2,c2,P',gs++[g]⟩:=⟨q1,λa ha=>by rw[hl2,htk]at ha;rcases aF.1 ha with ha|ha;exact hm.f a (hl▸ha);grind⟩;have hs2:fY P'.pr 4=u+(n:Int):=(by rw[q2,<-hgl,uV (l:=P.pr) hPL.pr (show gs.length<4 by omega) hno,hsu,if_pos Wq7,if_neg Wq1];omega);refine bJ ((⟨i+1,⟨bp,A2,c2,P',gs++[g]⟩,u+(n:Int)⟩:Nat×Mon×Int)) ?_ ?_ ?_
  .grind
  .exact Zwk
  exact(show AT (dq b21 ⟨bp,A2,c2,P',gs++[g]⟩) _ from by unfold dq mI ptrC;dsimp only;rw[aq,List.map_append];exact Zj)
 simp only[ac]at hc5;obtain rfl:i=L.length:=Wq1;rw[List.drop_length]at hwy;have hwy:(0:Int)=W:=hwy;subst hwy;refine kM ?_;refine xH (cs':=(dq b21 ⟨bp,A1,c1,P,gs⟩)) (.inl rfl) Zu rfl rfl rfl ?_;rw[bl]at hl;exact .inl ⟨rfl,b21,⟨bp,A1,c1,P,gs⟩,⟨hm,hl⟩,rfl,rfl⟩
theorem iR{tr:Bool}{A:Option Addr}{c:Nat}{L:List Im}{w:World}(hb:oT L=0)(hL:∀x,x∈L->u8s x.l/\u8s x.k/\x.l.length<=4611686018427387904)(h:RdV w 3 A L.length c (L.flatMap Im.cells))(hr:∀x,x∈L->x.rd w):
  Ctr prog 15 [.bool tr,.slice A L.length c] w [] (λv cs=>∃bm m,(m.ok 0/\m.l=L.map Im.ag)/\v= .tuple #[.p bm,.i 0]/\cs=dq bm m):=by grind [EB]
theorem uo{tr:Bool}{A:Option Addr}{c:Nat}{L:List Im}{w:World}{e:Int}(he:oT L=e)(hb:e≠0)(hL:∀x,x∈L->u8s x.l/\u8s x.k/\x.l.length<=4611686018427387904)(h:RdV w 3 A L.length c (L.flatMap Im.cells))(hr:∀x,x∈L->x.rd w):
  Ctr prog 15 [.bool tr,.slice A L.length c] w [] (λv cs=>v= .tuple #[.pointer none,.i e]/\cs=[]):=by grind [EB]
theorem uZ{w0:World}{S:List Nat}{cs:List bC}{e sz n c i:Nat}{ad:Addr}{xs:List Value}{v:Value}(hc:Has cs (slv e sz (some ad) n c xs))(hv:xs[i]? =some v):∀w,Inv w0 S cs w->cells [(ad.add i,v)] w:=λw hi z hz=>by
 rw[aB]at hz;subst hz;exact(hi.rd hc).at_ ad rfl i v hv
theorem dh{w0:World}{S:List Nat}{cs:List bC}{e sz n c i bb:Nat}{xs:List Value}{v:Value}(hc:Has cs (slv e sz (sA bb) n c xs))(hv:xs[i]? =some v):∀w,Inv w0 S cs w->cells [(⟨bb,i,none⟩,v)] w:=λw hi z hz=>by
 rw[aB]at hz;subst hz;have:=(hi.rd hc).at_ _ rfl i v hv
 grind [Addr.add_lit]
theorem dI{b i n j:Nat}(h:i+n=j):(Addr.add ⟨b,0,none⟩ i).add n=⟨b,j,none⟩:=by
 grind [Addr.add_lit]
theorem Ma{b i n j:Nat}(h:i+n=j):(Addr.add ⟨b,i,none⟩ n)=⟨b,j,none⟩:=by
 grind [Addr.add_lit]
theorem map_one{α β:Type}{f:α->β}{l:List α}{a:β}(h:l.map f=[a]):∃x,l=[x]/\f x=a:=by
 simp_all
theorem O1{α β:Type}{f:α->β}{l:List α}{a b c d:β}(h:l.map f=[a,b,c,d]):∃x y z u,l=[x,y,z,u]/\f x=a/\f y=b/\f z=c/\f u=d:=by
 match l,h with
 |[x,y,z,u],h=>
  grind
structure Im.Sj(x:Im):Prop where
 l:u8s x.l
 k:u8s x.k
 ll:x.l.length<=2048
 lg:x.SN=false
 n1:1<=x.n
 n16:x.n<=16
theorem CK:∀{L:List Im} {u:Int},(∀x,x∈L->x.Sj)->u+16*L.length<=240->jG u L=0
 |[],_,_,_=>rfl
 |x::L,u,h,hu=>by
  obtain⟨-, -, -,q1,q2,q3⟩:=h x (.head _);have hl:(((x::L).length:Nat):Int)=L.length+1:=by simp
  rw[hl]at hu;have e:x.why u=0:=by
   unfold Im.why;rw[q1,ar (show¬x.n<1 by omega),ar (show¬64<x.n by omega),ar (show¬240<x.n+u by omega)]
   rfl
  show(bif x.why u==0 then jG (u+x.n) L else x.why u)=0;rw[e];exact CK (λy hy=>h y (.tail _ hy)) Wq1
theorem fj{L:List Im}(h1:1<=L.length)(h4:L.length<=4)(h:∀x,x∈L->x.Sj):oT L=0:=by
 grind [oT,CK]
theorem gO{L:List Im}(h:∀x,x∈L->x.Sj):∀x,x∈L->u8s x.l/\u8s x.k/\x.l.length<=4611686018427387904:=λx hx=>⟨(h x hx).l,(h x hx).k,aN (h x hx).ll Wq7⟩
structure AM(l:List BoR)(L:List Im)(J:List bC):Prop where
 n4:L.length<=4
 Sj:∀x,x∈L->x.Sj
 rd:∀w:World,(∀a,a∈l->Rd w .u8 a.B a.k.length a.e a.k)->(bQ J).ok w->∀x,x∈L->x.rd w
theorem H6{A:Option Addr}{c:Nat}{E:List Int}{n:Nat}(hE:u8s E)(hn:1<=n/\n<=16){B:Option Addr}{e:Nat}{k:List Int}(hk:u8s k):Im.Sj ⟨A,c,E.take (n*64),B,e,k.take 1024,(n:Int)⟩:=by
 have h1:(E.take (n*64)).length<=n*64:=by rw[aI];omega
 have h2:(k.take 1024).length<=1024:=by rw[aI];omega
 refine⟨λx hx=>hE x (bh hx),λx hx=>hk x (bh hx),by grind,?_,by grind,by grind⟩;show(decide ((if 0>(n:Int)then 0 else(n:Int))<((((E.take (n*64)).length+63)/64:Nat):Int))||decide (1024<(k.take 1024).length))=false
 grind
theorem AM.snoc{l:List BoR}{L:List Im}{J:List bC}(h:AM l L J)(h4:L.length<4){a:BoR}(ha:a∈l)(hak:u8s a.k){A:Option Addr}{c n:Nat}{E:List Int}(hE:u8s E)(hn:1<=n/\n<=16):
  AM l (L++[(⟨A,c,E.take (n*64),a.B,a.e,a.k.take 1024,(n:Int)⟩:Im)]) [sl .u8 5 A E.length c E,bQ J]:=by
 refine⟨by grind,λx hx=>?_,λw hr hj x hx=>?_⟩
 .rcases aF.1 hx with q|q
  .exact h.Sj x q
  grind [H6]
 have e:∀c',c'∈[sl .u8 5 A E.length c E,bQ J]->c'.ok w:=jk hj;rcases aF.1 hx with q|q
 .exact h.rd w hr (e _ (.tail _ (.head _))) x q
 rw[aB.1 q];exact⟨kp (eL (e _ (.head _))) (n*64),kp (hr a ha) 1024⟩
abbrev imF(A:Option Addr)(c:Nat)(L:List Im)(J:List bC):List bC:=[slv 33 3 A L.length c (L.flatMap Im.cells),bQ J]
theorem vR(x:Im):∀u∈x.cells,u.oneCell'=true:=mO rfl
theorem Ef(A:Option Addr)(c:Nat)(l:List BoR)(w:World)(h:RdV w 3 A l.length c (l.flatMap BoR.cells))(hl:∀a,a∈l->a.ok w):
  Ctr prog 13 [.slice A l.length c] w [] (λv cs=>∃A' c' L J,(AM l L J/\1<=L.length)/\v= .slice A' L.length c'/\cs=imF A' c' L J):=by
 refine Zfs func13 ntmps13 ?_;refine kM ?_;refine cT 33 3 (jS (Z_4 ?_));refine bN (λq:Nat×List Im×Option Addr×Nat×List bC=>[(0,.slice A l.length c),(3,.slice q.2.2.1 q.2.1.length q.2.2.2.1),(4,.i (q.1:Int))]) (λq=>imF q.2.2.1 q.2.2.2.1 q.2.1 q.2.2.2.2) (λq=>q.1<=4/\q.1<=l.length/\q.2.1.length=q.1/\AM l q.2.1 q.2.2.2.2) (λq=>4 - q.1) ((⟨0,[],none,0,[]⟩:Nat×List Im×Option Addr×Nat×List bC)) ?_ ?_ ?_ ?_
 .exact⟨au _,au _,rfl,⟨au _,(λx hx=>by cases hx),(λw _ _ x hx=>by cases hx)⟩⟩
 .exact Zwk
 .exact Zu
 rintro⟨i,L,A1,c1,J⟩ ⟨hi4,hil,hLi,hI⟩;dsimp only at hi4 hil hLi hI|-;refine uw ?_ ?_<;>intro hc3
 .have hc3':i<l.length/\i<4:=bR;obtain⟨hkl,hk4⟩:=hc3';obtain⟨ad,rfl⟩:=h.some_ Wq1;obtain⟨a,hla⟩:∃a,l[i]? =some a:=⟨_,aa hkl⟩;have ham:=ak hla;have hao:=hl a ham;refine Z_4 ?_;refine Wq315 ?_;rintro _ _ ⟨_,⟨A2,c2,E,E2,N,⟨hE1,hn,hE2⟩,rfl,rfl⟩,rfl⟩;refine EL ?_;rintro _ _ ⟨b32,rfl,rfl⟩;refine eW ?_;refine la rfl rfl (cj (e:=33) (sz:=3) (bytes:=56) rfl rfl Za rfl rfl (λw hi=>hi.rd (show Has _ (slv 33 3 (sA b32) 1 1 (Im.cells ⟨A2,c2,E.take (N*64),a.B,a.e,a.k.take 1024,(N:Int)⟩))from Zh)) (vR ⟨A2,c2,E.take (N*64),a.B,a.e,a.k.take 1024,(N:Int)⟩) gq Wq1) ZJ rfl ?_;rintro _ _ ⟨A3,c3,rfl,rfl⟩;refine Wq149 ?_;refine Wq6 ?_;refine bJ ((⟨i+1,L++[(⟨A2,c2,E.take (N*64),a.B,a.e,a.k.take 1024,(N:Int)⟩:Im)],A3,c3,[sl .u8 5 A2 E.length c2 E,bQ J]⟩:Nat×List Im×Option Addr×Nat×List bC)) ?_ ?_ ?_
  .exact⟨⟨show i+1<=4 by omega,show i+1<=l.length by omega,by grind,hI.snoc Wq1 ham hao.bs hE1 hn⟩,show 4 - (i+1)<4 - i by omega⟩
  .exact Zwk
  exact Zj
 refine uw ?_ ?_<;>intro hc6
 .have hL0:L=[]:=jg;subst hL0;refine Z_3 ?_;refine jj ?_;rintro _ _ ⟨b39,rfl,rfl⟩;refine fW (cj (e:=33) (sz:=3) (bytes:=56) rfl rfl Za rfl rfl (λw hi=>hi.rd (show Has _ (slv 33 3 (sA b39) 1 1 (Im.cells ⟨none,0,[],none,0,[],2⟩))from Zh)) (vR ⟨none,0,[],none,0,[],2⟩) gq Wq1) rfl ?_;rintro _ _ ⟨A3,c3,rfl,rfl⟩;refine fB ?_;refine Zrb ((imF A3 c3 [⟨none,0,[],none,0,[],2⟩] J)) ?_;exact⟨A3,c3,[⟨none,0,[],none,0,[],2⟩],J,⟨⟨by decide,λx hx=>by rw[aB.1 hx];exact⟨eM,eM,Wq7,rfl,Wq7,Wq7⟩,λw _ _ x hx=>by rw[aB.1 hx];exact⟨jq w .u8,jq w .u8⟩⟩,by decide⟩,rfl,rfl⟩
 have hL0:1<=L.length:=bR;refine Z_9 ?_;refine Zrb ((imF A1 c1 L J)) ?_;exact⟨A1,c1,L,J,⟨hI,hL0⟩,rfl,rfl⟩
def Bo(n:Int):Int:=bif decide (60<n)||decide (n< -9)then gx n 0 40 else n
def jK(x:ItR)(g:Nat):ItR:=⟨x.kind,bif x.RP.tmod 7 !=0 then gx x.RP 0 ((g:Int) - 1)else x.RP,Bo x.n,x.A,x.c,x.b.take 70⟩
theorem Bn(n:Int): -9<=Bo n/\Bo n<=60:=by
 unfold Bo;cases hc:(decide (60<n)||decide (n< -9))with
 |true=>
  have:=fT n 0 40 Wq7
  grind
 |false=>
  grind
theorem lB(x:ItR)(hx:x.b.length<=x.c)(g:Nat)(h1:1<=g)(h4:g<=4)(w:World):Ctr prog 16 [.agg x.cells.toArray,.i (g:Int)] w [] (λv cs=>v= .agg (jK x g).cells.toArray/\cs=[]):=by
 obtain⟨kd,gu,n,A,c,b⟩:=x;have HC:=λw=>wn A c b 70 w hx
 have HN:=λw=>fu n 0 40 w Wq7 Wq7 Wq7
 have HG:=λw=>fu gu 0 ((g:Int) - 1) w Wq7 Wq1 Wq1
 unfold jK Bo;dsimp only;refine Zfs func16 ntmps16 ?_;refine Z_2 ?_;refine ZO λb2=>?_;refine ZN λb4=>?_
 refine Z_6 ?_;refine ZSe (λw hi=>HC w) ?_;refine gP ?_;refine Z_2 ?_;refine cD (λq:Int=>[(1,.i (g:Int)),(2,.p b2),(4,.p b4)]) (λq=>[row b2 [.i kd,.i gu,.i q,.slice A (b.take 70).length c] 35,row b4 [.i 0,.i 0,.i 0,.slice none 0 0] 35]) (λq=>q=(bif decide (60<n)||decide (n< -9)then gx n 0 40 else n)) ?_ ?_
 .refine fD ?_;refine ZW ?_ ?_<;>intro hc2
  .rw[hc2];refine Z_3 ?_;refine ZSe (λw hi=>HN w) ?_;refine gP ?_;refine Zn (dM (gx n 0 40) ?_ ?_ ?_)
   .rfl
   .exact Zwk
   exact Zu
  rw[hc2];refine Zc (dM (n) ?_ ?_ ?_)
  .rfl
  .exact Zwk
  exact Zu
 rintro q hq;rw[<-hq];refine Z_5 ?_;refine Zy (i4 (Zv rfl) (Zv rfl) Wq1 (by first|exact IntWalk.rem_in _ _ Wq1|exact rfl)) ?_;refine Zw3 ?_ ?_<;>intro hc4
 .rw[hc4,ai];refine Z_4 ?_;exact Wq300
 rw[hc4,ah];refine Z_5 ?_;refine Wq46 ?_;exact fy
theorem B5:wW [Im.ag ⟨none,0,[],none,0,[],1⟩] [⟨1,0,8,[]⟩,⟨1,9,0,[]⟩,⟨5,0,0,[]⟩,⟨6,0,0,[]⟩]=[⟨8,dT,0⟩,⟨0,dT,22⟩,⟨0,dT,0⟩,⟨0,mN,0⟩]:=by kernel_rfl
abbrev zS:List ItR:=[⟨1,0,8,none,0,[]⟩,⟨1,9,0,none,0,[]⟩,⟨5,0,0,none,0,[]⟩,⟨6,0,0,none,0,[]⟩]
theorem oB(w:World)(ht:fE w):Ctr prog 20 [] w [] (λv cs=>v= .bool true/\cs=[]):=by
 refine Zfs func20 ntmps20 ?_;refine Z_8 ?_;refine jj ?_;rintro _ _ ⟨b6,rfl,rfl⟩;refine ZSn (λw hi=>iR (L:=[⟨none,0,[],none,0,[],1⟩]) rfl (λx hx=>by rw[aB.1 hx];exact⟨eM,eM,by decide⟩) (hi.rd (show Has _ (slv 33 3 (sA b6) 1 1 [.slice none 0 0,.slice none 0 0,.i 1])from Zh)) (λx hx=>by rw[aB.1 hx];exact⟨jq w .u8,jq w .u8⟩)) ?_;rintro _ _ ⟨bm,m,⟨hm,hl⟩,rfl,rfl⟩;refine AO ?_;refine iU ?_;refine Z_9 ?_;refine jj ?_;rintro _ _ ⟨b21,rfl,rfl⟩;refine dz (dq bm m) (λw hi hin=>xR bm m 0 hm zS Wq7 (sA b21) 4 (λx hx=>by simp only[zS,aG,List.not_mem_nil,or_false]at hx;rcases hx with rfl|rfl|rfl|rfl<;>exact⟨eM,by decide,by decide⟩) w hin (λw' hk=>hi.Sr Zi (show Has _ (slv 35 4 (sA b21) 4 4 (zS.flatMap ItR.cells))from Zh) hk) (λw' hk x hx=>by simp only[zS,aG,List.not_mem_nil,or_false]at hx;rcases hx with rfl|rfl|rfl|rfl<;>exact jq w' .u8) (λw' hk=>RdV.RT ht hi Zi hk)) ?_;rintro _ _ ⟨m2,Z,A3,c3,J,⟨hm2,hl2,hZ, -⟩,rfl,rfl⟩;have hg2:m2.l.length=1:=(by rw[hl2,ot,hl];rfl);have hZ:Z.map OuR.o=[⟨8,dT,0⟩,⟨0,dT,22⟩,⟨0,dT,0⟩,⟨0,mN,0⟩]:=(by rw[hZ,hl];exact B5);obtain⟨z0,z1,z2,z3,rfl,h0,h1,h2,h3⟩:=O1 hZ;refine dZ (λw hi=>dO (hi.get (show Has _ (slv 47 25 A3 4 c3 _)from Zh)) Wq7) (λhq=>?_);obtain⟨bz,rfl⟩:=hq;obtain⟨⟨n0,v0,y0⟩,Y0⟩:=z0;obtain⟨⟨n1,v1,y1⟩,Y1⟩:=z1;obtain⟨⟨n2,v2,y2⟩,Y2⟩:=z2;obtain⟨⟨n3,v3,y3⟩,Y3⟩:=z3;dsimp only[Ou.mk.injEq]at h0 h1 h2 h3;simp only[Ou.mk.injEq]at h0 h1 h2 h3;obtain⟨rfl,rfl,rfl⟩:=h0;obtain⟨rfl,rfl,rfl⟩:=h1;obtain⟨rfl,rfl,rfl⟩:=h2;obtain⟨rfl,rfl,rfl⟩:=h3;rw[show([(⟨⟨8,dT,0⟩,Y0⟩:OuR),⟨⟨0,dT,22⟩,Y1⟩,⟨⟨0,dT,0⟩,Y2⟩,⟨⟨0,mN,0⟩,Y3⟩]).length=4 from rfl];refine fB ?_;refine Zyy rfl rfl (bS (j:=0) rfl Zrf (bU rfl) (Zv rfl) Wq2 Wq2) ?_;refine Zyy rfl rfl (ce 0 rfl (bU rfl) ((dI (j:=0) rfl))) ?_;refine Nm ?_;refine Wq207 ?_;refine Nm ?_;refine Zyy rfl rfl (bS (j:=3) rfl Zrf (bU rfl) (Zv rfl) Wq2 Wq2) ?_;refine Zyy rfl rfl (ce 1 rfl (bU rfl) ((dI (j:=76) rfl))) ?_;refine Zyy rfl rfl (ce 22 rfl (bU rfl) ((Ma (j:=98) rfl))) ?_;refine fN (bM rfl rfl) (bF Zrf (bU rfl)) (dh Zh rfl) rfl (Z_3 ?_);refine Zyy rfl rfl (bS (j:=3) rfl Zrf (bU rfl) (Zv rfl) Wq2 Wq2) ?_;refine Zyy rfl rfl (ce 24 rfl (bU rfl) ((dI (j:=99) rfl))) ?_;refine Nm ?_;refine gU (bM rfl rfl) rfl (dW rfl (λ_ _=>rfl) (λw hi=>sa bm m2 w (hi.get Zh))) rfl ?_;rintro _ _ ⟨_,⟨rfl,rfl⟩,rfl⟩;rw[hg2];refine Z_6 ?_;exact pM
theorem i7{w0:World}{S:List Nat}{cs:List bC}{e sz n c o bb:Nat}{xs vs:List Value}(hc:Has cs (slv e sz (sA bb) n c xs))(hv:∀j v,vs[j]? =some v->xs[o+j]? =some v):∀w,Inv w0 S cs w->cells (ez ⟨bb,o,none⟩ 0 vs) w:=by
 have h:=lD (b:=o) hc hv (w0:=w0) (S:=S);rw[show(Addr.add ⟨bb,0,none⟩ o)=⟨bb,o,none⟩from by simp[Addr.add_lit]]at h;exact h
abbrev ouC(b c:Nat)(o:Ou)(Y:VAd):bC:=slv 47 25 (sA b) 1 c (o.cells Y)
theorem fw(bm:Nat)(m:Mon)(k:Nat)(hm:m.ok k)(hk:k<=800000000)(x:ItR)(hb:u8s x.b)(hbl:x.b.length<=1000)(hn: -9223372036854775808<=x.n)(B:Option Addr)(d:Nat)(w:World)(hi:Inv w (bD (dq bm m)) (dq bm m) w)(hA:∀w',cY (bD (dq bm m)) w w'->RdV w' 4 B 1 d x.cells)(hB:∀w',cY (bD (dq bm m)) w w'->Rd w' .u8 x.A x.b.length x.c x.b)(ht:∀w',cY (bD (dq bm m)) w w'->fE w'):
  Ctr prog 17 [.p bm,.slice B 1 d] w (dq bm m) (λv cs=>∃m' Y bz c' J,(m'.ok (k+80000)/\m'.l=(dB m.l x.it).1/\∀w,(bQ J).ok w->xf w (dB m.l x.it).2.v Y)/\v= .slice (sA bz) 1 c'/\cs=ouC bz c' (dB m.l x.it).2 Y::bQ J::dq bm m'):=by
 have h1:Inv w (bD (dq bm m)) (dq bm m++[]) w:=by rw[az];exact hi
 refine Ctr.via h1 (λhi2=>xR bm m k hm [x] (by show k+80000*1<=_;omega) B d (λy hy=>by rw[aB.1 hy];exact⟨hb,hbl,hn⟩) w hi2 (λw' hk=>hA w' hk) (λw' hk y hy=>by rw[aB.1 hy];exact hB w' hk) ht) ?_;rintro v cout w' ⟨m',Z,A',c',J,⟨h1,h2,h3,h4⟩,rfl,rfl⟩ hi3;rw[az]at hi3;obtain⟨⟨o,Y⟩,rfl,ho⟩:=map_one (a:=(dB m.l x.it).2) h3;dsimp only at ho;subst ho;obtain⟨bz,rfl⟩:=dO (hi3.ok _ (.head _)) (by show 0<1;omega);exact⟨_,⟨m',Y,bz,c',J,⟨h1.le (by show k+80000*1<=_;omega),h2,λw hj=>h4 w hj _ (.head _)⟩,rfl,rfl⟩,hi3⟩
theorem oZ{x:ItR}{w:World}(hx:x.ok w)(g:Nat):u8s (jK x g).b/\(jK x g).b.length<=1000/\ -9223372036854775808<=(jK x g).n/\Rd w .u8 (jK x g).A (jK x g).b.length (jK x g).c (jK x g).b:=by
 have hr:=Bn x.n;have hl:(x.b.take 70).length<=70:=by rw[aI];omega
 exact Wq355
theorem ag_at{L:List Im}{k:Nat}(h:k<L.length):∃x,L[k]? =some x/\(L.map Im.ag)[k]? =some x.ag:=⟨_,aa h,by rw[aW,aa h];rfl⟩
theorem Mon.ok.Sf{j k:Nat}{m m2:Mon}(h:m.ok k)(h2:m2.ok j)(e:m2.l=m.l):m2.ok k:=⟨h2.g,by rw[e];exact h.f⟩
structure ItR.may(w:World)(y:ItR):Prop where
 b:u8s y.b
 l:y.b.length<=1000
 n: -9223372036854775808<=y.n
 rd:Rd w .u8 y.A y.b.length y.c y.b
theorem nU{x:ItR}{w:World}(hx:x.ok w)(g:Nat):(jK x g).may w:=by
 obtain⟨h1,h2,h3,h4⟩:=oZ hx g;exact⟨h1,h2,h3,h4⟩
theorem zT(y:ItR):∀u∈y.cells,u.oneCell'=true:=mO rfl
abbrev _root_.Go.Proofs.YtbkgmdgackknfaaGreatDoor.itC(A:Option Addr)(c:Nat)(ys:List ItR):bC:=slv 35 4 A ys.length c (ys.flatMap ItR.cells)
theorem Ec{ys:List ItR}{y:ItR}:ys.length+1=(ys++[y]).length/\ys.flatMap ItR.cells++y.cells=(ys++[y]).flatMap ItR.cells:=by
 rw[aq,List.flatMap_append,List.flatMap_cons,List.flatMap_nil,az];exact fy
theorem zN{w:World}{ys:List ItR}{y:ItR}(h:∀x,x∈ys->x.may w)(hy:y.may w):∀x,x∈ys++[y]->x.may w:=λx hx=>by
 rcases aF.1 hx with q|q
 .exact h x q
 rw[aB.1 q];exact hy
theorem xP{W:World}{t:TypeId}{es:List Value}{fs:Array Field}(hu:prog.underlying t=some (.struct fs))(hc:prog.cellsOf t=3)(h0:∃f,fs[0]? =some f/\f.offset=0/\f.type=78)(h1:∃f,fs[1]? =some f/\f.offset=1/\f.type=3)(h2:∃f,fs[2]? =some f/\f.offset=2/\f.type=31)(h:Arg prog W t es):∃x:BoR,es=x.cells/\x.ok W:=by
 obtain⟨hl,hf⟩:=h.struct hu;rw[hc]at hl;obtain⟨f0,e0,o0,t0⟩:=h0;obtain⟨f1,e1,o1,t1⟩:=h1;obtain⟨f2,e2,o2,t2⟩:=h2;have q0:=hf 0 f0 e0;have q1:=hf 1 f1 e1;have q2:=hf 2 f2 e2;rw[o0,t0]at q0;rw[o1,t1]at q1;rw[o2,t2]at q2
 match es,hl with
 |[c0,c1,c2],_=>
  have k0:Arg prog W 78 [c0]:=q0;have k1:Arg prog W 3 [c1]:=q1;have k2:Arg prog W 31 [c2]:=q2;obtain⟨A,c,xs,g1,g2,g3, -⟩:=k0.rows (e:=142) rfl rfl CZ.RO ⟨0,0,0,0,none,0,[]⟩ (λes he=>OH he);obtain⟨n1,rfl,m1⟩:=Rx rfl k1;obtain⟨A2,d2,x2,g4,r2,b2,z2⟩:=k2.ints (e:=5) (k:= .u8) rfl rfl rfl;obtain rfl:c0=_:=by simpa using g1
  obtain rfl:c2=_:=by simpa using g4
  exact⟨⟨A,c,xs,n1,A2,d2,x2⟩,rfl,⟨g2,g3,r2,λx hx=>Je (z2 x hx)⟩⟩
theorem ju{W:World}{v:Value}(h:wP prog W 22 v):∃(A:Option Addr) (c:Nat) (l:List BoR),v= .slice A l.length c/\RdV W 3 A l.length c (l.flatMap BoR.cells)/\∀x,x∈l->x.ok W:=by
 obtain⟨A,c,xs,h1,h2,h3, -⟩:=wP.rows (e:=80) rfl rfl BoR.RO ⟨none,0,[],0,none,0,[]⟩ (λes he=>xP rfl rfl ⟨_,rfl,rfl,rfl⟩ ⟨_,rfl,rfl,rfl⟩ ⟨_,rfl,rfl,rfl⟩ he) h;exact⟨A,c,xs,h1,h2,h3⟩
theorem pk{W:World}{v:Value}(h:wP prog W 63 v):∃(A:Option Addr) (c:Nat) (l:List BoR),v= .slice A l.length c/\RdV W 3 A l.length c (l.flatMap BoR.cells)/\∀x,x∈l->x.ok W:=by
 obtain⟨A,c,xs,h1,h2,h3, -⟩:=wP.rows (e:=93) rfl rfl BoR.RO ⟨none,0,[],0,none,0,[]⟩ (λes he=>xP rfl rfl ⟨_,rfl,rfl,rfl⟩ ⟨_,rfl,rfl,rfl⟩ ⟨_,rfl,rfl,rfl⟩ he) h;exact⟨A,c,xs,h1,h2,h3⟩
end
end Go.Ink
