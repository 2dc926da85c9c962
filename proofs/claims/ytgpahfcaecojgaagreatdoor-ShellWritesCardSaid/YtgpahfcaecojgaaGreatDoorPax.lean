/- Lemmas. -/
import Derived.Test.YtgpahfcaecojgaaGreatDoorPaw
set_option linter.all false
set_option maxRecDepth 100000
set_option maxHeartbeats 4000000
namespace Go.Ink
open Go.RowKit Go.Proofs.Tryz
variable{w0:World}{S:List Nat}{cs:List bJ}{xs:List Value}
theorem CO{bb o t:Nat}{v:Value}(hc:∀w,Inv w0 S cs w->(row bb xs t).ok w)(hv:xs[o]? =some v):∀w,Inv w0 S cs w->cells [(⟨bb,o,none⟩,v)] w:=λw hi z hz=>by
 rw[aC]at hz;subst hz;have h1:w.heap[bb]? =some (.cells xs.toArray t (0,0)):=hc w hi;simp[World.cell?,h1,hv]
theorem oW.flush{E:EnX}(h:oW E)(ml:Nat)(fl:Int):oW ⟨E.bc,E.mr,E.room,⟨ml,none,0,fl,[],[]⟩,[],E.last,E.WF,E.WD,E.begun⟩:=
 ⟨rp.none h.ca.rm _ _ _ _,h.eg.flush,(λy hy=>nomatch hy),h.last⟩
section
attribute [local irreducible] OpY bN
theorem O3(H:sL)(G:Gst)(n:Nat)(hG:G.ok n):CI prog 88 [.p H.bg] (gsF H G) (λ_ cs=>∃G',(G'.ok n/\(G'.s,G'.U,G'.d)=(G.s,G.U,G.d))/\cs=gsF H G'):=λw hi=>by
 obtain⟨s,X,Y,U,d,o⟩:=G;cases o with
 |none=>
  refine Zfn func88 ntmps88 hi ?_;refine Z_9 ?_;refine kv ?_;refine Zc (bO (gsF H ⟨s,X,Y,U,d,none⟩) Zj ?_);exact jE (cs':=(gsF H ⟨s,X,Y,U,d,none⟩)) (.inr rfl) Zu rfl ⟨⟨s,X,Y,U,d,none⟩,⟨hG,rfl⟩,rfl⟩
 |some E=>
  have hE:=hG.e E rfl;refine Zfn func88 ntmps88 hi ?_;refine Z_9 ?_;refine pX ?_;refine Zr (L1 (bs:=bK (enF H.be E)) (F:=λ_:Unit=>enF H.be E) (hb:=λ_=>rfl) (p:=λ_=>True) Zd (λ_ _=>?_));refine Z_4 ?_;refine dy (enF H.be E) (λw hi hin=>Pv H.be E w hin) ?_;rintro _ _ ⟨ml,fl,rfl⟩;refine fx (enF H.be ⟨E.bc,E.mr,E.room,⟨ml,none,0,fl,[],[]⟩,[],E.last,E.WF,E.WD,E.begun⟩) Zi (Zn (bO (gsF H ⟨s,X,Y,U,d,some ⟨E.bc,E.mr,E.room,⟨ml,none,0,fl,[],[]⟩,[],E.last,E.WF,E.WD,E.begun⟩⟩) Zj ?_));exact jE (cs':=(gsF H ⟨s,X,Y,U,d,some ⟨E.bc,E.mr,E.room,⟨ml,none,0,fl,[],[]⟩,[],E.last,E.WF,E.WD,E.begun⟩⟩)) (.inr rfl) Zu rfl ⟨⟨s,X,Y,U,d,some ⟨E.bc,E.mr,E.room,⟨ml,none,0,fl,[],[]⟩,[],E.last,E.WF,E.WD,E.begun⟩⟩,⟨⟨hG.g,λE' h=>by cases h;exact hE.flush ml fl⟩,rfl⟩,rfl⟩
theorem F4(b:Nat)(A:Oa)(c:Nat)(n:Int)(hn:n<0\/8<=n)(w:World)(h:Rd w .i64 A 1 c [n]):CW prog 87 [.p b,.slice A 1 c] w (.bool false):=by
 obtain⟨ad,rfl⟩:=h.some_ Wq1;refine Zfs func87 ntmps87 ?_;refine Gv ?_;refine wLo (λ_:Unit=>[(0,.p b),(5,.w 0),(8,.slice (some ad) 1 c),(9,.i 1),(10,.i 0)]) (λ_=>[]) (λ_=>True) (λ_=>0) (()) kY ?_;rintro - -;refine Z_6 ?_;refine pX ?_;refine Z_6 ?_;refine Zy (cC (j:=0) rfl Zrf (Zv rfl) (Zv rfl) Wq2 Wq2) ?_;refine dQ (bM Zrf Zv0) (dJ h rfl) rfl (jl ?_);refine cn rfl (bY) (fb ?_);exact ru
theorem OZ(H:sL)(G:Gst)(A:Oa)(c:Nat)(n:Int)(w:World)(hi:Inv w (bK (gsF H G)) (gsF H G) w)(h:∀w',dc (bK (gsF H G)) w w'->Rd w' .i64 A 1 c [n]):
  Ctr prog 87 [.p H.D.bi,.slice A 1 c] w (gsF H G) (λv cs=>v= .bool (!(decide (n<0)||decide (8<=n)))/\cs=gsF H ⟨G.s,G.X,G.Y,G.U,bif decide (n<0)||decide (8<=n)then G.d else G.d.raise n.toNat,G.o⟩):=by
 obtain⟨s,X,Y,U,d,o⟩:=G;cases hb:(decide (n<0)||decide (8<=n))with
 |true=>
  rw[bn,ac,ac]at hb;refine Ctr.via (cin:=[]) (rest:=gsF H ⟨s,X,Y,U,d,o⟩) hi (λ_=>F4 H.D.bi A c n hb w (h w (dc.refl _ _))) ?_
  grind
 |false=>
  rw[aS,aa,aa]at hb;obtain⟨k,rfl⟩:∃k:Nat,n=k:=ao Wq1;obtain⟨R,hs,hs2⟩:∃R,fe [s8 H.D.bi d.Wx d.mask] (gsF H ⟨s,X,Y,U,d,o⟩) R/\fe [s8 H.D.bi (d.raise k).Wx d.mask] (gsF H ⟨s,X,Y,U,d.raise k,o⟩) R:=⟨_,by repeat (first|exact .nil _|(apply fe.cons;(repeat (first|exact .head _ _|apply Del.tail)))),by repeat (first|exact .nil _|(apply fe.cons;(repeat (first|exact .head _ _|apply Del.tail))))⟩;refine Ctr.via (hi.perm hs.perm) (λhi2=>nU H.D.bi d.Wx d.mask A c [k] (λx hx=>by grind) w hi2 (λw' hk=>h w' (hi.WU hs hk))) ?_;rintro v cout w' ⟨rfl,rfl⟩ h3;exact⟨_,⟨rfl,rfl⟩,h3.perm hs2.perm.symm⟩
section
variable {bp:Nat} {P:pU} {gs:List MG} {i:Nat} {g:MG} {w:World}
theorem VY{g':MG}{q:St×Mmu×Dev}(h1:g'.H=g.H)(h2:g'.dead=g.dead)(h:(g'.G.s,g'.G.U,g'.G.d)=q):g'.abs=⟨g.H.L.n,q.1,q.2.1,q.2.2,g.dead⟩:=by
 grind [MG.abs]
theorem sj(hM:lG bp P gs)(hg:gs[i]? =some g)(hd:g.dead=false):g.G.ok g.H.L.n:=((hM.at_ i g hg).2.2.1 hd).2
theorem Sv(hM:lG bp P gs)(hg:gs[i]? =some g)(hd:g.dead=false)(hf:g.abs.WV 900000000)(m:Int)(hm0: -9223372036854775808<=m)(hm:m<=10000)(hi:Inv w (bK (iR bp P gs)) (iR bp P gs) w)(ht:∀w',dc (bK (iR bp P gs)) w w'->fc w'):
  Ctr prog 68 [.p g.H.bg,.i m] w (iR bp P gs) (λv cs=>∃P' g',((v= .i (g.abs.ran m)/\g'.abs=g.abs.run m)/\g'.H=g.H/\lG bp P' (gs.set i g'))/\cs=iR bp P' (gs.set i g')):=by
 have ho:g.G.d.out.length<=900000000:=hf.o;have hn:g.H.L.n<=64:=hf.n64;refine(uG (K:=λv G'=>v= .i (g.abs.ran m)/\(G'.s,G'.U,G'.d)=g9 g.H.L.n m g.G.s g.G.U g.G.d) hM hg hd hi (λhK hi2=>OY (g.H.on P) g.G (by show g.H.L.n<=_;omega) (sj hM hg hd) m hm0 Wq1 Wq1 w hi2 (λw' hk=>ht w' (hK w' hk))) ?_).mono ?_
 .rintro v cs ⟨G',⟨h1,h2, -⟩,h3,h4⟩;exact⟨G',⟨h3,h2⟩,h1,h4⟩
 exact Wq216
theorem mgin_ok(hM:lG bp P gs)(hg:gs[i]? =some g)(hd:g.dead=false){k:Nat}(hf:g.abs.WV k)(A:Oa)(c:Nat)(l:Li)(hl:l.length<=9223372036854775807)(hb:u8s l)(hi:Inv w (bK (iR bp P gs)) (iR bp P gs) w)(h:∀w',dc (bK (iR bp P gs)) w w'->Rd w' .u8 A l.length c l):
  Ctr prog 86 [.p g.H.bg,.slice A l.length c] w (iR bp P gs) (λv cs=>∃P' g',((v= .i (g.abs.d.WY l:Int)/\g'.abs={g.abs with d:=g.abs.d.WR l})/\g'.H=g.H/\lG bp P' (gs.set i g'))/\cs=iR bp P' (gs.set i g')):=by
 have hok:=sj hM hg hd;refine(uG (K:=λv G'=>v= .i (g.abs.d.WY l:Int)/\(G'.s,G'.U,G'.d)=(g.G.s,g.G.U,g.G.d.WR l)) hM hg hd hi (λhK hi2=>KQ (g.H.on P) g.G hf.i.i64 A c l hl w hi2 (λw' hk=>h w' (hK w' hk))) ?_).mono ?_
 .rintro v cs ⟨Y',h1,h2⟩;exact⟨⟨g.G.s,g.G.X,Y',g.G.U,g.G.d.WR l,g.G.o⟩,⟨h1,rfl⟩,⟨(Ct hok.g hf.i hb).1,hok.e⟩,h2⟩
 exact Wq216
theorem Ks(hM:lG bp P gs)(hg:gs[i]? =some g)(hd:g.dead=false){k:Nat}(hf:g.abs.WV k)(A:Oa)(c:Nat)(n:Int)(hi:Inv w (bK (iR bp P gs)) (iR bp P gs) w)(h:∀w',dc (bK (iR bp P gs)) w w'->Rd w' .i64 A 1 c [n]):
  Ctr prog 87 [.p g.H.D.bi,.slice A 1 c] w (iR bp P gs) (λv cs=>∃P' g',((v= .bool (!(decide (n<0)||decide (8<=n)))/\g'.abs={g.abs with d:=bif decide (n<0)||decide (8<=n)then g.abs.d else g.abs.d.raise n.toNat})/\g'.H=g.H/\lG bp P' (gs.set i g'))/\cs=iR bp P' (gs.set i g')):=by
 have hok:=sj hM hg hd;refine(uG (K:=λv G'=>v= .bool (!(decide (n<0)||decide (8<=n)))/\(G'.s,G'.U,G'.d)=(g.G.s,g.G.U,bif decide (n<0)||decide (8<=n)then g.G.d else g.G.d.raise n.toNat)) hM hg hd hi (λhK hi2=>OZ (g.H.on P) g.G A c n w hi2 (λw' hk=>h w' (hK w' hk))) ?_).mono ?_
 .rintro v cs ⟨h1,h2⟩;refine⟨⟨g.G.s,g.G.X,g.G.Y,g.G.U,bif decide (n<0)||decide (8<=n)then g.G.d else g.G.d.raise n.toNat,g.G.o⟩,⟨h1,rfl⟩,⟨?_,hok.e⟩,h2⟩;exact bR (λd=>GOk g.H.L.n g.G.s g.G.U d) hok.g (yR hok.g hf.i n.toNat).1
 exact Wq216
theorem Kt(hM:lG bp P gs)(hg:gs[i]? =some g)(hd:g.dead=false)(hi:Inv w (bK (iR bp P gs)) (iR bp P gs) w):
  Ctr prog 88 [.p g.H.bg] w (iR bp P gs) (λv cs=>∃P' g',(g'.abs=g.abs/\g'.H=g.H/\lG bp P' (gs.set i g'))/\cs=iR bp P' (gs.set i g')):=by
 have hok:=sj hM hg hd;refine(uG (K:=λv G'=>(G'.s,G'.U,G'.d)=(g.G.s,g.G.U,g.G.d)) hM hg hd hi (λhK hi2=>O3 (g.H.on P) g.G g.H.L.n hok w hi2) ?_).mono ?_
 .grind
 rintro v cs ⟨P',g',⟨h2,h3,h4,h5⟩,h6⟩;exact⟨P',g',⟨(VY h3 (h4.trans hd.symm) h2).trans rfl,h3,h5⟩,h6⟩
theorem NS(hM:lG bp P gs)(hg:gs[i]? =some g)(hd:g.dead=false)(hi:Inv w (bK (iR bp P gs)) (iR bp P gs) w):
  Ctr prog 89 [.p g.H.bg] w (iR bp P gs) (λv cs=>∃P' g',(g'.abs={g.abs with dead:=true}/\g'.H=g.H/\lG bp P' (gs.set i g'))/\cs=iR bp P' (gs.set i g')):=by
 refine(Ss hM hg hd hi).mono ?_;rintro v cs ⟨P',h5,h6⟩;exact⟨P',⟨g.H,g.G,[],[],true⟩,⟨rfl,rfl,h5⟩,h6⟩
end
theorem Dp(bm:Nat)(m:Mon)(i:Int)(w:World)(h:(lR bm m).ok w):CW prog 62 [.p bm,.i i] w (.bool (decide (0<=i)&&decide (i<(m.gs.length:Int)))):=by
 refine Zfs func62 ntmps62 ?_;refine jl ?_;exact gQ (bS rfl rfl) (bM Zrf (cA rfl)) (dr la rfl) rfl Ez
theorem mone_no(bm:Nat)(m:Mon)(x:ItR)(hx:(decide (0<=x.Wq)&&decide (x.Wq<(m.gs.length:Int)))=false)(w:World)(h:(lR bm m).ok w):
  CW prog 58 [.p bm,.agg x.cells.toArray] w (.agg (Ou.cells ⟨0,gj,22⟩ xZ).toArray):=by
 have HI:=Dp bm m x.Wq;rw[hx]at HI;refine Zfs func58 ntmps58 ?_;refine Z_2 ?_;refine ZO λb3=>?_;refine ZN λb4=>?_
 refine Z_8 ?_;refine ZSe (λw hi=>HI w (bJ.old h hi)) ?_;refine Z_3 ?_;refine pX ?_;refine Z_3 ?_;refine jC ?_;exact bO [row b4 (Ou.cells ⟨0,gj,22⟩ xZ) 107] Zj yr
theorem NN(bm bp ad c:Nat)(P:pU)(gs:List MG)(i:Nat)(g:MG)(hg:gs[i]? =some g)(kd n:Int)(A:Oa)(e nb:Nat)(w:World)(h:(lR bm ⟨bp,some ⟨ad,0,none⟩,c,P,gs⟩).ok w)(h2:(ptrC ⟨bp,some ⟨ad,0,none⟩,c,P,gs⟩).ok w)(h3:(By g.H g.G true).ok w):
  CW prog 58 [.p bm,.agg #[.i kd,.i (i:Int),.i n,.slice A nb e]] w (.agg (Ou.cells (if kd=6 then⟨0,yh,0⟩else⟨0,gj,26⟩) xZ).toArray):=by
 have hil:=(ar.1 hg).1;have HI:=Dp bm ⟨bp,some ⟨ad,0,none⟩,c,P,gs⟩ i;rw[aE (show(0:Int)<=(i:Int) by omega),aE (show(i:Int)<(gs.length:Int) by omega)]at HI;have hp:(gs.map sd)[i]? =some (sd g):=by rw[aX,hg];rfl
 have hr:RdV w 1 (sA ad) gs.length c (gs.map sd):=dM h2;refine Zfs func58 ntmps58 ?_;refine Z_2 ?_;refine ZO λb3=>?_;refine ZN λb4=>?_
 refine Z_8 ?_;refine ZSe (λw hi=>HI w (bJ.old h hi)) ?_;refine iX ?_;refine Z_3 ?_;refine uf ?_;refine ZFe 2 1 ?_;refine Zy5 3 rfl (bM Zrf Zv0) (dr h rfl) ?_;refine ZFe 4 1 ?_;refine ZG 5 ?_;refine Zy4 6 rfl (cC (j:=i) rfl Zrf (Zv rfl) (Zv rfl) Wq2 Wq2) ?_;refine Zy5 7 rfl (bM Zrf Zv0) (dJ hr hp) ?_;refine ZE 8 ?_;refine xx ?_;refine ZSe (λw hi=>zn g.H g.G true w (bJ.old h3 hi)) ?_;refine Zw7 ?_ ?_<;>intro hc4
 .have hk:kd≠6:=bY;rw[if_neg hk];refine Z_3 ?_;refine jC ?_;exact bO [row b4 (Ou.cells ⟨0,gj,26⟩ xZ) 107] Zj yr
 obtain rfl:kd=6:=bY;rw[if_pos rfl];refine rc ?_;refine Wq498 ?_;refine Wq498 ?_;refine kv ?_;refine Z_6 ?_;refine pX ?_;refine Z_3 ?_;refine ZSe (λw hi=>DK g.H g.G w (bJ.old h3 hi)) ?_;refine ZA ?_;refine mR ?_;exact bO [row b4 (Ou.cells ⟨0,yh,0⟩ xZ) 107] Zj yr
abbrev FM(bm bp ad c n:Nat)(ps:List Value)(P:pU)(cs:List bJ):List bJ:=[row bm [.p bp,.slice (sA ad) n c] 115,slv 116 1 (sA ad) n c ps,ia bp P,bP cs]
theorem NM(bm bp ad c:Nat)(P:pU)(gs:List MG)(i:Nat)(g:MG)(hM:lG bp P gs)(hg:gs[i]? =some g)(hd:g.dead=false)(hf:g.abs.WV 900000000)(kd n:Int)(A:Oa)(e:Nat)(b:Li)(hb:u8s b)(hbl:b.length<=9223372036854775807)(hn: -9223372036854775808<=n)(w:World)
  (hi:Inv w (bK (FM bm bp ad c gs.length (gs.map sd) P (gs.flatMap MG.cs))) (FM bm bp ad c gs.length (gs.map sd) P (gs.flatMap MG.cs)) w) (hA:∀w',dc (bK (FM bm bp ad c gs.length (gs.map sd) P (gs.flatMap MG.cs))) w w'->Rd w' .u8 A b.length e b) (ht:∀w',dc (bK (FM bm bp ad c gs.length (gs.map sd) P (gs.flatMap MG.cs))) w w'->fc w'):
  Ctr prog 58 [.p bm,.agg #[.i kd,.i (i:Int),.i n,.slice A b.length e]] w (FM bm bp ad c gs.length (gs.map sd) P (gs.flatMap MG.cs))
   (λv cs=>∃P' g' Y L,(g'.abs=(g.abs.one ⟨kd,i,n,b⟩).1/\g'.H=g.H/\lG bp P' (gs.set i g')/\∀w,(bP L).ok w->oV w (g.abs.one ⟨kd,i,n,b⟩).2.v Y)/\v= .agg (Ou.cells (g.abs.one ⟨kd,i,n,b⟩).2 Y).toArray/\cs=bP L::FM bm bp ad c gs.length (gs.map sd) P' ((gs.set i g').flatMap MG.cs)):=by
 have hil:=(ar.1 hg).1;have HI:∀w,(row bm [.p bp,.slice (sA ad) gs.length c] 115).ok w->_:=λw h=>Dp bm ⟨bp,some ⟨ad,0,none⟩,c,P,gs⟩ i w h
 rw[aE (show(0:Int)<=(i:Int) by omega),aE (show(i:Int)<(gs.length:Int) by omega)]at HI;have hp:(gs.map sd)[i]? =some (sd g):=by rw[aX,hg];rfl
 obtain⟨gn,hgn⟩:=Zgn (gs.length);obtain⟨ps,hps⟩:=Zgn (gs.map sd);have hda:g.abs.dead=false:=hd;have hwf:=hf.wf;have HR:=λ(m:Int) hm0 hm w hi ht=>Sv (w:=w) hM hg hd hf m hm0 hm hi ht
 have HN:=λw hi h=>mgin_ok (w:=w) hM hg hd hf A e b hbl hb hi h
 have HRa:=λB cb w hi h=>Ks (w:=w) hM hg hd hf B cb n hi h
 have HF:=λw hi=>Kt (w:=w) hM hg hd hi
 have HK:=λw hi=>NS (w:=w) hM hg hd hi
 have hse:∀{w0 w:World} {S:List Nat} {cs rest:List bJ},Inv w0 S cs w->fe (iR bp P gs) cs rest->∀c,c∈gsF (g.H.on P) g.G->c.ok w:=λhi hs=>FJ hM hg hd hi hs
 have hV:=IA (g.H.on P) g.G (sj hM hg hd) (show g.G.d.out.length<=1000000000 from aK hf.o bX);have hvw:g.abs.view=g.G.view:=by
  show(bif g.abs.dead then _ else _)=_;rw[hda]
  rfl
 have hst:g.G.s.d.length<=16/\g.G.s.r.length<=16:=⟨(St.fits hf.g.right).1,(St.fits hf.g.right).2.1⟩;have hself:gs.set i g=gs:=Fh hg;obtain⟨a,ha⟩:=Zgn (g.abs);rw[ha]at hda HR HN HRa HF HK hvw|-;rw[hgn,hps]at hi hA ht|-;rw[hgn]at HI;rw[hps]at hp;refine Zfn func58 ntmps58 hi ?_;refine Z_2 ?_;refine ZO λb3=>?_;refine ZN λb4=>?_
 refine Z_8 ?_;refine ZSe (λw hi=>HI w (hi.get Zh)) ?_;refine iX ?_;refine Z_3 ?_;refine uf ?_;refine ZFe 2 1 ?_;refine ZG 3 ?_;refine ZFe 4 1 ?_;refine ZG 5 ?_;refine Zy4 6 rfl (cw (j:=i) (sz:=1) (r:=i) rfl Zrf (Zv rfl) (Zv rfl) Wq2 Wq2 Wq1) ?_;refine Zy5 7 rfl (bM Zrf Zv0) (dG Zh hp) ?_;refine ZE 8 ?_;refine xx ?_;refine ZSe (λw hi=>zn (g.H.on P) g.G false w (hse hi Zi _ cP)) ?_;refine Z_7 ?_;refine kv ?_;refine rc ?_;refine ZW ?_ ?_<;>intro hc8
 .obtain rfl:kd=1:=bY;have e1:a.one ⟨1,i,n,b⟩=(a.run (min n 10000),⟨a.ran (min n 10000),gj,0⟩):=Gx;rw[e1];refine Z_5 ?_;refine Zy (Js (Zv rfl) (Zv rfl) (show _=min n 10000 from by omega)) ?_;refine dy (iR bp P gs) (λw hi hin=>HR (min n 10000) Wq1 Wq1 w hin (λw' hk=>ht w' (hi.WU Zi hk))) ?_;rintro _ _ ⟨P',g',⟨⟨rfl,h1⟩,h2,h3⟩,rfl⟩;refine ZA ?_;refine mR ?_;exact kD (bO (row b4 (Ou.cells ⟨a.ran (min n 10000),gj,0⟩ xZ) 107::bP []::FM bm bp ad c gn ps P' ((gs.set i g').flatMap MG.cs)) Zj Wq50)
 refine Zw6 ?_ ?_<;>intro hc10
 .obtain rfl:kd=2:=bY;have e1:a.one ⟨2,i,n,b⟩=({a with d:=a.d.WR b},⟨a.d.WY b,gj,0⟩):=Gx;rw[e1];refine Z_5 ?_;refine dy (iR bp P gs) (λw hi hin=>HN w hin (λw' hk=>hA w' (hi.WU Zi hk))) ?_;rintro _ _ ⟨P',g',⟨⟨rfl,h1⟩,h2,h3⟩,rfl⟩;refine ZA ?_;refine mR ?_;exact kD (bO (row b4 (Ou.cells ⟨a.d.WY b,gj,0⟩ xZ) 107::bP []::FM bm bp ad c gn ps P' ((gs.set i g').flatMap MG.cs)) Zj Wq50)
 refine Zw6 ?_ ?_<;>intro hc12
 .obtain rfl:kd=3:=bY;have e1:a.one ⟨3,i,n,b⟩=(bif decide (n<0)||decide (8<=n)then(a,⟨0,gj,1⟩)else({a with d:=a.d.raise n.toNat},⟨0,gj,0⟩)):=Gx;rw[e1];refine Zs (gP (Zdn [10]) [(0,0),(1,0),(2,0),(3,4),(4,0),(5,0),(6,1),(7,0),(8,4),(9,2),(10,2),(11,0)] Zk Zk ?_);refine m5 ?_;refine Qz ?_;refine kw rfl (bM Zrf (Zv rfl)) (CO (λw hi=>hse hi Zi (By (g.H.on P) g.G false) cP) rfl) rfl (Qz ?_);refine uY rfl (bM Zrf (Zv rfl)) (CO (λw hi=>hse hi Zi (P4 (g.H.on P).D (g.H.on P).L.bm g.G.d) cP) rfl) rfl (dH rfl (eH 2 rfl Zv0 Zf) rfl (LL ?_));refine fT ?_;refine jG rfl rfl (ff rfl rfl Zrf Zrf rfl rfl) ZJ rfl ?_;rintro _ _ ⟨b57,rfl,rfl⟩;refine fT ?_;refine ZcSn (iR bp P gs) (λw hi hin=>HRa (sA b57) 1 w hin (λw' hk=>hi.WZ Zi (Zhc (slv 3 1 (sA b57) 1 1 [.i n])) hk)) ?_;rintro _ _ ⟨P',g',⟨⟨rfl,h1⟩,h2,h3⟩,rfl⟩;refine dH rfl (y_not Zv0 rfl) rfl (i6 (Zt (ZW ?_ ?_)))<;>intro hc13
  .have hbd:(decide (n<0)||decide (8<=n))=true:=bY;rw[hbd]at h1|-;refine Z_3 ?_;refine mR ?_;exact kD (bO (row b4 (Ou.cells ⟨0,gj,1⟩ xZ) 107::bP []::FM bm bp ad c gn ps P' ((gs.set i g').flatMap MG.cs)) Zj Wq50)
  have hbd:(decide (n<0)||decide (8<=n))=false:=bY;rw[hbd]at h1|-;exact Wq152
 refine Zw6 ?_ ?_<;>intro hc15
 .obtain rfl:kd=4:=bY;have e1:a.one ⟨4,i,n,b⟩=(a,⟨0,gj,0⟩):=Gx;rw[e1];refine Z_2 ?_;refine dy (iR bp P gs) (λw hi hin=>HF w hin) ?_;rintro _ _ ⟨P',g',⟨h1,h2,h3⟩,rfl⟩;exact Wq152
 refine Zw6 ?_ ?_<;>intro hc17
 .obtain rfl:kd=5:=bY;have e1:a.one ⟨5,i,n,b⟩=({a with dead:=true},⟨0,gj,0⟩):=Gx;rw[e1];refine Z_2 ?_;refine dy (iR bp P gs) (λw hi hin=>HK w hin) ?_;rintro _ _ ⟨P',g',⟨h1,h2,h3⟩,rfl⟩;exact Wq152
 refine Zw6 ?_ ?_<;>intro hc19
 .obtain rfl:kd=6:=bY;have e1:a.one ⟨6,i,n,b⟩=(a,⟨0,a.view,0⟩):=Gx;rw[e1,hvw];refine Z_3 ?_;refine ZSn (λw hi=>hV w (hse hi Zi)) ?_;rintro _ _ ⟨Y,rfl,rfl⟩;refine fx (vwC g.G.view Y) Zi (ZA ?_);refine mR ?_;exact bO (row b4 (Ou.cells ⟨0,g.G.view,0⟩ Y) 107::bP (vwC g.G.view Y)::FM bm bp ad c gn ps P (gs.flatMap MG.cs)) Zj (m8 (cs':=(bP (vwC g.G.view Y)::FM bm bp ad c gn ps P (gs.flatMap MG.cs))) (.inl rfl) Zu rfl rfl Zh Zrf Zrf ⟨P,g,Y,vwC g.G.view Y,⟨ha,rfl,hself.symm▸hM,λw h=>vw_rd (ek h) (by show g.G.s.d.length*4<=_;omega) (by show g.G.s.r.length*4<=_;omega)⟩,rfl,by rw[hself]⟩)
 have e1:a.one ⟨kd,i,n,b⟩=(a,⟨0,gj,1⟩):=Gx;rw[e1];refine Z_3 ?_;refine mR ?_;exact kD (bO (row b4 (Ou.cells ⟨0,gj,1⟩ xZ) 107::bP []::FM bm bp ad c gn ps P (gs.flatMap MG.cs)) Zj (m8 (cs':=(bP []::FM bm bp ad c gn ps P (gs.flatMap MG.cs))) (.inl rfl) Zu rfl rfl Zh Zrf Zrf ⟨P,g,xZ,[],⟨ha,rfl,hself.symm▸hM,λw _=>uq w⟩,rfl,by rw[hself]⟩))
theorem rT{sz n c b:Nat}{ad:Addr}{vs:List Value}(h:∀w',dc S w0 w'->RdV w' sz (some ad) n c xs)(hv:∀j v,vs[j]? =some v->xs[b+j]? =some v):∀w,Inv w0 S cs w->cells (ee (ad.add b) 0 vs) w:=λw hi=>
 cE (cs:=[]) (h w hi.WB) hv w ⟨dc.refl _ _,by simp[bK],(λ_ h=>by cases h),(λ_ h=>by simp[bK]at h)⟩
theorem Inv.join0{w:World}(h:Inv w0 S cs w):Inv w0 S (bP []::cs) w:=(h.more (wA w)).perm List.perm_append_comm
theorem Kr{bm:Nat}{m:Mon}:∃r,fe (iR m.bp m.P m.gs) (eE bm m) r:=⟨_,by repeat (first|exact .nil _|(apply fe.cons;(repeat (first|exact .head _ _|apply Del.tail))))⟩
theorem mone_ok(bm:Nat)(m:Mon)(k:Nat)(hm:m.ok k)(hk:k<=900000000)(x:ItR)(hb:u8s x.b)(hbl:x.b.length<=9223372036854775807)(hn: -9223372036854775808<=x.n)(w:World)(hi:Inv w (bK (eE bm m)) (eE bm m) w)(hA:∀w',dc (bK (eE bm m)) w w'->Rd w' .u8 x.A x.b.length x.c x.b)(ht:∀w',dc (bK (eE bm m)) w w'->fc w'):
  Ctr prog 58 [.p bm,.agg x.cells.toArray] w (eE bm m) (λv cs=>∃m' Y L,(m'.ok (k+80000)/\m'.l=(eN m.l x.it).1/\∀w,(bP L).ok w->oV w (eN m.l x.it).2.v Y)/\v= .agg (Ou.cells (eN m.l x.it).2 Y).toArray/\cs=bP L::eE bm m'):=by
 obtain⟨kd,gu,n,A,e,b⟩:=x;dsimp only at hb hbl hn hA;cases hc:(decide (0<=gu)&&decide (gu<(m.gs.length:Int)))with
 |false=>
  have e1:eN m.l ⟨kd,gu,n,b⟩=(m.l,⟨0,gj,22⟩):=Ia (by rw[m.len];exact hc);show Ctr _ _ _ _ _ (λv cs=>∃m' Y L,(m'.ok (k+80000)/\m'.l=(eN m.l ⟨kd,gu,n,b⟩).1/\∀w,(bP L).ok w->oV w (eN m.l ⟨kd,gu,n,b⟩).2.v Y)/\v= .agg (Ou.cells (eN m.l ⟨kd,gu,n,b⟩).2 Y).toArray/\cs=bP L::eE bm m');rw[e1];refine Ctr.via (cin:=[]) (rest:=eE bm m) hi (λ_=>mone_no bm m ⟨kd,gu,n,A,e,b⟩ hc w (hi.ok _ (.head _))) ?_;rintro v cout w' ⟨rfl,rfl⟩ h3;exact⟨_,⟨m,xZ,[],⟨hm.le Wq1,rfl,λw _=>uq w⟩,rfl,rfl⟩,Inv.join0 h3⟩
 |true=>
  rw[au,ac,ac]at hc;obtain⟨i,rfl⟩:∃i:Nat,gu=i:=ao hc.1;have hil:i<m.gs.length:=by omega
  obtain⟨g,hg⟩:∃g,m.gs[i]? =some g:=⟨_,ae hil⟩;have hga:=Mon.at_ hg;have hf:g.abs.WV k:=hm.f _ (ak hga);have e1:eN m.l ⟨kd,i,n,b⟩=(m.l.set i (g.abs.one ⟨kd,i,n,b⟩).1,(g.abs.one ⟨kd,i,n,b⟩).2):=Ib hga rfl;have hfi:=y7 (x:=⟨kd,i,n,b⟩) hm.f hb;show Ctr _ _ _ _ _ (λv cs=>∃m' Y L,(m'.ok (k+80000)/\m'.l=(eN m.l ⟨kd,i,n,b⟩).1/\∀w,(bP L).ok w->oV w (eN m.l ⟨kd,i,n,b⟩).2.v Y)/\v= .agg (Ou.cells (eN m.l ⟨kd,i,n,b⟩).2 Y).toArray/\cs=bP L::eE bm m');rw[e1]at hfi|-;obtain⟨r,hs⟩:=Kr (bm:=bm) (m:=m);obtain⟨bp,A0,c,P,gs⟩:=m;dsimp only at hg hil hs;obtain⟨ad,rfl⟩:=eM (hi.ok (slv 116 1 A0 gs.length c (gs.map sd)) (.tail _ (.head _))) Wq1;cases hd:g.dead with
  |true=>
   have hdd:g.abs.dead=true:=hd;obtain⟨q1,q2⟩:=Sh (x:=⟨kd,i,n,b⟩) hdd;rw[q1,q2];refine Ctr.via (cin:=[]) (rest:=eE bm ⟨bp,some ⟨ad,0,none⟩,c,P,gs⟩) hi (λ_=>NN bm bp ad c P gs i g hg kd n A e b.length w (hi.ok _ (.head _)) (hi.ok _ (.tail _ (.head _))) (Bb hg hd hi hs)) ?_;rintro v cout w' ⟨rfl,rfl⟩ h3;refine⟨_,⟨⟨bp,some ⟨ad,0,none⟩,c,P,gs⟩,xZ,[],⟨hm.le Wq1,(Fh hga).symm,λw _=>?_⟩,rfl,rfl⟩,Inv.join0 h3⟩
   grind [yh,gj,xZ,I3,uq]
  |false=>
   refine(NM bm bp ad c P gs i g hm.g hg hd (hf.le hk) kd n A e b hb hbl hn w hi hA ht).mono ?_;rintro v cs ⟨P',g',Y,L,⟨h1,h2,h3,h4⟩,h5,h6⟩;have e5:(⟨bp,some ⟨ad,0,none⟩,c,P',gs.set i g'⟩:Mon).l=(Mon.l ⟨bp,some ⟨ad,0,none⟩,c,P,gs⟩).set i (g.abs.one ⟨kd,i,n,b⟩).1:=by
    rw[<-h1];exact List.map_set
   refine⟨⟨bp,some ⟨ad,0,none⟩,c,P',gs.set i g'⟩,Y,L,⟨⟨h3,by grind⟩,e5,h4⟩,h5,?_⟩;rw[h6];show _=bP L::[row bm [.p bp,.slice (sA ad) (gs.set i g').length c] 115,slv 116 1 (sA ad) (gs.set i g').length c ((gs.set i g').map sd),ia bp P',bP ((gs.set i g').flatMap MG.cs)];rw[List.length_set,Tf hg h2]
theorem ouR_one(z:OuR):∀u∈z.cells,u.oneCell'=true:=mQ rfl
abbrev ouF(A:Oa)(c:Nat)(Z:List OuR)(J:List bJ):List bJ:=[slv 107 25 A Z.length c (Z.flatMap OuR.cells),bP J]
def OuOk(J:List bJ)(Z:List OuR):Prop:=∀w,(bP J).ok w->∀z,z∈Z->oV w z.o.v z.Y
theorem OuOk.snoc{J L:List bJ}{Z:List OuR}{z:OuR}(h:OuOk J Z)(hz:∀w,(bP L).ok w->oV w z.o.v z.Y):OuOk [bP L,bP J] (Z++[z]):=λw hj y hy=>by
 have e:∀c,c∈[bP L,bP J]->c.ok w:=ek hj;rcases az.1 hy with q|q
 .exact h w (e _ (.tail _ (.head _))) y q
 grind
theorem NW(bm:Nat)(m:Mon)(k:Nat)(hm:m.ok k)(xs:List ItR)(hk:k+80000*xs.length<=900000000)(A:Oa)(c:Nat)(hx:∀x,x∈xs->u8s x.b/\x.b.length<=9223372036854775807/\ -9223372036854775808<=x.n)(w:World)(hi:Inv w (bK (eE bm m)) (eE bm m) w)(hA:∀w',dc (bK (eE bm m)) w w'->RdV w' 4 A xs.length c (xs.flatMap ItR.cells))(hB:∀w',dc (bK (eE bm m)) w w'->∀x,x∈xs->Rd w' .u8 x.A x.b.length x.c x.b)(ht:∀w',dc (bK (eE bm m)) w w'->fc w'):
  Ctr prog 33 [.p bm,.slice A xs.length c] w (eE bm m) (λv cs=>∃m' Z A' c' J,(m'.ok (k+80000*xs.length)/\m'.l=ER m.l (xs.map ItR.it)/\Z.map OuR.o=lx m.l (xs.map ItR.it)/\OuOk J Z)/\v= .slice A' Z.length c'/\cs=ouF A' c' Z J++eE bm m'):=by
 obtain⟨l0,hl0⟩:=Zgn (m.l);rw[hl0];obtain⟨S,hS⟩:=Zgn (bK (eE bm m));refine Zfn func33 ntmps33 hi ?_;rw[hS]at hA hB ht|-;refine ng ?_;refine cY 107 25 (fg (eY (ouF none 0 [] []++eE bm m) Zj (Z_6 ?_)));refine wLo (λq:Nat×Mon×List OuR×Option Addr×Nat×List bJ=>[(0,.p bm),(5,.slice q.2.2.2.1 q.2.2.1.length q.2.2.2.2.1),(8,.slice A xs.length c),(9,.i (xs.length:Int)),(10,.i (q.1:Int))]) (λq=>ouF q.2.2.2.1 q.2.2.2.2.1 q.2.2.1 q.2.2.2.2.2++eE bm q.2.1) (λq=>q.1<=xs.length/\q.2.1.ok (k+80000*q.1)/\q.2.1.l=ER l0 ((xs.take q.1).map ItR.it)/\q.2.2.1.map OuR.o=lx l0 ((xs.take q.1).map ItR.it)/\OuOk q.2.2.2.2.2 q.2.2.1) (λq=>xs.length - q.1) ((⟨0,m,[],none,0,[]⟩:Nat×Mon×List OuR×Option Addr×Nat×List bJ)) ⟨ap _,hm,hl0,rfl,λw _ z hz=>by cases hz⟩ ?_;rintro⟨i,m,Z,A2,c2,J⟩ ⟨hi0,hm,hl,hZ,hJ⟩;dsimp only at hi0 hm hl hZ hJ|-;have hZl:Z.length=i:=(by have e:=congrArg List.length hZ;rw[ax,qC,ax,aD]at e;omega);refine Zw6 ?_ ?_<;>intro hc3
 .simp only[ac]at hc3;have hil:i<xs.length:=Wq1;obtain⟨x,hxi⟩:∃x,xs[i]? =some x:=⟨_,ae hil⟩;have hxm:=ak hxi;obtain⟨hx1,hx2,hx3⟩:=hx x hxm;obtain⟨ad,rfl⟩:=(hA w (dc.refl _ _)).some_ Wq1;have htk:(xs.take (i+1)).map ItR.it=(xs.take i).map ItR.it++[x.it]:=(by rw[bE,hxi];simp);have hM:=mone_ok bm m (k+80000*i) hm Wq1 x hx1 hx2 hx3;rw[hl]at hM;have hsn:=NL (l:=l0) (xs:=(xs.take i).map ItR.it) (x:=x.it);have hso:=yZ (l:=l0) (xs:=(xs.take i).map ItR.it) (x:=x.it);rw[<-htk]at hsn hso;rw[<-hsn]at hM;obtain⟨o,ho⟩:=Zgn ((eN (ER l0 ((xs.take i).map ItR.it)) x.it).2);rw[ho]at hM hso;refine Z_6 ?_;refine EE ?_;refine dQ (bW (vs:=x.cells) Zrf Zrf Zv0) (rT hA (λj v hj=>bZ ItR.V8 (i:=j) hxi hj)) rfl ?_;refine ZN λb7=>?_
  refine jj ?_;refine dy (eE bm m) (λw hi hin=>hM w hin (λw' hk=>hB w' (hi.WU Zi hk) x hxm) (λw' hk=>ht w' (hi.WU Zi hk))) ?_;rintro _ _ ⟨m2,Y,L,⟨hm2,hl2,hL⟩,rfl,rfl⟩;refine pZ ?_;rintro _ _ ⟨b18,rfl,rfl⟩;refine fo (bV (e:=107) (sz:=25) (bytes:=232) rfl rfl Za rfl rfl (λw hi=>hi.rd (Zhc (slv 107 25 (sA b18) 1 1 (OuR.cells ⟨o,Y⟩)))) (ouR_one ⟨o,Y⟩) Wq9 Wq1) rfl ?_;rintro _ _ ⟨A3,c3,rfl,rfl⟩;rw[show Z.length+1=(Z++[(⟨o,Y⟩:OuR)]).length from(by grind),show Z.flatMap OuR.cells++OuR.cells ⟨o,Y⟩=(Z++[(⟨o,Y⟩:OuR)]).flatMap OuR.cells from(by grind)];refine fx [bP L,bP J] Zi (lI ?_);have hZ2:(Z++[(⟨o,Y⟩:OuR)]).map OuR.o=lx l0 ((xs.take (i+1)).map ItR.it):=bY;refine qMP ((⟨i+1,m2,Z++[(⟨o,Y⟩:OuR)],A3,c3,[bP L,bP J]⟩:Nat×Mon×List OuR×Option Addr×Nat×List bJ)) ⟨⟨show i+1<=xs.length by omega,hm2.le Wq1,hl2,hZ2,hJ.snoc hL⟩,show xs.length - (i+1)<xs.length - i by omega⟩
 simp only[aa]at hc3;obtain rfl:i=xs.length:=Wq1;refine fb ?_;refine Zrb ((ouF A2 c2 Z J++eE bm m)) ?_;rw[bC]at hl hZ;exact⟨m,Z,A2,c2,J,⟨hm,hl,hZ,hJ⟩,rfl,rfl⟩
theorem NV(bm:Nat)(m:Mon)(k:Nat)(hm:m.ok k)(xs:List ItR)(hk:k+80000*xs.length<=900000000)(A:Oa)(c:Nat)(hx:∀x,x∈xs->u8s x.b/\x.b.length<=1000/\ -9223372036854775808<=x.n)(w:World)(hi:Inv w (bK (eE bm m)) (eE bm m) w)(hA:∀w',dc (bK (eE bm m)) w w'->RdV w' 4 A xs.length c (xs.flatMap ItR.cells))(hB:∀w',dc (bK (eE bm m)) w w'->∀x,x∈xs->Rd w' .u8 x.A x.b.length x.c x.b)(ht:∀w',dc (bK (eE bm m)) w w'->fc w'):
  Ctr prog 33 [.p bm,.slice A xs.length c] w (eE bm m) (λv cs=>∃m' Z A' c' J,(m'.ok (k+80000*xs.length)/\m'.l=ER m.l (xs.map ItR.it)/\Z.map OuR.o=lx m.l (xs.map ItR.it)/\OuOk J Z)/\v= .slice A' Z.length c'/\cs=ouF A' c' Z J++eE bm m'):=
 NW bm m k hm xs hk A c (λx q=>⟨(hx x q).1,aK (hx x q).2.1 bX,(hx x q).2.2⟩) w hi hA hB ht
theorem oK(bm:Nat)(m:Mon)(w:World)(h:(lR bm m).ok w):CW prog 37 [.p bm] w (.i (m.l.length:Int)):=by
 rw[m.len];refine Zfs func37 ntmps37 ?_;refine uh ?_;exact xy
theorem uE(bm:Nat)(m:Mon)(k:Nat)(hm:m.ok k)(hk:k<=1000000000)(i:Nat)(a:Ag)(ha:m.l[i]? =some a)(w:World){w0:World}{S:List Nat}{cs rest:List bJ}(hi:Inv w0 S cs w)(hs:fe (eE bm m) cs rest):
  Ctr prog 38 [.p bm,.i (i:Int)] w [] (λv cs=>∃Y L,(∀w,(bP L).ok w->oV w a.view Y)/\v= .tuple #[vv a.view Y,.bool true]/\cs=[bP L]):=by
 obtain⟨g,hg,rfl⟩:=Mon.get ha;have hil:=(ar.1 hg).1;have hf:g.abs.WV k:=hm.f _ (ak ha);have h1:(lR bm m).ok w:=hi.okS hs _ (.head _);have h2:(ptrC m).ok w:=hi.okS hs _ (.tail _ (.head _));have hi2:Inv w0 S (eE bm m++rest) w:=hi.perm hs.perm;obtain⟨r,hs2⟩:∃r,fe (iR m.bp m.P m.gs) (eE bm m++rest) r:=⟨_,by repeat (first|exact .nil _|(apply fe.cons;(repeat (first|exact .head _ _|apply Del.tail))))⟩;obtain⟨ad,hA⟩:=eM h2 Wq1;have HI:=Dp bm m i;rw[aE (show(0:Int)<=(i:Int) by omega),aE (show(i:Int)<(m.gs.length:Int) by omega)]at HI;have hp:(m.gs.map sd)[i]? =some (sd g):=by rw[aX,hg];rfl
 have hr:RdV w 1 m.A m.gs.length m.c (m.gs.map sd):=dM h2;rw[hA]at hr;have hst:g.G.s.d.length<=16/\g.G.s.r.length<=16:=⟨(St.fits hf.g.right).1,(St.fits hf.g.right).2.1⟩;cases hd:g.dead with
 |true=>
  have hv:g.abs.view=yh:=by
   show(bif g.dead then _ else _)=_;rw[hd]
   rfl
  have h3:=Bb hg hd hi2 hs2;rw[hv];refine Zfs func38 ntmps38 ?_;refine Z_2 ?_;refine ZN λb4=>?_;refine Z_8 ?_;refine UG ?_;refine ZSe (λw hi=>DK g.H g.G w (bJ.old h3 hi)) ?_;refine jC ?_;exact kD (bO [row b4 (yh.cells xZ) 55,bP []] Zj (px (cs':=[bP []]) (.inl rfl) Zu rfl rfl rfl Zh Zrf Zrf ⟨xZ,[],λw _=>I3 w,rfl,rfl⟩))
 |false=>
  have hv:g.abs.view=g.G.view:=by
   show(bif g.dead then _ else _)=_;rw[hd]
   rfl
  have h3:=FJ hm.g hg hd hi2 hs2;rw[hv];refine Zfs func38 ntmps38 ?_;refine Z_2 ?_;refine ZN λb4=>?_;refine Z_8 ?_;refine UG ?_;refine ZSn (λw hi=>IA (g.H.on m.P) g.G (sj hm.g hg hd) (aK hf.o hk) w (λc hc=>bJ.old (h3 c hc) hi)) ?_;rintro _ _ ⟨Y,rfl,rfl⟩;refine fx (vwC g.G.view Y) Zi (jC ?_);exact bO [row b4 (g.G.view.cells Y) 55,bP (vwC g.G.view Y)] Zj (px (cs':=[bP (vwC g.G.view Y)]) (.inl rfl) Zu rfl rfl rfl Zh Zrf Zrf ⟨Y,vwC g.G.view Y,λw h=>vw_rd (ek h) (by show g.G.s.d.length*4<=_;omega) (by show g.G.s.r.length*4<=_;omega),rfl,rfl⟩)
theorem Sw(bm:Nat)(m:Mon)(w:World)(hl:du m.P.B m.P.ow m.P.pr)(h:(lR bm m).ok w)(h2:(ia m.bp m.P).ok w):CW prog 56 [.p bm] w (.i (mH m.P.ow 256:Int)):=by
 refine Zfs func56 ntmps56 ?_;refine uh ?_;refine ZSe (λw hi=>R6 m.bp m.P.B m.P.ow m.P.pr hl w (bJ.old h2 hi)) ?_;exact o7
end
end Go.Ink
