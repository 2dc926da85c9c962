/- For every input the law ShellRuns answers true and leaves every argument as it was; the table of math/bits is what the program's text lays (the card ties it); no other condition. -/
import Derived.Test.YtgpahfcaecojgaaGreatDoorPbb
import Derived.Test.YtgpahfcaecojgaaGreatDoorPbg
import Derived.Test.YtgpahfcaecojgaaGreatDoorPbi
import Derived.Test.YtgpahfcaecojgaaGreatDoorPbl
import Derived.Test.YtgpahfcaecojgaaGreatDoorPbn
import Derived.JoinedOf
import Derived.Test.YtgpahfcaecojgaaGreatDoorCards
import Derived.Test.YtgpahfcaecojgaaGreatDoorTie
import Derived.SevenTiedAt
import Derived.Test.YtgpahfcaecojgaaGreatDoorPbtF
set_option linter.all false
set_option maxRecDepth 100000
set_option maxHeartbeats 4000000
namespace Go.Proofs.YtgpahfcaecojgaaGreatDoor
open Go
open Go.RowKit Go.Ink Go.Proofs.Tryz
attribute [local irreducible] OpY bN
theorem CM(A B:Oa)(c e:Nat)(l:List Bo4)(its:List ItR)(tr:Bool)(w:World)(h:RdV w 4 A l.length c (l.flatMap Bo4.cells))(hl:∀y,y∈l->y.x.ok w)(h2:RdV w 4 B its.length e (its.flatMap ItR.cells))(hit:∀x,x∈its->x.okN w)(ht:fc w):
  CW prog 10 [.slice A l.length c,.slice B its.length e,.bool tr] w (.bool true):=by
 have hT:=qI (λx hx=>(hit x hx).o);have hTl:=wv its;have hTm:=Dz hit;have hTr:=λx hx=>(hT x hx).1.rd
 have HS:=mw A c l B e its;obtain⟨T,hTe⟩:=Zgn (iT its);rw[hTe]at hT hTl hTm hTr HS;have hm2:=BQ (p:=100) (f:=λn=>dF n 0 60) (λn=>Ck n 60 bX) hTm;have hr2:=Gq (p:=100) (f:=λn=>dF n 0 60) (w:=w) hTr;obtain⟨F,hF⟩:=Zgn (TX 100 (λn=>dF n 0 60));have hFy:=λ(kd g n:Int) (A:Oa) (c:Nat) (b:Li) (q:100<n)=>BP (f:=λn=>dF n 0 60) (kd:=kd) (g:=g) (A:=A) (c:=c) (b:=b) q
 have hFn:=λ(x:ItR) (q:¬100<x.n)=>Gr (f:=λn=>dF n 0 60) q
 rw[hF]at hm2 hr2 hFy hFn;refine Zfs func10 ntmps10 ?_;refine Wq284 ?_;rintro _ _ ⟨_,⟨A3,c3,L,J,B3,e3,hI,rfl,rfl⟩,rfl⟩;refine ZN λb7=>?_
 refine Wq321 ?_;refine wLo (λj:Nat=>[(2,.bool tr),(7,.p b7),(8,.i (j:Int))]) (λj=>[row b7 [.slice A3 L.length c3,.slice B3 T.length e3] 27,imC A3 c3 L,bP J,itM B3 e3 T.length (mix F T j)]) (λj=>j<=T.length) (λj=>T.length - j) (0) (ap _) ?_;rintro j hj0;refine mZ ?_ ?_<;>intro hc3
 .simp only[ac]at hc3;have hjl:j<T.length:=Wq1;refine lp (λw hi=>dV (hi.get (Zhc (itM B3 e3 T.length (mix F T j)))) Wq1) (λhq=>?_);obtain⟨bz,rfl⟩:=hq;obtain⟨x,hx⟩:∃x,T[j]? =some x:=⟨_,ae hjl⟩;have hmx:=Bf (F:=F) hx;have hms:=Bc (F:=F) hx;have hmn:=λq=>Be (F:=F) hx (hFn x q)
  obtain⟨kd,g,n,xA,xc,xb⟩:=x;have hFx:=hFy kd g n xA xc xb;have HW:=λw=>eU n 0 60 w bX bX bX
  refine Wq112 ?_;refine ZW ?_ ?_<;>intro hc5
  .simp only[ac]at hc5;have hF1:=hFx hc5;refine bU (Zdn [12]) Zk (ui ?_);refine ZE 2 ?_;refine ZFe 3 1 ?_;refine ZG 4 ?_;refine ZE 5 ?_;refine Wq188 ?_;rintro _ _ ⟨_,⟨rfl,rfl⟩,rfl⟩;refine Wq348 ?_;rintro _ _ ⟨rfl,rfl⟩;rw[uM ItR.V8 (y:=⟨kd,g,dF n 0 60,xA,xc,xb⟩) hmx (show 2<4 by decide) rfl,<-hF1,hms];refine dR ?_;refine jS ?_;refine qMP (j+1) ⟨by omega,by omega⟩
  simp only[aa]at hc5;rw[hmn hc5];refine lI ?_;refine qMP (j+1) ⟨by omega,by omega⟩
 simp only[aa]at hc3;obtain rfl:j=T.length:=Wq1;have hma:=FO (F:=F) (T:=T) (aL _);have hml:(T.map F).length=T.length:=ax ..;have hTb:∀x,x∈(T.map F).map ItR.it->u8s x.b:=(λx hx=>by obtain⟨y,hy,rfl⟩:=aZ.1 hx;exact(hm2 y hy).1);rw[hma];obtain⟨T2,hT2⟩:=Zgn (T.map F);rw[hT2]at hm2 hr2 hml hTb|-;rw[<-hml];have hT2l:T2.length<=20:=Wq1;have him3:=zg hI;have ht5:(T2.map ItR.it).take 512=T2.map ItR.it:=aM GA;refine Z_9 ?_;refine ZSn (λw hi=>sS tr A3 c3 L B3 e3 T2 him3 hm2 w (hi.rd (Zhc (imC A3 c3 L))) (hI.rd w (λa ha=>(hl a ha).dk.Wh hi) (hi.get (Zhc (bP J)))) (hi.rd (Zhc (iU B3 e3 T2))) (λx hx=>(hr2 x hx).Wh hi) (ht.old hi)) ?_;rintro _ _ ⟨R1,hR1,rfl,rfl⟩;rw[ht5]at hR1;have hzw:=hR1.zwf;have hvw:=hR1.vwf;have hw1:=hR1.why;have hz1:=hR1.z;have hv1:=hR1.v;have hj1:=hR1.j;have hk1:=hR1.k;have hzl:=hR1.zlen;have hvl:=hR1.vlen;obtain⟨A5,c5,Z5,J5,B5,e5,V5,K5,w5⟩:=R1;dsimp only at hzw hvw hw1 hz1 hv1 hj1 hk1 hzl hvl;have hbs:=w8 L;have hv5:V5.length<=5:=(by rw[hvl];exact aK Nb (by rw[ax];exact hI.n5));refine ZN λb9=>?_
 refine iC ?_;by_cases hb0:jB L=0
 .refine Z_4 ?_;refine ZSn (λw hi=>uP hb0 him3 (hi.rd (Zhc (imC A3 c3 L))) (hI.rd w (λa ha=>(hl a ha).dk.Wh hi) (hi.get (Zhc (bP J))))) ?_;rintro _ _ ⟨bm,m,⟨hm,hlm⟩,rfl,rfl⟩;refine sG ?_;refine Z_5 ?_;have hyes:=hbs.symm.trans hb0;rw[hyes]at hw1;subst hw1;obtain⟨y1,y2⟩:=Na (T:=T2.map ItR.it) hyes;rw[<-ag_si,<-hlm]at y1 y2;have hzl2:Z5.length=T2.length:=(by rw[hzl,AJ hyes,ax]);refine Z_9 ?_;refine kv ?_;refine Z_4 ?_;refine bU (Zdr [5] (mU b9 [.slice A5 Z5.length c5,.slice B5 V5.length e5,.i 0])) Zk (ZFe 0 0 ?_);refine eu 1 rfl Zk Zk Zk (bM Zrf Zv0) (dg rfl) (bL (t:=45) Zh) rfl (ZE 2 ?_);refine ZFe 3 1 ?_;refine ZG 4 ?_;refine kQ ?_;refine gX rfl rfl (dN (eE bm m) rfl (λ_ _=>rfl) Zi (λw hi hin=>NV bm m 0 hm T2 Wq1 B3 e3 hm2 w hin (λw' hk=>hi.WZ Zi (Zhc (iU B3 e3 T2)) hk) (λw' hk x hx=>RdV.Wm (hr2 x hx) hi Zi hk) (λw' hk=>RdV.Wm ht hi Zi hk))) (λ_=>by rintro _ _ ⟨_,⟨m2,Z6,A6,c6,J6,⟨hm2b,hl6,hZ6,hJ6⟩,rfl,rfl⟩,rfl⟩;exact bL (t:=45) Zh) rfl ?_;rintro _ _ ⟨_,⟨m2,Z6,A6,c6,J6,⟨hm2b,hl6,hZ6,hJ6⟩,rfl,rfl⟩,rfl⟩;have hzz:Z5.map OuR.o=Z6.map OuR.o:=(by rw[hz1,y1,hZ6]);have hm4:m2.l.length<=4:=(by rw[m2.len];exact hm2b.g.four);have hvm:V5.map VwR.v=m2.l.map Ag.view:=(by rw[hv1,y2,hl6]);have hvlm:V5.length=m2.l.length:=(by have q:=congrArg List.length hvm;rw[ax,ax]at q;exact q);refine cW 6 Zk (gX rfl rfl (dh rfl (λ_ _=>rfl) (λw hi=>qz A5 A6 c5 c6 Z5 Z6 hzz hzw w (hi.rd (Zhc (vU A5 c5 Z5))) (hi.rd (Zhc (vU A6 c6 Z6))) (hj1 w (hi.get (Zhc (bP J5)))) (hJ6 w (hi.get (Zhc (bP J6)))))) (λ_=>by rintro _ _ ⟨_,⟨rfl,rfl⟩,rfl⟩;exact bL (t:=45) Zh) rfl ?_);rintro _ _ ⟨_,⟨rfl,rfl⟩,rfl⟩;refine ZE 7 ?_;refine Wq92 ?_;refine cW 13 Zk (p6 rfl rfl (bQ rfl rfl) rfl (dh rfl (λ_ _=>rfl) (λw hi=>oK bm m2 w (hi.get (Zhc (lR bm m2))))) (λ_=>by rintro _ _ ⟨_,⟨rfl,rfl⟩,rfl⟩;exact bL (t:=45) Zh) rfl ?_);rintro _ _ ⟨_,⟨rfl,rfl⟩,rfl⟩;refine Zy6 14 rfl (bQ rfl rfl) (lK (cA rfl) (cA rfl) (show _=false from by rw[hvlm];exact bj _)) ?_;refine ZE 15 ?_;refine dR ?_;refine Zt (cy rfl (rfl) ?_);refine Z_5 ?_;refine eY ([row b7 [.slice A3 L.length c3,.slice B3 T2.length e3] 27,imC A3 c3 L,bP J,iU B3 e3 T2,row b9 [.slice A5 Z5.length c5,.slice B5 V5.length e5,.i 0] 45,vU A5 c5 Z5,bP J5,Co B5 e5 V5,bP K5]++eE bm m2) Zj (Z_4 ?_);refine wLo (λi:Nat=>[(2,.bool tr),(7,.p b7),(9,.p b9),(10,.p bm),(12,.i (i:Int))]) (λ_=>[row b7 [.slice A3 L.length c3,.slice B3 T2.length e3] 27,imC A3 c3 L,bP J,iU B3 e3 T2,row b9 [.slice A5 Z5.length c5,.slice B5 V5.length e5,.i 0] 45,vU A5 c5 Z5,bP J5,Co B5 e5 V5,bP K5]++eE bm m2) (λi=>i<=V5.length) (λi=>V5.length - i) (0) (ap _) ?_;rintro i hi0;refine mZ ?_ ?_<;>intro hc16
  .simp only[ac]at hc16;have hil:i<V5.length:=Wq1;refine lp (λw hi=>dV (hi.get (Zhc (Co B5 e5 V5))) Wq1) (λhq=>?_);obtain⟨by5,rfl⟩:=hq;obtain⟨x,hx⟩:∃x,V5[i]? =some x:=⟨_,ae hil⟩;obtain⟨g,hg⟩:∃g,m2.l[i]? =some g:=⟨_,ae (show i<m2.l.length by omega)⟩;have hxm:=ak hx;have hxw:=hvw x hxm;have hxy:=map_at2 hvm hx hg;have r1:=λw q=>hk1 w q x hxm
   obtain⟨v,Y1⟩:=x;dsimp only at hxy hxw r1;subst hxy;refine Z_8 ?_;refine ZSn (λw hi=>uE bm m2 _ hm2b Wq1 i g hg w hi Zi) ?_;rintro _ _ ⟨Y4,J4,hR4,rfl,rfl⟩;refine Z_3 ?_;refine ZN λb13=>?_
   refine jC ?_;refine uf ?_;refine ZE 2 ?_;refine i7 3 rfl Zk Zk Zk Zk (bQ rfl rfl) Zh Zrf Zrf (Zv rfl) rfl (ZFf 4 1 ?_);refine Zy7 5 rfl (bQ rfl rfl) (bM Zrf (cA rfl)) (cB Zh rfl) ?_;refine ZF 6 ?_;refine Zy6 7 rfl (bQ rfl rfl) (cw (j:=i) (sz:=23) (r:=i*23) rfl Zrf (cA rfl) (cA rfl) Wq2 Wq2 Wq1) ?_;refine Zy7 8 rfl (bQ rfl rfl) (bW (vs:=g.view.cells Y1) Zrf Zrf (cA rfl)) (rJ (Zhc (Co (sA by5) e5 V5)) (λj v hj=>bZ VwR.V8 (i:=j) hx hj)) ?_;refine kR ?_;refine p6 rfl rfl (bQ rfl rfl) rfl (dh rfl (λ_ _=>rfl) (λw hi=>uK g.view Y4 Y1 hxw w (hR4 w (hi.get (Zhc (bP J4)))) (r1 w (hi.get (Zhc (bP K5)))))) ZJ rfl ?_;rintro _ _ ⟨_,⟨rfl,rfl⟩,rfl⟩;refine ZF 10 ?_;refine ZE 11 ?_;refine dR ?_;refine Zt (cy rfl (rfl) ?_);refine lI ?_;refine qMP (i+1) ⟨by omega,by omega⟩
  simp only[aa]at hc16;refine Z_6 ?_;by_cases hR:fC (L.map Im.si) (T2.map ItR.it)=0
  .have hE:=BE (F5 hI) hTb;have hde:=BK _ _ hR;have HY:=λ{w:World} h hr k kr=>lW (A:=A3) (B:=B3) (c:=c3) (e:=e3) hR (w:=w) h hr k kr
   obtain⟨E,hEe⟩:=Zgn (pV (L.map Im.si) (T2.map ItR.it));rw[hEe]at hE hde HY;refine Z_2 ?_;refine ZSn (λw hi=>HY (hi.rd (Zhc (imC A3 c3 L))) (hI.rd w (λa ha=>(hl a ha).dk.Wh hi) (hi.get (Zhc (bP J)))) (hi.rd (Zhc (iU B3 e3 T2))) (λx hx=>(hr2 x hx).Wh hi)) ?_;rintro _ _ ⟨A8,c8,rfl,rfl⟩;refine jl ?_;refine pX ?_;refine Z_4 ?_;refine ZSn (λw hi=>nB tr A8 c8 E hE w (hi.rd (Zhc (u8C A8 c8 E))) (ht.old hi)) ?_;rintro _ _ ⟨R3,hR3,rfl,rfl⟩;rw[hde]at hR3;dsimp only at hR3;have hz3:R3.Z.map OuR.o=Z5.map OuR.o:=(by rw[hR3.z,RF,hz1]);have hv3:R3.V.length=V5.length:=(by rw[hR3.vlen,RE,hvl]);have hw3:R3.why=0:=hR3.why.trans hyes;have hz3w:=hR3.zwf;have hj3:=hR3.j;obtain⟨A9,c9,Z9,J9,B9,e9,V9,K9,w9⟩:=R3;dsimp only at hz3 hv3 hw3 hz3w hj3|-;subst hw3;refine ZN λb17=>?_
   refine ZM ?_;refine fb ?_;refine fF (bS rfl rfl) rfl (dh rfl (λ_ _=>rfl) (λw hi=>qz A9 A5 c9 c5 Z9 Z5 hz3 hz3w w (hi.rd (Zhc (vU A9 c9 Z9))) (hi.rd (Zhc (vU A5 c5 Z5))) (hj3 w (hi.get (Zhc (bP J9)))) (hj1 w (hi.get (Zhc (bP J5)))))) rfl ?_;rintro _ _ ⟨_,⟨rfl,rfl⟩,rfl⟩;refine Z_8 ?_;refine Zyy rfl rfl (jn (cA rfl) (cA rfl) (show _=true from by rw[hv3];exact beq_self_eq_true _)) ?_;refine Z_2 ?_;exact Wq118
  refine Z_2 ?_;refine ZSe (λw hi=>D6 hR (hi.rd (Zhc (imC A3 c3 L))) (hI.rd w (λa ha=>(hl a ha).dk.Wh hi) (hi.get (Zhc (bP J)))) (hi.rd (Zhc (iU B3 e3 T2))) (λx hx=>(hr2 x hx).Wh hi)) ?_;refine gq ?_;refine Zy (jn (Zv rfl) (Zv rfl) (show _=false from aV.2 hR)) ?_;refine pN ?_;refine Z_4 ?_;refine ZSe (λw hi=>lU w (ht.old hi)) ?_;exact o7
 refine Z_4 ?_;refine ZSe (λw hi=>BR rfl hb0 him3 (hi.rd (Zhc (imC A3 c3 L))) (hI.rd w (λa ha=>(hl a ha).dk.Wh hi) (hi.get (Zhc (bP J))))) ?_;refine UO ?_;refine xw ?_;refine Z_2 ?_;rw[hbs]at hb0;obtain⟨n1,n2⟩:=Hp (T:=T2.map ItR.it) hb0;rw[n1]at hzl;rw[n2]at hvl;have hzl0:Z5.length=0:=hzl;have hvl0:V5.length=0:=hvl;rw[hbs,<-hw1];refine Z_3 ?_;refine Zy (jn (Zv rfl) (Zv rfl) (beq_self_eq_true _)) ?_;refine Z_4 ?_;refine Zyy rfl rfl (jn (cA rfl) (Zv rfl) (show _=true from by rw[hzl0];rfl)) ?_;refine Z_5 ?_;refine Zyy rfl rfl (jn (cA rfl) (Zv rfl) (show _=true from by rw[hvl0];rfl)) ?_;refine Z_2 ?_;exact Wq118
theorem dm{W:World}(h:laidMetH prog Rows.shellRunsRow.laid W):fc W:=
 fV (t:=318) (e:=5) (WE:=qf) h (MakeChecks.laidMetH_plain _ _ _ Wq4) rfl (g:=0) Wq4 Wq4 Wq4 Wq4 Wq4 rfl Wq9
theorem eP(os:Os)(args:Array Value):laidMetH prog Rows.shellRunsRow.laid ((World.doorLaid prog 400 os).forCall (λ_ _=>0) ⟨#[],args,[]⟩).memory:=
 laidMetH_of_parts3 (fuel:=8) (laidMet_of_run' 8 Wq4 Wq4) Wq4 Wq4
set_option maxRecDepth 100000 in
theorem tP(os:Os)(started:os.Started)(H:Type)(enc:TypeId×Value->H):
  ReturnsInHanded {} checked os 10 .any (λw args=>(Rows.shellRunsSpec.pre enc prog f10 [] false w args/\laidMetH prog Rows.shellRunsRow.laid w)/\sizedMet enc prog f10 (OpenSpec.ofChange Rows.shellRunsSpec) false w args) (Rows.shellRunsSpec.post enc prog f10 false true false false):=
 hH (C:=checked) (ts:=[23,24,4]) QL started Wq4 func10
  (ChangeSpec.witness_shaped (enc:=enc) (C:=checked) (os:=os) (X:=λw _=>laidMetH prog Rows.shellRunsRow.laid w) false (World.doorLaid prog 400 os) #[.slice none 0 0,.slice none 0 0,.bool false] 8 rfl (World.shaped_of_RefB Wq4 Wq4) Wq4 Wq4 Wq4 (eP os _))
  rfl rfl rfl rfl (λds h=>by match ds,h with|[_,_,_],_=>rfl) wm Wq4 (λW vs h hx=>by
   have ht:=dm hx;obtain⟨v0,_,rfl,a0,v1,_,rfl,a1,v2,_,rfl,a2,rfl⟩:=h;obtain⟨A,c,l,rfl,hl,hr⟩:=jv a0;obtain⟨B,cb,b,rfl,h2,hi2⟩:=ix a1;obtain⟨e2,rfl⟩:=a2.bool rfl;exact jk (CM A B c cb l b e2 W hl hr h2 hi2 ht))
set_option maxHeartbeats 0 in
theorem xS:Rows.ShellRunsSaid:=
 OpenClaim.holds_of_wide 10 f10 rfl rfl rfl rfl rfl rfl rfl ⟨rfl,rfl,rfl,rfl,rfl⟩ rfl rfl rfl rfl rfl vB func10 vC xT xR
  (λos started H enc _=>tP os started H enc)
set_option maxHeartbeats 0 in
theorem shellRuns_holds:Rows.ShellRunsCardSaid:=
 Claim7.holds_tied_plain_at .later [] [.data] true Rows.shellRunsCard.stood.harness false
  xS (λ_ h=>by cases h) Wq4 (λ_ h=>by cases h) shellRuns_row_tie rfl ⟨rfl,rfl⟩ Wq4 rfl
  (λf fn hf hfn=>by
   obtain rfl:f=10:=ay ((show prog.funcNamed "innkeeper/innkeeperlaw28.ShellRuns" =some 10 by as_aux_lemma=>kernel_rfl).symm.trans hf)|>.symm
   obtain rfl:fn=f10:=(ay (func10.symm.trans hfn)).symm;exact⟨by as_aux_lemma=>kernel_rfl,λj t ht=>by
    have hm:t∈f10.params.toList:=by simpa using Array.mem_of_getElem? ht
    have hall:(f10.params.toList.all λu=> !prog.wantsStandIn u)=true:=by as_aux_lemma=>kernel_rfl
    exact(show prog.wantsStandIn t=false by simpa using aQ.1 hall t hm)⟩)
  Wq4
#print axioms shellRuns_holds
end Go.Proofs.YtgpahfcaecojgaaGreatDoor
