/- For every input the law ShellTwins answers true and leaves every argument as it was; the table of math/bits is what the program's text lays (the card ties it); no other condition. -/
import Derived.Test.YtgpahfcaecojgaaGreatDoorPbb
import Derived.Test.YtgpahfcaecojgaaGreatDoorPbg
import Derived.Test.YtgpahfcaecojgaaGreatDoorPbi
import Derived.JoinedOf
import Derived.Test.YtgpahfcaecojgaaGreatDoorCards
import Derived.Test.YtgpahfcaecojgaaGreatDoorTie
import Derived.SevenTiedAt
import Derived.Test.YtgpahfcaecojgaaGreatDoorPbrF
set_option linter.all false
set_option maxRecDepth 100000
set_option maxHeartbeats 4000000
namespace Go.Proofs.YtgpahfcaecojgaaGreatDoor
open Go
open Go.RowKit Go.Ink Go.Proofs.Tryz
attribute [local irreducible] OpY bN
theorem Ah(A B:Oa)(c e:Nat)(l:List Bo4)(its:List ItR)(at_:Int)(w:World)(h:RdV w 4 A l.length c (l.flatMap Bo4.cells))(hl:∀y,y∈l->y.x.ok w)(h2:RdV w 4 B its.length e (its.flatMap ItR.cells))(hit:∀x,x∈its->x.okN w)(ht:fc w):
  CW prog 4 [.slice A l.length c,.slice B its.length e,.i at_] w (.bool true):=by
 have hT:=qI (λx hx=>(hit x hx).o);have hTl:=wv its;have hTm:=Dz hit;have hTr:=λx hx=>(hT x hx).1.rd
 have HS:=mw A c l B e its;obtain⟨T,hTe⟩:=Zgn (iT its);rw[hTe]at hT hTl hTm hTr HS;have hm2:=BQ (p:=100) (f:=λn=>dF n 0 50) (λn=>Ck n 50 bX) hTm;have hr2:=Gq (p:=100) (f:=λn=>dF n 0 50) (w:=w) hTr;obtain⟨F,hF⟩:=Zgn (TX 100 (λn=>dF n 0 50));have hFy:=λ(kd g n:Int) (A:Oa) (c:Nat) (b:Li) (q:100<n)=>BP (f:=λn=>dF n 0 50) (kd:=kd) (g:=g) (A:=A) (c:=c) (b:=b) q
 have hFn:=λ(x:ItR) (q:¬100<x.n)=>Gr (f:=λn=>dF n 0 50) q
 rw[hF]at hm2 hr2 hFy hFn;refine Zfs func4 ntmps4 ?_;refine Wq284 ?_;rintro _ _ ⟨_,⟨A3,c3,L,J,B3,e3,hI,rfl,rfl⟩,rfl⟩;refine ZN λb7=>?_
 refine Wq321 ?_;refine wLo (λj:Nat=>[(2,.i at_),(7,.p b7),(8,.i (j:Int))]) (λj=>[row b7 [.slice A3 L.length c3,.slice B3 T.length e3] 27,imC A3 c3 L,bP J,itM B3 e3 T.length (mix F T j)]) (λj=>j<=T.length) (λj=>T.length - j) (0) (ap _) ?_;rintro j hj0;refine mZ ?_ ?_<;>intro hc3
 .simp only[ac]at hc3;have hjl:j<T.length:=Wq1;refine lp (λw hi=>dV (hi.get (Zhc (itM B3 e3 T.length (mix F T j)))) Wq1) (λhq=>?_);obtain⟨bz,rfl⟩:=hq;obtain⟨x,hx⟩:∃x,T[j]? =some x:=⟨_,ae hjl⟩;have hmx:=Bf (F:=F) hx;have hms:=Bc (F:=F) hx;have hmn:=λq=>Be (F:=F) hx (hFn x q)
  obtain⟨kd,g,n,xA,xc,xb⟩:=x;have hFx:=hFy kd g n xA xc xb;have HW:=λw=>eU n 0 50 w bX bX bX
  refine Wq112 ?_;refine ZW ?_ ?_<;>intro hc5
  .simp only[ac]at hc5;have hF1:=hFx hc5;refine bU (Zdn [12]) Zk (ui ?_);refine ZE 2 ?_;refine ZFe 3 1 ?_;refine ZG 4 ?_;refine ZE 5 ?_;refine Wq188 ?_;rintro _ _ ⟨_,⟨rfl,rfl⟩,rfl⟩;refine Wq348 ?_;rintro _ _ ⟨rfl,rfl⟩;rw[uM ItR.V8 (y:=⟨kd,g,dF n 0 50,xA,xc,xb⟩) hmx (show 2<4 by decide) rfl,<-hF1,hms];refine dR ?_;refine jS ?_;refine qMP (j+1) ⟨by omega,by omega⟩
  simp only[aa]at hc5;rw[hmn hc5];refine lI ?_;refine qMP (j+1) ⟨by omega,by omega⟩
 simp only[aa]at hc3;obtain rfl:j=T.length:=Wq1;have hma:=FO (F:=F) (T:=T) (aL _);have hml:(T.map F).length=T.length:=ax ..;rw[hma];obtain⟨T2,hT2⟩:=Zgn (T.map F);rw[hT2]at hm2 hr2 hml|-;rw[<-hml];have hT2l:T2.length<=20:=Wq1;have him3:=zg hI;have ht5:(T2.map ItR.it).take 512=T2.map ItR.it:=aM GA;refine Z_5 ?_;refine cL (λq:Nat×Nat×fN×fN=>[(2,.i at_),(7,.p b7),(9,.p q.1),(10,.p q.2.1)]) (λq=>[row b7 [.slice A3 L.length c3,.slice B3 T2.length e3] 27,imC A3 c3 L,bP J,iU B3 e3 T2,row q.1 q.2.2.1.cells 45,row q.2.1 q.2.2.2.cells 45]++(q.2.2.1.cs++q.2.2.2.cs)) (λq=>q.2.2.1.ok (L.map Im.si) (T2.map ItR.it)/\q.2.2.2.ok (L.map Im.si) (T2.map ItR.it)) ?_ ?_
 .refine bU (Zdr [6,7] (mU b7 [.slice A3 L.length c3,.slice B3 T2.length e3])) Zk (ZI 0 ?_);refine nl 2 rfl Zk Zk Zk (bW Zrf Zrf Zv0) (λx hx=>dT x hx) (bL (t:=27) Zh) rfl (wa_3 1 4 5 Zk ?_ ?_ ?_)
  .refine Wq31 ?_;rintro _ _ ⟨_,⟨R1,hR1,rfl,rfl⟩,rfl⟩;refine wa_3 3 4 5 Zk ?_ ?_ ?_
   .refine Wq8 ?_;rintro _ _ ⟨_,⟨R2,hR2,rfl,rfl⟩,rfl⟩;refine kW 4 5 Zk ?_ ?_
    .refine Uk ?_;rintro _ _ ⟨b9,rfl,rfl⟩;refine kQ ?_;refine Un ?_;rintro _ _ ⟨b10,rfl,rfl⟩;refine kj ?_;rintro _ _ ⟨rfl,rfl⟩;refine ki ?_;rintro _ _ ⟨rfl,rfl⟩;refine dR ?_;rw[ht5]at hR1 hR2;refine qMP ((⟨b9,b10,R1,R2⟩:Nat×Nat×fN×fN)) ⟨hR1,hR2⟩
    refine Un ?_;rintro _ _ ⟨b10,rfl,rfl⟩;refine cW 4 Zk (Uk ?_);rintro _ _ ⟨b9,rfl,rfl⟩;refine kj ?_;rintro _ _ ⟨rfl,rfl⟩;refine ki ?_;rintro _ _ ⟨rfl,rfl⟩;refine dR ?_;rw[ht5]at hR1 hR2;refine qMP ((⟨b9,b10,R1,R2⟩:Nat×Nat×fN×fN)) ⟨hR1,hR2⟩
   .refine Uk ?_;rintro _ _ ⟨b9,rfl,rfl⟩;refine kW 3 5 Zk ?_ ?_
    .refine Wq8 ?_;rintro _ _ ⟨_,⟨R2,hR2,rfl,rfl⟩,rfl⟩;refine kQ ?_;refine Un ?_;rintro _ _ ⟨b10,rfl,rfl⟩;refine kj ?_;rintro _ _ ⟨rfl,rfl⟩;refine ki ?_;rintro _ _ ⟨rfl,rfl⟩;refine dR ?_;rw[ht5]at hR1 hR2;refine qMP ((⟨b9,b10,R1,R2⟩:Nat×Nat×fN×fN)) ⟨hR1,hR2⟩
    refine Un ?_;rintro _ _ ⟨b10,rfl,rfl⟩;refine cW 3 Zk (Wq8 ?_);rintro _ _ ⟨_,⟨R2,hR2,rfl,rfl⟩,rfl⟩;refine kj ?_;rintro _ _ ⟨rfl,rfl⟩;refine ki ?_;rintro _ _ ⟨rfl,rfl⟩;refine dR ?_;rw[ht5]at hR1 hR2;refine qMP ((⟨b9,b10,R1,R2⟩:Nat×Nat×fN×fN)) ⟨hR1,hR2⟩
   refine Un ?_;rintro _ _ ⟨b10,rfl,rfl⟩;refine kW 3 4 Zk ?_ ?_
   .refine Wq8 ?_;rintro _ _ ⟨_,⟨R2,hR2,rfl,rfl⟩,rfl⟩;refine cW 4 Zk (Uk ?_);rintro _ _ ⟨b9,rfl,rfl⟩;refine kj ?_;rintro _ _ ⟨rfl,rfl⟩;refine ki ?_;rintro _ _ ⟨rfl,rfl⟩;refine dR ?_;rw[ht5]at hR1 hR2;refine qMP ((⟨b9,b10,R1,R2⟩:Nat×Nat×fN×fN)) ⟨hR1,hR2⟩
   refine Uk ?_;rintro _ _ ⟨b9,rfl,rfl⟩;refine cW 3 Zk (Wq8 ?_);rintro _ _ ⟨_,⟨R2,hR2,rfl,rfl⟩,rfl⟩;refine kj ?_;rintro _ _ ⟨rfl,rfl⟩;refine ki ?_;rintro _ _ ⟨rfl,rfl⟩;refine dR ?_;rw[ht5]at hR1 hR2;refine qMP ((⟨b9,b10,R1,R2⟩:Nat×Nat×fN×fN)) ⟨hR1,hR2⟩
  .refine Uk ?_;rintro _ _ ⟨b9,rfl,rfl⟩;refine kW 1 5 Zk ?_ ?_
   .refine Wq31 ?_;rintro _ _ ⟨_,⟨R1,hR1,rfl,rfl⟩,rfl⟩;refine kW 3 5 Zk ?_ ?_
    .refine Wq8 ?_;rintro _ _ ⟨_,⟨R2,hR2,rfl,rfl⟩,rfl⟩;refine kQ ?_;refine Un ?_;rintro _ _ ⟨b10,rfl,rfl⟩;refine kj ?_;rintro _ _ ⟨rfl,rfl⟩;refine ki ?_;rintro _ _ ⟨rfl,rfl⟩;refine dR ?_;rw[ht5]at hR1 hR2;refine qMP ((⟨b9,b10,R1,R2⟩:Nat×Nat×fN×fN)) ⟨hR1,hR2⟩
    refine Un ?_;rintro _ _ ⟨b10,rfl,rfl⟩;refine cW 3 Zk (Wq8 ?_);rintro _ _ ⟨_,⟨R2,hR2,rfl,rfl⟩,rfl⟩;refine kj ?_;rintro _ _ ⟨rfl,rfl⟩;refine ki ?_;rintro _ _ ⟨rfl,rfl⟩;refine dR ?_;rw[ht5]at hR1 hR2;refine qMP ((⟨b9,b10,R1,R2⟩:Nat×Nat×fN×fN)) ⟨hR1,hR2⟩
   refine Un ?_;rintro _ _ ⟨b10,rfl,rfl⟩;refine cW 1 Zk (Wq31 ?_);rintro _ _ ⟨_,⟨R1,hR1,rfl,rfl⟩,rfl⟩;refine cW 3 Zk (Wq8 ?_);rintro _ _ ⟨_,⟨R2,hR2,rfl,rfl⟩,rfl⟩;refine kj ?_;rintro _ _ ⟨rfl,rfl⟩;refine ki ?_;rintro _ _ ⟨rfl,rfl⟩;refine dR ?_;rw[ht5]at hR1 hR2;refine qMP ((⟨b9,b10,R1,R2⟩:Nat×Nat×fN×fN)) ⟨hR1,hR2⟩
  refine Un ?_;rintro _ _ ⟨b10,rfl,rfl⟩;refine kW 1 4 Zk ?_ ?_
  .refine Wq31 ?_;rintro _ _ ⟨_,⟨R1,hR1,rfl,rfl⟩,rfl⟩;refine kW 3 4 Zk ?_ ?_
   .refine Wq8 ?_;rintro _ _ ⟨_,⟨R2,hR2,rfl,rfl⟩,rfl⟩;refine cW 4 Zk (Uk ?_);rintro _ _ ⟨b9,rfl,rfl⟩;refine kj ?_;rintro _ _ ⟨rfl,rfl⟩;refine ki ?_;rintro _ _ ⟨rfl,rfl⟩;refine dR ?_;rw[ht5]at hR1 hR2;refine qMP ((⟨b9,b10,R1,R2⟩:Nat×Nat×fN×fN)) ⟨hR1,hR2⟩
   refine Uk ?_;rintro _ _ ⟨b9,rfl,rfl⟩;refine cW 3 Zk (Wq8 ?_);rintro _ _ ⟨_,⟨R2,hR2,rfl,rfl⟩,rfl⟩;refine kj ?_;rintro _ _ ⟨rfl,rfl⟩;refine ki ?_;rintro _ _ ⟨rfl,rfl⟩;refine dR ?_;rw[ht5]at hR1 hR2;refine qMP ((⟨b9,b10,R1,R2⟩:Nat×Nat×fN×fN)) ⟨hR1,hR2⟩
  refine Uk ?_;rintro _ _ ⟨b9,rfl,rfl⟩;refine cW 1 Zk (Wq31 ?_);rintro _ _ ⟨_,⟨R1,hR1,rfl,rfl⟩,rfl⟩;refine cW 3 Zk (Wq8 ?_);rintro _ _ ⟨_,⟨R2,hR2,rfl,rfl⟩,rfl⟩;refine kj ?_;rintro _ _ ⟨rfl,rfl⟩;refine ki ?_;rintro _ _ ⟨rfl,rfl⟩;refine dR ?_;rw[ht5]at hR1 hR2;refine qMP ((⟨b9,b10,R1,R2⟩:Nat×Nat×fN×fN)) ⟨hR1,hR2⟩
 rintro⟨b9,b10,R1,R2⟩ ⟨hR1,hR2⟩;dsimp only at hR1 hR2|-;have hz:=hR1.z.trans hR2.z.symm;have hv:=hR1.v.trans hR2.v.symm;have hzw:=hR1.zwf;have hvw:=hR1.vwf;have hw1:=hR1.why;have hw2:=hR2.why;have hz1:=hR1.z;have hj1:=hR1.j;have hj2:=hR2.j;have hk1:=hR1.k;have hk2:=hR2.k;have hzl:=hR1.zlen;have hvl:=hR1.vlen;obtain⟨A5,c5,Z5,J5,B5,e5,V5,K5,w5⟩:=R1;obtain⟨A6,c6,Z6,J6,B6,e6,V6,K6,w6⟩:=R2;dsimp only at hz hv hzw hvw hw1 hw2 hz1 hj1 hj2 hk1 hk2 hzl hvl;rw[<-hw2]at hw1;subst hw1;have hvv:V5.length=V6.length:=(by have q:=congrArg List.length hv;rw[ax,ax]at q;exact q);have hv5:V5.length<=5:=(by rw[hvl];exact aK Nb (by rw[ax];exact hI.n5));refine Z_7 ?_;refine GH ?_;refine Z_5 ?_;refine fF (bQ rfl rfl) rfl (dh rfl (λ_ _=>rfl) (λw hi=>qz A5 A6 c5 c6 Z5 Z6 hz hzw w (hi.rd (Zhc (vU A5 c5 Z5))) (hi.rd (Zhc (vU A6 c6 Z6))) (hj1 w (hi.get (Zhc (bP J5)))) (hj2 w (hi.get (Zhc (bP J6)))))) rfl ?_;rintro _ _ ⟨_,⟨rfl,rfl⟩,rfl⟩;refine Z_9 ?_;refine Zyn rfl rfl (lK (cA rfl) (cA rfl) (show _=false from by rw[hvv];exact bj _)) ?_;refine iX ?_;refine Z_9 ?_;refine wLo (λi:Nat=>[(2,.i at_),(7,.p b7),(9,.p b9),(10,.p b10),(11,.i (i:Int))]) (λ_=>[row b7 [.slice A3 L.length c3,.slice B3 T2.length e3] 27,imC A3 c3 L,bP J,iU B3 e3 T2,row b9 [.slice A5 Z5.length c5,.slice B5 V5.length e5,.i w5] 45,row b10 [.slice A6 Z6.length c6,.slice B6 V6.length e6,.i w5] 45]++[vU A5 c5 Z5,bP J5,Co B5 e5 V5,bP K5,vU A6 c6 Z6,bP J6,Co B6 e6 V6,bP K6]) (λi=>i<=V5.length) (λi=>V5.length - i) (0) (ap _) ?_;rintro i hi0;refine mZ ?_ ?_<;>intro hc11
 .simp only[ac]at hc11;have hil:i<V5.length:=Wq1;refine lp (λw hi=>dV (hi.get (Zhc (Co B5 e5 V5))) Wq1) (λhq=>?_);obtain⟨by5,rfl⟩:=hq;refine lp (λw hi=>dV (hi.get (Zhc (Co B6 e6 V6))) Wq1) (λhq=>?_);obtain⟨by6,rfl⟩:=hq;obtain⟨x,hx⟩:∃x,V5[i]? =some x:=⟨_,ae hil⟩;obtain⟨y,hy⟩:∃y,V6[i]? =some y:=⟨_,ae (show i<V6.length by omega)⟩;have hxm:=ak hx;have hym:=ak hy;have hxw:=hvw x hxm;have hxy:=v8 hv hx hy;have r1:=λw q=>hk1 w q x hxm
  have r2:=λw q=>hk2 w q y hym
  obtain⟨v,Y1⟩:=x;obtain⟨v2,Y2⟩:=y;dsimp only at hxy hxw r1 r2;subst hxy;refine Z_5 ?_;refine bU (Zdn []) Zk (ui ?_);refine ZE 2 ?_;refine Zy4 3 rfl (cw (j:=i) (sz:=23) (r:=i*23) rfl Zrf (Zv rfl) (Zv rfl) Wq2 Wq2 Wq1) ?_;refine Zy5 4 rfl (bW (vs:=v.cells Y1) Zrf Zrf (Zv rfl)) (rJ (Zhc (Co (sA by5) e5 V5)) (λj v hj=>bZ VwR.V8 (i:=j) hx hj)) ?_;refine ZFe 5 1 ?_;refine ZG 6 ?_;refine ZE 7 ?_;refine Zy4 8 rfl (cw (j:=i) (sz:=23) (r:=i*23) rfl Zrf (Zv rfl) (Zv rfl) Wq2 Wq2 Wq1) ?_;refine Zy5 9 rfl (bW (vs:=v.cells Y2) Zrf Zrf (Zv rfl)) (rJ (Zhc (Co (sA by6) e6 V6)) (λj v hj=>bZ VwR.V8 (i:=j) hy hj)) ?_;refine mb ?_;refine ZTn (λw hi=>uK v Y1 Y2 hxw w (r1 w (hi.get (Zhc (bP K5)))) (r2 w (hi.get (Zhc (bP K6))))) ?_;rintro _ _ ⟨rfl,rfl⟩;refine ZE 11 ?_;refine dR ?_;refine Zt (cy rfl (rfl) ?_);refine lI ?_;refine qMP (i+1) ⟨by omega,by omega⟩
 simp only[aa]at hc11;refine yk ?_ ?_<;>intro hc15
 .have hno:kg (L.map Im.si)≠0:=(by rw[<-hw2];exact bne_iff_ne.1 hc15);exact Wq497
 have hyes:kg (L.map Im.si)=0:=(by rw[<-hw2];simpa using hc15);have hzl2:Z5.length=T2.length:=(by rw[hzl,AJ hyes,ax]);refine Z_4 ?_;refine dU (λw hi=>(hi.rd (Zhc (iU B3 e3 T2))).cap) (λhcap3=>?_);refine dU (λw hi=>(hi.rd (Zhc (vU A5 c5 Z5))).cap) (λhcap5=>?_);have HW:=λw=>eU at_ 0 (T2.length:Int) w bX Wq1 Wq1
 have hrg:=fU at_ 0 (T2.length:Int) Wq1;obtain⟨k,hk⟩:∃k:Nat,dF at_ 0 (T2.length:Int)=k:=ao Wq1;rw[hk]at HW hrg;have hkl:(T2.take k).length=k:=ri;have hkz:(Z5.take k).length=k:=ri;have ht6:((T2.take k).map ItR.it).take 512=(T2.map ItR.it).take k:=(by rw[aM GA,List.map_take]);refine Z_4 ?_;refine ZSe (λw hi=>HW w) ?_;rw[<-hkl];refine Z_3 ?_;refine cL (λq:Nat×fN=>[(7,.p b7),(9,.p b9),(12,.i ((T2.take k).length:Int)),(13,.p q.1)]) (λq=>[row b7 [.slice A3 L.length c3,.slice B3 T2.length e3] 27,row b9 [.slice A5 Z5.length c5,.slice B5 V5.length e5,.i w5] 45,vU A5 c5 Z5,bP J5,row q.1 q.2.cells 45]++q.2.cs) (λq=>q.2.ok (L.map Im.si) ((T2.map ItR.it).take k)) ?_ ?_
 .refine gP (Zdn [9]) [(0,0),(1,1),(2,0),(3,1),(4,0),(5,0),(6,0),(7,3),(8,3),(9,3)] Zk Zk (dH rfl (eH 0 rfl Zv0 Zf) rfl (EF ?_));refine GB ?_;refine EF ?_;refine m5 ?_;refine dH rfl (eC _ rfl Zrf (Zv rfl) (Zv rfl) pe Wq2) rfl (Qn ?_);refine LY [(7,[(8,2),(9,2)]),(8,[(7,2),(9,2)])] Zk (.cons ?_ (.cons ?_ .nil))
  .refine Wq171 ?_;rintro _ _ ⟨_,⟨R3,hR3,rfl,rfl⟩,rfl⟩;refine ym ?_;rintro _ _ ⟨b13,rfl,rfl⟩;refine Uh ?_;rintro _ _ ⟨rfl,rfl⟩;refine i6 ?_;rw[ht6]at hR3;refine qMP ((⟨b13,R3⟩:Nat×fN)) hR3
  refine Jl ?_;rintro _ _ ⟨b13,rfl,rfl⟩;refine fT ?_;refine Wq171 ?_;rintro _ _ ⟨_,⟨R3,hR3,rfl,rfl⟩,rfl⟩;refine Uh ?_;rintro _ _ ⟨rfl,rfl⟩;refine i6 ?_;rw[ht6]at hR3;refine qMP ((⟨b13,R3⟩:Nat×fN)) hR3
 rintro⟨b13,R3⟩ hR3;dsimp only at hR3|-;have hz3:R3.Z.map OuR.o=(Z5.take k).map OuR.o:=(by rw[hR3.z,Nc,<-hz1,List.map_take]);have hw3:R3.why=0:=hR3.why.trans hyes;have hz3w:=hR3.zwf;have hj3:=hR3.j;obtain⟨A7,c7,Z7,J7,B7,e7,V7,K7,w7⟩:=R3;dsimp only at hz3 hw3 hz3w hj3|-;subst hw3;refine Zs (bU (Zdn []) Zk ?_);refine ZFe 0 2 ?_;refine ZG 1 ?_;refine ZE 2 ?_;refine ZE 3 ?_;refine ZFf 4 0 ?_;refine Zy7 5 rfl (bS rfl rfl) (bM Zrf (cA rfl)) (cB Zh rfl) ?_;refine ZF 6 ?_;refine ZFf 7 1 ?_;refine Zy7 8 rfl (bS rfl rfl) (bM Zrf (cA rfl)) (cB Zh rfl) ?_;refine ZF 9 ?_;refine Zy6 10 rfl (bS rfl rfl) (jn (cA rfl) (cA rfl) (show _=true from by rw[hzl2];exact beq_self_eq_true _)) ?_;refine ZE 11 ?_;refine ZE 12 ?_;refine ZFf 13 0 ?_;refine Zy7 14 rfl (bS rfl rfl) (bM Zrf (cA rfl)) (cB Zh rfl) ?_;refine ZFf 15 0 ?_;refine Zy7 16 rfl (bS rfl rfl) (bM Zrf (cA rfl)) (cB Zh rfl) ?_;refine ZF 17 ?_;rw[hkl,<-hkz];refine Zy6 18 rfl (bS rfl rfl) (eC _ rfl Zrf (cA rfl) (cA rfl) pe Wq2) ?_;refine cW 19 Zk (p6 rfl rfl (bS rfl rfl) rfl (dh rfl (λ_ _=>rfl) (λw hi=>qz A7 A5 c7 c5 Z7 (Z5.take k) hz3 hz3w w (hi.rd (Zhc (vU A7 c7 Z7))) (AM OuR.V8 (hi.rd (Zhc (vU A5 c5 Z5))) k) (hj3 w (hi.get (Zhc (bP J7)))) (λz hz=>hj1 w (hi.get (Zhc (bP J5))) z (aB hz)))) ZJ rfl ?_);rintro _ _ ⟨_,⟨rfl,rfl⟩,rfl⟩;refine ZE 20 ?_;refine ZE 21 ?_;refine cW 22 Zk (UZ ?_);rintro _ _ ⟨_,⟨rfl,rfl⟩,rfl⟩;refine ZE 23 ?_;refine ZE 24 ?_;refine jU ?_;exact ru
theorem dm{W:World}(h:laidMetH prog Rows.shellTwinsRow.laid W):fc W:=
 fV (t:=318) (e:=5) (WE:=qf) h (MakeChecks.laidMetH_plain _ _ _ Wq4) rfl (g:=0) Wq4 Wq4 Wq4 Wq4 Wq4 rfl Wq9
theorem eP(os:Os)(args:Array Value):laidMetH prog Rows.shellTwinsRow.laid ((World.doorLaid prog 400 os).forCall (λ_ _=>0) ⟨#[],args,[]⟩).memory:=
 laidMetH_of_parts3 (fuel:=8) (laidMet_of_run' 8 Wq4 Wq4) Wq4 Wq4
set_option maxRecDepth 100000 in
theorem rM(os:Os)(started:os.Started)(H:Type)(enc:TypeId×Value->H):
  ReturnsInHanded {} checked os 4 .any (λw args=>(Rows.shellTwinsSpec.pre enc prog f4 [] false w args/\laidMetH prog Rows.shellTwinsRow.laid w)/\sizedMet enc prog f4 (OpenSpec.ofChange Rows.shellTwinsSpec) false w args) (Rows.shellTwinsSpec.post enc prog f4 false true false false):=
 hH (C:=checked) (ts:=[23,24,3]) QL started Wq4 func4
  (ChangeSpec.witness_shaped (enc:=enc) (C:=checked) (os:=os) (X:=λw _=>laidMetH prog Rows.shellTwinsRow.laid w) false (World.doorLaid prog 400 os) #[.slice none 0 0,.slice none 0 0,.i 0] 8 rfl (World.shaped_of_RefB Wq4 Wq4) Wq4 Wq4 Wq4 (eP os _))
  rfl rfl rfl rfl (λds h=>by match ds,h with|[_,_,_],_=>rfl) wm Wq4 (λW vs h hx=>by
   have ht:=dm hx;obtain⟨v0,_,rfl,a0,v1,_,rfl,a1,v2,_,rfl,a2,rfl⟩:=h;obtain⟨A,c,l,rfl,hl,hr⟩:=jv a0;obtain⟨B,cb,b,rfl,h2,hi2⟩:=ix a1;obtain⟨n2,rfl,w2⟩:=a2.int (k:= .i64) rfl;exact jk (Ah A B c cb l b n2 W hl hr h2 hi2 ht))
set_option maxHeartbeats 0 in
theorem vz:Rows.ShellTwinsSaid:=
 OpenClaim.holds_of_wide 4 f4 rfl rfl rfl rfl rfl rfl rfl ⟨rfl,rfl,rfl,rfl,rfl⟩ rfl rfl rfl rfl rfl tN func4 tO vA vy
  (λos started H enc _=>rM os started H enc)
set_option maxHeartbeats 0 in
theorem shellTwins_holds:Rows.ShellTwinsCardSaid:=
 Claim7.holds_tied_plain_at .later [] [.data] true Rows.shellTwinsCard.stood.harness false
  vz (λ_ h=>by cases h) Wq4 (λ_ h=>by cases h) shellTwins_row_tie rfl ⟨rfl,rfl⟩ Wq4 rfl
  (λf fn hf hfn=>by
   obtain rfl:f=4:=ay ((show prog.funcNamed "innkeeper/innkeeperlaw28.ShellTwins" =some 4 by as_aux_lemma=>kernel_rfl).symm.trans hf)|>.symm
   obtain rfl:fn=f4:=(ay (func4.symm.trans hfn)).symm;exact⟨by as_aux_lemma=>kernel_rfl,λj t ht=>by
    have hm:t∈f4.params.toList:=by simpa using Array.mem_of_getElem? ht
    have hall:(f4.params.toList.all λu=> !prog.wantsStandIn u)=true:=by as_aux_lemma=>kernel_rfl
    exact(show prog.wantsStandIn t=false by simpa using aQ.1 hall t hm)⟩)
  Wq4
#print axioms shellTwins_holds
end Go.Proofs.YtgpahfcaecojgaaGreatDoor
