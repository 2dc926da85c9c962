/- Lemmas. -/
import Derived.Test.YtepfimeihngjoaaGreatDoorYay
import Derived.Test.YtepfimeihngjoaaGreatDoorYaz
import Derived.Test.YtepfimeihngjoaaGreatDoorYba
set_option linter.all false
set_option maxRecDepth 100000
set_option maxHeartbeats 4000000
namespace Go.Ink
open List renaming length→J, replicate→R9
open IntKind renaming wrap→V9
open Go.RowKit Go.Proofs.Tryz
section
attribute [local irreducible] UL bM
theorem pX(b:Nat)(A:Oa)(c N:Nat)(U:List Bool)(hN:J U=N)(B:Oa)(cb:Nat)(l:Li)(hl:J l<=1000)(hin:∀n,n∈l->n≠ -1->0<=n/\n.toNat<J U)(w:World)(hi:Inv w (bK (XU b A c N U)) (XU b A c N U) w)(hR:∀w',cX (bK (XU b A c N U)) w w'->Rd w' .i64 B (J l) cb l):
  Uz prog 293 [.slice B (J l) cb,.p b] w (XU b A c N U) (λ_ cs=>cs=XU b A c N (iM U l)):=by
 refine UH func293 ntmps293 hi ?_;refine UG ?_;refine UX (λq:Nat×List Bool=>[(1,.p b),(5,.slice B (J l) cb),(6,.i (J l)),(7,.i (q.1:Int))]) (λq=>XU b A c N q.2) (λq=>q.1<=J l/\J q.2=J U/\iM q.2 (l.drop q.1)=iM U l) (λq=>J l - q.1) (⟨0,U⟩) Do ?_;rintro⟨k,V⟩ ⟨hk,hV,hM⟩;dsimp only at hk hV hM|-;refine Ul ?_ ?_<;>intro hc1
 .simp only[ah]at hc1;have hkl:k<J l:=O;obtain⟨ad,had⟩:=(hR w (cX.refl _ _)).some_ O;have hR2:∀w',cX (bK (XU b A c N U)) w w'->UJ w' 1 (some ad) (J l) cb (ints .i64 l):=(λw' hk=>had▸hR w' hk);obtain⟨x,hx⟩:∃x,l[k]? =some x:=⟨_,aj hkl⟩;have hxi:=hin x (az hx);rw[jB hx]at hM;have hM:iM (bif x != -1 then V.set x.toNat true else V) (l.drop (k+1))=iM U l:=hM;refine UA ?_;refine QN ?_;refine dW (bL ir ne) (oq (v:= .i x) hR2 (bX hx)) I (VM ?_ ?_)<;>intro hc3
  .rw[hc3,ae]at hM;obtain⟨hx0,hx1⟩:=hxi Do;obtain⟨n,rfl⟩:∃n:Nat,x=n:=ai hx0;rw[aP]at hx1 hM;obtain⟨bs,rfl⟩:=dp (hi.get (Ur (slv 4 1 A N c (U.map Value.bool)))) O;refine Us ?_;refine Zy (bW (bb:=bs) (o:=0) (n:=N) (c:=c) (j:=n) (sz:=1) (r:=n) I ir (Zv I) (Zv I) ir Uq O) ?_;refine zc ?_;refine Uw ?_;rw[<-List.map_set];refine fZ ?_;refine UN ((⟨k+1,V.set n true⟩:Nat×List Bool)) Do
  rw[hc3,ac]at hM;refine fZ ?_;refine UN ((⟨k+1,V⟩:Nat×List Bool)) Do
 simp only[aa]at hc1;obtain rfl:k=J l:=by omega
 rw[List.drop_length]at hM;have hM:V=iM U l:=hM;subst hM;refine Ut ?_;refine gK (cs':=XU b A c N (iM U l)) (.inr I) Zu I ?_
 rfl
theorem wy(b:Nat)(A:Oa)(c N:Nat)(pl:Li)(hN:J pl=N)(B:Oa)(cb:Nat)(l:Li)(hl:J l<=1000)(hin:∀n,n∈l->0<=n/\n.toNat<J pl)(w:World)(hi:Inv w (bK (plF b A c N pl)) (plF b A c N pl) w)(hR:∀w',cX (bK (plF b A c N pl)) w w'->Rd w' .i64 B (J l) cb l):
  Uz prog 294 [.slice B (J l) cb,.p b] w (plF b A c N pl) (λv9 cs=>∃A' c',v9= .slice A' (J (dT pl l)) c'/\cs=plF b A c N pl++[sl .i64 3 A' (J (dT pl l)) c' (dT pl l)]):=by
 refine UH func294 ntmps294 hi ?_;refine iR ?_;refine dg 3 1 (UA ?_);refine UX (λq:Nat×List Int×Option Addr×Nat=>[(1,.p b),(4,.slice q.2.2.1 (J q.2.1) q.2.2.2),(7,.slice B (J l) cb),(8,.i (J l)),(9,.i (q.1:Int))]) (λq=>[row b [.slice A N c] 23,sl .i64 3 A N c pl,sl .i64 3 q.2.2.1 (J q.2.1) q.2.2.2 q.2.1]) (λq=>q.1<=J l/\q.2.1=dT pl (l.take q.1)) (λq=>J l - q.1) (⟨0,[],none,0⟩) ⟨ay _,I⟩ ?_;rintro⟨k,m,A1,c1⟩ ⟨hk,hm⟩;dsimp only at hk hm|-;have hml:J m=k:=(by rw[hm];unfold dT;grind);refine Ul ?_ ?_<;>intro hc3
 .simp only[ah]at hc3;have hkl:k<J l:=O;obtain⟨ad,had⟩:=(hR w (cX.refl _ _)).some_ O;have hR2:∀w',cX (bK (plF b A c N pl)) w w'->UJ w' 1 (some ad) (J l) cb (ints .i64 l):=(λw' hk=>had▸hR w' hk);obtain⟨x,hx⟩:∃x,l[k]? =some x:=⟨_,aj hkl⟩;obtain⟨hx0,hx1⟩:=hin x (az hx);obtain⟨n,rfl⟩:∃n:Nat,x=n:=ai hx0;rw[aP]at hx1;obtain⟨bs,rfl⟩:=dp (hi.get (Ur (sl .i64 3 A N c pl))) O;have hm2:dT pl (l.take (k+1))=m++[pl.getD n 0]:=(by rw[List.take_add_one,hx,hm];unfold dT;simp_all);refine UA ?_;refine QN ?_;refine dW (bL ir ne) (oq (v:= .i n) hR2 (bX hx)) I (Ux ?_);refine Zy (bW (bb:=bs) (o:=0) (n:=N) (c:=c) (j:=n) (sz:=1) (r:=n) I ir (Zv I) (Zv I) ir Uq O) ?_;refine dW (bL ir ne) (cN Zh (jz hx1)) I (jP ?_);rintro _ _ ⟨b18,rfl,rfl⟩;refine gJ (cu (n:=J m) (e:=3) (sz:=1) (bytes:=8) I I Za I I (λw hi=>hi.rd (Ur (slv 3 1 (sA b18) 1 1 (ints .i64 [pl.getD n 0])))) cP gI O) I ?_;rintro _ _ ⟨A2,c2,rfl,rfl⟩;rw[bY,show J m+1=J (m++[pl.getD n 0]) by simp];refine kb ?_;refine UN ((⟨k+1,m++[pl.getD n 0],A2,c2⟩:Nat×List Int×Option Addr×Nat)) Do
 simp only[aa]at hc3;obtain rfl:k=J l:=by omega
 rw[List.take_length]at hm;subst hm;refine fo ?_;refine IM ?_;exact pF
theorem N0(p:Pg)(Q:W6)(hraw:Raw p)(hv:p.values=J p.code)(hm:J p.code<=500)(hoD:J p.SP<=500)(hoR:J p.SQ<=500)(w:World)(h:Ga p Q w):
  Uz prog 230 [Xq p Q] w [] (λv9 cs=>∃Q',v9=Xq (cC p) Q'/\cs=[slv 366 5 Q'.Ac (cC p).code.length Q'.cc ((cC p).code.flatMap II.cells),sl .i64 3 Q'.Ad (cC p).SP.length Q'.cd (cC p).SP,sl .i64 3 Q'.Ar (cC p).SQ.length Q'.cr (cC p).SQ]):=by
 have hrc:=h.code;obtain⟨N,hN⟩:=Uk (J p.code);have hU0:gj p=lr p.code N (iM (iM (iM (R9 N false) p.SP) p.SQ) [p.flags,p.target]):=by unfold gj He;rw[hN]
 have hiD:∀n,n∈p.SP->n≠ -1->0<=n/\n.toNat<N:=λn hn _=>by have:=hraw.SP n hn;unfold II.in_ at this;omega
 have hiR:∀n,n∈p.SQ->n≠ -1->0<=n/\n.toNat<N:=λn hn _=>by have:=hraw.SQ n hn;unfold II.in_ at this;omega
 have hiF:∀n,n∈[p.flags,p.target]->n≠ -1->0<=n/\n.toNat<N:=λn hn h1=>by
  simp only[aI,aV,or_false]at hn;rcases hn with rfl|rfl
  .rcases hraw.flags with h2|h2
   .omega
   unfold II.in_ at h2;omega
  rcases hraw.target with h2|h2
  .omega
  unfold II.in_ at h2;omega
 have hvN:p.values=N:=by rw[hv,hN]
 have hoD2:∀n,n∈p.SP->0<=n/\n.toNat<N:=λn hn=>by have:=hraw.SP n hn;unfold II.in_ at this;omega
 have hoR2:∀n,n∈p.SQ->0<=n/\n.toNat<N:=λn hn=>by have:=hraw.SQ n hn;unfold II.in_ at this;omega
 have hfl:p.flags≠ -1->∃n:Nat,p.flags=n/\n<N:=λh1=>by
  rcases hraw.flags with h2|h2
  .omega
  unfold II.in_ at h2;grind
 have htg:p.target≠ -1->∃n:Nat,p.target=n/\n<N:=λh1=>by
  rcases hraw.target with h2|h2
  .omega
  unfold II.in_ at h2;grind
 obtain⟨Z,hZ⟩:=Uk (R9 N false);have hZl:J Z=N:=by rw[<-hZ];simp
 have hZv:(R9 N (.bool false:Value))=Z.map Value.bool:=by rw[<-hZ];simp
 rw[hZ]at hU0;obtain⟨P0,hP0⟩:=Uk (R9 N (0:Int));have hP0l:J P0=N:=by rw[<-hP0];simp
 have hPv:(R9 N (.i 0:Value))=ints .i64 P0:=by rw[<-hP0];simp[ints]
 refine UB func230 ntmps230 ?_;refine py ?_;refine ZO λb1=>?_;refine ZN λb2=>?_
 refine UA ?_;refine gJ (jT (bytes:=1) (n:=N) I I I I I hvN hvN O gI) I ?_;rintro _ _ ⟨b14,rfl,rfl⟩;rw[hZv];refine ZN λb3=>?_
 refine ZL ?_;refine Ut ?_;refine Zy (mi I) ?_;refine UG ?_;refine gJ (iK (XU b3 (sA b14) N N Z) I I (λ_ _=>I) Zi (λw hi hin=>pX b3 (sA b14) N N Z hZl Q.Ad Q.cd p.SP O Do w hin (λw' hk=>UJ.S4 h.SP hi Zi hk))) I ?_;rintro _ _ ⟨_,rfl,rfl⟩;obtain⟨U1,hU1⟩:=Uk (iM Z p.SP);have hl1:J U1=N:=(by rw[<-hU1,gr,hZl]);rw[hU1]at hU0|-;refine Ux ?_;refine gJ (iK (XU b3 (sA b14) N N U1) I I (λ_ _=>I) Zi (λw hi hin=>pX b3 (sA b14) N N U1 hl1 Q.Ar Q.cr p.SQ O Do w hin (λw' hk=>UJ.S4 h.SQ hi Zi hk))) I ?_;rintro _ _ ⟨_,rfl,rfl⟩;obtain⟨U2,hU2⟩:=Uk (iM U1 p.SQ);have hl2:J U2=N:=(by rw[<-hU2,gr,hl1]);rw[hU2]at hU0|-;refine UE ?_;refine jP ?_;rintro _ _ ⟨b29,rfl,rfl⟩;refine gJ (iK (XU b3 (sA b14) N N U2) I I (λ_ _=>I) Zi (λw hi hin=>pX b3 (sA b14) N N U2 hl2 (sA b29) 2 [p.flags,p.target] cE Do w hin (λw' hk=>de (hi.TD Zi (Ur (slv 3 1 (sA b29) 2 2 (ints .i64 [p.flags,p.target]))) hk)))) I ?_;rintro _ _ ⟨_,rfl,rfl⟩;obtain⟨U3,hU3⟩:=Uk (iM U2 [p.flags,p.target]);have hl3:J U3=N:=(by rw[<-hU3,gr,hl2]);rw[hU3]at hU0|-;refine Ux ?_;refine Zy (eA (Zv I) (Zv I) (show _=(N:Int) - 1 from by rw[hvN,bG];omega)) ?_;refine Ut ?_;refine UX (λq:Nat×List Bool=>[(1,.p b1),(2,.p b2),(3,.p b3),(4,.func (.func 293) #[] #[.p b3]),(5,.i ((q.1:Int) - 1))]) (λq=>[row b3 [.slice (sA b14) N N] 59,slv 4 1 (sA b14) N N (q.2.map Value.bool),row b1 (jM p Q) 308,pg0 b2]) (λq=>q.1<=N/\J q.2=N/\lr p.code q.1 q.2=gj p) (λq=>q.1) (⟨N,U3⟩) Do ?_;rintro⟨k,V⟩ ⟨hk,hV,hB⟩;dsimp only at hk hV hB|-;refine Vl ?_ ?_<;>intro hc7
 .simp only[ah]at hc7;obtain⟨j,rfl⟩:∃j,k=j+1:=⟨k - 1,by omega⟩;have hjN:j<J p.code:=O;have hj5:((j+1:Nat):Int) - 1=(j:Int):=O;rw[hj5];obtain⟨ad,had⟩:=hrc.some_ O;have hrc2:=hrc;rw[had]at hrc2;obtain⟨x,hx⟩:∃x,p.code[j]? =some x:=⟨_,aj hjN⟩;have hgx:p.code.getD j II.zero=x:=Do;have hB:lr p.code j (bif V.getD j false&&lZ (p.code.getD j II.zero)then iM V [(p.code.getD j II.zero).a,(p.code.getD j II.zero).b]else V)=gj p:=hB;rw[hgx]at hB;obtain⟨op,dst,xa,xb,imm⟩:=x;dsimp only at hB;refine UE ?_;refine Zy (ib (j:=j) had I ir ne ne ir (λ_=>hjN)) ?_;refine dW (cj (vs:=[.i op,.i dst,.i xa,.i xb,.w imm]) ir ir ne) (fP hrc2 (λi v hi=>fK (f:=II.cells) ir (i:=i) hx hi)) I ?_;refine ZN λb6=>?_
  refine iS ?_;refine Zy (bW (bb:=b14) (o:=0) (n:=N) (c:=N) (j:=j) (sz:=1) (r:=j) I ir (Zv I) (Zv I) ir Uq O) ?_;refine dW (bL ir (Zv I)) (cN Zh (zC O)) I (fo ?_);refine ZW ?_ ?_<;>intro hc10
  .have hc:(V.getD j false&&lZ ⟨op,dst,xa,xb,imm⟩)=true:=hc10;rw[hc,ae]at hB;obtain⟨-,hab⟩:=Bool.and_eq_true_iff.1 hc;have hxi:=hraw.wf j _ hx hab;dsimp only at hxi;refine UA ?_;refine jP ?_;rintro _ _ ⟨b62,rfl,rfl⟩;refine gJ (iK (XU b3 (sA b14) N N V) I I (λ_ _=>I) Zi (λw hi hin=>pX b3 (sA b14) N N V hV (sA b62) 2 [xa,xb] cE (λn hn _=>by simp only[aI,aV,or_false]at hn;omega) w hin (λw' hk=>de (hi.TD Zi (Ur (slv 3 1 (sA b62) 2 2 (ints .i64 [xa,xb]))) hk)))) I ?_;rintro _ _ ⟨_,rfl,rfl⟩;refine Uu ?_;refine rL ?_;refine py ?_;refine UN ((⟨j,iM V [xa,xb]⟩:Nat×List Bool)) ⟨⟨by omega,by dsimp only;rw[gr,hV],hB⟩,by omega⟩
  have hc:(V.getD j false&&lZ ⟨op,dst,xa,xb,imm⟩)=false:=hc10;rw[hc,ac]at hB;refine Uu ?_;refine rL ?_;refine py ?_;refine UN ((⟨j,V⟩:Nat×List Bool)) Do
 simp only[aa]at hc7;obtain rfl:k=0:=by omega
 have hB:V=gj p:=hB;subst hB;refine UE ?_;refine gJ (jT (bytes:=8) (n:=N) I I I I I hvN hvN O gI) I ?_;rintro _ _ ⟨b66,rfl,rfl⟩;rw[hPv];refine ZN λb7=>?_
 refine ZL ?_;refine eK ?_;refine dg 366 5 (Ux ?_);refine UX (λq:Nat×List Int×List II×Option Addr×Nat=>[(1,.p b1),(2,.p b2),(3,.p b3),(7,.p b7),(8,.slice q.2.2.2.1 (J q.2.2.1) q.2.2.2.2),(68,.slice Q.Ac (J p.code) Q.cc),(69,.i (J p.code)),(70,.i (q.1:Int))]) (λq=>[row b3 [.slice (sA b14) N N] 59,slv 4 1 (sA b14) N N ((gj p).map Value.bool),row b1 (jM p Q) 308,pg0 b2,sl .i64 3 (sA b66) N N q.2.1,row b7 [.slice (sA b66) N N] 23,slv 366 5 q.2.2.2.1 (J q.2.2.1) q.2.2.2.2 (q.2.2.1.flatMap II.cells)]) (λq=>q.1<=N/\J q.2.1=N/\J q.2.2.1<=q.1/\nJ (gj p) (p.code.drop q.1) q.1 q.2.1 q.2.2.1=eP p) (λq=>N - q.1) (⟨0,P0,[],none,0⟩) ⟨ay _,hP0l,ay _,by unfold eP;grind⟩ ?_;rintro⟨i,pl,c,A,cc⟩ ⟨hi9,hpl,hcl,hW⟩;dsimp only at hi9 hpl hcl hW|-;refine Ul ?_ ?_<;>intro hc15
 .simp only[ah]at hc15;have hiN:i<J p.code:=O;obtain⟨ad,had⟩:=hrc.some_ O;have hrc2:=hrc;rw[had]at hrc2;obtain⟨x,hx⟩:∃x,p.code[i]? =some x:=⟨_,aj hiN⟩;rw[jB hx]at hW;have hW:(bif(gj p).getD i false then nJ (gj p) (p.code.drop (i+1)) (i+1) (pl.set i (J c:Int)) (c++[pj x (pl.set i (J c:Int)) (J c)])else nJ (gj p) (p.code.drop (i+1)) (i+1) pl c)=eP p:=hW;have hwf:=hraw.wf i x hx;obtain⟨op,dst,xa,xb,imm⟩:=x;dsimp only at hwf;refine Ux ?_;refine Zy (ib (j:=i) had I ir ne ne ir (λ_=>hiN)) ?_;refine Z6 ?_;refine ZN λb10=>?_
  refine ZA ?_;refine ZM ?_;refine Ux ?_;refine Zy (bW (bb:=b14) (o:=0) (n:=N) (c:=N) (j:=i) (sz:=1) (r:=i) I ir (Zv I) (Zv I) ir Uq O) ?_;refine dW (bL ir (Zv I)) (cN Zh (zC O)) I (Vs ?_ ?_)<;>intro hc17
  .have hu:(gj p).getD i false=false:=Do;rw[hu,ac]at hW;refine kb ?_;refine UN ((⟨i+1,pl,c,A,cc⟩:Nat×List Int×List II×Option Addr×Nat)) Do
  have hu:(gj p).getD i false=true:=Do;rw[hu,ae]at hW;obtain⟨pl2,hpl2⟩:=Uk (pl.set i (J c:Int));have hpl2l:J pl2=N:=Do;rw[hpl2]at hW;refine UG ?_;refine Zy (bW (bb:=b66) (o:=0) (n:=N) (c:=N) (j:=i) (sz:=1) (r:=i) I ir (Zv I) (Zv I) ir Uq O) ?_;refine zc ?_;refine Uw ?_;rw[nG,hpl2];refine py ?_;refine cq (λq:Int×Int=>[(1,.p b1),(2,.p b2),(3,.p b3),(7,.p b7),(8,.slice A (J c) cc),(10,.p b10),(68,.slice Q.Ac (J p.code) Q.cc),(69,.i (J p.code)),(70,.i (i:Int))]) (λq=>[row b3 [.slice (sA b14) N N] 59,slv 4 1 (sA b14) N N ((gj p).map Value.bool),row b1 (jM p Q) 308,pg0 b2,row b7 [.slice (sA b66) N N] 23,sl .i64 3 (sA b66) N N pl2,slv 366 5 A (J c) cc (c.flatMap II.cells),row b10 [.i op,.i dst,.i q.1,.i q.2,.w imm] 366]) (λq=>pj ⟨op,dst,xa,xb,imm⟩ pl2 (J c)=⟨op,J c,q.1,q.2,imm⟩) ?_ ?_
  .refine fo ?_;refine ZW ?_ ?_<;>intro hc19
   .have hab:lZ ⟨op,dst,xa,xb,imm⟩=true:=hc19;obtain⟨⟨a1,a2⟩,a3,a4⟩:=hwf hab;obtain⟨na,rfl⟩:∃n:Nat,xa=n:=ai a1;obtain⟨nb,rfl⟩:∃n:Nat,xb=n:=ai a3;have hsw:pj ⟨op,dst,na,nb,imm⟩ pl2 (J c)=⟨op,J c,pl2.getD na 0,pl2.getD nb 0,imm⟩:=(by unfold pj;rw[hab];rfl);refine bN (UK [11,13]) Zk (ZG 0 ?_);refine Ld 1 2 ?_;refine ZG 2 ?_;refine UF 3 I (bW (bb:=b66) (o:=0) (n:=N) (c:=N) (j:=na) (sz:=1) (r:=na) I ir (Zv I) (Zv I) ir Uq O) ?_;refine US 4 I (bL ir (Zv I)) (cN Zh (jz O)) ?_;refine Ld 6 3 ?_;refine ZG 7 ?_;refine Ld 10 2 ?_;refine rU 5 11 Zk ?_ ?_
    .refine pE ?_;refine UF 8 I (bW (bb:=b66) (o:=0) (n:=N) (c:=N) (j:=nb) (sz:=1) (r:=nb) I ir (Zv I) (Zv I) ir Uq O) ?_;refine rU 9 11 Zk ?_ ?_
     .refine vQ I (bL ir (Zv I)) (cN Zh (jz O)) I (cQ 11 Zk (ZQ ?_));refine Ld 12 3 ?_;refine cQ 13 Zk (ke ?_);exact Yv
     refine ZQ ?_;refine Wq488 ?_;exact Yv
    refine ZQ ?_;refine ZG 5 ?_;refine UF 8 I (bW (bb:=b66) (o:=0) (n:=N) (c:=N) (j:=nb) (sz:=1) (r:=nb) I ir (Zv I) (Zv I) ir Uq O) ?_;refine Wq488 ?_;exact Yv
   have hab:lZ ⟨op,dst,xa,xb,imm⟩=false:=hc19;have hsw:pj ⟨op,dst,xa,xb,imm⟩ pl2 (J c)=⟨op,J c,xa,xb,imm⟩:=(by unfold pj;grind);refine Zc (UN ((⟨xa,xb⟩:Int×Int)) hsw)
  rintro⟨ya,yb⟩ hsw;dsimp only at hsw|-;rw[hsw]at hW;refine Uu ?_;refine ZL ?_;refine Uu ?_;refine y6 ?_;rintro _ _ ⟨b110,rfl,rfl⟩;refine gJ (cu (n:=J c) (e:=366) (sz:=5) (bytes:=40) I I Za I I (λw hi=>hi.rd (Ur (slv 366 5 (sA b110) 1 1 [.i op,.i (J c),.i ya,.i yb,.w imm]))) (one5 _ _ _ _ _) gI O) I ?_;rintro _ _ ⟨A2,c2,rfl,rfl⟩;rw[Lk c ⟨op,J c,ya,yb,imm⟩,show J c+1=J (c++[(⟨op,J c,ya,yb,imm⟩:II)]) by simp];refine kb ?_;refine UN ((⟨i+1,pl2,c++[⟨op,J c,ya,yb,imm⟩],A2,c2⟩:Nat×List Int×List II×Option Addr×Nat)) Do
 simp only[aa]at hc15;obtain rfl:i=N:=O;rw[List.drop_of_length_le O]at hW;have hW:(pl,c)=eP p:=hW;have hsT:∀fl tg,hI pl p.flags=fl->hI pl p.target=tg->cC p=⟨c,p.SE,p.SG,p.Tc,p.Te,dT pl p.SP,dT pl p.SQ,fl,p.next,tg,p.branch,p.taken,p.count,J c⟩:=(by intro fl tg h1 h2;unfold cC;grind);refine Ux ?_;refine Zy (mi I) ?_;refine Ut ?_;refine ik (UK [6,10,12,14,16,18]) [(0,0),(1,0),(2,0),(3,0),(4,0),(5,4),(7,0),(8,0),(6,3),(9,3),(10,3),(11,3),(12,3),(13,3),(14,3),(15,3),(16,3),(17,3),(18,3)] Zk Zk (mK ?_);refine mK ?_;refine dX I (XY ⟨_,I⟩ ne) I (mK ?_);refine MU ?_;refine Nt ?_;refine mK ?_;refine dX I (dq 6 I ne Zf) I (NA [(6,[(9,1),(11,0),(10,2),(12,2),(13,0),(14,2),(15,0),(16,2),(17,0),(18,2)]),(9,[(11,0),(6,2),(10,2),(12,2),(13,0),(14,2),(15,0),(16,2),(17,0),(18,2)])] Zk (.cons ?_ (.cons ?_ .nil)))
 .refine Wq258 ?_;rintro _ _ ⟨_,⟨A3,c3,rfl,rfl⟩,rfl⟩;refine BV ?_;refine dX I (dq 0 I ne Zf) I (Wq235 ?_);rintro _ _ ⟨_,⟨A4,c4,rfl,rfl⟩,rfl⟩;refine zd ?_;refine Uw ?_;refine dX I (dq 13 I ne Zf) I (zd ?_);refine Uw ?_;refine MU ?_;refine zd ?_;refine Uw ?_;refine dX I (dq 6 I ne Zf) I (zd ?_);refine Uw ?_;refine kr (VM ?_ ?_)<;>intro hc26
  .have hf1:p.flags≠ -1:=(by simpa using hc26);obtain⟨nf,hnf,hnf2⟩:=hfl hf1;have hm1:hI pl p.flags=pl.getD nf 0:=(by unfold hI;rw[hc26,ae,hnf,aP]);refine Wq293 ?_;refine ZW ?_ ?_<;>intro hc28
   .exact Wq81
   exact Re
  have hm1:hI pl p.flags=p.flags:=(by unfold hI;rw[hc26,ac]);refine oI ?_ ?_<;>intro hc28
  .exact Wq81
  exact Re
 refine Rz I (bL ir ne) (cO Zh I) I (dX I (dq 0 I ne Zf) I (dZ ?_));refine Wq258 ?_;rintro _ _ ⟨_,⟨A3,c3,rfl,rfl⟩,rfl⟩;refine Wq235 ?_;rintro _ _ ⟨_,⟨A4,c4,rfl,rfl⟩,rfl⟩;refine zd ?_;refine Uw ?_;refine dX I (dq 13 I ne Zf) I (zd ?_);refine Uw ?_;refine MU ?_;refine zd ?_;refine Uw ?_;refine dX I (dq 6 I ne Zf) I (zd ?_);refine Uw ?_;refine kr (VM ?_ ?_)<;>intro hc26
 .have hf1:p.flags≠ -1:=(by simpa using hc26);obtain⟨nf,hnf,hnf2⟩:=hfl hf1;have hm1:hI pl p.flags=pl.getD nf 0:=(by unfold hI;rw[hc26,ae,hnf,aP]);refine Wq293 ?_;refine ZW ?_ ?_<;>intro hc28
  .exact Wq81
  exact Re
 have hm1:hI pl p.flags=p.flags:=(by unfold hI;rw[hc26,ac]);refine oI ?_ ?_<;>intro hc28
 .exact Wq81
 exact Re
variable{l:List (Int×Int)}
theorem Lh(pc:Int)(A:Oa)(c:Nat)(l:List (Int×Int))(hu:∀i,i∈l->u32 i.2)(w:World)(h:UJ w 2 A (J l) c (l.flatMap IJ)):
  Uz prog 186 [.w pc,.slice A (J l) c] w [] (λv cs=>LowK (fm pc l) v cs):=by
 have hlm:J l<=maxLen:=aR h.cap h.max;simp only[maxLen]at hlm;obtain⟨R,hR⟩:=Uk (nB pc Lw.init l);have hbad:(decide ((J l:Int)<1)||decide (8<(J l:Int)))=true->fm pc l=none:=λe=>by unfold fm;grind
 have hno:R=none->(decide ((J l:Int)<1)||decide (8<(J l:Int)))=false->fm pc l=none:=λe e2=>by unfold fm;grind
 have hyes:∀nx L,R=some (nx,L)->(decide ((J l:Int)<1)||decide (8<(J l:Int)))=false->fm pc l=some (cC (yj nx L (l.getLastD (0,0)) (J l))):=λnx L e e2=>by unfold fm;grind
 have hraw:∀nx L y,R=some (nx,L)->Raw (yj nx L y (J l)):=λnx L y e=>by
  rw[e]at hR;obtain⟨lk, -, -⟩:=tz l pc Lw.init _ hu hR uC;exact⟨lk.wf,lk.ops,lk.d,lk.r,lk.flags,lk.target⟩
 obtain⟨LT,hLT⟩:=Uk (fm pc l);rw[hLT]at hbad hno hyes|-;refine UB func186 ntmps186 ?_;refine py ?_;refine ZN λb4=>?_;refine mU ?_;refine ZW ?_ ?_<;>intro hc1
 .rw[hbad hc1];refine py ?_;refine Zy (gY (vs:=pgZ) Zk (.inl ⟨_,I,I⟩)) ?_;refine mS ?_;exact Wa
 have hc1':=hc1;simp only[aY,aa]at hc1';refine eK ?_;refine ZO λb26=>?_
 refine UA ?_;refine dg 366 5 (dg 3 1 (dg 3 1 (UA ?_)));refine UX (λq:(Nat×Int)×Lw×VZ=>[(0,.w q.1.2),(1,.slice A (J l) c),(4,.p b4),(6,.p b26),(27,.slice A (J l) c),(28,.i (J l:Int)),(29,.i (q.1.1:Int))]) (λq=>[pg0 b4]++Vn b26 (J l:Int) q.2.1 q.2.2) (λq=>q.1.1<=J l/\nB q.1.2 q.2.1 (l.drop q.1.1)=R/\q.2.1.sm (10*q.1.1)) (λq=>J l - q.1.1) (⟨(0,pc),Lw.init,⟨none,0,none,0,none,0⟩⟩) ⟨ay _,hR,JB⟩ ?_;rintro⟨⟨k,pc2⟩,L,X⟩ ⟨hk,hG,hsm⟩;dsimp only at hk hG hsm|-;refine Ul ?_ ?_<;>intro hc5
 .simp only[ah]at hc5;have hkl:k<J l:=O;obtain⟨ad,had⟩:=h.some_ O;have h2:=h;rw[had]at h2;obtain⟨x,hx⟩:∃x,l[k]? =some x:=⟨_,aj hkl⟩;rw[jB hx,Hi,BB l k hkl]at hG;obtain⟨op,nn⟩:=x;dsimp only at hG;refine Ux ?_;refine QN ?_;refine dW (cj (vs:=[.i op,.w nn]) ir ir ne) (fP h2 (λi v hi=>fK (f:=IJ) ir (i:=i) hx hi)) I ?_;refine ZN λb8=>?_
  refine ZA ?_;refine iS ?_;refine UD (λw hi=>Bh op nn w) ?_;refine Ut ?_;refine dx (bU I I) (.cons (cU I) .nil) (λ_ _=>I) (λhg w hi=>Bj op w) I (Uu ?_);refine dx (bU I I) (.cons (cU I) .nil) (λ_ _=>I) (λhg w hi=>yM op w) I (Ut ?_);refine i5 (fx I I) (eA (cU I) ne Zl) (λ_ _=>trivial) I (VQ ?_ ?_)<;>intro hc7
  .rw[hc7,ae]at hG;rw[hno hG.symm hc1];refine py ?_;refine Zy (gY (vs:=pgZ) Zk (.inl ⟨_,I,I⟩)) ?_;refine rI ?_;exact Wa
  rw[hc7,ac]at hG;refine Ux ?_;refine UD (λw hi=>xS op w) ?_;refine mL ?_;refine kR ?_;refine Ux ?_;refine dE (Vn b26 (J l:Int) L X) (λw hi hin=>lone_ok b26 (J l:Int) L X (hsm.mono O) op nn _ w hin) ?_;rintro _ _ ⟨L2,X2,hL2,rfl⟩;refine fZ ?_;refine UN ((⟨(k+1,V9 .u32 (pc2+V9 .u32 (cw op))),L2,X2⟩:(Nat×Int)×Lw×VZ)) ⟨⟨by grind,by grind,by dsimp only;rw[hL2];exact(RG hsm _ _ _).mono O⟩,by grind⟩
 simp only[aa]at hc5;obtain rfl:k=J l:=O;rw[List.drop_length]at hG;have hG:R=some (pc2,L):=hG.symm;have hraw2:=hraw pc2 L (l.getLastD (0,0)) hG;rw[hyes pc2 L hG hc1];refine eK ?_;refine dW (cj (vs:=[.slice X.Ac (J L.code) X.cc,.i 0,.i 0,.i 0,.i 0,.slice none 0 0,.slice none 0 0,.i L.flags,.w 0,.i L.target,.i L.branch,.w 0,.i (J l:Int),.i 0]) ir ir ne) (cI Zh I) I ?_;refine ZN λb9=>?_
 refine iS ?_;refine ZL ?_;refine py ?_;refine cq (λq:Int×Int=>[(1,.slice A (J l) c),(4,.p b4),(6,.p b26),(9,.p b9)]) (λq=>[pg0 b4]++Vn b26 (J l:Int) L X++[row b9 [.slice X.Ac (J L.code) X.cc,.i 0,.i 0,.i 0,.i 0,.slice none 0 0,.slice none 0 0,.i L.flags,.w q.1,.i L.target,.i L.branch,.w q.2,.i (J l:Int),.i 0] 308]) (λq=>yj pc2 L (l.getLastD (0,0)) (J l)=⟨L.code,L.d.SK,L.r.SK,L.d.high,L.r.high,L.d.l,L.r.l,L.flags,q.1,L.target,L.branch,q.2,J l,J L.code⟩) ?_ ?_
 .refine Uu ?_;refine rL ?_;obtain⟨ad,had⟩:=h.some_ (show 0<J l by omega);have h2:=h;rw[had]at h2;obtain⟨x,hx⟩:∃x,l[J l - 1]? =some x:=⟨_,aj O⟩;have hlast:=Pn hx;rw[hlast];obtain⟨op,nn⟩:=x;refine Zy (ib (j:=J l - 1) had I ir (Zv I) (Zv I) Uq Uq) ?_;refine dW (cj (vs:=[.i op,.w nn]) ir ir ne) (fP h2 (λi v hi=>fK (f:=IJ) ir (i:=i) hx hi)) I ?_;refine ZN λb10=>?_
  refine ZM ?_;refine mU ?_;refine ZW ?_ ?_<;>intro hc15
  .refine Ut ?_;refine UD (λw hi=>Ct nn w) ?_;refine kR ?_;refine mR ?_;refine py ?_;refine UN ((⟨V9 .u32 (pc2+jC nn),0⟩:Int×Int)) (by unfold yj;grind)
  refine V1 ?_ ?_<;>intro hc17
  .refine Ut ?_;refine UD (λw hi=>Ct nn w) ?_;refine kR ?_;refine mR ?_;refine py ?_;refine UN ((⟨pc2,V9 .u32 (pc2+jC nn)⟩:Int×Int)) (by unfold yj;grind)
  refine py ?_;refine UN ((⟨pc2,0⟩:Int×Int)) (by unfold yj;grind)
 rintro⟨nx,tk⟩ hq;dsimp only at hq|-;rw[hq]at hraw2|-;have hl500:=hsm;refine Zs (bN (Wz [21,23,25,27] (pk b26 (Dp (J l:Int) L X))) Zk ?_);refine mW ?_;refine Ld 2 14 ?_;refine Ld 3 1 ?_;refine fD 4 I Zk Zk Zk (bL ir ne) (dD I) (bO (t:=351) Zh) I (qC ?_);refine Ld 7 18 ?_;refine Ld 8 1 ?_;refine fD 9 I Zk Zk Zk (bL ir ne) (dD I) (bO (t:=351) Zh) I (ZE 10 ?_);refine ZE 11 ?_;refine Ld 12 14 ?_;refine Ld 13 2 ?_;refine fD 14 I Zk Zk Zk (bL ir ne) (dD I) (bO (t:=351) Zh) I (ZE 15 ?_);refine ZE 16 ?_;refine Ld 17 18 ?_;refine Ld 18 2 ?_;refine fD 19 I Zk Zk Zk (bL ir ne) (dD I) (bO (t:=351) Zh) I (Ld 20 1 ?_);refine cQ 21 Zk (ID ?_);refine Uw ?_;refine Ld 22 2 ?_;refine cQ 23 Zk (ID ?_);refine Uw ?_;refine Ld 24 3 ?_;refine cQ 25 Zk (ID ?_);refine Uw ?_;refine Ld 26 4 ?_;refine cQ 27 Zk (ID ?_);refine Uw ?_;refine pI ?_;refine bN (Wz [11,13] (pk b26 (Dp (J l:Int) L X))) Zk (mW ?_);refine Ld 2 14 ?_;refine Ld 3 0 ?_;refine fD 4 I Zk Zk Zk (bL ir ne) (dD I) (bO (t:=351) Zh) I (qC ?_);refine Ld 7 18 ?_;refine Ld 8 0 ?_;refine fD 9 I Zk Zk Zk (bL ir ne) (dD I) (bO (t:=351) Zh) I (Ld 10 5 ?_);refine cQ 11 Zk (ID ?_);refine Uw ?_;refine Ld 12 6 ?_;refine cQ 13 Zk (ID ?_);refine Uw ?_;refine fe ?_;refine Ux ?_;refine ZL ?_;refine Uu ?_;refine UW (λw hi=>N0 ⟨L.code,L.d.SK,L.r.SK,L.d.high,L.r.high,L.d.l,L.r.l,L.flags,nx,L.target,L.branch,tk,J l,J L.code⟩ ⟨X.Ac,X.cc,X.Ad,X.cd,X.Ar,X.cr⟩ hraw2 I (aR hsm.code O) (aR hsm.dl O) (aR hsm.rl O) w ⟨hi.rd Zh,hi.rd Zh,hi.rd Zh⟩) ?_;rintro _ _ ⟨Q9,rfl,rfl⟩;refine iz ?_;obtain⟨p9,hp9⟩:=Uk (cC ⟨L.code,L.d.SK,L.r.SK,L.d.high,L.r.high,L.d.l,L.r.l,L.flags,nx,L.target,L.branch,tk,J l,J L.code⟩);rw[hp9];exact bI [row b4 _ _,slv 366 5 Q9.Ac (J p9.code) Q9.cc (p9.code.flatMap II.cells),sl .i64 3 Q9.Ad (J p9.SP) Q9.cd p9.SP,sl .i64 3 Q9.Ar (J p9.SQ) Q9.cr p9.SQ] Zj (sD (cs':=[slv _ _ _ _ _ _,slv _ _ _ _ _ _,slv _ _ _ _ _ _]) (.inl I) Zu I I I Zh ir ir ⟨Q9,I,I⟩)
theorem oJ.rk{E:Vk}(h:oJ E):(E.RZ.map (·.1)).Nodup:=by have:=h.eg.TW;rwa[show E.eng.runs=WW E.RZ from I,Ob]at this
theorem oJ.T7{E E':Vk}(h:oJ E)(SC:Li)(he:E'.eng=m8 E.eng SC)(hc:qI E'.room E'.X)(hr:∀y,y∈E'.RZ->y∈E.RZ):oJ E':=⟨hc,by rw[he];exact h.eg.turn SC,λy hy=>h.rs y (hr y hy),by have e:=congrArg Vi.last he;rw[Jb]at e;rw[show E'.last=E.last from e];exact h.last⟩
variable{b:Li}
variable{i:Int×Int}
theorem Mu(bc:Nat)(room:Int)(X:VY)(hX:qI room X)(Ap:Oa)(cp:Nat)(SC:Li):CI prog 123 [.p bc,.slice Ap (J SC) cp] (caP bc room X Ap cp SC) (λv cs=>v= .i (J (X.Z.filter (eQ SC)):Int)/\∃X':VY,cs=caP bc room X' Ap cp SC/\qI room X'/\X'.Z=X.Z.filter λx=> !eQ SC x):=λw hi=>Qm bc room X hX Ap cp SC w hi
theorem NR(b1 be:Nat)(E:Vk)(hS:ο E.X.Z)(q:Ky)(x:RS):CI prog 176 ([]++[.agg (cy q).toArray,.agg x.cells.toArray]++[.p b1]) (tdF b1 be E) (λv cs=>v= .bool (!(E.X.Z.find? λt=>t.key==q).isSome)/\cs=tdF b1 be E):=λw hi=>by
 have HF:=FY E.bc E.room E.X hS q;obtain⟨o,ho⟩:=Uk ((E.X.Z.find? λt=>t.key==q));rw[ho]at HF|-;refine UH func176 ntmps176 hi ?_;cases o with
 |none=>
  refine py ?_;refine ZO λb3=>?_;refine ZO λb4=>?_
  refine Ut ?_;refine Wq352 ?_;refine NA [(5,[(6,0),(7,0),(8,0),(9,2),(10,2),(11,0)]),(9,[(5,2),(6,0),(7,0),(8,0),(10,2),(11,0)])] Zk (.cons ?_ (.cons ?_ .nil))
  .refine Iq ?_;refine Vb ?_;refine Xn ?_;refine dZ ?_;refine zl ?_;rintro _ _ ⟨b6,rfl,rfl⟩;refine Q2 ?_;exact Rv
  refine zl ?_;rintro _ _ ⟨b6,rfl,rfl⟩;refine dZ ?_;refine Iq ?_;refine Vb ?_;refine Xn ?_;refine Q2 ?_;exact Rv
 |some y=>
  refine py ?_;refine ZO λb3=>?_;refine ZO λb4=>?_
  refine Ut ?_;refine Wq352 ?_;refine NA [(5,[(6,0),(7,0),(8,0),(9,2),(10,2),(11,0)]),(9,[(5,2),(6,0),(7,0),(8,0),(10,2),(11,0)])] Zk (.cons ?_ (.cons ?_ .nil))
  .refine Iq ?_;rintro _ _ ⟨_,⟨A9,c9,rfl,rfl⟩,rfl⟩;refine Xn ?_;refine dZ ?_;refine zl ?_;rintro _ _ ⟨b6,rfl,rfl⟩;refine dZ ?_;exact rS I I (cH ir I I (mO ⟨y.b,A9,c9⟩) Za mJ) ZJ Rv
  refine zl ?_;rintro _ _ ⟨b6,rfl,rfl⟩;refine dZ ?_;refine Iq ?_;rintro _ _ ⟨_,⟨A9,c9,rfl,rfl⟩,rfl⟩;refine Xn ?_;refine dZ ?_;exact rS I I (cH ir I I (mO ⟨y.b,A9,c9⟩) Za mJ) ZJ Rv
theorem FG(be:Nat)(E:Vk)(hS:ο E.X.Z)(hn:(E.RZ.map (·.1)).Nodup)(hk:∀y,y∈E.RZ->lA y.1):CI prog 124 [.p be] (Vr be E) (λ_ cs=>cs=Vr be (E.To (oN E.X.Z E.RZ))):=λw hi=>by
 have hkr:(E.RZ.filter λx=> !!(E.X.Z.find? λt=>t.key==x.1).isSome)=oN E.X.Z E.RZ:=by
  unfold oN;apply List.filter_congr;intro x _;rw[Bool.not_not,Qt]
 have hsub:(WF (oN E.X.Z E.RZ)).Sublist (WF E.RZ):=List.Sublist.map _ List.filter_sublist;have HM:=λb1 w hi=>Hf (cR (tdF b1 be E)) (λq=> !(E.X.Z.find? λt=>t.key==q).isSome) 176 [.p b1] (λ_ _=>I) E.RZ hn hk E.mr
  (λq x w _ hin=>Uz.mono (Uz.join hin λhin2=>NR b1 be E hS q x w hin2) (λv cs ⟨cs0,⟨h1,h2⟩,h3⟩=>⟨h1,by rw[h3,h2]⟩)) w hi
 rw[hkr]at HM;refine UH func124 ntmps124 hi ?_;refine py ?_;refine ZO λb1=>?_;refine Ux ?_;refine Zy (mi I) ?_;refine RA (cs':=cR (tdF b1 be E)::[VG E.mr (WE E.RZ),cR (WF E.RZ)]) (λw hi=>hi.Ue Zi) (V7 ([VG E.mr (WE E.RZ),cR (tdF b1 be E)]) (λw hi hin=>HM b1 w hin) ?_);rintro _ _ ⟨_,rfl,rfl⟩;refine RA (cs':=tdF b1 be E++[VG E.mr (WE (oN E.X.Z E.RZ)),cR (WF E.RZ)]) (λw hi=>(hi.perm (List.Perm.swap ..)).Tl) (Zn (mB (cin:=WF E.RZ) (cin':=WF (oN E.X.Z E.RZ)) Zd hsub ?_));refine bI (Vr be (E.To (oN E.X.Z E.RZ))) Zj (gK (cs':=Vr be (E.To (oN E.X.Z E.RZ))) (.inr I) (aO _) I ?_)
 rfl
theorem xd(be:Nat)(E:Vk)(hE:oJ E)(Ap:Oa)(cp:Nat)(SC:Li):CI prog 72 [.p be,.slice Ap (J SC) cp] (enP be E Ap cp SC) (λ_ cs=>∃E',cs=enP be E' Ap cp SC/\oJ E'/\E'.eng=m8 E.eng SC):=λw hi=>by
 have HD:=Mu E.bc E.room E.X hE.ca Ap cp SC;refine UH func72 ntmps72 hi ?_;by_cases hp:SC=[]
 .subst hp;refine UA ?_;refine Wq19 ?_;refine io (bP I I) I I (io (bP I I) I I (io (bP I I) I I (Zy (Cd (q:=false) (Zv I) ⟨_,I,λ_ e=>absurd e An⟩) ?_)));refine py ?_;refine jn ?_;refine Zc (gK (cs':=enP be E Ap cp []) (.inr I) (aO _) I ?_);exact⟨E,I,hE,I⟩
 have hpl:0<J SC:=List.length_pos_iff.2 hp;have HX:=P2 E SC;obtain⟨n9,hn9⟩:∃n:Nat,J (E.X.Z.filter λx=>SC.contains (x.b.key.2/64))=n:=⟨_,I⟩;rw[hn9]at HX;rw[show(E.X.Z.filter (eQ SC)).length=n9 from hn9]at HD;refine Uu ?_;rw[show decide ((0:Int)<(J SC:Int))=true from ak O];refine UA ?_;refine kt (bP I I) I (eE (caP E.bc E.room E.X Ap cp SC) I (λ_ _=>I) Zi (λw hi hin=>HD w hin)) I ?_;rintro _ _ ⟨_,⟨rfl,X',rfl,hX',hXZ⟩,rfl⟩;have hX2:=HX X' hXZ;refine Wj ?_ ?_<;>intro hc0
 .have hd:decide (0<((n9:Nat):Int))=true:=hc0
  rw[hd,ae]at hX2;refine py ?_;refine V7 (Vr be (E.Tj X')) (λw hi hin=>FG be (E.Tj X') hX'.sm hE.rk (λy hy=>(hE.rs y hy).1) w hin) ?_;rintro _ _ ⟨_,rfl,rfl⟩;refine Zn (bI (enP be ((E.Tj X').To (oN X'.Z E.RZ)) Ap cp SC) Zj ?_);exact gK (cs':=enP be ((E.Tj X').To (oN X'.Z E.RZ)) Ap cp SC) (.inr I) (aO _) I ⟨_,I,hE.T7 SC (by rw[hX2,pU _ hp]) hX' (λy hy=>(List.mem_filter.1 hy).1),by rw[hX2,pU _ hp]⟩
 have hd:decide (0<((n9:Nat):Int))=false:=hc0
 rw[hd,ac]at hX2;refine Zc (bI (enP be (E.Tj X') Ap cp SC) Zj ?_);exact gK (cs':=enP be (E.Tj X') Ap cp SC) (.inr I) (aO _) I ⟨_,I,hE.T7 SC (by rw[hX2,pU _ hp]) hX' (λy hy=>hy),by rw[hX2,pU _ hp]⟩
end
end Go.Ink
namespace Go.Ink
open List renaming length→J, replicate→R9
open IntKind renaming wrap→V9
open Go.RowKit Go.Proofs.Tryz
variable{n:Nat}
section
attribute [local irreducible] UL bM
variable{k:Ky}
variable{E:Vk}{b:Li}
variable{E:Vi}
variable{t:Wo}{r:Rn}
theorem Mt(bc:Nat)(room:Int)(X:VY)(hS:ο X.Z)(k:Ky):CI prog 177 [.p bc,.agg (cy k).toArray] (Vu bc room X) (λv cs=>∃y:BA,v= .tuple #[.agg y.cells.toArray,.bool (X.Z.find? λx=>x.key==k).isSome]/\cs=Vu bc room X++[VE y]/\∀x,(X.Z.find? λx=>x.key==k)=some x->y.b=x.b):=λw hi=>by
 have h:=FY bc room X hS k w hi;obtain⟨o,ho⟩:=Uk ((X.Z.find? λx=>x.key==k));rw[ho]at h|-;refine h.up λv cs w' hk hi'=>?_
 cases o with
 |none=>
  obtain⟨rfl,rfl⟩:=hk;exact⟨_,⟨⟨⟨(0,0),[],0⟩,none,0⟩,I,I,λx e=>nomatch e⟩,hi'.more (yE w' [] 5 1)⟩
 |some x=>
  obtain⟨A',c',rfl,rfl⟩:=hk;exact⟨_,⟨⟨x.b,A',c'⟩,I,I,λx e=>by cases e;rfl⟩,hi'.perm (List.perm_append_singleton _ _).symm⟩
variable{s:St}{p:Int}
theorem oJ.told{E:Vk}(h:oJ E){X:VY}(hX:qI E.room X)(hZ:X.Z=E.X.Z){k:Ky}(hk:lA k)(c:Int):oJ (E.toldE X k c):=
 ⟨hX,h.eg.same rfl (by show X.Z.map BA.b=E.X.Z.map BA.b;rw[hZ]) rfl,h.rs,hk⟩
variable{p:Nat}{U:Uo}{d:Un}
theorem oJ.slowed{E:Vk}(h:oJ E)(c:Int):oJ (E.TN c):=⟨h.ca,h.eg.same I I I,h.rs,h.last⟩
theorem FI(be bu bb:Nat)(L:ez)(D:qK)(Y:fv)(s:St)(X:eN)(p:Nat)(hp:p<=4294967295)(S0:Nat)(hmost:S0<=1000)(U:Uo)(d:Un)(hG:Vp L.n s U d)(ho:J d.out+S0<=1000000000)(E:Vk)(hE:oJ E):CI prog 95 [.p be,sv s X.Ad X.cd X.Ar X.cr,.w (p:Int),.i (S0:Int),.p bu,.p D.bs] (Wi be bu bb L D s X Y U d E) (λv cs=>∃X' Y' E',oJ E'/\E'.eng=(jv L.n (p/64) S0 s p U d E.eng).2/\v=sv (jv L.n (p/64) S0 s p U d E.eng).1.1 X'.Ad X'.cd X'.Ar X'.cr/\cs=Wi be bu bb L D (jv L.n (p/64) S0 s p U d E.eng).1.1 X' Y' (jv L.n (p/64) S0 s p U d E.eng).1.2.1 (jv L.n (p/64) S0 s p U d E.eng).1.2.2 E'):=λw hi=>by
 obtain⟨pg,hpg⟩:=Uk (p/64);have hpq:V9 .u32 ((p:Int).tdiv 64)=(pg:Int):=by rw[bj O,u32_wrap_id _ O O];omega
 have hpgl:pg<=4294967295:=by omega
 rw[hpg];clear hpg;obtain⟨⟨⟨s9,U9,d9⟩,G9⟩,hR⟩:=Uk (jv L.n pg S0 s p U d E.eng);rw[hR];obtain⟨o0,hoo⟩:=Uk (J d.out);rw[hoo]at ho;refine UH func95 ntmps95 hi ?_;refine py ?_;refine ZO λb7=>?_;refine ZN λb12=>?_
 refine YO ?_;refine iH (row b7 (s.cells (.slice X.Ad (J s.d) X.cd) (.slice X.Ar (J s.r) X.cr)) 36::row b12 (St.zero.cells (.slice none 0 0) (.slice none 0 0)) 36::Wi be bu bb L D s X Y U d E) Zj (Uu ?_);refine UX (λq:Nat×St×eN×Nat×fv×Uo×Un×Vk=>[(0,.p be),(2,.w (q.2.2.2.1:Int)),(4,.p bu),(5,.p D.bs),(7,.p b7),(12,.p b12),(13,.i (pg:Int)),(22,.i (S0:Int)),(23,.i (q.1:Int))]) (λq=>row b7 (q.2.1.cells (.slice q.2.2.1.Ad (J q.2.1.d) q.2.2.1.cd) (.slice q.2.2.1.Ar (J q.2.1.r) q.2.2.1.cr)) 36::row b12 (St.zero.cells (.slice none 0 0) (.slice none 0 0)) 36::Wi be bu bb L D q.2.1 q.2.2.1 q.2.2.2.2.1 q.2.2.2.2.2.1 q.2.2.2.2.2.2.1 q.2.2.2.2.2.2.2) (λq=>q.1<=S0/\q.2.2.2.1<=4294967295/\Vp L.n q.2.1 q.2.2.2.2.2.1 q.2.2.2.2.2.2.1/\J q.2.2.2.2.2.2.1.out<=o0+q.1/\oJ q.2.2.2.2.2.2.2/\jv L.n pg (S0 - q.1) q.2.1 q.2.2.2.1 q.2.2.2.2.2.1 q.2.2.2.2.2.2.1 q.2.2.2.2.2.2.2.eng=((s9,U9,d9),G9)) (λq=>S0 - q.1) (⟨0,s,X,p,Y,U,d,E⟩) ⟨ay _,hp,hG,by show J d.out<=o0+0;omega,hE,hR⟩ ?_;rintro⟨j,s,X,p,Y,U,d,E⟩ ⟨hj,hp,hG,ho1,hE,hRj⟩;dsimp only at hj hp hG ho1 hE hRj|-;refine Ul ?_ ?_<;>intro hc3
 .simp only[ah]at hc3;obtain⟨k,hk⟩:∃k,S0 - j=k+1:=⟨S0 - j - 1,by omega⟩;rw[hk]at hRj;have HF:=FB bu bb L U.m p hp;have hrn:=λ(op nn:Int) (z:Nat) h=>jl (n:=L.n) (M:=U.m) (p:=p) (op:=op) (nn:=nn) (z:=z) hG.u.m h
  have hN:=GG (n:=L.n) (SR:=pg) (k:=k) (s:=s) (p:=p) (U:=U) (d:=d) (E:=E.eng);have hS:=λ(op nn:Int) (z:Nat) (q:Wn) (U1:Uo) (d1:Un) h hq=>GF (n:=L.n) (SR:=pg) (k:=k) (s:=s) (p:=p) (U:=U) (d:=d) (E:=E.eng) (op:=op) (nn:=nn) (z:=z) (q:=q) (U1:=U1) (d1:=d1) h hq
  obtain⟨o,hfo⟩:=Uk (dI L.n U.m p);rw[hfo]at HF hN hS;rw[hfo]at hrn;obtain⟨hd16,hr16, -⟩:=St.fits hG.right;have hE1:=hE.slowed 1;refine eK ?_;refine kR ?_;refine jD ?_;refine UA ?_;refine UD (λw hi=>HF w (hi.get (Ur (Cm bu L.bm bb))) (hi.get (Ur (eY L U.m)))) ?_;refine Ut ?_;refine ZN λb14=>?_
  refine ZM ?_;refine yZ ?_ ?_<;>intro hc6
  .obtain rfl:o=none:=(by cases o with|none=>rfl|some o=>cases hc6);rw[hN rfl,aD,aD,aD]at hRj;obtain⟨⟨rfl,rfl,rfl⟩,hG9⟩:=hRj;refine Wq279 ?_;rintro _ _ ⟨_,⟨A3,c3,A4,c4,rfl,rfl⟩,rfl⟩;refine ZM ?_;refine UE ?_;exact bI (row b12 ((s.next.SL 1 0).cells (.slice A3 (J s.d) c3) (.slice A4 (J s.r) c4)) 36::Wi be bu bb L D (s.next.SL 1 0) ⟨A3,c3,A4,c4⟩ Y U d (E.TN 1)) Zj (mz (cs':=(Wi be bu bb L D (s.next.SL 1 0) ⟨A3,c3,A4,c4⟩ Y U d (E.TN 1))) (.inl I) Zu I I Zh ir ir ⟨⟨A3,c3,A4,c4⟩,Y,E.TN 1,hE1,hG9,I,I⟩)
  obtain⟨⟨⟨op,nn⟩,z⟩,rfl⟩:∃q,o=some q:=(by cases o with|none=>cases hc6|some o=>exact⟨o,I⟩);obtain⟨hnn,hz1,hz5, -⟩:=hrn op nn z I;have HD:=do_ok bu bb L D Y s X.Ad X.Ar X.cd X.cr op nn U d hG.wf hnn hG.u.t hG.dv.wf O;have hg:=px (op:=op) (nn:=nn) hG.wf hG.right hnn hG.u hG.dv;have hl:=oG (n:=L.n) (op:=op) (nn:=nn) (s:=s) (U:=U) hG.lines;obtain⟨⟨q,U1,d1⟩,hq⟩:=Uk (lj L.n s op nn U d);rw[hS op nn z q U1 d1 rfl hq]at hRj;rw[hq]at HD hg hl;obtain⟨g1,g2,g3,g4,g5,g6⟩:=hg;dsimp only at g1 g2 g3 g4 g5 g6 hl;have HX:=λX1 Ap cp w h=>Kr op nn q X1 Ap cp pg s.pc g1.pc hG.wf.pc w h
  obtain⟨nx,hnx⟩:=Uk (iY op q pg s.pc);rw[hnx]at HX hRj;refine Wq444 ?_;rintro _ _ ⟨_,⟨X1,Y1,Ap,cp,rfl,rfl⟩,rfl⟩;refine ZN λb17=>?_
  refine ZM ?_;refine Ux ?_;refine dE (enP be (E.TN 1) Ap cp q.SC) (λw hi hin=>xd be (E.TN 1) hE1 Ap cp q.SC w hin) ?_;rintro _ _ ⟨E2,rfl,hE2,hEe⟩;rw[show m8 {E.eng with S8:=V9 .i64 (E.eng.S8+1)} q.SC=E2.eng from hEe.symm]at hRj;refine ZY ?_;refine iS ?_;refine Ru ?_;refine YZ ?_;refine ZW ?_ ?_<;>intro hc14
  .obtain rfl:nx=false:=(by cases nx with|false=>rfl|true=>cases hc14);rw[ac,aD,aD,aD]at hRj;obtain⟨⟨rfl,rfl,rfl⟩,hG9⟩:=hRj;refine UE ?_;refine kQ ?_;exact bI (row b12 (q.s.cells (.slice X1.Ad (J q.s.d) X1.cd) (.slice X1.Ar (J q.s.r) X1.cr)) 36::Wi be bu bb L D q.s X1 Y1 U1 d1 E2) Zj (mz (cs':=(Wi be bu bb L D q.s X1 Y1 U1 d1 E2)) (.inl I) Zu I I Zh ir ir ⟨X1,Y1,E2,hE2,hG9,I,I⟩)
  obtain rfl:nx=true:=(by cases nx with|true=>rfl|false=>cases hc14);rw[ae]at hRj;refine fZ ?_;refine UN ((⟨j+1,q.s,X1,(p+z)%4294967296,Y1,U1,d1,E2⟩:Nat×St×eN×Nat×fv×Uo×Un×Vk)) ⟨⟨show j+1<=S0 by omega,by show(p+z)%4294967296<=4294967295;omega,⟨g1,g2,g4,g5,hl⟩,by show J d1.out<=o0+(j+1);omega,hE2,by show jv L.n pg (S0 - (j+1)) q.s _ U1 d1 E2.eng=_;rw[show S0 - (j+1)=k by omega];exact hRj⟩,show S0 - (j+1)<S0 - j by omega⟩
 simp only[aa]at hc3;rw[show S0 - j=0 by omega]at hRj;simp only[jv,aD]at hRj;obtain⟨⟨rfl,rfl,rfl⟩,hG9⟩:=hRj;refine UG ?_;refine kQ ?_;exact bI (row b12 (s.cells (.slice X.Ad (J s.d) X.cd) (.slice X.Ar (J s.r) X.cr)) 36::Wi be bu bb L D s X Y U d E) Zj Wq472
end
end Go.Ink
