/- Lemmas. -/
import Derived.Test.YtgpahfcaecojgaaGreatDoorPzp
import Derived.Test.YtgpahfcaecojgaaGreatDoorPas
set_option linter.all false
set_option maxRecDepth 100000
set_option maxHeartbeats 4000000
namespace Go.Ink
open Go.RowKit Go.Proofs.Tryz
section
attribute [local irreducible] OpY bN
theorem DN(op:Int)(w:World):CW prog 206 [.i op] w (.bool (dB op)):=by
 refine Zfs func206 ntmps206 ?_;refine Gv ?_;refine ZW ?_ ?_<;>intro hc1
 .refine Z_2 ?_;refine cn rfl (hc1) (gm ?_);refine⟨?_,rfl⟩;unfold dB;cases h1:decide (0<=op)<;>cases h2:decide (op<=8)<;>cases h3:decide (16<=op)<;>cases h4:decide (op<=25)<;>cases h5:(op !=24)<;>cases h6:decide (32<=op)<;>cases h7:decide (op<=40)<;>simp_all<;>omega
 refine mZ ?_ ?_<;>intro hc2
 .refine gm ?_;refine⟨?_,rfl⟩;unfold dB;cases h1:decide (0<=op)<;>cases h2:decide (op<=8)<;>cases h3:decide (16<=op)<;>cases h4:decide (op<=25)<;>cases h5:(op !=24)<;>cases h6:decide (32<=op)<;>cases h7:decide (op<=40)<;>simp_all<;>omega
 refine Gv ?_;refine Zra ?_;refine⟨?_,rfl⟩;unfold dB;cases h1:decide (0<=op)<;>cases h2:decide (op<=8)<;>cases h3:decide (16<=op)<;>cases h4:decide (op<=25)<;>cases h5:(op !=24)<;>cases h6:decide (32<=op)<;>cases h7:decide (op<=40)<;>simp_all<;>omega
abbrev usF(b:Nat)(A:Oa)(c N:Nat)(U:List Bool):List bJ:=[row b [.slice A N c] 185,slv 4 1 A N c (U.map Value.bool)]
theorem qj(b:Nat)(A:Oa)(c N:Nat)(U:List Bool)(hN:U.length=N)(B:Oa)(cb:Nat)(l:Li)(hl:l.length<=1000)(hin:∀n,n∈l->n≠ -1->0<=n/\n.toNat<U.length)(w:World)(hi:Inv w (bK (usF b A c N U)) (usF b A c N U) w)(hR:∀w',dc (bK (usF b A c N U)) w w'->Rd w' .i64 B l.length cb l):
  Ctr prog 254 [.slice B l.length cb,.p b] w (usF b A c N U) (λ_ cs=>cs=usF b A c N (iS U l)):=by
 refine Zfn func254 ntmps254 hi ?_;refine Z_8 ?_;refine wLo (λq:Nat×List Bool=>[(1,.p b),(5,.slice B l.length cb),(6,.i l.length),(7,.i (q.1:Int))]) (λq=>usF b A c N q.2) (λq=>q.1<=l.length/\q.2.length=U.length/\iS q.2 (l.drop q.1)=iS U l) (λq=>l.length - q.1) (⟨0,U⟩) bY ?_;rintro⟨k,V⟩ ⟨hk,hV,hM⟩;dsimp only at hk hV hM|-;refine Zw6 ?_ ?_<;>intro hc1
 .simp only[ac]at hc1;have hkl:k<l.length:=Wq1;obtain⟨ad,had⟩:=(hR w (dc.refl _ _)).some_ Wq1;have hR2:∀w',dc (bK (usF b A c N U)) w w'->RdV w' 1 (some ad) l.length cb (ints .i64 l):=(λw' hk=>had▸hR w' hk);obtain⟨x,hx⟩:∃x,l[k]? =some x:=⟨_,ae hkl⟩;have hxi:=hin x (ak hx);rw[jA hx]at hM;have hM:iS (bif x != -1 then V.set x.toNat true else V) (l.drop (k+1))=iS U l:=hM;refine Z_6 ?_;refine Ux ?_;refine dQ (bM Zrf Zv0) (oH (v:= .i x) hR2 (cK hx)) rfl (Zw9 ?_ ?_)<;>intro hc3
  .rw[hc3,ai]at hM;obtain⟨hx0,hx1⟩:=hxi bY;obtain⟨n,rfl⟩:∃n:Nat,x=n:=ao hx0;rw[aN]at hx1 hM;obtain⟨bs,rfl⟩:=eM (hi.get (Zhc (slv 4 1 A N c (U.map Value.bool)))) Wq1;refine Z_3 ?_;refine Zy (cw (bb:=bs) (o:=0) (n:=N) (c:=c) (j:=n) (sz:=1) (r:=n) rfl Zrf (Zv rfl) (Zv rfl) Zrf Wq2 Wq1) ?_;refine Qj ?_;rintro _ _ ⟨rfl,rfl⟩;rw[<-List.map_set];refine jS ?_;refine qMP ((⟨k+1,V.set n true⟩:Nat×List Bool)) bY
  rw[hc3,ah]at hM;refine jS ?_;refine qMP ((⟨k+1,V⟩:Nat×List Bool)) bY
 simp only[aa]at hc1;obtain rfl:k=l.length:=by omega
 rw[List.drop_length]at hM;have hM:V=iS U l:=hM;subst hM;refine Z_4 ?_;refine jE (cs':=usF b A c N (iS U l)) (.inr rfl) Zu rfl ?_
 rfl
abbrev plF(b:Nat)(A:Oa)(c N:Nat)(pl:Li):List bJ:=[row b [.slice A N c] 72,sl .i64 3 A N c pl]
theorem yE(b:Nat)(A:Oa)(c N:Nat)(pl:Li)(hN:pl.length=N)(B:Oa)(cb:Nat)(l:Li)(hl:l.length<=1000)(hin:∀n,n∈l->0<=n/\n.toNat<pl.length)(w:World)(hi:Inv w (bK (plF b A c N pl)) (plF b A c N pl) w)(hR:∀w',dc (bK (plF b A c N pl)) w w'->Rd w' .i64 B l.length cb l):
  Ctr prog 255 [.slice B l.length cb,.p b] w (plF b A c N pl) (λv9 cs=>∃A' c',v9= .slice A' (dY pl l).length c'/\cs=plF b A c N pl++[sl .i64 3 A' (dY pl l).length c' (dY pl l)]):=by
 refine Zfn func255 ntmps255 hi ?_;refine ng ?_;refine cY 3 1 (Z_6 ?_);refine wLo (λq:Nat×List Int×Option Addr×Nat=>[(1,.p b),(4,.slice q.2.2.1 q.2.1.length q.2.2.2),(7,.slice B l.length cb),(8,.i l.length),(9,.i (q.1:Int))]) (λq=>[row b [.slice A N c] 72,sl .i64 3 A N c pl,sl .i64 3 q.2.2.1 q.2.1.length q.2.2.2 q.2.1]) (λq=>q.1<=l.length/\q.2.1=dY pl (l.take q.1)) (λq=>l.length - q.1) (⟨0,[],none,0⟩) ⟨ap _,rfl⟩ ?_;rintro⟨k,m,A1,c1⟩ ⟨hk,hm⟩;dsimp only at hk hm|-;have hml:m.length=k:=(by rw[hm];unfold dY;grind);refine Zw6 ?_ ?_<;>intro hc3
 .simp only[ac]at hc3;have hkl:k<l.length:=Wq1;obtain⟨ad,had⟩:=(hR w (dc.refl _ _)).some_ Wq1;have hR2:∀w',dc (bK (plF b A c N pl)) w w'->RdV w' 1 (some ad) l.length cb (ints .i64 l):=(λw' hk=>had▸hR w' hk);obtain⟨x,hx⟩:∃x,l[k]? =some x:=⟨_,ae hkl⟩;obtain⟨hx0,hx1⟩:=hin x (ak hx);obtain⟨n,rfl⟩:∃n:Nat,x=n:=ao hx0;rw[aN]at hx1;obtain⟨bs,rfl⟩:=eM (hi.get (Zhc (sl .i64 3 A N c pl))) Wq1;have hm2:dY pl (l.take (k+1))=m++[pl.getD n 0]:=(by rw[bE,hx,hm];unfold dY;simp_all);refine Z_6 ?_;refine Ux ?_;refine dQ (bM Zrf Zv0) (oH (v:= .i n) hR2 (cK hx)) rfl (Z_7 ?_);refine Zy (cw (bb:=bs) (o:=0) (n:=N) (c:=c) (j:=n) (sz:=1) (r:=n) rfl Zrf (Zv rfl) (Zv rfl) Zrf Wq2 Wq1) ?_;refine dQ (bM Zrf Zv0) (dG Zh (jy hx1)) rfl (jD ?_);rintro _ _ ⟨b18,rfl,rfl⟩;refine fo (bV (n:=m.length) (e:=3) (sz:=1) (bytes:=8) rfl rfl Za rfl rfl (λw hi=>hi.rd (Zhc (slv 3 1 (sA b18) 1 1 (ints .i64 [pl.getD n 0])))) cN Wq9 Wq1) rfl ?_;rintro _ _ ⟨A2,c2,rfl,rfl⟩;rw[cj,show m.length+1=(m++[pl.getD n 0]).length by simp];refine lI ?_;refine qMP ((⟨k+1,m++[pl.getD n 0],A2,c2⟩:Nat×List Int×Option Addr×Nat)) bY
 simp only[aa]at hc3;obtain rfl:k=l.length:=by omega
 rw[bC]at hm;subst hm;refine fb ?_;refine xE ?_;exact pO
theorem Cs{U:List Bool}{j:Nat}(h:j<U.length):(U.map Value.bool)[j]? =some (.bool (U.getD j false)):=by grind
abbrev pg0(b:Nat):bJ:=row b [.slice none 0 0,.i 0,.i 0,.i 0,.i 0,.slice none 0 0,.slice none 0 0,.i 0,.w 0,.i 0,.i 0,.w 0,.i 0,.i 0] 297
theorem Rm(p:Pg)(Q:PAd)(hraw:Raw p)(hv:p.values=p.code.length)(hm:p.code.length<=500)(hoD:p.Wo.length<=500)(hoR:p.Wp.length<=500)(w:World)(h:Jo p Q w):
  Ctr prog 211 [pgv p Q] w [] (λv9 cs=>∃Q',v9=pgv (cG p) Q'/\cs=[slv 343 5 Q'.Ac (cG p).code.length Q'.cc ((cG p).code.flatMap II.cells),sl .i64 3 Q'.Ad (cG p).Wo.length Q'.cd (cG p).Wo,sl .i64 3 Q'.Ar (cG p).Wp.length Q'.cr (cG p).Wp]):=by
 have hrc:=h.code;obtain⟨N,hN⟩:=Zgn (p.code.length);have hU0:gt p=j4 p.code N (iS (iS (iS (List.replicate N false) p.Wo) p.Wp) [p.flags,p.target]):=by unfold gt Kv;rw[hN]
 have hiD:∀n,n∈p.Wo->n≠ -1->0<=n/\n.toNat<N:=λn hn _=>by have:=hraw.Wo n hn;unfold II.in_ at this;omega
 have hiR:∀n,n∈p.Wp->n≠ -1->0<=n/\n.toNat<N:=λn hn _=>by have:=hraw.Wp n hn;unfold II.in_ at this;omega
 have hiF:∀n,n∈[p.flags,p.target]->n≠ -1->0<=n/\n.toNat<N:=λn hn h1=>by
  simp only[aJ,aY,or_false]at hn;rcases hn with rfl|rfl
  .rcases hraw.flags with h2|h2
   .omega
   unfold II.in_ at h2;omega
  rcases hraw.target with h2|h2
  .omega
  unfold II.in_ at h2;omega
 have hvN:p.values=N:=by rw[hv,hN]
 have hoD2:∀n,n∈p.Wo->0<=n/\n.toNat<N:=λn hn=>by have:=hraw.Wo n hn;unfold II.in_ at this;omega
 have hoR2:∀n,n∈p.Wp->0<=n/\n.toNat<N:=λn hn=>by have:=hraw.Wp n hn;unfold II.in_ at this;omega
 have hfl:p.flags≠ -1->∃n:Nat,p.flags=n/\n<N:=λh1=>by
  rcases hraw.flags with h2|h2
  .omega
  unfold II.in_ at h2;grind
 have htg:p.target≠ -1->∃n:Nat,p.target=n/\n<N:=λh1=>by
  rcases hraw.target with h2|h2
  .omega
  unfold II.in_ at h2;grind
 obtain⟨Z,hZ⟩:=Zgn (List.replicate N false);have hZl:Z.length=N:=by rw[<-hZ];simp
 have hZv:(List.replicate N (.bool false:Value))=Z.map Value.bool:=by rw[<-hZ];simp
 rw[hZ]at hU0;obtain⟨P0,hP0⟩:=Zgn (List.replicate N (0:Int));have hP0l:P0.length=N:=by rw[<-hP0];simp
 have hPv:(List.replicate N (.i 0:Value))=ints .i64 P0:=by rw[<-hP0];simp[ints]
 refine Zfs func211 ntmps211 ?_;refine Z_2 ?_;refine ZO λb1=>?_;refine ZN λb2=>?_
 refine Z_6 ?_;refine fo (mS (bytes:=1) (n:=N) rfl rfl rfl rfl rfl hvN hvN Wq1 Wq9) rfl ?_;rintro _ _ ⟨b14,rfl,rfl⟩;rw[hZv];refine ZN λb3=>?_
 refine ZL ?_;refine Z_4 ?_;refine Zy (mi rfl) ?_;refine Z_8 ?_;refine fo (iO (usF b3 (sA b14) N N Z) rfl rfl (λ_ _=>rfl) Zi (λw hi hin=>qj b3 (sA b14) N N Z hZl Q.Ad Q.cd p.Wo Wq1 bY w hin (λw' hk=>RdV.Wm h.Wo hi Zi hk))) rfl ?_;rintro _ _ ⟨_,rfl,rfl⟩;obtain⟨U1,hU1⟩:=Zgn (iS Z p.Wo);have hl1:U1.length=N:=(by rw[<-hU1,fP,hZl]);rw[hU1]at hU0|-;refine Z_7 ?_;refine fo (iO (usF b3 (sA b14) N N U1) rfl rfl (λ_ _=>rfl) Zi (λw hi hin=>qj b3 (sA b14) N N U1 hl1 Q.Ar Q.cr p.Wp Wq1 bY w hin (λw' hk=>RdV.Wm h.Wp hi Zi hk))) rfl ?_;rintro _ _ ⟨_,rfl,rfl⟩;obtain⟨U2,hU2⟩:=Zgn (iS U1 p.Wp);have hl2:U2.length=N:=(by rw[<-hU2,fP,hl1]);rw[hU2]at hU0|-;refine Z_9 ?_;refine jD ?_;rintro _ _ ⟨b29,rfl,rfl⟩;refine fo (iO (usF b3 (sA b14) N N U2) rfl rfl (λ_ _=>rfl) Zi (λw hi hin=>qj b3 (sA b14) N N U2 hl2 (sA b29) 2 [p.flags,p.target] cP bY w hin (λw' hk=>dx (hi.Xc Zi (Zhc (slv 3 1 (sA b29) 2 2 (ints .i64 [p.flags,p.target]))) hk)))) rfl ?_;rintro _ _ ⟨_,rfl,rfl⟩;obtain⟨U3,hU3⟩:=Zgn (iS U2 [p.flags,p.target]);have hl3:U3.length=N:=(by rw[<-hU3,fP,hl2]);rw[hU3]at hU0|-;refine Z_7 ?_;refine Zy (i5 (Zv rfl) (Zv rfl) (show _=(N:Int) - 1 from by rw[hvN,bI];omega)) ?_;refine Z_4 ?_;refine wLo (λq:Nat×List Bool=>[(1,.p b1),(2,.p b2),(3,.p b3),(4,.func (.func 254) #[] #[.p b3]),(5,.i ((q.1:Int) - 1))]) (λq=>[row b3 [.slice (sA b14) N N] 185,slv 4 1 (sA b14) N N (q.2.map Value.bool),row b1 (jL p Q) 297,pg0 b2]) (λq=>q.1<=N/\q.2.length=N/\j4 p.code q.1 q.2=gt p) (λq=>q.1) (⟨N,U3⟩) bY ?_;rintro⟨k,V⟩ ⟨hk,hV,hB⟩;dsimp only at hk hV hB|-;refine Zw7 ?_ ?_<;>intro hc7
 .simp only[ac]at hc7;obtain⟨j,rfl⟩:∃j,k=j+1:=⟨k - 1,by omega⟩;have hjN:j<p.code.length:=Wq1;have hj5:((j+1:Nat):Int) - 1=(j:Int):=Wq1;rw[hj5];obtain⟨ad,had⟩:=hrc.some_ Wq1;have hrc2:=hrc;rw[had]at hrc2;obtain⟨x,hx⟩:∃x,p.code[j]? =some x:=⟨_,ae hjN⟩;have hgx:p.code.getD j II.zero=x:=bY;have hB:j4 p.code j (bif V.getD j false&&lH (p.code.getD j II.zero)then iS V [(p.code.getD j II.zero).a,(p.code.getD j II.zero).b]else V)=gt p:=hB;rw[hgx]at hB;obtain⟨op,dst,xa,xb,imm⟩:=x;dsimp only at hB;refine Z_9 ?_;refine Zy (ii (j:=j) had rfl Zrf Zv0 Zv0 Zrf (λ_=>hjN)) ?_;refine dQ (bW (vs:=[.i op,.i dst,.i xa,.i xb,.w imm]) Zrf Zrf Zv0) (cE hrc2 (λi v hi=>bZ (f:=II.cells) Zrf (i:=i) hx hi)) rfl ?_;refine ZN λb6=>?_
  refine jj ?_;refine Zy (cw (bb:=b14) (o:=0) (n:=N) (c:=N) (j:=j) (sz:=1) (r:=j) rfl Zrf (Zv rfl) (Zv rfl) Zrf Wq2 Wq1) ?_;refine dQ (bM Zrf (Zv rfl)) (dG Zh (Cs Wq1)) rfl (fb ?_);refine ZW ?_ ?_<;>intro hc10
  .have hc:(V.getD j false&&lH ⟨op,dst,xa,xb,imm⟩)=true:=hc10;rw[hc,ai]at hB;obtain⟨-,hab⟩:=Bool.and_eq_true_iff.1 hc;have hxi:=hraw.wf j _ hx hab;dsimp only at hxi;refine Z_6 ?_;refine jD ?_;rintro _ _ ⟨b62,rfl,rfl⟩;refine fo (iO (usF b3 (sA b14) N N V) rfl rfl (λ_ _=>rfl) Zi (λw hi hin=>qj b3 (sA b14) N N V hV (sA b62) 2 [xa,xb] cP (λn hn _=>by simp only[aJ,aY,or_false]at hn;omega) w hin (λw' hk=>dx (hi.Xc Zi (Zhc (slv 3 1 (sA b62) 2 2 (ints .i64 [xa,xb]))) hk)))) rfl ?_;rintro _ _ ⟨_,rfl,rfl⟩;refine Z_5 ?_;refine pd ?_;refine Z_2 ?_;refine qMP ((⟨j,iS V [xa,xb]⟩:Nat×List Bool)) ⟨⟨by omega,by dsimp only;rw[fP,hV],hB⟩,by omega⟩
  have hc:(V.getD j false&&lH ⟨op,dst,xa,xb,imm⟩)=false:=hc10;rw[hc,ah]at hB;refine Z_5 ?_;refine pd ?_;refine Z_2 ?_;refine qMP ((⟨j,V⟩:Nat×List Bool)) bY
 simp only[aa]at hc7;obtain rfl:k=0:=by omega
 have hB:V=gt p:=hB;subst hB;refine Z_9 ?_;refine fo (mS (bytes:=8) (n:=N) rfl rfl rfl rfl rfl hvN hvN Wq1 Wq9) rfl ?_;rintro _ _ ⟨b66,rfl,rfl⟩;rw[hPv];refine ZN λb7=>?_
 refine ZL ?_;refine fH ?_;refine cY 343 5 (Z_7 ?_);refine wLo (λq:Nat×List Int×List II×Option Addr×Nat=>[(1,.p b1),(2,.p b2),(3,.p b3),(7,.p b7),(8,.slice q.2.2.2.1 q.2.2.1.length q.2.2.2.2),(68,.slice Q.Ac p.code.length Q.cc),(69,.i p.code.length),(70,.i (q.1:Int))]) (λq=>[row b3 [.slice (sA b14) N N] 185,slv 4 1 (sA b14) N N ((gt p).map Value.bool),row b1 (jL p Q) 297,pg0 b2,sl .i64 3 (sA b66) N N q.2.1,row b7 [.slice (sA b66) N N] 72,slv 343 5 q.2.2.2.1 q.2.2.1.length q.2.2.2.2 (q.2.2.1.flatMap II.cells)]) (λq=>q.1<=N/\q.2.1.length=N/\q.2.2.1.length<=q.1/\nZ (gt p) (p.code.drop q.1) q.1 q.2.1 q.2.2.1=eL p) (λq=>N - q.1) (⟨0,P0,[],none,0⟩) ⟨ap _,hP0l,ap _,by unfold eL;grind⟩ ?_;rintro⟨i,pl,c,A,cc⟩ ⟨hi9,hpl,hcl,hW⟩;dsimp only at hi9 hpl hcl hW|-;refine Zw6 ?_ ?_<;>intro hc15
 .simp only[ac]at hc15;have hiN:i<p.code.length:=Wq1;obtain⟨ad,had⟩:=hrc.some_ Wq1;have hrc2:=hrc;rw[had]at hrc2;obtain⟨x,hx⟩:∃x,p.code[i]? =some x:=⟨_,ae hiN⟩;rw[jA hx]at hW;have hW:(bif(gt p).getD i false then nZ (gt p) (p.code.drop (i+1)) (i+1) (pl.set i (c.length:Int)) (c++[pq x (pl.set i (c.length:Int)) c.length])else nZ (gt p) (p.code.drop (i+1)) (i+1) pl c)=eL p:=hW;have hwf:=hraw.wf i x hx;obtain⟨op,dst,xa,xb,imm⟩:=x;dsimp only at hwf;refine Z_7 ?_;refine Zy (ii (j:=i) had rfl Zrf Zv0 Zv0 Zrf (λ_=>hiN)) ?_;refine Wq183 ?_;refine ZN λb10=>?_
  refine ZA ?_;refine rf ?_;refine Zy (cw (bb:=b14) (o:=0) (n:=N) (c:=N) (j:=i) (sz:=1) (r:=i) rfl Zrf (Zv rfl) (Zv rfl) Zrf Wq2 Wq1) ?_;refine dQ (bM Zrf (Zv rfl)) (dG Zh (Cs Wq1)) rfl (Zw3 ?_ ?_)<;>intro hc17
  .have hu:(gt p).getD i false=false:=bY;rw[hu,ah]at hW;refine lI ?_;refine qMP ((⟨i+1,pl,c,A,cc⟩:Nat×List Int×List II×Option Addr×Nat)) bY
  have hu:(gt p).getD i false=true:=bY;rw[hu,ai]at hW;obtain⟨pl2,hpl2⟩:=Zgn (pl.set i (c.length:Int));have hpl2l:pl2.length=N:=bY;rw[hpl2]at hW;refine Z_8 ?_;refine Zy (cw (bb:=b66) (o:=0) (n:=N) (c:=N) (j:=i) (sz:=1) (r:=i) rfl Zrf (Zv rfl) (Zv rfl) Zrf Wq2 Wq1) ?_;refine Qj ?_;rintro _ _ ⟨rfl,rfl⟩;rw[nW,hpl2];refine Z_2 ?_;refine cL (λq:Int×Int=>[(1,.p b1),(2,.p b2),(3,.p b3),(7,.p b7),(8,.slice A c.length cc),(10,.p b10),(68,.slice Q.Ac p.code.length Q.cc),(69,.i p.code.length),(70,.i (i:Int))]) (λq=>[row b3 [.slice (sA b14) N N] 185,slv 4 1 (sA b14) N N ((gt p).map Value.bool),row b1 (jL p Q) 297,pg0 b2,row b7 [.slice (sA b66) N N] 72,sl .i64 3 (sA b66) N N pl2,slv 343 5 A c.length cc (c.flatMap II.cells),row b10 [.i op,.i dst,.i q.1,.i q.2,.w imm] 343]) (λq=>pq ⟨op,dst,xa,xb,imm⟩ pl2 c.length=⟨op,c.length,q.1,q.2,imm⟩) ?_ ?_
  .refine fb ?_;refine ZW ?_ ?_<;>intro hc19
   .have hab:lH ⟨op,dst,xa,xb,imm⟩=true:=hc19;obtain⟨⟨a1,a2⟩,a3,a4⟩:=hwf hab;obtain⟨na,rfl⟩:∃n:Nat,xa=n:=ao a1;obtain⟨nb,rfl⟩:∃n:Nat,xb=n:=ao a3;have hsw:pq ⟨op,dst,na,nb,imm⟩ pl2 c.length=⟨op,c.length,pl2.getD na 0,pl2.getD nb 0,imm⟩:=(by unfold pq;rw[hab];rfl);refine bU (Zdn [11,13]) Zk (ZG 0 ?_);refine ZFe 1 2 ?_;refine ZG 2 ?_;refine Zy4 3 rfl (cw (bb:=b66) (o:=0) (n:=N) (c:=N) (j:=na) (sz:=1) (r:=na) rfl Zrf (Zv rfl) (Zv rfl) Zrf Wq2 Wq1) ?_;refine Zy5 4 rfl (bM Zrf (Zv rfl)) (dG Zh (jy Wq1)) ?_;refine ZFe 6 3 ?_;refine ZG 7 ?_;refine ZFe 10 2 ?_;refine kW 5 11 Zk ?_ ?_
    .refine zL ?_;refine Zy4 8 rfl (cw (bb:=b66) (o:=0) (n:=N) (c:=N) (j:=nb) (sz:=1) (r:=nb) rfl Zrf (Zv rfl) (Zv rfl) Zrf Wq2 Wq1) ?_;refine kW 9 11 Zk ?_ ?_
     .refine JB rfl (bM Zrf (Zv rfl)) (dG Zh (jy Wq1)) rfl (cW 11 Zk (ZQ ?_));refine ZFe 12 3 ?_;refine cW 13 Zk (o9 ?_);refine qMP ((⟨pl2.getD na 0,pl2.getD nb 0⟩:Int×Int)) hsw
     refine ZQ ?_;refine Wq502 ?_;refine qMP ((⟨pl2.getD na 0,pl2.getD nb 0⟩:Int×Int)) hsw
    refine ZQ ?_;refine ZG 5 ?_;refine Zy4 8 rfl (cw (bb:=b66) (o:=0) (n:=N) (c:=N) (j:=nb) (sz:=1) (r:=nb) rfl Zrf (Zv rfl) (Zv rfl) Zrf Wq2 Wq1) ?_;refine Wq502 ?_;refine qMP ((⟨pl2.getD na 0,pl2.getD nb 0⟩:Int×Int)) hsw
   have hab:lH ⟨op,dst,xa,xb,imm⟩=false:=hc19;have hsw:pq ⟨op,dst,xa,xb,imm⟩ pl2 c.length=⟨op,c.length,xa,xb,imm⟩:=(by unfold pq;grind);refine Zc (qMP ((⟨xa,xb⟩:Int×Int)) hsw)
  rintro⟨ya,yb⟩ hsw;dsimp only at hsw|-;rw[hsw]at hW;refine Z_5 ?_;refine ZL ?_;refine Z_5 ?_;refine pZ ?_;rintro _ _ ⟨b110,rfl,rfl⟩;refine fo (bV (n:=c.length) (e:=343) (sz:=5) (bytes:=40) rfl rfl Za rfl rfl (λw hi=>hi.rd (Zhc (slv 343 5 (sA b110) 1 1 [.i op,.i c.length,.i ya,.i yb,.w imm]))) (one5 _ _ _ _ _) Wq9 Wq1) rfl ?_;rintro _ _ ⟨A2,c2,rfl,rfl⟩;rw[OK c ⟨op,c.length,ya,yb,imm⟩,show c.length+1=(c++[(⟨op,c.length,ya,yb,imm⟩:II)]).length by simp];refine lI ?_;refine qMP ((⟨i+1,pl2,c++[⟨op,c.length,ya,yb,imm⟩],A2,c2⟩:Nat×List Int×List II×Option Addr×Nat)) bY
 simp only[aa]at hc15;obtain rfl:i=N:=Wq1;rw[List.drop_of_length_le Wq1]at hW;have hW:(pl,c)=eL p:=hW;have hsT:∀fl tg,ib pl p.flags=fl->ib pl p.target=tg->cG p=⟨c,p.Wc,p.Wd,p.WH,p.WK,dY pl p.Wo,dY pl p.Wp,fl,p.next,tg,p.branch,p.taken,p.count,c.length⟩:=(by intro fl tg h1 h2;unfold cG;grind);refine Z_7 ?_;refine Zy (mi rfl) ?_;refine Z_4 ?_;refine gP (Zdn [6,10,12,14,16,18]) [(0,0),(1,0),(2,0),(3,0),(4,0),(5,4),(7,0),(8,0),(6,3),(9,3),(10,3),(11,3),(12,3),(13,3),(14,3),(15,3),(16,3),(17,3),(18,3)] Zk Zk (m5 ?_);refine m5 ?_;refine dH rfl (y_len ⟨_,rfl⟩ Zv0) rfl (m5 ?_);refine dH rfl (eH 5 rfl Zv0 Zf) rfl (LL ?_);refine m5 ?_;refine dH rfl (eH 6 rfl Zv0 Zf) rfl (LY [(6,[(9,1),(11,0),(10,2),(12,2),(13,0),(14,2),(15,0),(16,2),(17,0),(18,2)]),(9,[(11,0),(6,2),(10,2),(12,2),(13,0),(14,2),(15,0),(16,2),(17,0),(18,2)])] Zk (.cons ?_ (.cons ?_ .nil)))
 .refine Wq262 ?_;rintro _ _ ⟨_,⟨A3,c3,rfl,rfl⟩,rfl⟩;refine EF ?_;refine dH rfl (eH 0 rfl Zv0 Zf) rfl (Wq234 ?_);rintro _ _ ⟨_,⟨A4,c4,rfl,rfl⟩,rfl⟩;refine EH ?_;rintro _ _ ⟨rfl,rfl⟩;refine dH rfl (eH 13 rfl Zv0 Zf) rfl (EH ?_);rintro _ _ ⟨rfl,rfl⟩;refine dH rfl (eH 5 rfl Zv0 Zf) rfl (EH ?_);rintro _ _ ⟨rfl,rfl⟩;refine dH rfl (eH 6 rfl Zv0 Zf) rfl (EH ?_);rintro _ _ ⟨rfl,rfl⟩;refine i6 (Zw9 ?_ ?_)<;>intro hc26
  .have hf1:p.flags≠ -1:=(by simpa using hc26);obtain⟨nf,hnf,hnf2⟩:=hfl hf1;have hm1:ib pl p.flags=pl.getD nf 0:=(by unfold ib;rw[hc26,ai,hnf,aN]);refine Wq294 ?_;refine ZW ?_ ?_<;>intro hc28
   .exact Wq99
   exact UX
  have hm1:ib pl p.flags=p.flags:=(by unfold ib;rw[hc26,ah]);refine mZ ?_ ?_<;>intro hc28
  .exact Wq99
  exact UX
 refine Vk rfl (bM Zrf Zv0) (cB Zh rfl) rfl (dH rfl (eH 0 rfl Zv0 Zf) rfl (fT ?_));refine Wq262 ?_;rintro _ _ ⟨_,⟨A3,c3,rfl,rfl⟩,rfl⟩;refine Wq234 ?_;rintro _ _ ⟨_,⟨A4,c4,rfl,rfl⟩,rfl⟩;refine EH ?_;rintro _ _ ⟨rfl,rfl⟩;refine dH rfl (eH 13 rfl Zv0 Zf) rfl (EH ?_);rintro _ _ ⟨rfl,rfl⟩;refine dH rfl (eH 5 rfl Zv0 Zf) rfl (EH ?_);rintro _ _ ⟨rfl,rfl⟩;refine dH rfl (eH 6 rfl Zv0 Zf) rfl (EH ?_);rintro _ _ ⟨rfl,rfl⟩;refine i6 (Zw9 ?_ ?_)<;>intro hc26
 .have hf1:p.flags≠ -1:=(by simpa using hc26);obtain⟨nf,hnf,hnf2⟩:=hfl hf1;have hm1:ib pl p.flags=pl.getD nf 0:=(by unfold ib;rw[hc26,ai,hnf,aN]);refine Wq294 ?_;refine ZW ?_ ?_<;>intro hc28
  .exact Wq99
  exact UX
 have hm1:ib pl p.flags=p.flags:=(by unfold ib;rw[hc26,ah]);refine mZ ?_ ?_<;>intro hc28
 .exact Wq99
 exact UX
abbrev LJ(i:Int×Int):List Value:=[.i i.1,.w i.2]
abbrev pgZ:List Value:=[.slice none 0 0,.i 0,.i 0,.i 0,.i 0,.slice none 0 0,.slice none 0 0,.i 0,.w 0,.i 0,.i 0,.w 0,.i 0,.i 0]
theorem Vs{L:Lw}{n:Nat}(h:L.sm n)(op i next:Int):(L.one op i next).sm (n+10):=by
 have h2:=sm_go h op i next
 exact⟨h2.code,h2.dl,h2.rl,h2.dn,h2.rn⟩
theorem MY:Lw.init.sm 0:=⟨aL _,aL _,aL _,⟨Int.le_refl _,Int.le_refl _⟩,⟨Int.le_refl _,Int.le_refl _⟩⟩
theorem KB(pc:Int)(w:Lw)(i:Int×Int)(l:List (Int×Int)):nP pc w (i::l)=bif(!iy i.1 i.2|| !dB i.1)||(gN i.1&& !l.isEmpty)then none else nP (IntKind.u32.wrap (pc+IntKind.u32.wrap (cF i.1))) (w.one i.1 i.2 (IntKind.u32.wrap (pc+IntKind.u32.wrap (cF i.1)))) l:=rfl
theorem Ea{α:Type}(l:List α)(k:Nat)(hk:k<l.length):(!(l.drop (k+1)).isEmpty)=decide ((k:Int)<(l.length:Int) - 1):=by
 grind [decide_eq_true,List.drop_eq_nil_iff,decide_eq_false,List.drop_of_length_le]
variable{l:List (Int×Int)}
theorem SN{y:Int×Int}(h:l[l.length - 1]? =some y):l.getLastD (0,0)=y:=by
 grind
def LowK(o:Option Pg)(v:Value)(cs:List bJ):Prop:=match o with
 |some p=>∃Q':PAd,v= .tuple #[pgv p Q',.i 0]/\cs=[slv 343 5 Q'.Ac p.code.length Q'.cc (p.code.flatMap II.cells),sl .i64 3 Q'.Ad p.Wo.length Q'.cd p.Wo,sl .i64 3 Q'.Ar p.Wp.length Q'.cr p.Wp]
 |none=>v= .tuple #[.agg pgZ.toArray,.i 12]/\cs=[]
theorem OJ(pc:Int)(A:Oa)(c:Nat)(l:List (Int×Int))(hu:∀i,i∈l->u32 i.2)(w:World)(h:RdV w 2 A l.length c (l.flatMap LJ)):
  Ctr prog 186 [.w pc,.slice A l.length c] w [] (λv cs=>LowK (fq pc l) v cs):=by
 have hlm:l.length<=maxLen:=aK h.cap h.max;simp only[maxLen]at hlm;obtain⟨R,hR⟩:=Zgn (nP pc Lw.init l);have hbad:(decide ((l.length:Int)<1)||decide (8<(l.length:Int)))=true->fq pc l=none:=λe=>by unfold fq;grind
 have hno:R=none->(decide ((l.length:Int)<1)||decide (8<(l.length:Int)))=false->fq pc l=none:=λe e2=>by unfold fq;grind
 have hyes:∀nx L,R=some (nx,L)->(decide ((l.length:Int)<1)||decide (8<(l.length:Int)))=false->fq pc l=some (cG (AN nx L (l.getLastD (0,0)) l.length)):=λnx L e e2=>by unfold fq;grind
 have hraw:∀nx L y,R=some (nx,L)->Raw (AN nx L y l.length):=λnx L y e=>by
  rw[e]at hR;obtain⟨lk, -, -⟩:=uJ l pc Lw.init _ hu hR wc;exact⟨lk.wf,lk.ops,lk.d,lk.r,lk.flags,lk.target⟩
 obtain⟨LT,hLT⟩:=Zgn (fq pc l);rw[hLT]at hbad hno hyes|-;refine Zfs func186 ntmps186 ?_;refine Z_2 ?_;refine ZN λb4=>?_;refine rc ?_;refine ZW ?_ ?_<;>intro hc1
 .rw[hbad hc1];refine Z_2 ?_;refine Zy (iK (vs:=pgZ) Zk (.inl ⟨_,rfl,rfl⟩)) ?_;refine mR ?_;exact Wq426
 have hc1':=hc1;simp only[aS,aa]at hc1';refine fH ?_;refine ZO λb26=>?_
 refine Z_6 ?_;refine cY 343 5 (cY 3 1 (cY 3 1 (Z_6 ?_)));refine wLo (λq:(Nat×Int)×Lw×LAd=>[(0,.w q.1.2),(1,.slice A l.length c),(4,.p b4),(6,.p b26),(27,.slice A l.length c),(28,.i (l.length:Int)),(29,.i (q.1.1:Int))]) (λq=>[pg0 b4]++lwF b26 (l.length:Int) q.2.1 q.2.2) (λq=>q.1.1<=l.length/\nP q.1.2 q.2.1 (l.drop q.1.1)=R/\q.2.1.sm (10*q.1.1)) (λq=>l.length - q.1.1) (⟨(0,pc),Lw.init,⟨none,0,none,0,none,0⟩⟩) ⟨ap _,hR,MY⟩ ?_;rintro⟨⟨k,pc2⟩,L,X⟩ ⟨hk,hG,hsm⟩;dsimp only at hk hG hsm|-;refine Zw6 ?_ ?_<;>intro hc5
 .simp only[ac]at hc5;have hkl:k<l.length:=Wq1;obtain⟨ad,had⟩:=h.some_ Wq1;have h2:=h;rw[had]at h2;obtain⟨x,hx⟩:∃x,l[k]? =some x:=⟨_,ae hkl⟩;rw[jA hx,KB,Ea l k hkl]at hG;obtain⟨op,nn⟩:=x;dsimp only at hG;refine Z_7 ?_;refine Ux ?_;refine dQ (bW (vs:=[.i op,.w nn]) Zrf Zrf Zv0) (cE h2 (λi v hi=>bZ (f:=LJ) Zrf (i:=i) hx hi)) rfl ?_;refine ZN λb8=>?_
  refine ZA ?_;refine jj ?_;refine ZSe (λw hi=>DM op nn w) ?_;refine Z_4 ?_;refine dE (bQ rfl rfl) (.cons (cA rfl) .nil) (λ_ _=>rfl) (λhg w hi=>DN op w) rfl (Z_5 ?_);refine dE (bQ rfl rfl) (.cons (cA rfl) .nil) (λ_ _=>rfl) (λhg w hi=>Bx op w) rfl (Z_4 ?_);refine gQ (df rfl rfl) (i5 (cA rfl) Zv0 Zl) (λ_ _=>trivial) rfl (Zw5 ?_ ?_)<;>intro hc7
  .rw[hc7,ai]at hG;rw[hno hG.symm hc1];refine Z_2 ?_;refine Zy (iK (vs:=pgZ) Zk (.inl ⟨_,rfl,rfl⟩)) ?_;refine sF ?_;exact Wq426
  rw[hc7,ah]at hG;refine Z_7 ?_;refine ZSe (λw hi=>Ae op w) ?_;refine oq ?_;refine pR ?_;refine Z_7 ?_;refine dy (lwF b26 (l.length:Int) L X) (λw hi hin=>lone_ok b26 (l.length:Int) L X (hsm.mono Wq1) op nn _ w hin) ?_;rintro _ _ ⟨L2,X2,hL2,rfl⟩;refine jS ?_;refine qMP ((⟨(k+1,IntKind.u32.wrap (pc2+IntKind.u32.wrap (cF op))),L2,X2⟩:(Nat×Int)×Lw×LAd)) ⟨⟨by grind,by grind,by dsimp only;rw[hL2];exact(Vs hsm _ _ _).mono Wq1⟩,by grind⟩
 simp only[aa]at hc5;obtain rfl:k=l.length:=Wq1;rw[List.drop_length]at hG;have hG:R=some (pc2,L):=hG.symm;have hraw2:=hraw pc2 L (l.getLastD (0,0)) hG;rw[hyes pc2 L hG hc1];refine fH ?_;refine dQ (bW (vs:=[.slice X.Ac L.code.length X.cc,.i 0,.i 0,.i 0,.i 0,.slice none 0 0,.slice none 0 0,.i L.flags,.w 0,.i L.target,.i L.branch,.w 0,.i (l.length:Int),.i 0]) Zrf Zrf Zv0) (cX Zh rfl) rfl ?_;refine ZN λb9=>?_
 refine jj ?_;refine ZL ?_;refine Z_2 ?_;refine cL (λq:Int×Int=>[(1,.slice A l.length c),(4,.p b4),(6,.p b26),(9,.p b9)]) (λq=>[pg0 b4]++lwF b26 (l.length:Int) L X++[row b9 [.slice X.Ac L.code.length X.cc,.i 0,.i 0,.i 0,.i 0,.slice none 0 0,.slice none 0 0,.i L.flags,.w q.1,.i L.target,.i L.branch,.w q.2,.i (l.length:Int),.i 0] 297]) (λq=>AN pc2 L (l.getLastD (0,0)) l.length=⟨L.code,L.d.Wi,L.r.Wi,L.d.high,L.r.high,L.d.l,L.r.l,L.flags,q.1,L.target,L.branch,q.2,l.length,L.code.length⟩) ?_ ?_
 .refine Z_5 ?_;refine pd ?_;obtain⟨ad,had⟩:=h.some_ (show 0<l.length by omega);have h2:=h;rw[had]at h2;obtain⟨x,hx⟩:∃x,l[l.length - 1]? =some x:=⟨_,ae Wq1⟩;have hlast:=SN hx;rw[hlast];obtain⟨op,nn⟩:=x;refine Zy (ii (j:=l.length - 1) had rfl Zrf (Zv rfl) (Zv rfl) Wq2 Wq2) ?_;refine dQ (bW (vs:=[.i op,.w nn]) Zrf Zrf Zv0) (cE h2 (λi v hi=>bZ (f:=LJ) Zrf (i:=i) hx hi)) rfl ?_;refine ZN λb10=>?_
  refine ZM ?_;refine rc ?_;refine ZW ?_ ?_<;>intro hc15
  .refine Z_4 ?_;refine ZSe (λw hi=>Ff nn w) ?_;refine pR ?_;refine iJ ?_;refine Z_2 ?_;refine qMP ((⟨IntKind.u32.wrap (pc2+ma nn),0⟩:Int×Int)) (by unfold AN;grind)
  refine Zw8 ?_ ?_<;>intro hc17
  .refine Z_4 ?_;refine ZSe (λw hi=>Ff nn w) ?_;refine pR ?_;refine iJ ?_;refine Z_2 ?_;refine qMP ((⟨pc2,IntKind.u32.wrap (pc2+ma nn)⟩:Int×Int)) (by unfold AN;grind)
  refine Z_2 ?_;refine qMP ((⟨pc2,0⟩:Int×Int)) (by unfold AN;grind)
 rintro⟨nx,tk⟩ hq;dsimp only at hq|-;rw[hq]at hraw2|-;have hl500:=hsm;refine Zs (bU (Zdr [21,23,25,27] (mU b26 (FT (l.length:Int) L X))) Zk ?_);refine pP ?_;refine ZFe 2 14 ?_;refine ZFe 3 1 ?_;refine eu 4 rfl Zk Zk Zk (bM Zrf Zv0) (dg rfl) (bL (t:=328) Zh) rfl (kU ?_);refine ZFe 7 18 ?_;refine ZFe 8 1 ?_;refine eu 9 rfl Zk Zk Zk (bM Zrf Zv0) (dg rfl) (bL (t:=328) Zh) rfl (ZE 10 ?_);refine ZE 11 ?_;refine ZFe 12 14 ?_;refine ZFe 13 2 ?_;refine eu 14 rfl Zk Zk Zk (bM Zrf Zv0) (dg rfl) (bL (t:=328) Zh) rfl (ZE 15 ?_);refine ZE 16 ?_;refine ZFe 17 18 ?_;refine ZFe 18 2 ?_;refine eu 19 rfl Zk Zk Zk (bM Zrf Zv0) (dg rfl) (bL (t:=328) Zh) rfl (ZFe 20 1 ?_);refine cW 21 Zk (LA ?_);rintro _ _ ⟨rfl,rfl⟩;refine ZFe 22 2 ?_;refine cW 23 Zk (LA ?_);rintro _ _ ⟨rfl,rfl⟩;refine ZFe 24 3 ?_;refine cW 25 Zk (LA ?_);rintro _ _ ⟨rfl,rfl⟩;refine ZFe 26 4 ?_;refine cW 27 Zk (LA ?_);rintro _ _ ⟨rfl,rfl⟩;refine jU ?_;refine bU (Zdr [11,13] (mU b26 (FT (l.length:Int) L X))) Zk (pP ?_);refine ZFe 2 14 ?_;refine ZFe 3 0 ?_;refine eu 4 rfl Zk Zk Zk (bM Zrf Zv0) (dg rfl) (bL (t:=328) Zh) rfl (kU ?_);refine ZFe 7 18 ?_;refine ZFe 8 0 ?_;refine eu 9 rfl Zk Zk Zk (bM Zrf Zv0) (dg rfl) (bL (t:=328) Zh) rfl (ZFe 10 5 ?_);refine cW 11 Zk (LA ?_);rintro _ _ ⟨rfl,rfl⟩;refine ZFe 12 6 ?_;refine cW 13 Zk (LA ?_);rintro _ _ ⟨rfl,rfl⟩;refine dR ?_;refine Z_7 ?_;refine ZL ?_;refine Z_5 ?_;refine ZSn (λw hi=>Rm ⟨L.code,L.d.Wi,L.r.Wi,L.d.high,L.r.high,L.d.l,L.r.l,L.flags,nx,L.target,L.branch,tk,l.length,L.code.length⟩ ⟨X.Ac,X.cc,X.Ad,X.cd,X.Ar,X.cr⟩ hraw2 rfl (aK hsm.code Wq1) (aK hsm.dl Wq1) (aK hsm.rl Wq1) w ⟨hi.rd Zh,hi.rd Zh,hi.rd Zh⟩) ?_;rintro _ _ ⟨Q9,rfl,rfl⟩;refine jC ?_;obtain⟨p9,hp9⟩:=Zgn (cG ⟨L.code,L.d.Wi,L.r.Wi,L.d.high,L.r.high,L.d.l,L.r.l,L.flags,nx,L.target,L.branch,tk,l.length,L.code.length⟩);rw[hp9];exact bO [row b4 _ _,slv 343 5 Q9.Ac p9.code.length Q9.cc (p9.code.flatMap II.cells),sl .i64 3 Q9.Ad p9.Wo.length Q9.cd p9.Wo,sl .i64 3 Q9.Ar p9.Wp.length Q9.cr p9.Wp] Zj (px (cs':=[slv _ _ _ _ _ _,slv _ _ _ _ _ _,slv _ _ _ _ _ _]) (.inl rfl) Zu rfl rfl rfl Zh Zrf Zrf ⟨Q9,rfl,rfl⟩)
section
variable {C:Cx} {Q:lF} {fr:Fr} {cs cs':List bJ} {ops:Array Oper} {l:List Oper} {e:Exit} {fn:Func} {K:Value->List bJ->Prop}
theorem Vl(hc:∀w,Inv C.w0 C.S cs w->Inv C.w0 C.S cs' w)(h:WL C ops Q l fr cs'):WL C ops Q l fr cs:=λa w hf hi=>h a w hf (hc w hi)
theorem yN{t T bb tt t2 T2 b2 tt2 u:Nat}{v:Value}{xs ys:List Value}(he:e= .ret\/e= .normal)(hs:cs'.Sublist cs)(h0:fn.results= #[.cell t T,.cell t2 T2,.tmp u])(h1:look fr t=some (.p bb))(h2:look fr t2=some (.p b2))(h3:look fr u=some v)(hc:Has cs (row bb xs tt))(hc2:Has cs (row b2 ys tt2))
  (hT:∀w,(isAgg T).run C.P w= .ok true w) (hz:∀w,(sizeOf T).run C.P w= .ok xs.length w) (hT2:∀w,(isAgg T2).run C.P w= .ok true w) (hz2:∀w,(sizeOf T2).run C.P w= .ok ys.length w) (hk:K (.tuple #[.agg xs.toArray,.agg ys.toArray,v]) cs'):QOk C (bodyPost C.P fn (Ce C.w0 C.S K)) e fr cs:=
 nG he hs (λa w hf hi=>by
  have e1:=hf.at_ t _ h1;have e2:=hf.at_ t2 _ h2;have e3:=hf.at_ u _ h3;simp only[Array.getD_eq_getD_getElem?]at e1 e2 e3;simp[results,h0,e1,e2,e3,asAddr,gz hT hz hi hc,gz hT2 hz2 hi hc2]) hk
end
theorem Ctr.up{P:Program}{f:FuncId}{args:List Value}{w:World}{cin:List bJ}{K K':Value->List bJ->Prop}(h:Ctr P f args w cin K)(hk:∀v cs w',K v cs->Inv w (bK cin) cs w'->∃cs',K' v cs'/\Inv w (bK cin) cs' w'):Ctr P f args w cin K':=
 Calls.mono h λe w' hq=>by
  obtain⟨v,cout,rfl,h1,h2⟩:=hq;obtain⟨cs',h3,h4⟩:=hk v cout w' h1 h2;exact⟨v,cs',rfl,h3,h4⟩
abbrev EnX.WP(E:EnX)(X:CaX):EnX:=⟨E.bc,E.mr,E.room,X,E.RZ,E.last,E.WF,E.WD,E.begun⟩
abbrev EnX.WX(E:EnX)(RZ:List (Ky×RS)):EnX:=⟨E.bc,E.mr,E.room,E.X,RZ,E.last,E.WF,E.WD,E.begun⟩
def oY(Z:List BA)(RZ:List (Ky×RS)):List (Ky×RS):=RZ.filter λx=>Z.any λt=>t.key==x.1
theorem RB(RZ:List (Ky×RS)):(rnM RZ).map (·.1)=RZ.map (·.1):=by simp[rnM]
theorem oW.rk{E:EnX}(h:oW E):(E.RZ.map (·.1)).Nodup:=by have:=h.eg.Xt;rwa[show E.eng.runs=rnM E.RZ from rfl,RB]at this
theorem qg(E:Eng){Wa:Li}(h:Wa≠[]):np E Wa=PB E Wa:=by
 grind [np]
theorem TC(E:EnX)(Wa:Li)(X':CaX)(hX:X'.Z=E.X.Z.filter λx=> !Wa.contains (x.b.key.2/64)):
  (bif decide (0<((E.X.Z.filter λx=>Wa.contains (x.b.key.2/64)).length:Int))then((E.WP X').WX (oY X'.Z E.RZ)).eng else(E.WP X').eng)=PB E.eng Wa:=by
 have h2:=KT (λx:BA=>Wa.contains (x.b.key.2/64)) E.X.Z;have hl:(E.eng.l.filter λt=> !Wa.contains (t.key.2/64))=X'.Z.map BA.b:=by rw[hX];exact TB E.X.Z Wa
 have hlen:E.eng.l.length=E.X.Z.length:=ax _;unfold PB;rw[hl,hlen];dsimp only;rw[ax,hX];cases hd:decide (0<((E.X.Z.filter λx=>Wa.contains (x.b.key.2/64)).length:Int))with
 |true=>
  simp only[ac]at hd;rw[ai,aE Wq1,ai];rw[<-hX];show Eng.mk E.room (X'.Z.map BA.b) (rnM (oY X'.Z E.RZ)) E.last E.WF E.WD E.begun=Eng.mk E.room _ (yc _ (rnM E.RZ)) E.last E.WF E.WD E.begun;rw[Dx]
  rfl
 |false=>
  simp only[aa]at hd;rw[ah,aF Wq1,ah];rw[<-hX]
  rfl
theorem Mr(E:Eng)(Wa:Li):(np E Wa).last=E.last:=by unfold np;cases Wa.isEmpty<;>rfl
theorem oW.XA{E E':EnX}(h:oW E)(Wa:Li)(he:E'.eng=np E.eng Wa)(hc:rp E'.room E'.X)(hr:∀y,y∈E'.RZ->y∈E.RZ):oW E':=⟨hc,by rw[he];exact h.eg.turn Wa,λy hy=>h.rs y (hr y hy),by have e:=congrArg Eng.last he;rw[Mr]at e;rw[show E'.last=E.last from e];exact h.last⟩
variable{b:Li}{sz:Nat}{R:List (Int×Int)×Nat×Bool}
theorem Kl(h:(l++(cV b 0 sz).1,(cV b 0 sz).2)=R):(l,sz,false)=R:=by
 rw[<-h];show(l,sz,false)=(l++[],sz,false)
 grind
variable{k:Nat}
theorem Kk(h:(l++(cV b (k+1) sz).1,(cV b (k+1) sz).2)=R)(hd:eo (b.drop sz)=none):(l,sz,false)=R:=by
 grind [cV]
variable{z:Nat}{i:Int×Int}
theorem Nx(h:(l++(cV b (k+1) sz).1,(cV b (k+1) sz).2)=R)(hd:eo (b.drop sz)=some (i,z))(hp:dB i.1=false):(l,sz,false)=R:=by
 grind [cV]
theorem Nz(h:(l++(cV b (k+1) sz).1,(cV b (k+1) sz).2)=R)(hd:eo (b.drop sz)=some (i,z))(hp:dB i.1=true)(he:gN i.1=true):(l++[i],sz+z,true)=R:=by
 grind [cV]
theorem RX(h:(l++(cV b (k+1) sz).1,(cV b (k+1) sz).2)=R)(hd:eo (b.drop sz)=some (i,z))(hp:dB i.1=true)(he:gN i.1=false):(l++[i]++(cV b k (sz+z)).1,(cV b k (sz+z)).2)=R:=by
 grind [cV]
abbrev pgC(Ap:Oa)(cp:Nat)(Wa:Li):bJ:=sl .i64 3 Ap Wa.length cp Wa
abbrev caP(bc:Nat)(room:Int)(X:CaX)(Ap:Oa)(cp:Nat)(Wa:Li):List bJ:=[caR bc (.i room) (.slice X.Ac X.Z.length X.cc) (.map (some X.ml)) (.i X.fl),blC X,bP (X.Z.map baC),mpc X.ml (lkV X.LK),bP (lkC X.LK),pgC Ap cp Wa]
theorem PZ(bc:Nat)(room:Int)(X:CaX)(hX:rp room X)(Ap:Oa)(cp:Nat)(Wa:Li):CI prog 122 [.p bc,.slice Ap Wa.length cp] (caP bc room X Ap cp Wa) (λv cs=>v= .i ((X.Z.filter (eO Wa)).length:Int)/\∃X':CaX,cs=caP bc room X' Ap cp Wa/\rp room X'/\X'.Z=X.Z.filter λx=> !eO Wa x):=λw hi=>TW bc room X hX Ap cp Wa w hi
abbrev enP(be:Nat)(E:EnX)(Ap:Oa)(cp:Nat)(Wa:Li):List bJ:=[enR be E,caR E.bc (.i E.room) (.slice E.X.Ac E.X.Z.length E.X.cc) (.map (some E.X.ml)) (.i E.X.fl),blC E.X,bP (E.X.Z.map baC),mpc E.X.ml (lkV E.X.LK),bP (lkC E.X.LK),mpc E.mr (rnV E.RZ),bP (rnC E.RZ),pgC Ap cp Wa]
abbrev tdF(b1 be:Nat)(E:EnX):List bJ:=row b1 [.p be] 137::enR be E::caF E.bc E.room E.X
theorem Re(b1 be:Nat)(E:EnX)(hS:BaSm E.X.Z)(q:Ky)(x:RS):CI prog 147 ([]++[.agg (cD q).toArray,.agg x.cells.toArray]++[.p b1]) (tdF b1 be E) (λv cs=>v= .bool (!(E.X.Z.find? λt=>t.key==q).isSome)/\cs=tdF b1 be E):=λw hi=>by
 have HF:=Ja E.bc E.room E.X hS q;obtain⟨o,ho⟩:=Zgn ((E.X.Z.find? λt=>t.key==q));rw[ho]at HF|-;refine Zfn func147 ntmps147 hi ?_;cases o with
 |none=>
  refine Z_2 ?_;refine ZO λb3=>?_;refine ZO λb4=>?_
  refine Z_4 ?_;refine Wq351 ?_;refine LY [(5,[(6,0),(7,0),(8,0),(9,2),(10,2),(11,0)]),(9,[(5,2),(6,0),(7,0),(8,0),(10,2),(11,0)])] Zk (.cons ?_ (.cons ?_ .nil))
  .refine Ls ?_;rintro _ _ ⟨_,⟨rfl,rfl⟩,rfl⟩;refine m5 ?_;refine V0 ?_;refine ym ?_;rintro _ _ ⟨b6,rfl,rfl⟩;refine Uh ?_;exact Vc
  refine Jl ?_;rintro _ _ ⟨b6,rfl,rfl⟩;refine fT ?_;refine Ls ?_;rintro _ _ ⟨_,⟨rfl,rfl⟩,rfl⟩;refine m5 ?_;refine V0 ?_;refine Uh ?_;exact Vc
 |some y=>
  refine Z_2 ?_;refine ZO λb3=>?_;refine ZO λb4=>?_
  refine Z_4 ?_;refine Wq351 ?_;refine LY [(5,[(6,0),(7,0),(8,0),(9,2),(10,2),(11,0)]),(9,[(5,2),(6,0),(7,0),(8,0),(10,2),(11,0)])] Zk (.cons ?_ (.cons ?_ .nil))
  .refine Ls ?_;rintro _ _ ⟨_,⟨A9,c9,rfl,rfl⟩,rfl⟩;refine m5 ?_;refine V0 ?_;refine ym ?_;rintro _ _ ⟨b6,rfl,rfl⟩;refine fT ?_;exact uX rfl rfl (cZ Zrf rfl rfl (mY ⟨y.b,A9,c9⟩) Za o6) ZJ Vc
  refine Jl ?_;rintro _ _ ⟨b6,rfl,rfl⟩;refine fT ?_;refine Ls ?_;rintro _ _ ⟨_,⟨A9,c9,rfl,rfl⟩,rfl⟩;refine m5 ?_;refine V0 ?_;refine fT ?_;exact uX rfl rfl (cZ Zrf rfl rfl (mY ⟨y.b,A9,c9⟩) Za o6) ZJ Vc
theorem IP(be:Nat)(E:EnX)(hS:BaSm E.X.Z)(hn:(E.RZ.map (·.1)).Nodup)(hk:∀y,y∈E.RZ->ly y.1):CI prog 123 [.p be] (enF be E) (λ_ cs=>cs=enF be (E.WX (oY E.X.Z E.RZ))):=λw hi=>by
 have hkr:(E.RZ.filter λx=> !!(E.X.Z.find? λt=>t.key==x.1).isSome)=oY E.X.Z E.RZ:=by
  unfold oY;apply List.filter_congr;intro x _;rw[Bool.not_not,Uc]
 have hsub:(rnC (oY E.X.Z E.RZ)).Sublist (rnC E.RZ):=List.Sublist.map _ List.filter_sublist;have HM:=λb1 w hi=>Kw (bP (tdF b1 be E)) (λq=> !(E.X.Z.find? λt=>t.key==q).isSome) 147 [.p b1] (λ_ _=>rfl) E.RZ hn hk E.mr
  (λq x w _ hin=>Ctr.mono (Ctr.join hin λhin2=>Re b1 be E hS q x w hin2) (λv cs ⟨cs0,⟨h1,h2⟩,h3⟩=>⟨h1,by rw[h3,h2]⟩)) w hi
 rw[hkr]at HM;refine Zfn func123 ntmps123 hi ?_;refine Z_2 ?_;refine ZO λb1=>?_;refine Z_7 ?_;refine Zy (mi rfl) ?_;refine Vl (cs':=bP (tdF b1 be E)::[mpc E.mr (rnV E.RZ),bP (rnC E.RZ)]) (λw hi=>hi.XG Zi) (ZcL ([mpc E.mr (rnV E.RZ),bP (tdF b1 be E)]) (λw hi hin=>HM b1 w hin) ?_);rintro _ _ ⟨_,rfl,rfl⟩;refine Vl (cs':=tdF b1 be E++[mpc E.mr (rnV (oY E.X.Z E.RZ)),bP (rnC E.RZ)]) (λw hi=>(hi.perm (List.Perm.swap ..)).WQ) (Zn (mA (cin:=rnC E.RZ) (cin':=rnC (oY E.X.Z E.RZ)) Zd hsub ?_));refine bO (enF be (E.WX (oY E.X.Z E.RZ))) Zj (jE (cs':=enF be (E.WX (oY E.X.Z E.RZ))) (.inr rfl) (bh _) rfl ?_)
 rfl
theorem zr(be:Nat)(E:EnX)(hE:oW E)(Ap:Oa)(cp:Nat)(Wa:Li):CI prog 95 [.p be,.slice Ap Wa.length cp] (enP be E Ap cp Wa) (λ_ cs=>∃E',cs=enP be E' Ap cp Wa/\oW E'/\E'.eng=np E.eng Wa):=λw hi=>by
 have HD:=PZ E.bc E.room E.X hE.ca Ap cp Wa;refine Zfn func95 ntmps95 hi ?_;by_cases hp:Wa=[]
 .subst hp;refine Z_6 ?_;refine Wq22 ?_;refine io (bS rfl rfl) rfl rfl (io (bS rfl rfl) rfl rfl (io (bS rfl rfl) rfl rfl (Zy (Ju (q:=false) (Zv rfl) ⟨_,rfl,λ_ e=>absurd e bX⟩) ?_)));refine pN ?_;refine Zc (jE (cs':=enP be E Ap cp []) (.inr rfl) (bh _) rfl ?_);exact⟨E,rfl,hE,rfl⟩
 have hpl:0<Wa.length:=List.length_pos_iff.2 hp;have HX:=TC E Wa;obtain⟨n9,hn9⟩:∃n:Nat,(E.X.Z.filter λx=>Wa.contains (x.b.key.2/64)).length=n:=⟨_,rfl⟩;rw[hn9]at HX;rw[show(E.X.Z.filter (eO Wa)).length=n9 from hn9]at HD;refine Z_5 ?_;rw[show decide ((0:Int)<(Wa.length:Int))=true from aE Wq1];refine Z_6 ?_;refine fF (bS rfl rfl) rfl (dN (caP E.bc E.room E.X Ap cp Wa) rfl (λ_ _=>rfl) Zi (λw hi hin=>HD w hin)) rfl ?_;rintro _ _ ⟨_,⟨rfl,X',rfl,hX',hXZ⟩,rfl⟩;have hX2:=HX X' hXZ;refine Z_4 ?_;refine ZW ?_ ?_<;>intro hc0
 .have hd:decide (0<((n9:Nat):Int))=true:=hc0
  rw[hd,ai]at hX2;refine Z_2 ?_;refine ZcL (enF be (E.WP X')) (λw hi hin=>IP be (E.WP X') hX'.sm hE.rk (λy hy=>(hE.rs y hy).1) w hin) ?_;rintro _ _ ⟨_,rfl,rfl⟩;refine Zn (bO (enP be ((E.WP X').WX (oY X'.Z E.RZ)) Ap cp Wa) Zj ?_);exact jE (cs':=enP be ((E.WP X').WX (oY X'.Z E.RZ)) Ap cp Wa) (.inr rfl) (bh _) rfl ⟨_,rfl,hE.XA Wa (by rw[hX2,qg _ hp]) hX' (λy hy=>(List.mem_filter.1 hy).1),by rw[hX2,qg _ hp]⟩
 have hd:decide (0<((n9:Nat):Int))=false:=hc0
 rw[hd,ah]at hX2;refine Zc (bO (enP be (E.WP X') Ap cp Wa) Zj ?_);exact jE (cs':=enP be (E.WP X') Ap cp Wa) (.inr rfl) (bh _) rfl ⟨_,rfl,hE.XA Wa (by rw[hX2,qg _ hp]) hX' (λy hy=>hy),by rw[hX2,qg _ hp]⟩
theorem Nh{w:World}{A:Oa}{c:Nat}{xs:Li}(h:Rd w .u8 A xs.length c xs){k:Nat}(hk:k<=xs.length):Rd w .u8 (if c=k then A else A.map (·.add (k*1))) (xs.length - k) (c - k) (xs.drop k):=by
 have h5:=RdV.cut h (lo:=k) (hi:=xs.length) hk (aL _);have e:(ints .u8 xs).take xs.length=ints .u8 xs:=aM (by simp[ints]);rw[Nat.mul_one]at h5;simp only[Nat.mul_one]at h5|-;rw[e]at h5;have e2:(ints .u8 xs).drop k=ints .u8 (xs.drop k):=by simp[ints]
 rw[e2]at h5;exact h5
theorem SX(l:List (Int×Int))(op nn:Int):l.flatMap LJ++[.i op,.w nn]=(l++[(op,nn)]).flatMap LJ:=by simp
theorem two1(a b:Int):∀u∈([.i a,.w b]:List Value),u.oneCell'=true:=λu h=>by
 simp only[aJ,aY,or_false]at h;rcases h with rfl|rfl<;>rfl
theorem Po(A:Oa)(c:Nat)(b:Li)(hb:u8s b)(hbl:b.length<=1000)(w:World)(h:Rd w .u8 A b.length c b):
  Ctr prog 185 [.slice A b.length c] w [] (λv cs=>∃A1 c1,∃x:RS,x.r=⟨b.take (cV b 8 0).2.1,(cV b 8 0).2.2⟩/\v= .tuple #[.slice A1 (cV b 8 0).1.length c1,.agg x.cells.toArray]/\cs=[slv 128 2 A1 (cV b 8 0).1.length c1 ((cV b 8 0).1.flatMap LJ),rsC x]):=by
 obtain⟨R,hR⟩:=Zgn (cV b 8 0);rw[hR];have hR0:(([]:List (Int×Int))++(cV b 8 0).1,(cV b 8 0).2)=R:=hR;have hcap:=h.cap;refine Zfs func185 ntmps185 ?_;refine Z_3 ?_;refine ZN λb3=>?_
 refine Z_9 ?_;refine ZN λb5=>?_;refine Z_4 ?_;refine cY 128 2 (Z_3 ?_);refine cL (λq:(List (Int×Int)×Nat×Bool)×Option Addr×Nat=>[(0,.slice A b.length c),(3,.p b3),(4,.slice q.2.1 q.1.1.length q.2.2),(5,.p b5),(6,.i (q.1.2.1:Int))]) (λq=>[row b3 [.slice none 0 0,.bool false] 248,row b5 [.slice none 0 0,.bool q.1.2.2] 248,slv 128 2 q.2.1 q.1.1.length q.2.2 (q.1.1.flatMap LJ)]) (λq=>q.1=R/\q.1.2.1<=b.length) ?_ ?_
 .refine Zx (wLo (λq:(List (Int×Int)×Nat×Bool)×Option Addr×Nat=>[(0,.slice A b.length c),(3,.p b3),(4,.slice q.2.1 q.1.1.length q.2.2),(5,.p b5),(6,.i (q.1.2.1:Int))]) (λq=>[row b3 [.slice none 0 0,.bool false] 248,row b5 [.slice none 0 0,.bool q.1.2.2] 248,slv 128 2 q.2.1 q.1.1.length q.2.2 (q.1.1.flatMap LJ)]) (λq=>q.1.1.length<=8/\q.1.2.1<=b.length/\(q.1.2.2=true->q.1=R)/\(q.1.2.2=false->(q.1.1++(cV b (8 - q.1.1.length) q.1.2.1).1,(cV b (8 - q.1.1.length) q.1.2.1).2)=R)) (λq=>8 - q.1.1.length) (⟨([],0,false),none,0⟩) ⟨ap _,ap _,λe=>(by cases e),λ_=>hR0⟩ ?_);rintro⟨⟨l,sz,en⟩,A1,c1⟩ ⟨hl,hsz,hT,hF⟩;dsimp only at hl hsz hT hF|-;have hb5:(b.drop sz).length=b.length - sz:=bH;refine yk ?_ ?_<;>intro hc4
  .have hc4':(decide ((l.length:Int)<8)&& !en)=true:=hc4;simp only[au,ac,Bool.not_eq_true']at hc4';obtain⟨hl8,rfl⟩:=hc4';have hF:=hF rfl;obtain⟨k,hk⟩:∃k,8 - l.length=k+1:=⟨8 - l.length - 1,by omega⟩;rw[hk]at hF;have HD:=λA c w h=>Ec A c (b.drop sz) (λx hx=>hb x (bG hx)) w h
   rw[hb5]at HD;have hS:=Kk hF;have hN:=λi z=>Nx (z:=z) (i:=i) hF
   have hE:=λi z=>Nz (z:=z) (i:=i) hF
   have hO:=λi z=>RX (z:=z) (i:=i) hF
   have hRg:=λ(op nn:Int) (z:Nat)=>oe (b:=b.drop sz) (λx hx=>hb x (bG hx)) (op:=op) (nn:=nn) (z:=z)
   obtain⟨o,ho⟩:=Zgn (eo (b.drop sz));rw[ho]at HD hS hN hE hO hRg;refine Z_7 ?_;refine Zy (ry rfl Zrf (Zv rfl) (.inr ⟨_,_,rfl,(Zv rfl)⟩) (.inl ⟨rfl,rfl⟩) Wq1 Wq1) ?_;refine ZSn (λw hi=>HD _ _ w (Nh (h.Wh hi) hsz)) ?_;rintro _ _ ⟨⟨y,rfl,hy⟩,rfl⟩;refine Z_4 ?_;refine ZN λb7=>?_
   refine jj ?_;rcases o with _|⟨⟨op,nn⟩,z⟩
   .have hy0:(y==0)=false:=hy;have hq:=hS rfl;have hy1:(y !=0)=true:=(by rw[bne,hy0];rfl);refine Z_3 ?_;rw[hy1];refine ZA ?_;refine QD ?_;refine QD ?_;refine Zy (y_or (q:=false) (Zv rfl) ⟨_,rfl,λ_ e=>absurd e bX⟩) ?_;refine xw ?_;refine Z_5 ?_;refine qMP ((⟨(l,sz,false),A1,c1⟩:(List (Int×Int)×Nat×Bool)×Option Addr×Nat)) ⟨hq,hsz⟩
   have hy0:(y==0)=true:=hy;obtain rfl:y=0:=(by simpa using hy0);have hN:=hN (op,nn) z rfl;have hE:=hE (op,nn) z rfl;have hO:=hO (op,nn) z rfl;obtain⟨hnn,hz1,hz5,hzl⟩:=hRg op nn z rfl;dsimp only at hN hE hO;refine Z_6 ?_;refine dE (bQ rfl rfl) (.cons (cA rfl) .nil) (λ_ _=>rfl) (λhg w hi=>DN op w) rfl (Z_4 ?_);refine ZW ?_ ?_<;>intro hc6
   .have hp:dB op=false:=(by have h9:(false|| !dB op)=true:=hc6;simpa using h9);have hq:=hN hp;refine Z_5 ?_;refine qMP ((⟨(l,sz,false),A1,c1⟩:(List (Int×Int)×Nat×Bool)×Option Addr×Nat)) ⟨hq,hsz⟩
   have hp:dB op=true:=(by have h9:(false|| !dB op)=false:=hc6;simpa using h9);refine xv ?_;rintro _ _ ⟨b36,rfl,rfl⟩;refine fo (bV (n:=l.length) (e:=128) (sz:=2) (bytes:=16) rfl rfl Za rfl rfl (λw hi=>hi.rd (Zhc (slv 128 2 (sA b36) 1 1 [.i op,.w nn]))) (two1 op nn) Wq9 Wq1) rfl ?_;rintro _ _ ⟨A2,c2,rfl,rfl⟩;rw[SX,show l.length+1=(l++[(op,nn)]).length by simp];refine Z_7 ?_;refine Zy (eK (Zv rfl) (Zv rfl) (show _=((sz+z:Nat):Int)from by show IntKind.i64.wrap ((sz:Int)+(z:Int))=_;rw[bI];omega)) ?_;refine Z_6 ?_;refine ZSe (λw hi=>Bx op w) ?_;refine iJ ?_;refine Z_2 ?_;refine qMP ((⟨(l++[(op,nn)],sz+z,gN op),A2,c2⟩:(List (Int×Int)×Nat×Bool)×Option Addr×Nat)) ⟨⟨gW,(by dsimp only;omega),(λe=>by dsimp only at e|-;rw[e];exact hE hp e),(λe=>by dsimp only;rw[aj,show 8 - (l.length+[(op,nn)].length)=k by simp;omega];exact hO hp e)⟩,gW⟩
  have hq:(l,sz,en)=R:=(by cases en with|true=>exact hT rfl|false=>(have h8:¬((l.length:Int)<8):=(by have h9:(decide ((l.length:Int)<8)&& !false)=false:=hc4;rw[Bool.not_false,Bool.and_true]at h9;exact of_decide_eq_false h9);have hF:=hF rfl;rw[show 8 - l.length=0 by omega]at hF;exact Kl hF));refine Z_4 ?_;refine qMP ((⟨(l,sz,en),A1,c1⟩:(List (Int×Int)×Nat×Bool)×Option Addr×Nat)) ⟨hq,hsz⟩
 rintro⟨⟨l,sz,en⟩,A1,c1⟩ ⟨rfl,hsz⟩;dsimp only at hsz|-;have htl:(b.take sz).length=sz:=ri;refine Z_4 ?_;refine Zy (eC sz rfl Zrf (Zv rfl) (Zv rfl) pe Wq2) ?_;refine ZSn (λw hi=>P7 A sz c (b.take sz) w (by have h9:=iv (h.Wh hi) sz;rw[htl]at h9;exact h9) Wq1) ?_;rintro _ _ ⟨A9,c9,rfl,rfl⟩;refine iJ ?_;refine Z_3 ?_;refine bU (Zdn [3]) Zk (UF ?_);refine jU ?_;exact bO (row b3 [.slice A9 sz c9,.bool en] 248::[slv 128 2 A1 l.length c1 (l.flatMap LJ),sl .u8 5 A9 sz c9 (b.take sz)]) Zj (retTC (cs':=[slv 128 2 A1 l.length c1 (l.flatMap LJ),sl .u8 5 A9 sz c9 (b.take sz)]) (.inl rfl) (List.Sublist.cons _ (bh _)) rfl rfl rfl Zh Zrf Zrf ⟨A1,c1,⟨⟨b.take sz,en⟩,A9,c9⟩,rfl,by show _=Value.tuple #[_,.agg (RS.cells ⟨⟨b.take sz,en⟩,A9,c9⟩).toArray];unfold RS.cells;dsimp only;rw[htl],by unfold rsC;dsimp only;rw[htl]⟩)
theorem Ih:∀(l:List (Int×Int)) (pc:Int) (L:Lw) (q:Int×Lw) (n:Nat),nP pc L l=some q->L.sm n->q.2.sm (n+10*l.length)
 |[],pc,L,q,n,h,hs=>by obtain rfl:(pc,L)=q:=ay h;exact hs.mono cP
 |i::l,pc,L,q,n,h,hs=>by
  obtain⟨-, -, -,h4⟩:=lS h;exact(Ih l _ _ q (n+10) h4 (Vs hs _ _ _)).mono (by simp only[aO];omega)
theorem Dv{pc:Int}(hu:∀i,i∈l->u32 i.2){p:Pg}(hlow:fq pc l=some p):uo p/\p.count=l.length/\1<=l.length/\l.length<=8/\(p.Ws=true->fZ (gl p (dW p))/\(gl p (dW p)).length<=100000):=by
 unfold fq at hlow;cases hlen:decide ((l.length:Int)<1)||decide (8<(l.length:Int))with
 |true=>rw[hlen]at hlow;cases hlow
 |false=>
 rw[hlen,ah]at hlow;simp only[aS,aa]at hlen;have hl0:l≠[]:=λe=>by rw[e]at hlen;simp at hlen
 cases hgo:nP pc Lw.init l with
 |none=>rw[hgo]at hlow;cases hlow
 |some q=>
 rw[hgo]at hlow;obtain⟨nx,w⟩:=q;obtain rfl:=ay hlow;obtain⟨lk, -,hnx⟩:=uJ l pc Lw.init _ hu hgo wc;have hnx:=hnx hl0;have hsm:=Ih l pc Lw.init _ 0 hgo MY;dsimp only at lk hnx hsm;obtain⟨i,hi⟩:=Zgn (l.getLastD (0,0));rw[hi];obtain⟨p0,hp0⟩:=Zgn (AN nx w i l.length);rw[hp0];have f1:p0.code=w.code:=by rw[<-hp0];rfl
 have f2:p0.Wo=w.d.l:=by rw[<-hp0];rfl
 have f3:p0.Wp=w.r.l:=by rw[<-hp0];rfl
 have g5:(cG p0).next=bif i.1==32||i.1==38 then IntKind.u32.wrap (nx+ma i.2)else nx:=by rw[<-hp0];rfl
 have g6:(cG p0).taken=bif i.1==32||i.1==38 then 0 else bif w.branch !=0 then IntKind.u32.wrap (nx+ma i.2)else 0:=by rw[<-hp0];rfl
 have g8:(cG p0).count=l.length:=by rw[<-hp0];rfl
 have hlen4:=we l pc Lw.init _ hgo;have hlen5:w.code.length<=32:=by have:Lw.init.code.length=0:=rfl;dsimp only at hlen4;omega
 have hlen6:(cG p0).code.length<=64:=by
  exact Wq289
 have himc:ImC (cG p0).code:=DW (gt p0) p0.code 0 _ [] (λ_ h=>by cases h) (by rw[f1];exact lk.imm);have hn32:u32 (cG p0).next:=by rw[g5];cases i.1==32||i.1==38 with|true=>exact yB _|false=>exact hnx
 have ht32:u32 (cG p0).taken:=by
  have z:u32 0:=⟨by decide,by decide⟩;rw[g6];cases i.1==32||i.1==38 with
  |true=>exact z
  |false=>cases w.branch !=0 with
   |true=>exact yB _
   |false=>exact z
 have hd:=hsm.dl;have hr:=hsm.rl;have fit:uo (cG p0):=⟨rfl,hlen6,by show(dY _ p0.Wo).length<=100;unfold dY;rw[ax,f2];omega,by show(dY _ p0.Wp).length<=100;unfold dY;rw[ax,f3];omega,himc⟩;refine⟨fit,g8,by omega,by omega,λhright=>?_⟩;obtain⟨pok, -, -, -⟩:=vN hright himc hlen6 hn32 ht32;have hplan:QG (dW (cG p0)) (gg (cG p0)) (cG p0).code.length:=Nw (λi hi=>Ok (cG p0) hi) hlen6;refine⟨KO pok rfl hplan.has,?_⟩;have:=BS (cG p0) (dW (cG p0)) (IntKind.u32.wrap ((fG (cG p0) (dW (cG p0)) 0).length:Nat)) hlen6 fit.Wo fit.Wp;unfold gl;rw[aj,aO,List.length_nil];omega
theorem Qe(p:Pg)(Q:PAd)(hf:uo p)(hr:p.Ws=false)(w:World)(h:Jo p Q w):
  CW prog 212 [pgv p Q,.i 7] w (.tuple #[.agg #[.slice none 0 0,.slice none 0 0,.i 0],.i 1]):=by
 have hR:=wy p Q hf;rw[hr]at hR;refine Zfs func212 ntmps212 ?_;refine Z_2 ?_;refine ZO λb2=>?_;refine ZN λb4=>?_
 refine Z_7 ?_;refine ZSe (λw hi=>hR w (h.Wh hi)) ?_;refine Z_2 ?_;refine QD ?_;refine io (bQ rfl rfl) rfl rfl (Zy (y_or (q:=false) (Zv rfl) ⟨_,rfl,λ_ e=>by simp at e⟩) ?_);refine xw ?_;refine Z_2 ?_;refine Zy (iK (vs:=[Value.slice none 0 0,.slice none 0 0,.i 0]) Zk (.inl ⟨_,rfl,rfl⟩)) ?_;refine mR ?_;exact Wq426
theorem Px(p:Pg)(Q:PAd)(hf:uo p)(hr:p.Ws=false)(w:World)(h:Jo p Q w):
  CW prog 187 [pgv p Q] w (.tuple #[.slice none 0 0,.i 12]):=by
 refine Zfs func187 ntmps187 ?_;refine Z_2 ?_;refine ZO λb1=>?_;refine Z_7 ?_;refine ZSe (λw hi=>Qe p Q hf hr w (h.Wh hi)) ?_;refine Z_3 ?_;refine ZN λb4=>?_
 refine sF ?_;refine pX ?_;refine Z_8 ?_;exact lc
end
end Go.Ink
