/- Lemmas. -/
import Derived.Test.YtepfimeihngjoaaGreatDoorXbb
import Derived.Test.YtepfimeihngjoaaGreatDoorXbc
set_option linter.all false
set_option maxRecDepth 100000
set_option maxHeartbeats 4000000
namespace Go.Ink
open List renaming length→J, replicate→R9
open IntKind renaming wrap→V9
open Go.RowKit Go.Proofs.Tryz
variable{i:HI}
section
attribute [local irreducible] Ve bN
variable{C:List HI}
theorem hget_ok(bm bw:Nat)(Ac:Oa)(n cc:Nat)(R W:Li)(pc:Int)(hR:J R=16)(hW:J W=256)(hwd:We W)(s:St)(Ad Ar:Oa)(cd cr:Nat)(w:World)(h:(ge bm bw Ac n cc R pc).ok w)(h2:(Wb bw W).ok w)(h3:iL w s Ad Ar cd cr):
  UW prog 193 [.p bm,sv s Ad cd Ar cr] w [] (λx cs=>∃X:dz,x= .tuple #[sv (bif nq W then oR W s else s) X.Ad X.cd X.Ar X.cr,.bool (nq W)]/\cs=[Vf (bif nq W then oR W s else s) X.Ad X.cd,Vj (bif nq W then oR W s else s) X.Ar X.cr]):=by
 have HW:=FO bm bw Ac n cc R W pc hR hW;obtain⟨x2,e2,y2⟩:=nj hwd 2;obtain⟨x3,e3,y3⟩:=nj hwd 3;have y36:=iY hwd 36;obtain⟨x36,e36⟩:=Do (W.getD 36 0);have hgs:oR W s=⟨W.getD 0 0,ga W 4 x2,ga W 20 x3,W.getD 1 0,s.SQ,s.S1,s.ie,s.root,s.vec,s.epc,s.SU,s.addr,s.S6,s.eie,V9 .u64 (s.count+x36),s.halted⟩:=by unfold oR;rw[e2,e3,e36,aV,aV]
 have htk:nq W= !((decide (16<(x2:Int))||decide (16<(x3:Int)))||decide (15<W.getD 1 0)):=by unfold nq;rw[e2,e3]
 rw[e36]at y36;have W2:=HW 2 ne;have W3:=HW 3 ne;have W36:=HW 36 ne;rw[e2]at W2;rw[e3]at W3;rw[e36]at W36;obtain⟨b,hb⟩:=Do (nq W);rw[hb]at htk|-;refine UV func193 ntmps193 ?_;refine An ?_;refine ZO λb3=>?_;refine ZN λb4=>?_
 refine UU ?_;refine Vl (λw hi=>pL s Ad Ar cd cr w (h3.Tb hi)) ?_;rintro _ _ ⟨A1,c1,A2,c2,rfl,rfl⟩;refine ZM ?_;refine U8 ?_;refine dC (bR I I) (.cons (cO I) .nil) (λ_ _=>I) (λhg w hi=>BU bm bw Ac n cc R pc hR w (bJ.old h hi)) I (UK ?_);refine dC (bR I I) (.cons (cO I) (.cons py .nil)) (λ_ _=>I) (λhg w hi=>W2 w (bJ.old h hi) (bJ.old h2 hi)) I (UK ?_);refine dC (bR I I) (.cons (cO I) (.cons py .nil)) (λ_ _=>I) (λhg w hi=>W3 w (bJ.old h hi) (bJ.old h2 hi)) I (UK ?_);refine dC (bR I I) (.cons (cO I) (.cons (Zv I) .nil)) (λ_ _=>I) (λhg w hi=>HW 1 ne w (bJ.old h hi) (bJ.old h2 hi)) I (WK ?_ ?_)<;>intro hc2
 .have hc:((decide (16<(x2:Int))||decide (16<(x3:Int)))||decide (15<W.getD 1 0))=true:=hc2;rw[hc]at htk;obtain rfl:b=false:=htk;refine UN ?_;exact Wq444
 have hc:((decide (16<(x2:Int))||decide (16<(x3:Int)))||decide (15<W.getD 1 0))=false:=hc2;rw[hc]at htk;obtain rfl:b=true:=htk;simp only[aZ,aa]at hc;have HT2:=BW bm bw Ac n cc R W pc hR hW 4 x2 ne O;have HT3:=BW bm bw Ac n cc R W pc hR hW 20 x3 ne O;rw[ah,hgs];refine UQ ?_;refine UZ (λw hi=>HW 0 ne w (bJ.old h hi) (bJ.old h2 hi)) ?_;refine ZA ?_;refine UZ (λw hi=>HW 1 ne w (bJ.old h hi) (bJ.old h2 hi)) ?_;refine lx ?_;refine lx ?_;refine UU ?_;refine UZ (λw hi=>W2 w (bJ.old h hi) (bJ.old h2 hi)) ?_;refine Vl (λw hi=>HT2 w (bJ.old h hi) (bJ.old h2 hi)) ?_;rintro _ _ ⟨A3,c3,rfl,rfl⟩;refine An ?_;refine UZ (λw hi=>W3 w (bJ.old h hi) (bJ.old h2 hi)) ?_;refine Vl (λw hi=>HT3 w (bJ.old h hi) (bJ.old h2 hi)) ?_;rintro _ _ ⟨A4,c4,rfl,rfl⟩;refine lx ?_;refine lx ?_;refine UN ?_;refine bQ (Vg [7]) Zk (UE 0 14 ?_);refine ZG 1 ?_;refine ZE 2 ?_;refine cP 3 Zk (V1 (λw hi=>W36 w (bJ.old h hi) (bJ.old h2 hi)) ?_);refine UR ?_;refine UY 4 I (cz I I (Zv I) ψ) ?_;refine UY 5 I (dy py py I) ?_;refine UE 6 14 ?_;refine iK ?_;refine iT ?_;refine UK ?_;refine ij ?_;exact sW (cs':=[sl .u32 32 A3 (J (ga W 4 x2)) c3 (ga W 4 x2),sl .u32 32 A4 (J (ga W 20 x3)) c4 (ga W 20 x3)]) (.inl I) Zu I I I Zh ir ir ⟨⟨A3,c3,A4,c4⟩,I,I⟩
theorem erun_ok(A:Oa)(c:Nat)(C:List HI)(hC:gt C)(hl:J C<=100000)(s:St)(hw:s.wf)(hs:s.right=true)(Ad Ar:Oa)(cd cr:Nat)(w:World)(h:Rd w .u8 A (J (cH C)) c (cH C))(h3:iL w s Ad Ar cd cr):
  UW prog 146 [.slice A (J (cH C)) c,sv s Ad cd Ar cr] w [] (λx cs=>∃X:dz,x= .tuple #[sv (iE C s).1 X.Ad X.cd X.Ar X.cr,.i (iE C s).2]/\cs=[Vf (iE C s).1 X.Ad X.cd,Vj (iE C s).1 X.Ar X.cr]):=by
 have h0:=hm0_ok hw hs;have hm9:=hrun_ok hC 4096 _ h0;have him:=FQ hC 4096 ⟨R9 16 0,TB s,0⟩;have hrc:iE C s=Fg s (ka C 4096 ⟨R9 16 0,TB s,0⟩):=rfl;obtain⟨W0,hW0⟩:=Do (TB s);have HP:=λbm bw w hi h=>hput_ok bm bw s hs hw Ad Ar cd cr w hi h
 obtain⟨R0,hR0⟩:=Do (R9 16 (0:Int));obtain⟨Z0,hZ0⟩:=Do (R9 256 (0:Int));have HN:=hnew_ok;rw[hW0,hR0]at h0 hm9 hrc him;rw[hR0,hZ0]at HN HP;rw[hW0]at HP;have HR:=λbm bw Ac cc w hi=>P3 bm bw Ac cc C hC 4096 ne ⟨R0,W0,0⟩ h0 w hi
 obtain⟨⟨⟨how,im⟩,m9⟩,hq⟩:=Do (ka C 4096 ⟨R0,W0,0⟩);rw[hq]at HR hrc hm9 him;dsimp only at HR hrc hm9 him;have hre:Fg s ((how,im),m9)=bif how !=1 then(s,0)else bif nq m9.words then(oR m9.words s,im)else(s,0):=rfl
 rw[hrc,hre];clear hrc hq hre;have hR16:J R0=16:=h0.rl;have HG:=λbm bw Ac cc w h1 h2 h3=>hget_ok bm bw Ac (J C) cc m9.Tu m9.words m9.pc hm9.rl hm9.wl hm9.w s Ad Ar cd cr w h1 h2 h3
 obtain⟨tk,htk⟩:=Do (nq m9.words);obtain⟨s9,hs9⟩:=Do (oR m9.words s);rw[htk,hs9]at HG|-;refine UV func146 ntmps146 ?_;refine An ?_;refine ZO λb3=>?_;refine ZN λb4=>?_
 refine UQ ?_;refine Vl (λw hi=>HN w) ?_;rintro _ _ ⟨bm,bw,rfl,rfl⟩;refine kF ?_;refine jl (bR I I) Zh ir ir (Zv I) I (gm (bR I I) I (dh ([ge bm bw none 0 0 R0 0,Wb bw Z0]) I (λ_ _=>I) Zi (λw hi hin=>HP bm bw w hin (λw' hk=>⟨U5.Th h3.d hi Zi hk,U5.Th h3.r hi Zi hk,h3.hd,h3.hr⟩))) I ?_);refine Vz ?_;refine UQ ?_;refine gm (bR I I) I (dh ([ge bm bw none 0 0 R0 0,Wb bw W0]) I (λ_ _=>I) Zi (λw hi hin=>P4 bm bw R0 W0 hR16 A c C hC hl w hin (λw' hk=>U5.Th h hi Zi hk))) I ?_;rintro _ _ ⟨_,⟨Ac,cc,rfl,rfl⟩,rfl⟩;refine UK ?_;refine j6 ?_;refine dH (hmF bm bw Ac cc C ⟨R0,W0,0⟩) (λw hi hin=>HR bm bw Ac cc w hin) ?_;rintro _ _ ⟨n,rfl,rfl⟩;refine oO ?_;refine ZW ?_ ?_<;>intro hc5
 .rw[hc5,ah];refine UN ?_;refine Vl (λw hi=>pL s Ad Ar cd cr w (h3.Tb hi)) ?_;rintro _ _ ⟨A1,c1,A2,c2,rfl,rfl⟩;exact Wq444
 rw[hc5,ac];refine UU ?_;refine Vl (λw hi=>HG bm bw Ac cc w (hi.get Zh) (hi.get Zh) (h3.Tb hi)) ?_;rintro _ _ ⟨X,rfl,rfl⟩;refine UN ?_;refine ZN λb11=>?_
 refine qN ?_;refine ZW ?_ ?_<;>intro hc8
 .obtain rfl:tk=false:=bZ;refine UN ?_;refine rY ?_;exact sW (cs':=[Vf s X.Ad X.cd,Vj s X.Ar X.cr]) (.inl I) Zu I I I Zh ir ir ⟨X,I,I⟩
 obtain rfl:tk=true:=bZ;refine UU ?_;refine wo ?_;refine ij ?_;exact sW (cs':=[Vf s9 X.Ad X.cd,Vj s9 X.Ar X.cr]) (.inl I) Zu I I I Zh ir ir ⟨X,I,I⟩
end
end Go.Ink
namespace Go.Ink
open List renaming length→J, replicate→R9
open IntKind renaming wrap→V9
open Go.RowKit Go.Proofs.Tryz
section
attribute [local irreducible] Ve bN
theorem OC(p:Pg)(Q:Xu)(hraw:Raw p)(hv:p.values=J p.code)(hm:J p.code<=500)(hoD:J p.S9<=500)(hoR:J p.Ta<=500)(w:World)(h:GC p Q w):
  UW prog 230 [XP p Q] w [] (λv9 cs=>∃Q',v9=XP (cG p) Q'/\cs=[slv 366 5 Q'.Ac (cG p).code.length Q'.cc ((cG p).code.flatMap II.cells),sl .i64 3 Q'.Ad (cG p).S9.length Q'.cd (cG p).S9,sl .i64 3 Q'.Ar (cG p).Ta.length Q'.cr (cG p).Ta]):=by
 have hrc:=h.code;obtain⟨N,hN⟩:=Do (J p.code);have hU0:gI p=ke p.code N (i5 (i5 (i5 (R9 N false) p.S9) p.Ta) [p.flags,p.target]):=by unfold gI Ie;rw[hN]
 have hiD:∀n,n∈p.S9->n≠ -1->0<=n/\n.toNat<N:=λn hn _=>by have:=hraw.S9 n hn;unfold II.in_ at this;omega
 have hiR:∀n,n∈p.Ta->n≠ -1->0<=n/\n.toNat<N:=λn hn _=>by have:=hraw.Ta n hn;unfold II.in_ at this;omega
 have hiF:∀n,n∈[p.flags,p.target]->n≠ -1->0<=n/\n.toNat<N:=λn hn h1=>by
  simp only[aI,aY,or_false]at hn;rcases hn with rfl|rfl
  .rcases hraw.flags with h2|h2
   .omega
   unfold II.in_ at h2;omega
  rcases hraw.target with h2|h2
  .omega
  unfold II.in_ at h2;omega
 have hvN:p.values=N:=by rw[hv,hN]
 have hoD2:∀n,n∈p.S9->0<=n/\n.toNat<N:=λn hn=>by have:=hraw.S9 n hn;unfold II.in_ at this;omega
 have hoR2:∀n,n∈p.Ta->0<=n/\n.toNat<N:=λn hn=>by have:=hraw.Ta n hn;unfold II.in_ at this;omega
 have hfl:p.flags≠ -1->∃n:Nat,p.flags=n/\n<N:=λh1=>by
  rcases hraw.flags with h2|h2
  .omega
  unfold II.in_ at h2;grind
 have htg:p.target≠ -1->∃n:Nat,p.target=n/\n<N:=λh1=>by
  rcases hraw.target with h2|h2
  .omega
  unfold II.in_ at h2;grind
 obtain⟨Z,hZ⟩:=Do (R9 N false);have hZl:J Z=N:=by rw[<-hZ];simp
 have hZv:(R9 N (.bool false:Value))=Z.map Value.bool:=by rw[<-hZ];simp
 rw[hZ]at hU0;obtain⟨P0,hP0⟩:=Do (R9 N (0:Int));have hP0l:J P0=N:=by rw[<-hP0];simp
 have hPv:(R9 N (.i 0:Value))=ints .i64 P0:=by rw[<-hP0];simp[ints]
 refine UV func230 ntmps230 ?_;refine An ?_;refine ZO λb1=>?_;refine ZN λb2=>?_
 refine UU ?_;refine gS (j9 (bytes:=1) (n:=N) I I I I I hvN hvN O gD) I ?_;rintro _ _ ⟨b14,rfl,rfl⟩;rw[hZv];refine ZN λb3=>?_
 refine ZL ?_;refine UK ?_;refine Zy (mz I) ?_;refine Va ?_;refine gS (iZ (Yo b3 (sA b14) N N Z) I I (λ_ _=>I) Zi (λw hi hin=>qe b3 (sA b14) N N Z hZl Q.Ad Q.cd p.S9 O bZ w hin (λw' hk=>U5.Th h.S9 hi Zi hk))) I ?_;rintro _ _ ⟨_,rfl,rfl⟩;obtain⟨U1,hU1⟩:=Do (i5 Z p.S9);have hl1:J U1=N:=(by rw[<-hU1,gc,hZl]);rw[hU1]at hU0|-;refine US ?_;refine gS (iZ (Yo b3 (sA b14) N N U1) I I (λ_ _=>I) Zi (λw hi hin=>qe b3 (sA b14) N N U1 hl1 Q.Ar Q.cr p.Ta O bZ w hin (λw' hk=>U5.Th h.Ta hi Zi hk))) I ?_;rintro _ _ ⟨_,rfl,rfl⟩;obtain⟨U2,hU2⟩:=Do (i5 U1 p.Ta);have hl2:J U2=N:=(by rw[<-hU2,gc,hl1]);rw[hU2]at hU0|-;refine U8 ?_;refine jQ ?_;rintro _ _ ⟨b29,rfl,rfl⟩;refine gS (iZ (Yo b3 (sA b14) N N U2) I I (λ_ _=>I) Zi (λw hi hin=>qe b3 (sA b14) N N U2 hl2 (sA b29) 2 [p.flags,p.target] cJ bZ w hin (λw' hk=>cY (hi.TM Zi (UJ (slv 3 1 (sA b29) 2 2 (ints .i64 [p.flags,p.target]))) hk)))) I ?_;rintro _ _ ⟨_,rfl,rfl⟩;obtain⟨U3,hU3⟩:=Do (i5 U2 [p.flags,p.target]);have hl3:J U3=N:=(by rw[<-hU3,gc,hl2]);rw[hU3]at hU0|-;refine US ?_;refine Zy (ez (Zv I) (Zv I) (show _=(N:Int) - 1 from by rw[hvN,bI];omega)) ?_;refine UK ?_;refine Vs (λq:Nat×List Bool=>[(1,.p b1),(2,.p b2),(3,.p b3),(4,.func (.func 293) #[] #[.p b3]),(5,.i ((q.1:Int) - 1))]) (λq=>[row b3 [.slice (sA b14) N N] 59,slv 4 1 (sA b14) N N (q.2.map Value.bool),row b1 (jZ p Q) 308,pg0 b2]) (λq=>q.1<=N/\J q.2=N/\ke p.code q.1 q.2=gI p) (λq=>q.1) (⟨N,U3⟩) bZ ?_;rintro⟨k,V⟩ ⟨hk,hV,hB⟩;dsimp only at hk hV hB|-;refine VJ ?_ ?_<;>intro hc7
 .simp only[ai]at hc7;obtain⟨j,rfl⟩:∃j,k=j+1:=⟨k - 1,by omega⟩;have hjN:j<J p.code:=O;have hj5:((j+1:Nat):Int) - 1=(j:Int):=O;rw[hj5];obtain⟨ad,had⟩:=hrc.some_ O;have hrc2:=hrc;rw[had]at hrc2;obtain⟨x,hx⟩:∃x,p.code[j]? =some x:=⟨_,ak hjN⟩;have hgx:p.code.getD j II.zero=x:=bZ;have hB:ke p.code j (bif V.getD j false&&lM (p.code.getD j II.zero)then i5 V [(p.code.getD j II.zero).a,(p.code.getD j II.zero).b]else V)=gI p:=hB;rw[hgx]at hB;obtain⟨op,dst,xa,xb,imm⟩:=x;dsimp only at hB;refine U8 ?_;refine Zy (iy (j:=j) had I ir py py ir (λ_=>hjN)) ?_;refine dZ (bX (vs:=[.i op,.i dst,.i xa,.i xb,.w imm]) ir ir py) (fB hrc2 (λi v hi=>fw (f:=II.cells) ir (i:=i) hx hi)) I ?_;refine ZN λb6=>?_
  refine jb ?_;refine Zy (cn (bb:=b14) (o:=0) (n:=N) (c:=N) (j:=j) (sz:=1) (r:=j) I ir (Zv I) (Zv I) ir UL O) ?_;refine dZ (bO ir (Zv I)) (da Zh (AF O)) I (fR ?_);refine ZW ?_ ?_<;>intro hc10
  .have hc:(V.getD j false&&lM ⟨op,dst,xa,xb,imm⟩)=true:=hc10;rw[hc,ah]at hB;obtain⟨-,hab⟩:=Bool.and_eq_true_iff.1 hc;have hxi:=hraw.wf j _ hx hab;dsimp only at hxi;refine UU ?_;refine jQ ?_;rintro _ _ ⟨b62,rfl,rfl⟩;refine gS (iZ (Yo b3 (sA b14) N N V) I I (λ_ _=>I) Zi (λw hi hin=>qe b3 (sA b14) N N V hV (sA b62) 2 [xa,xb] cJ (λn hn _=>by simp only[aI,aY,or_false]at hn;omega) w hin (λw' hk=>cY (hi.TM Zi (UJ (slv 3 1 (sA b62) 2 2 (ints .i64 [xa,xb]))) hk)))) I ?_;rintro _ _ ⟨_,rfl,rfl⟩;refine UQ ?_;refine sb ?_;refine An ?_;refine Vd ((⟨j,i5 V [xa,xb]⟩:Nat×List Bool)) ⟨⟨by omega,by dsimp only;rw[gc,hV],hB⟩,by omega⟩
  have hc:(V.getD j false&&lM ⟨op,dst,xa,xb,imm⟩)=false:=hc10;rw[hc,ac]at hB;refine UQ ?_;refine sb ?_;refine An ?_;refine Vd ((⟨j,V⟩:Nat×List Bool)) bZ
 simp only[aa]at hc7;obtain rfl:k=0:=by omega
 have hB:V=gI p:=hB;subst hB;refine U8 ?_;refine gS (j9 (bytes:=8) (n:=N) I I I I I hvN hvN O gD) I ?_;rintro _ _ ⟨b66,rfl,rfl⟩;rw[hPv];refine ZN λb7=>?_
 refine ZL ?_;refine eL ?_;refine dB 366 5 (US ?_);refine Vs (λq:Nat×List Int×List II×Option Addr×Nat=>[(1,.p b1),(2,.p b2),(3,.p b3),(7,.p b7),(8,.slice q.2.2.2.1 (J q.2.2.1) q.2.2.2.2),(68,.slice Q.Ac (J p.code) Q.cc),(69,.i (J p.code)),(70,.i (q.1:Int))]) (λq=>[row b3 [.slice (sA b14) N N] 59,slv 4 1 (sA b14) N N ((gI p).map Value.bool),row b1 (jZ p Q) 308,pg0 b2,sl .i64 3 (sA b66) N N q.2.1,row b7 [.slice (sA b66) N N] 23,slv 366 5 q.2.2.2.1 (J q.2.2.1) q.2.2.2.2 (q.2.2.1.flatMap II.cells)]) (λq=>q.1<=N/\J q.2.1=N/\J q.2.2.1<=q.1/\nQ (gI p) (p.code.drop q.1) q.1 q.2.1 q.2.2.1=fe p) (λq=>N - q.1) (⟨0,P0,[],none,0⟩) ⟨ax _,hP0l,ax _,by unfold fe;grind⟩ ?_;rintro⟨i,pl,c,A,cc⟩ ⟨hi9,hpl,hcl,hW⟩;dsimp only at hi9 hpl hcl hW|-;refine UH ?_ ?_<;>intro hc15
 .simp only[ai]at hc15;have hiN:i<J p.code:=O;obtain⟨ad,had⟩:=hrc.some_ O;have hrc2:=hrc;rw[had]at hrc2;obtain⟨x,hx⟩:∃x,p.code[i]? =some x:=⟨_,ak hiN⟩;rw[jL hx]at hW;have hW:(bif(gI p).getD i false then nQ (gI p) (p.code.drop (i+1)) (i+1) (pl.set i (J c:Int)) (c++[pw x (pl.set i (J c:Int)) (J c)])else nQ (gI p) (p.code.drop (i+1)) (i+1) pl c)=fe p:=hW;have hwf:=hraw.wf i x hx;obtain⟨op,dst,xa,xb,imm⟩:=x;dsimp only at hwf;refine US ?_;refine Zy (iy (j:=i) had I ir py py ir (λ_=>hiN)) ?_;refine Φ ?_;refine ZN λb10=>?_
  refine ZA ?_;refine ZM ?_;refine US ?_;refine Zy (cn (bb:=b14) (o:=0) (n:=N) (c:=N) (j:=i) (sz:=1) (r:=i) I ir (Zv I) (Zv I) ir UL O) ?_;refine dZ (bO ir (Zv I)) (da Zh (AF O)) I (VP ?_ ?_)<;>intro hc17
  .have hu:(gI p).getD i false=false:=bZ;rw[hu,ac]at hW;refine j5 ?_;refine Vd ((⟨i+1,pl,c,A,cc⟩:Nat×List Int×List II×Option Addr×Nat)) bZ
  have hu:(gI p).getD i false=true:=bZ;rw[hu,ah]at hW;obtain⟨pl2,hpl2⟩:=Do (pl.set i (J c:Int));have hpl2l:J pl2=N:=bZ;rw[hpl2]at hW;refine Va ?_;refine Zy (cn (bb:=b66) (o:=0) (n:=N) (c:=N) (j:=i) (sz:=1) (r:=i) I ir (Zv I) (Zv I) ir UL O) ?_;refine z4 ?_;refine UR ?_;rw[nN,hpl2];refine An ?_;refine cj (λq:Int×Int=>[(1,.p b1),(2,.p b2),(3,.p b3),(7,.p b7),(8,.slice A (J c) cc),(10,.p b10),(68,.slice Q.Ac (J p.code) Q.cc),(69,.i (J p.code)),(70,.i (i:Int))]) (λq=>[row b3 [.slice (sA b14) N N] 59,slv 4 1 (sA b14) N N ((gI p).map Value.bool),row b1 (jZ p Q) 308,pg0 b2,row b7 [.slice (sA b66) N N] 23,sl .i64 3 (sA b66) N N pl2,slv 366 5 A (J c) cc (c.flatMap II.cells),row b10 [.i op,.i dst,.i q.1,.i q.2,.w imm] 366]) (λq=>pw ⟨op,dst,xa,xb,imm⟩ pl2 (J c)=⟨op,J c,q.1,q.2,imm⟩) ?_ ?_
  .refine fR ?_;refine ZW ?_ ?_<;>intro hc19
   .have hab:lM ⟨op,dst,xa,xb,imm⟩=true:=hc19;obtain⟨⟨a1,a2⟩,a3,a4⟩:=hwf hab;obtain⟨na,rfl⟩:∃n:Nat,xa=n:=aj a1;obtain⟨nb,rfl⟩:∃n:Nat,xb=n:=aj a3;have hsw:pw ⟨op,dst,na,nb,imm⟩ pl2 (J c)=⟨op,J c,pl2.getD na 0,pl2.getD nb 0,imm⟩:=(by unfold pw;rw[hab];rfl);refine bQ (Vg [11,13]) Zk (ZG 0 ?_);refine UE 1 2 ?_;refine ZG 2 ?_;refine UY 3 I (cn (bb:=b66) (o:=0) (n:=N) (c:=N) (j:=na) (sz:=1) (r:=na) I ir (Zv I) (Zv I) ir UL O) ?_;refine Vn 4 I (bO ir (Zv I)) (da Zh (jK O)) ?_;refine UE 6 3 ?_;refine ZG 7 ?_;refine UE 10 2 ?_;refine pS 5 11 Zk ?_ ?_
    .refine m4 ?_;refine UY 8 I (cn (bb:=b66) (o:=0) (n:=N) (c:=N) (j:=nb) (sz:=1) (r:=nb) I ir (Zv I) (Zv I) ir UL O) ?_;refine pS 9 11 Zk ?_ ?_
     .refine un I (bO ir (Zv I)) (da Zh (jK O)) I (cP 11 Zk (ZQ ?_));refine UE 12 3 ?_;refine cP 13 Zk (iT ?_);exact YM
     refine ZQ ?_;refine Wq516 ?_;exact YM
    refine ZQ ?_;refine ZG 5 ?_;refine UY 8 I (cn (bb:=b66) (o:=0) (n:=N) (c:=N) (j:=nb) (sz:=1) (r:=nb) I ir (Zv I) (Zv I) ir UL O) ?_;refine Wq516 ?_;exact YM
   have hab:lM ⟨op,dst,xa,xb,imm⟩=false:=hc19;have hsw:pw ⟨op,dst,xa,xb,imm⟩ pl2 (J c)=⟨op,J c,xa,xb,imm⟩:=(by unfold pw;grind);refine Zc (Vd ((⟨xa,xb⟩:Int×Int)) hsw)
  rintro⟨ya,yb⟩ hsw;dsimp only at hsw|-;rw[hsw]at hW;refine UQ ?_;refine ZL ?_;refine UQ ?_;refine wF ?_;rintro _ _ ⟨b110,rfl,rfl⟩;refine gS (cC (n:=J c) (e:=366) (sz:=5) (bytes:=40) I I Za I I (λw hi=>hi.rd (UJ (slv 366 5 (sA b110) 1 1 [.i op,.i (J c),.i ya,.i yb,.w imm]))) (one5 _ _ _ _ _) gD O) I ?_;rintro _ _ ⟨A2,c2,rfl,rfl⟩;rw[LY c ⟨op,J c,ya,yb,imm⟩,show J c+1=J (c++[(⟨op,J c,ya,yb,imm⟩:II)]) by simp];refine j5 ?_;refine Vd ((⟨i+1,pl2,c++[⟨op,J c,ya,yb,imm⟩],A2,c2⟩:Nat×List Int×List II×Option Addr×Nat)) bZ
 simp only[aa]at hc15;obtain rfl:i=N:=O;rw[List.drop_of_length_le O]at hW;have hW:(pl,c)=fe p:=hW;have hsT:∀fl tg,iv pl p.flags=fl->iv pl p.target=tg->cG p=⟨c,p.SW,p.SZ,p.Tw,p.Tx,dW pl p.S9,dW pl p.Ta,fl,p.next,tg,p.branch,p.taken,p.count,J c⟩:=(by intro fl tg h1 h2;unfold cG;grind);refine US ?_;refine Zy (mz I) ?_;refine UK ?_;refine iC (Vg [6,10,12,14,16,18]) [(0,0),(1,0),(2,0),(3,0),(4,0),(5,4),(7,0),(8,0),(6,3),(9,3),(10,3),(11,3),(12,3),(13,3),(14,3),(15,3),(16,3),(17,3),(18,3)] Zk Zk (zW ?_);refine ek I (y_len ⟨_,I⟩ py) I (tD ?_);refine Nt ?_;refine z5 ?_;refine tD ?_;refine ek I (dg 6 I py Zf) I (GI [(6,[(9,1),(11,0),(10,2),(12,2),(13,0),(14,2),(15,0),(16,2),(17,0),(18,2)]),(9,[(11,0),(6,2),(10,2),(12,2),(13,0),(14,2),(15,0),(16,2),(17,0),(18,2)])] Zk (.cons ?_ (.cons ?_ .nil)))
 .refine Wq278 ?_;rintro _ _ ⟨_,⟨A3,c3,rfl,rfl⟩,rfl⟩;refine yq I (bO ir py) (cT Zh I) I (ek I (dg 0 I py Zf) I (Wq253 ?_));rintro _ _ ⟨_,⟨A4,c4,rfl,rfl⟩,rfl⟩;refine z6 ?_;refine UR ?_;refine ek I (dg 13 I py Zf) I (z6 ?_);refine UR ?_;refine Nt ?_;refine z6 ?_;refine UR ?_;refine ek I (dg 6 I py Zf) I (z6 ?_);refine UR ?_;refine jU (Wc ?_ ?_)<;>intro hc26
  .have hf1:p.flags≠ -1:=(by simpa using hc26);obtain⟨nf,hnf,hnf2⟩:=hfl hf1;have hm1:iv pl p.flags=pl.getD nf 0:=(by unfold iv;rw[hc26,ah,hnf,aV]);refine Wq314 ?_;refine ZW ?_ ?_<;>intro hc28
   .exact Wq96
   exact Rl
  have hm1:iv pl p.flags=p.flags:=(by unfold iv;rw[hc26,ac]);refine oU ?_ ?_<;>intro hc28
  .exact Wq96
  exact Rl
 refine RQ I (bO ir py) (cT Zh I) I (ek I (dg 0 I py Zf) I (et ?_));refine Wq278 ?_;rintro _ _ ⟨_,⟨A3,c3,rfl,rfl⟩,rfl⟩;refine Wq253 ?_;rintro _ _ ⟨_,⟨A4,c4,rfl,rfl⟩,rfl⟩;refine z6 ?_;refine UR ?_;refine ek I (dg 13 I py Zf) I (z6 ?_);refine UR ?_;refine Nt ?_;refine z6 ?_;refine UR ?_;refine ek I (dg 6 I py Zf) I (z6 ?_);refine UR ?_;refine jU (Wc ?_ ?_)<;>intro hc26
 .have hf1:p.flags≠ -1:=(by simpa using hc26);obtain⟨nf,hnf,hnf2⟩:=hfl hf1;have hm1:iv pl p.flags=pl.getD nf 0:=(by unfold iv;rw[hc26,ah,hnf,aV]);refine Wq314 ?_;refine ZW ?_ ?_<;>intro hc28
  .exact Wq96
  exact Rl
 have hm1:iv pl p.flags=p.flags:=(by unfold iv;rw[hc26,ac]);refine oU ?_ ?_<;>intro hc28
 .exact Wq96
 exact Rl
end
end Go.Ink
