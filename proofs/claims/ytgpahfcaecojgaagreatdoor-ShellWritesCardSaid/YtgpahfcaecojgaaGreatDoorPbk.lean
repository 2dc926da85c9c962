/- Lemmas. -/
import Derived.Test.YtgpahfcaecojgaaGreatDoorPaz
set_option linter.all false
set_option maxRecDepth 100000
set_option maxHeartbeats 4000000
namespace Go.Proofs.YtgpahfcaecojgaaGreatDoor
open Go.RowKit Go.Ink Go.Proofs.Tryz
attribute [local irreducible] OpY bN
variable{I:List Si}{T:List It}
theorem yL(h:4<I.length\/512<T.length):fC I T=3:=by
 unfold fC;have:(decide (4<I.length)||decide (512<T.length))=true:=by rw[bn,ac,ac];exact h
 rw[this]
 rfl
theorem CS(h1:I.length<=4)(h2:T.length<=512)(h:I.all okI=false\/T.all okT=false):fC I T=1:=by
 unfold fC;rw[aF (by omega:¬4<I.length),aF (by omega:¬512<T.length)];have:(I.all okI&&T.all okT)=false:=by rw[Bool.and_eq_false_iff];exact h
 rw[this]
 rfl
variable{i:Nat}
theorem BU{α:Type}{p:α->Bool}{l:List α}{x:α}(h:l[i]? =some x)(hx:p x=false):l.all p=false:=by
 rw[List.all_eq_false];exact⟨x,ak h,by rw[hx];decide⟩
theorem uT{α:Type}{p:α->Bool}{l:List α}{x:α}(h:l[i]? =some x)(h1:(l.take i).all p=true)(hx:p x=true):(l.take (i+1)).all p=true:=by
 rw[bE,h,List.all_append,h1];show(true&&(p x&&true))=true;rw[hx]
 rfl
theorem yM(A B:Oa)(c e:Nat)(L:List Im)(T:List ItR)(w:World)(h:RdV w 3 A L.length c (L.flatMap Im.cells))(k:RdV w 4 B T.length e (T.flatMap ItR.cells)):
  CW prog 15 [.agg #[.slice A L.length c,.slice B T.length e]] w (.i (fC (L.map Im.si) (T.map ItR.it))):=by
 have hmax:=h.max;have hcap:=h.cap;have kmax:=k.max;have kcap:=k.cap;unfold maxLen at hmax kmax;refine Zfs func15 ntmps15 ?_;refine Z_2 ?_;refine ZO λb1=>?_;refine EU ?_;refine ZW ?_ ?_<;>intro hc1
 .have hlong:4<(L.map Im.si).length\/512<(T.map ItR.it).length:=(by rw[ax,ax];simp only[bn,ac]at hc1;omega);rw[yL hlong];exact Ez
 have hlen:L.length<=4/\T.length<=512:=(by simp only[aS,aa]at hc1;omega);obtain⟨hL4,hT5⟩:=hlen;have hbad:=CS (I:=L.map Im.si) (T:=T.map ItR.it) (by rw[ax];exact hL4) (by rw[ax];exact hT5);refine Z_9 ?_;refine wLo (λi:Nat=>[(1,.p b1),(3,.i (i:Int))]) (λ_=>[row b1 [.slice A L.length c,.slice B T.length e] 27]) (λi=>i<=L.length/\((L.map Im.si).take i).all okI=true) (λi=>L.length - i) (0) ⟨ap _,rfl⟩ ?_;rintro i ⟨hi0,hall⟩;refine mZ ?_ ?_<;>intro hc4
 .simp only[ac]at hc4;have hil:i<L.length:=Wq1;obtain⟨ad,rfl⟩:=h.some_ Wq1;obtain⟨x,hx⟩:∃z,L[i]? =some z:=⟨_,ae hil⟩;have hx2:(L.map Im.si)[i]? =some x.si:=(by rw[aX,hx];rfl);refine Z_9 ?_;refine EE ?_;refine dQ (bW (vs:=x.cells) Zrf Zrf Zv0) (cE h (λj v hj=>bZ Im.V8 (i:=j) hx hj)) rfl ?_;refine ZN λb4=>?_
  refine ZM ?_;refine om ?_;refine Zw6 ?_ ?_<;>intro hc7
  .have hno:okI x.si=false:=(by rw[Bool.eq_false_iff];intro q;simp only[okI,au,ac]at q;simp only[bn,ac]at hc7;simp only[Im.si]at q;omega);rw[hbad (.inl (BU hx2 hno))];exact EB
  have hyes:okI x.si=true:=(by simp only[okI,au,ac];simp only[aS,aa]at hc7;simp only[Im.si];omega);refine lI ?_;refine qMP (i+1) ⟨⟨by omega,uT hx2 hall hyes⟩,by omega⟩
 simp only[aa]at hc4;have hall2:(L.map Im.si).all okI=true:=(by rw[aM GA]at hall;exact hall);refine fb ?_;refine wLo (λi:Nat=>[(1,.p b1),(5,.i (i:Int))]) (λ_=>[row b1 [.slice A L.length c,.slice B T.length e] 27]) (λi=>i<=T.length/\((T.map ItR.it).take i).all okT=true) (λi=>T.length - i) (0) ⟨ap _,rfl⟩ ?_;rintro j ⟨hj0,hjall⟩;refine mZ ?_ ?_<;>intro hc10
 .simp only[ac]at hc10;have hjl:j<T.length:=Wq1;obtain⟨ad,rfl⟩:=k.some_ Wq1;obtain⟨x,hx⟩:∃z,T[j]? =some z:=⟨_,ae hjl⟩;have hx2:(T.map ItR.it)[j]? =some x.it:=(by rw[aX,hx];rfl);obtain⟨kd,g,n,xA,xc,xb⟩:=x;refine Z_9 ?_;refine Wq212 ?_;refine ZN λb6=>?_
  refine ZM ?_;refine EC ?_;refine oU ?_;refine ZW ?_ ?_<;>intro hc13
  .have hno:okT (ItR.it ⟨kd,g,n,xA,xc,xb⟩)=false:=(by rw[Bool.eq_false_iff];intro q;simp only[okT,kX,bne,au,ac,bn,Bool.not_eq_true',aS,aV,ne_eq]at q;simp only[bn,au,ac,beq_iff_eq]at hc13;omega);rw[hbad (.inr (BU hx2 hno))];exact EB
  have hyes:okT (ItR.it ⟨kd,g,n,xA,xc,xb⟩)=true:=(by simp only[okT,kX,bne,au,ac,bn,Bool.not_eq_true',aS,aV,ne_eq];simp only[aS,Bool.and_eq_false_iff,aa,aV,ne_eq]at hc13;omega);refine lI ?_;refine qMP (j+1) ⟨⟨by omega,uT hx2 hjall hyes⟩,by omega⟩
 simp only[aa]at hc10;have hjall2:(T.map ItR.it).all okT=true:=(by rw[aM GA]at hjall;exact hjall);rw[qr (by rw[ax];exact hL4) (by rw[ax];exact hT5) hall2 hjall2];exact EB
theorem sx(n:Int):IntKind.u8.wrap n=lo n:=by unfold lo;rw[IntKind.wrap_u8]
theorem sh8(a:Int):a.fdiv (2^(min (8:Int).toNat IntKind.i64.bits))=a/256:=by
 show a.fdiv 256=a/256;exact Int.fdiv_eq_ediv_of_nonneg a bX
theorem b8_hi(n:Int):IntKind.u8.wrap (n/256)=hi8 n:=by unfold hi8;rw[IntKind.wrap_u8]
def Fu(I:List Si)(i:Nat):List Int:=lo I.length::(I.take i).flatMap o3
def Ht(I:List Si)(T:List It)(j:Nat):List Int:=lo I.length::(I.flatMap o3++(T.take j).flatMap kN)
theorem qR{α:Type}{f:α->List Int}{m:Nat}:∀{l:List α},(∀x,x∈l->(f x).length<=m)->(l.flatMap f).length<=l.length*m
 |[],_=>ap _
 |x::l,h=>by
  have h1:=qR (f:=f) (m:=m) (l:=l) (λy hy=>h y (.tail _ hy));have h2:=h x (.head _);rw[bF,aj,aO,Nat.succ_mul];omega
theorem BF(x:Li):(mK x).length=x.length+2:=rfl
theorem IY{x:Si}(h:okI x=true):(o3 x).length<=131075:=by
 simp only[okI,au,ac]at h;show(mK x.l++mK x.k).length+1<=_;rw[aj,BF,BF];omega
variable{x:It}
theorem Tw(h:okT x=true):(kN x).length<=260:=by
 simp only[okT,au,ac,bn,bne_iff_ne,ne_eq]at h;obtain⟨⟨_,h5⟩,h6⟩:=h;show((bif kX x.kind then[lo x.n,hi8 x.n]else[])++(bif x.kind==2 then lo x.b.length::x.b else[])).length+2<=_;rw[aj];have a1:(bif kX x.kind then[lo x.n,hi8 x.n]else[]).length<=2:=by cases kX x.kind<;>simp
 have a2:(bif x.kind==2 then lo x.b.length::x.b else[]).length<=256:=by
  cases hc:(x.kind==2)with
  |false=>simp
  |true=>
   have:=h6.resolve_left (by rw[beq_iff_eq]at hc;omega);simp only[ai,aO];omega
 omega
theorem Hu(hi:i<=4)(h:(I.take i).all okI=true):(Fu I i).length<=524301:=by
 have h1:=qR (f:=o3) (m:=131075) (l:=I.take i) (λx hx=>IY (aQ.1 h x hx));have h2:(I.take i).length<=4:=by rw[aD];omega
 have h3:=Nat.mul_le_mul_right 131075 h2;show((I.take i).flatMap o3).length+1<=_;omega
variable{j:Nat}
theorem AR(h4:I.length<=4)(hj:j<=512)(h:I.all okI=true)(h2:(T.take j).all okT=true):(Ht I T j).length<=657421:=by
 have h1:=qR (f:=o3) (m:=131075) (l:=I) (λx hx=>IY (aQ.1 h x hx));have h5:=qR (f:=kN) (m:=260) (l:=T.take j) (λx hx=>Tw (aQ.1 h2 x hx));have h6:(T.take j).length<=512:=by rw[aD];omega
 have h7:=Nat.mul_le_mul_right 260 h6;have h8:=Nat.mul_le_mul_right 131075 h4;show(I.flatMap o3++(T.take j).flatMap kN).length+1<=_;rw[aj];omega
theorem C8{x:Si}(h:I[i]? =some x):Fu I i++[lo x.n]++mK x.l++mK x.k=Fu I (i+1):=by
 unfold Fu;rw[bE,h,List.flatMap_append];show lo I.length::((I.take i).flatMap o3++[lo x.n]++mK x.l++mK x.k)=lo I.length::((I.take i).flatMap o3++(o3 x++[]));rw[aw,aq,aq]
 rfl
theorem Hv(h:I.length<=i):Fu I i=Ht I T 0:=by
 unfold Fu Ht;rw[aM h];show _=lo I.length::(I.flatMap o3++[]);rw[aw]
theorem C7(h:T[j]? =some x):Ht I T j++kN x=Ht I T (j+1):=by
 unfold Ht;rw[bE,h,List.flatMap_append];show lo I.length::(I.flatMap o3++(T.take j).flatMap kN++kN x)=lo I.length::(I.flatMap o3++((T.take j).flatMap kN++(kN x++[])));rw[aw,aq]
theorem AS(h:T.length<=j):Ht I T j=pV I T:=by
 unfold Ht pV;rw[aM h]
theorem IW(h:kX x.kind=true):kN x=[lo x.kind,lo x.Wq]++[lo x.n,hi8 x.n]:=by
 have h7:(x.kind==2)=false:=by
  simp only[kX,bn,beq_iff_eq]at h;rw[aV];omega
 unfold kN IV;rw[h,h7]
 rfl
theorem Pt(h:kX x.kind=false)(h2:(x.kind==2)=true):kN x=[lo x.kind,lo x.Wq]++[lo x.b.length]++x.b:=by
 unfold kN IV;rw[h,h2]
 rfl
theorem Ps(h:kX x.kind=false)(h2:(x.kind==2)=false):kN x=[lo x.kind,lo x.Wq]:=by
 unfold kN IV;rw[h,h2]
 rfl
abbrev u8C(A:Oa)(c:Nat)(l:Li):bJ:=sl .u8 5 A l.length c l
theorem zD(A:Oa)(c:Nat)(l:Li)(hl:l.length<=1000000000)(B:Oa)(e:Nat)(x:Li)(hx:x.length<=1000000)(w:World)(hi:Inv w (bK [u8C A c l]) [u8C A c l] w)(hB:∀w',dc (bK [u8C A c l]) w w'->Rd w' .u8 B x.length e x):
  Ctr prog 44 [.slice A l.length c,.slice B x.length e] w [u8C A c l] (λv cs=>∃A' c',v= .slice A' (l++mK x).length c'/\cs=[u8C A' c' (l++mK x)]):=by
 have hll:(l++[lo x.length,hi8 x.length]).length=l.length+2:=by rw[aj];rfl
 refine Zfn func44 ntmps44 hi ?_;refine fH ?_;refine Gz ?_;refine Z_2 ?_;refine Wq359 ?_;rintro _ _ ⟨b13,rfl,rfl⟩;refine fo (bV (e:=5) (sz:=1) (bytes:=1) rfl rfl Za rfl rfl (λw hi=>hi.rd (Zhc (slv 5 1 (sA b13) 2 2 (ints .u8 [lo x.length,hi8 x.length])))) cN Wq9 Wq1) rfl ?_;rintro _ _ ⟨A3,c3,rfl,rfl⟩;rw[show l.length+2=(l++[lo x.length,hi8 x.length]).length from by rw[aj];rfl,cj];refine ZA ?_;refine fo (bV (e:=5) (sz:=1) (bytes:=1) rfl rfl Za rfl rfl (λw hi=>hB w hi.WB) cN Wq9 Wq1) rfl ?_;rintro _ _ ⟨A4,c4,rfl,rfl⟩;rw[cj,<-aj,aq];refine Z_4 ?_;refine xz ?_;exact⟨A4,c4,rfl,rfl⟩
theorem zA(A B:Oa)(c e:Nat)(L:List Im)(T:List ItR)(hR:fC (L.map Im.si) (T.map ItR.it)=0)(w:World)(h:RdV w 3 A L.length c (L.flatMap Im.cells))(hr:∀x,x∈L->x.rd w)(k:RdV w 4 B T.length e (T.flatMap ItR.cells))(kr:∀x,x∈T->Rd w .u8 x.A x.b.length x.c x.b):
  Ctr prog 16 [.agg #[.slice A L.length c,.slice B T.length e]] w [] (λv cs=>∃A' c',v= .slice A' (pV (L.map Im.si) (T.map ItR.it)).length c'/\cs=[u8C A' c' (pV (L.map Im.si) (T.map ItR.it))]):=by
 obtain⟨hL4,hT5,hI,hO⟩:=ja hR;rw[ax]at hL4 hT5;have hIl:(L.map Im.si).length=L.length:=ax ..;have hTl:(T.map ItR.it).length=T.length:=ax ..;have hI1:∀i,((L.map Im.si).take i).all okI=true:=λi=>aQ.2 λx hx=>aQ.1 hI x (aB hx)
 have hO1:∀i,((T.map ItR.it).take i).all okT=true:=λi=>aQ.2 λx hx=>aQ.1 hO x (aB hx)
 obtain⟨I,hIe⟩:=Zgn (L.map Im.si);obtain⟨O,hOe⟩:=Zgn (T.map ItR.it);rw[hIe]at hI hI1 hIl|-;rw[hOe]at hO hO1 hTl|-;have hp1:=λi (hi:i<=4)=>Hu hi (hI1 i)
 have hp2:=λj (hj:j<=512)=>AR (show I.length<=4 by omega) hj hI (hO1 j)
 refine Zfs func16 ntmps16 ?_;refine Z_2 ?_;refine ZO λb1=>?_;refine Z_8 ?_;refine Zy (cU rfl rfl (Zv rfl) (show _=lo I.length from by rw[hIl];exact sx _)) ?_;refine jD ?_;rintro _ _ ⟨b11,rfl,rfl⟩;rw[show slv 5 1 (sA b11) 1 1 [Value.int .u8 (lo I.length)]=u8C (sA b11) 1 (Fu I 0)from rfl];refine fH ?_;refine wLo (λq:Nat×Option Addr×Nat=>[(1,.p b1),(3,.slice q.2.1 (Fu I q.1).length q.2.2),(4,.i (q.1:Int))]) (λq=>[row b1 [.slice A L.length c,.slice B T.length e] 27,u8C q.2.1 q.2.2 (Fu I q.1)]) (λq=>q.1<=L.length) (λq=>L.length - q.1) ((⟨0,some ⟨b11,0,none⟩,1⟩:Nat×Option Addr×Nat)) (ap _) ?_;rintro⟨i,A1,c1⟩ hi0;dsimp only at hi0|-;refine mZ ?_ ?_<;>intro hc3
 .simp only[ac]at hc3;have hil:i<L.length:=Wq1;obtain⟨ad,rfl⟩:=h.some_ Wq1;obtain⟨x,hx⟩:∃z,L[i]? =some z:=⟨_,ae hil⟩;have hx2:I[i]? =some x.si:=(by rw[<-hIe,aX,hx];rfl);have hxr:=hr x (ak hx);have hok:=aQ.1 hI x.si (ak hx2);have hst:=C8 hx2;have hpl:=hp1 i Wq1;obtain⟨xA,xc,xl,xB,xe,xk,xn⟩:=x;simp only[okI,Im.si,au]at hok;have hok1:xl.length<=65535:=of_decide_eq_true hok.1.2;have hok2:xk.length<=65535:=of_decide_eq_true hok.2;simp only[Im.si]at hst;obtain⟨P,hP⟩:=Zgn (Fu I i);rw[hP]at hst hpl|-;refine Z_4 ?_;refine bU (Zdr [9,16,23] (mU b1 [.slice (some ad) L.length c,.slice B T.length e]++ee (ad.add (i*3)) 0 [.slice xA xl.length xc,.slice xB xk.length xe,.i xn])) Zk (ZE 0 ?_);refine ZFe 1 0 ?_;refine eu 2 rfl Zk Zk Zk (bM Zrf (Zv rfl)) Wq37 ((λw hi y hy=>(az.1 hy).elim (bL (t:=27) Zh w hi y) (cE h (λj v hj=>bZ Im.V8 (i:=j) hx hj) w hi y))) rfl (ZE 3 ?_);refine Zy4 4 rfl (cC (j:=i) rfl Zrf (Zv rfl) (Zv rfl) Wq2 Wq2) ?_;refine Zy4 5 rfl (cR 2 rfl Zv0 (rfl)) ?_;refine eu 6 rfl Zk Zk Zk (bM Zrf Zv0) (List.mem_append_right _ (gJ (j:=2) rfl)) ((λw hi y hy=>(az.1 hy).elim (bL (t:=27) Zh w hi y) (cE h (λj v hj=>bZ Im.V8 (i:=j) hx hj) w hi y))) rfl (Zy4 7 rfl (cU rfl rfl Zv0 (sx _)) ?_);refine ZFe 10 0 ?_;refine eu 11 rfl Zk Zk Zk (bM Zrf (Zv rfl)) Wq37 ((λw hi y hy=>(az.1 hy).elim (bL (t:=27) Zh w hi y) (cE h (λj v hj=>bZ Im.V8 (i:=j) hx hj) w hi y))) rfl (ZE 12 ?_);refine Zy4 13 rfl (cC (j:=i) rfl Zrf (Zv rfl) (Zv rfl) Wq2 Wq2) ?_;refine Zy4 14 rfl (cR 0 rfl Zv0 (rfl)) ?_;refine eu 15 rfl Zk Zk Zk (bM Zrf Zv0) (List.mem_append_right _ (gJ (j:=0) rfl)) ((λw hi y hy=>(az.1 hy).elim (bL (t:=27) Zh w hi y) (cE h (λj v hj=>bZ Im.V8 (i:=j) hx hj) w hi y))) rfl (ZFe 17 0 ?_);refine eu 18 rfl Zk Zk Zk (bM Zrf (Zv rfl)) Wq37 ((λw hi y hy=>(az.1 hy).elim (bL (t:=27) Zh w hi y) (cE h (λj v hj=>bZ Im.V8 (i:=j) hx hj) w hi y))) rfl (ZE 19 ?_);refine Zy4 20 rfl (cC (j:=i) rfl Zrf (Zv rfl) (Zv rfl) Wq2 Wq2) ?_;refine Zy4 21 rfl (cR 1 rfl Zv0 (rfl)) ?_;refine eu 22 rfl Zk Zk Zk (bM Zrf Zv0) (List.mem_append_right _ (gJ (j:=1) rfl)) ((λw hi y hy=>(az.1 hy).elim (bL (t:=27) Zh w hi y) (cE h (λj v hj=>bZ Im.V8 (i:=j) hx hj) w hi y))) rfl (ig ?_);refine gX rfl rfl (ff rfl rfl Zrf Zrf rfl rfl) (λ_=>by rintro _ _ ⟨b27,rfl,rfl⟩;exact(λw hi y hy=>(az.1 hy).elim (bL (t:=27) Zh w hi y) (cE h (λj v hj=>bZ Im.V8 (i:=j) hx hj) w hi y))) rfl ?_;rintro _ _ ⟨b27,rfl,rfl⟩;refine kR ?_;refine gX rfl rfl (bV (e:=5) (sz:=1) (bytes:=1) rfl rfl Za rfl rfl (λw hi=>hi.rd (Zhc (slv 5 1 (sA b27) 1 1 (ints .u8 [lo xn])))) cN Wq9 Wq1) (λ_=>by rintro _ _ ⟨A3,c3,rfl,rfl⟩;exact(λw hi y hy=>(az.1 hy).elim (bL (t:=27) Zh w hi y) (cE h (λj v hj=>bZ Im.V8 (i:=j) hx hj) w hi y))) rfl ?_;rintro _ _ ⟨A3,c3,rfl,rfl⟩;rw[show P.length+1=(P++[lo xn]).length from by rw[aj];rfl,cj];refine cW 16 Zk (gX rfl rfl (dN ([u8C A3 c3 (P++[lo xn])]) rfl (λ_ _=>rfl) Zi (λw hi hin=>zD A3 c3 (P++[lo xn]) (by rw[aj];show _+1<=_;omega) xA xc xl Wq1 w hin (λw' hk=>RdV.Wm hxr.l hi Zi hk))) (λ_=>by rintro _ _ ⟨_,⟨A4,c4,rfl,rfl⟩,rfl⟩;exact(λw hi y hy=>(az.1 hy).elim (bL (t:=27) Zh w hi y) (cE h (λj v hj=>bZ Im.V8 (i:=j) hx hj) w hi y))) rfl ?_);rintro _ _ ⟨_,⟨A4,c4,rfl,rfl⟩,rfl⟩;refine cW 23 Zk (gX rfl rfl (dN ([u8C A4 c4 (P++[lo xn]++mK xl)]) rfl (λ_ _=>rfl) Zi (λw hi hin=>zD A4 c4 (P++[lo xn]++mK xl) (by rw[aj,aj,BF];show _+1+_<=_;omega) xB xe xk Wq1 w hin (λw' hk=>RdV.Wm hxr.k hi Zi hk))) (λ_=>by rintro _ _ ⟨_,⟨A5,c5,rfl,rfl⟩,rfl⟩;exact(λw hi y hy=>(az.1 hy).elim (bL (t:=27) Zh w hi y) (cE h (λj v hj=>bZ Im.V8 (i:=j) hx hj) w hi y))) rfl ?_);rintro _ _ ⟨_,⟨A5,c5,rfl,rfl⟩,rfl⟩;rw[hst];refine ZE 24 ?_;refine dR ?_;refine jS ?_;refine qMP ((⟨i+1,A5,c5⟩:Nat×Option Addr×Nat)) ⟨show i+1<=L.length by omega,show L.length - (i+1)<L.length - i by omega⟩
 simp only[aa]at hc3;rw[Hv (T:=O) (show I.length<=i by omega)];refine fb ?_;refine wLo (λq:Nat×Option Addr×Nat=>[(1,.p b1),(3,.slice q.2.1 (Ht I O q.1).length q.2.2),(5,.i (q.1:Int))]) (λq=>[row b1 [.slice A L.length c,.slice B T.length e] 27,u8C q.2.1 q.2.2 (Ht I O q.1)]) (λq=>q.1<=T.length) (λq=>T.length - q.1) ((⟨0,A1,c1⟩:Nat×Option Addr×Nat)) (ap _) ?_;rintro⟨j,A2,c2⟩ hj0;dsimp only at hj0|-;refine mZ ?_ ?_<;>intro hc7
 .simp only[ac]at hc7;have hjl:j<T.length:=Wq1;obtain⟨ad,rfl⟩:=k.some_ Wq1;obtain⟨x,hx⟩:∃z,T[j]? =some z:=⟨_,ae hjl⟩;have hx2:O[j]? =some x.it:=(by rw[<-hOe,aX,hx];rfl);have hxr:=kr x (ak hx);have hok:=aQ.1 hO x.it (ak hx2);have hst:=C7 (I:=I) hx2;have hpl:=hp2 j Wq1;obtain⟨kd,g,n,xA,xc,xb⟩:=x;dsimp only[ItR.it]at hok hst hxr;obtain⟨P,hP⟩:=Zgn (Ht I O j);rw[hP]at hst hpl|-;have hP2:(P++[lo kd,lo g]).length=P.length+2:=(by rw[aj];rfl);have hP3:(P++[lo kd,lo g]++[lo xb.length]).length=P.length+3:=(by rw[aj,hP2];rfl);refine Z_9 ?_;refine Wq212 ?_;refine ZN λb6=>?_
  refine rf ?_;refine Gz ?_;refine Z_2 ?_;refine Gz ?_;refine jD ?_;rintro _ _ ⟨b62,rfl,rfl⟩;refine fo (bV (e:=5) (sz:=1) (bytes:=1) rfl rfl Za rfl rfl (λw hi=>hi.rd (Zhc (slv 5 1 (sA b62) 2 2 (ints .u8 [lo kd,lo g])))) cN Wq9 Wq1) rfl ?_;rintro _ _ ⟨A3,c3,rfl,rfl⟩;rw[show P.length+2=(P++[lo kd,lo g]).length from by rw[aj];rfl,cj];refine Z_5 ?_;cases hcc:kX kd
  .refine gq ?_;refine cy rfl (hcc) (Z_3 ?_);cases hk2:(kd==2)
   .have hen:kN ⟨kd,g,n,xb⟩=[lo kd,lo g]:=Ps hcc hk2;rw[hen]at hst;refine Z_3 ?_;refine EJ ?_;refine Z_4 ?_;rw[hst];refine ZA ?_;refine Wq6 ?_;refine qMP ((⟨j+1,A3,c3⟩:Nat×Option Addr×Nat)) ⟨show j+1<=T.length by omega,show T.length - (j+1)<T.length - j by omega⟩
   have hen:kN ⟨kd,g,n,xb⟩=[lo kd,lo g]++[lo xb.length]++xb:=Pt hcc hk2;rw[hen,<-aq,<-aq]at hst;have hxl:xb.length<=255:=(by simp only[okT,au,ac,bn,bne_iff_ne,ne_eq]at hok;rw[beq_iff_eq]at hk2;exact hok.2.resolve_left Wq1);refine UQ ?_;refine bU (Zdr [6,9] (mU b6 [.i kd,.i g,.i n,.slice xA xb.length xc])) Zk (Wq463 ?_);rintro _ _ ⟨b90,rfl,rfl⟩;refine Wq238 ?_;rintro _ _ ⟨A5,c5,rfl,rfl⟩;rw[show(P++[lo kd,lo g]).length+1=(P++[lo kd,lo g]++[lo xb.length]).length from by rw[aj (bs:=[lo xb.length])];rfl,cj];refine Wq334 ?_;rintro _ _ ⟨A6,c6,rfl,rfl⟩;rw[cj,<-aj,hst];refine ZE 10 ?_;refine dR ?_;refine jS ?_;refine qMP ((⟨j+1,A6,c6⟩:Nat×Option Addr×Nat)) ⟨show j+1<=T.length by omega,show T.length - (j+1)<T.length - j by omega⟩
  have hk2:(kd==2)=false:=QA;have hen:kN ⟨kd,g,n,xb⟩=[lo kd,lo g]++[lo n,hi8 n]:=IW hcc;rw[hen]at hst;refine gq ?_;refine cn rfl (hcc) (Z_4 ?_);refine Gz ?_;refine Z_2 ?_;refine Wq359 ?_;rintro _ _ ⟨b80,rfl,rfl⟩;refine fo (bV (e:=5) (sz:=1) (bytes:=1) rfl rfl Za rfl rfl (λw hi=>hi.rd (Zhc (slv 5 1 (sA b80) 2 2 (ints .u8 [lo n,hi8 n])))) cN Wq9 Wq1) rfl ?_;rintro _ _ ⟨A4,c4,rfl,rfl⟩;rw[show(P++[lo kd,lo g]).length+2=(P++[lo kd,lo g]++[lo n,hi8 n]).length from by rw[aj (bs:=[lo n,hi8 n])];rfl,cj,aq,hst];refine Z_7 ?_;refine EJ ?_;refine lI ?_;refine qMP ((⟨j+1,A4,c4⟩:Nat×Option Addr×Nat)) ⟨show j+1<=T.length by omega,show T.length - (j+1)<T.length - j by omega⟩
 simp only[aa]at hc7;rw[AS (show O.length<=j by omega)];refine fb ?_;refine Zrb ([u8C A2 c2 (pV I O)]) ?_;exact⟨A2,c2,rfl,rfl⟩
end Go.Proofs.YtgpahfcaecojgaaGreatDoor
