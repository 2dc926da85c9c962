/- Lemmas. -/
import Derived.Test.YtepfimeihngjoaaGreatDoorXap
import Derived.Test.YtepfimeihngjoaaGreatDoorXaq
import Derived.Test.YtepfimeihngjoaaGreatDoorXar
import Derived.Test.YtepfimeihngjoaaGreatDoorXas
set_option linter.all false
set_option maxRecDepth 100000
set_option maxHeartbeats 4000000
namespace Go.Ink
open List renaming length→J, replicate→R9
open IntKind renaming wrap→V9
open Go.RowKit Go.Proofs.Tryz
variable{i:Nat}
variable{n:Nat}
section
attribute [local irreducible] Ve bN
variable{k:Int}
variable{root va:Nat}
variable{x:Value}
theorem Dq(K:gi)(bx n:Nat)(U:UI)(hM:Vc n U.m)(hT:J U.t=16)(pg su:Bool)(root va k:Nat)(v:Int)(hr:root<=4294967295)(hva:va<=4294967295)(hk1:1<=k)(hk4:k<=4):CI prog 277 [.p bx,.bool pg,.bool su,.w root,.w va,.w v,.i k] (VD K bx n U) (λx cs=>x=(jo n U ⟨pg,su,root⟩ va k v).1.v/\cs=VD K bx n (jo n U ⟨pg,su,root⟩ va k v).2):=λw hi=>by
 have hn:=hM.n64;have HS:=sy K bx n U hM hT pg su root va k hr hva hk1 hk4 3;have hM2:=hM.S4 ⟨pg,su,root⟩ va k 3;have hin0:=ny (n:=n) (U:=U) (s:=⟨pg,su,root⟩) (va:=va) (k:=k) hn hva (kind:=3) hk4;have hlen0:=lV (n:=n) (U:=U) (s:=⟨pg,su,root⟩) (va:=va) (k:=k) (kind:=3);unfold jo;obtain⟨sp,hsp⟩:=Do (S4 n U ⟨pg,su,root⟩ va k 3);rw[hsp]at HS hin0 hlen0 hM2|-;obtain⟨⟨l,tr⟩,U'⟩:=sp;simp only at HS hin0 hlen0 hM2|-;refine Vb func277 ntmps277 hi ?_;refine An ?_;refine ZN λb14=>?_;refine eL ?_;refine dH (VD K bx n U) (λw hi hin=>HS w hin) ?_;rintro _ _ ⟨A1,c1,rfl,rfl⟩;refine UN ?_;refine ZN λb16=>?_
 refine CG ?_;refine UR ?_;refine U8 ?_;refine Vs (λj:Nat=>[(0,.p bx),(5,.w v),(14,.p b14),(15,.slice A1 (J l) c1),(16,.p b16),(17,.i (j:Int))]) (λj=>VD K bx n ⟨Tl U'.m l v j,U'.t⟩++[sl .u32 32 A1 (J l) c1 l,Ww b14 Tr.none,Ww b16 tr]) (λj=>j<=J l/\Vc n (Tl U'.m l v j)) (λj=>J l - j) (0) ⟨ax _,hM2⟩ ?_;rintro j ⟨hj,hMj⟩;refine Wc ?_ ?_<;>intro hc3
 .simp only[ai]at hc3;have hil:j<J l:=O;have hrange:=hin0 _ (List.getElem_mem hil);refine Rf ?_;rintro⟨ba,rfl⟩;obtain⟨an,han⟩:=aj hrange.1;have hgd:(l.getD j 0).toNat=an:=by(rw[aS,ak hil];simp only[Option.getD_some,han];omega)
  have hpt:Tl U'.m l v (j+1)=(Tl U'.m l v j).put an (mC v j):=by rw[Tl,hgd]
  refine UK ?_;refine bQ (Vg [14]) Zk (nZ ?_);refine wP ?_;refine UY 6 I (cn (j:=j) (sz:=1) (r:=j) I ir (Zv I) (Zv I) UL UL O) ?_;refine Vn 7 I (bO ir (Zv I)) (da Zh (show(ints .u32 l)[j]? =some (.w (an:Int))from by rw[<-han];exact lr hil)) ?_;refine ZE 8 ?_;refine ZE 9 ?_;refine UY 10 I (cz I I (Zv I) (show _=(j:Int)from by first|exact u64_wrap_id _ O O|exact uint_wrap_id _ O O)) ?_;refine UY 11 I (fT (Zv I) (Zv I) (show _=((8*j:Nat):Int)from(u64_wrap_id _ O O).trans O)) ?_;refine UY 12 I (jT (Zv I) (Zv I) O I) ?_;refine UY 13 I (cz I I (Zv I) (kw v (show j<4 by omega))) ?_;refine ku ?_;refine rX (V6 K n (Tl U'.m l v j)) (λw hi hin=>i4 K n (Tl U'.m l v j) hMj an O (mC v j) w hin) ?_;refine UR ?_;refine fh ?_;refine ii ?_;refine sC (j+1) ?_ ?_ ?_
  .exact⟨⟨by omega,by rw[hpt];exact hMj.put O (kG v j)⟩,by omega⟩
  .exact Xq
  exact(show z9 _ _ from by rw[hpt];exact Zj)
 simp only[aa]at hc3;obtain rfl:j=J l:=O;refine Va ?_;refine oV ?_;exact bK (VD K bx n ⟨Tl U'.m l v (J l),U'.t⟩++[Ww b14 tr]) Zj (lL (cs':=[row _ _ _,row _ _ _,slv _ _ _ _ _ _,slv _ _ _ _ _ _]) (.inl I) Zu I I Zh ir ir fx)
end
end Go.Ink
namespace Go.Ink
open List renaming length→J
open IntKind renaming wrap→V9
open Go.RowKit Go.Proofs.Tryz
set_option maxHeartbeats 1000000
variable{b:Int}
variable{r:Int}
variable{n:Int}
section
attribute [local irreducible] Ve bN
theorem Bf(br:Nat)(X:dz)(R:UG)(K:gi)(bx n:Nat)(U:UI)(b bd:Nat)(Z:dJ)(d:UF)(hM:Vc n U.m)(hT:J U.t=16)(hd:d.wf)(pc nn:Int)(l:Li)(va:Nat)(hva:va<=4294967295)(hl:J l<=100000)(hroot:u32 R.s.root)(hdv:R.device=false)(hcn:R.count=R.s.count)
  (Ad Ar:Oa) (cd cr:Nat) (w:World) (hi:Inv w (bM (Vv br X (R.wd (l++[(va:Int)])).s false K bx n U b bd Z d)) (Vv br X (R.wd (l++[(va:Int)])).s false K bx n U b bd Z d) w)
  (h:∀w',dc (bM (Vv br X (R.wd (l++[(va:Int)])).s false K bx n U b bd Z d)) w w'->iL w' ((R.wd (l++[(va:Int)])).s.wpc pc) Ad Ar cd cr):
  UW prog 275 [sv ((R.wd (l++[(va:Int)])).s.wpc pc) Ad cd Ar cr,.agg #[.i 48,.w nn],.p bx,.p b,.p br] w (Vv br X (R.wd (l++[(va:Int)])).s false K bx n U b bd Z d)
   (Ji br K bx n b bd (eP n (R.wd l) U d va)):=by
 have hn:=hM.n64;obtain⟨rt,hrt⟩:∃m:Nat,R.s.root=m:=aj hroot.1;have hrt2:(rt:Int)<=4294967295:=by rw[<-hrt];exact hroot.2
 have hlen:J (l++[(va:Int)])=J l+1:=by simp
 have hdl:((R.wd (l++[(va:Int)])).s.wpc pc).d.length=J l+1:=hlen;have hdl2:(R.wd (l++[(va:Int)])).s.d.length=J l+1:=hlen;have hdl3:(⟨R.s.pc,l++[(va:Int)],R.s.r,R.s.flags,R.s.SQ,R.s.S1,R.s.ie,R.s.root,R.s.vec,R.s.epc,R.s.SU,R.s.addr,R.s.S6,R.s.eie,R.s.count,R.s.halted⟩:St).d.length=J l+1:=hlen;obtain⟨ad,rfl⟩:=(h w (dc.refl _ _)).d.some_ (by rw[hdl];omega);have HP:=kK K bx n U hM hT R.s.S1 R.s.SQ rt va O hva 2;have hsp:(R.wd l).sp=⟨R.s.S1,R.s.SQ,rt⟩:=by unfold UG.sp;exact Q0
 have hpo:=fj n U ⟨R.s.S1,R.s.SQ,rt⟩ va hva 2;have hto:=gM n U ⟨R.s.S1,R.s.SQ,rt⟩ va 2;have hMo:=hM.SR ⟨R.s.S1,R.s.SQ,rt⟩ va 2 (hM.walk _ _ _ _);unfold Ji;obtain⟨⟨⟨p,tr⟩,U'⟩,hp⟩:=Do (SR n U ⟨R.s.S1,R.s.SQ,rt⟩ va 2);rw[hp]at HP hpo hto hMo;rw[<-hsp]at hp;rw[<-hrt]at HP;dsimp only at HP hpo hto hMo;obtain⟨p,rfl⟩:∃m:Nat,p=m:=aj hpo.1.1;have hpu:(p:Int)<=4294967295:=hpo.1.2;refine Vb func275 ntmps275 hi ?_;refine An ?_;refine ZO λb5=>?_;refine ZO λb6=>?_
 refine jS ?_;refine UQ ?_;refine SK ?_;refine RD ?_;refine oO ?_;refine lN ?_;refine UU ?_;refine ο ?_;refine VP ?_ ?_<;>intro hc7
 .rw[Ij hc7];refine U8 ?_;refine Xo ?_;refine⟨X,(R.wd (l++[(va:Int)])).s,Z,I,?_,λe=>by cases e⟩;show _=Vv br X (R.wd (l++[(va:Int)])).s R.device K bx n U b bd Z d;rw[hdv]
  rfl
 refine mv ?_;refine Vq (VD K bx n U) (λw hi hin=>HP w hin) ?_;refine UN ?_;refine ZN λb17=>?_
 refine CG ?_;refine UR ?_;refine oU ?_ ?_<;>intro hc10
 .rw[D4 hc7 hp hc10];refine Zs (bQ (Vg []) Zk ?_);refine Q3 ?_;refine fh ?_;refine UN ?_;refine bK (Vv br X (R.wd (l++[(va:Int)])).s false K bx n U' b bd Z d) Zj (Xo ?_);exact⟨X,(R.wd (l++[(va:Int)])).s,Z,I,I,λe=>by(have e:tr.SU=0:=e;rw[e]at hc10;cases hc10)⟩
 obtain rfl:=hto (by simpa using hc10);have hP:=hpo.2 I;have hin4:p%64=va%64:=(by have:=hP.m;omega);have hva4:va%4=0:=(by have h1:((va%4:Nat):Int)=0:=(by simpa using hc7);omega);rw[Lv hc7 hp];have hdn:=Sz hP hn;have hbig:¬(32768:Int)<=(p:Int)->p+4<=n*64:=(λhx=>by have:=pJ (by unfold iG;rw[ao hx];rfl) hP;omega);refine U8 ?_;refine Z4 ?_;refine ZA ?_;rw[hdn];obtain⟨dv,hdv2⟩:=Do (decide ((32768:Int)<=(p:Int)));rw[hdv2];refine U8 ?_;refine nX ?_;refine iS ?_;refine UU ?_;refine cj (λq:(Int×Bool)×dJ×UF=>[(12,.p br),(13,.i ((J l+1:Nat):Int)),(14,.w (va:Int)),(19,.w q.1.1),(20,.bool q.1.2)]) (λq=>Vv br X (R.wd (l++[(va:Int)])).s dv K bx n U' b bd q.2.1 q.2.2) (λq=>(bif dv then gX ⟨(p:Int),true,(R.wd l).wdv Tr.none true,U'⟩ (cE d (je p) R.count).2 va (cE d (je p) R.count).1.1 (cE d (je p) R.count).1.2 else gX ⟨(p:Int),true,(R.wd l).wdv Tr.none false,U'⟩ d va (iW n U'.m p).1 (iW n U'.m p).2)=gX ⟨(p:Int),true,(R.wd l).wdv Tr.none dv,U'⟩ q.2.2 va q.1.1 q.1.2) ?_ ?_
 .refine Wh ?_ ?_<;>intro hc16
  .obtain rfl:dv=true:=hc16;refine UQ ?_;refine dH (eI b K.bm bd Z d) (λw hi hin=>DE b K.bm bd Z d hd p R.s.count w hin) ?_;rintro _ _ ⟨Z',rfl,rfl⟩;refine UU ?_;refine Vd ((⟨⟨(cE d (je p) R.s.count).1.1,(cE d (je p) R.s.count).1.2⟩,Z',(cE d (je p) R.s.count).2⟩:(Int×Bool)×dJ×UF)) ?_;show(bif true then gX ⟨(p:Int),true,(R.wd l).wdv Tr.none true,U'⟩ (cE d (je p) R.count).2 va (cE d (je p) R.count).1.1 (cE d (je p) R.count).1.2 else _)=_;rw[hcn];rfl
  obtain rfl:dv=false:=hc16;have hp4:=hbig (by simpa using hdv2);have hwo:iW n U'.m p=(lc U'.m.data p,true):=(by unfold iW;rw[ap hp4];rfl);refine UU ?_;refine IS ?_;refine UZ (λw hi=>pz K n U'.m hMo p hp4 w (hi.get Zh) (hi.get (UJ (rmB K n U'.m)))) ?_;refine An ?_;refine Vd ((⟨⟨lc U'.m.data p,true⟩,Z,d⟩:(Int×Bool)×dJ×UF)) ?_;show(bif false then _ else gX ⟨(p:Int),true,(R.wd l).wdv Tr.none false,U'⟩ d va (iW n U'.m p).1 (iW n U'.m p).2)=_;rw[hwo];rfl
 rintro⟨⟨v1,ok1⟩,Z',d'⟩ hq;dsimp only at hq|-;rw[hq];refine VJ ?_ ?_<;>intro hc19
 .have hk:ok1=false:=(by simpa using hc19);subst hk;refine eL ?_;refine Xo ?_;exact⟨X,(R.wd (l++[(va:Int)])).s,Z',I,I,λe=>by cases e⟩
 have hk:ok1=true:=(by simpa using hc19);subst hk;obtain⟨XA,Xc,XB,Xd⟩:=X;refine eC (λw hi=>dA (hi.get (UJ (Vf (R.wd (l++[(va:Int)])).s XA Xc))) (show 0<J (l++[(va:Int)]) by omega)) (λhA=>?_);obtain⟨bd2,rfl⟩:=hA;refine Va ?_;refine Zy (ez (Zv I) (Zv I) (show _=(J l:Int)from aQ _ ⟨by omega,by omega⟩|>.trans O)) ?_;refine ZA ?_;refine Zy (cn (j:=J l) (sz:=1) (r:=J l) I ir (Zv I) (Zv I) UL UL O) ?_;refine z4 ?_;refine UR ?_;rw[eK,show(R.wd (l++[(va:Int)])).s.d.set (J l) v1=l++[v1]from yM l va v1];refine U8 ?_;refine Xo ?_;refine⟨⟨some ⟨bd2,0,none⟩,Xc,XB,Xd⟩,(R.wd (l++[v1])).s,Z',I,?_,λ_=>I⟩;show _=Vv br ⟨some ⟨bd2,0,none⟩,Xc,XB,Xd⟩ (R.wd (l++[v1])).s dv K bx n U' b bd Z' d';exact Wq504
end
end Go.Ink
namespace Go.Ink
open List renaming length→J, replicate→R9
open IntKind renaming wrap→V9
open Go.RowKit Go.Proofs.Tryz
section
attribute [local irreducible] Ve bN
variable{cs:List bJ}{n b:Nat}
variable{w:World}
variable{op:Int}
theorem Co(A:Oa)(c:Nat)(b:Li)(hb:Vh b)(w:World)(h:Rd w .u8 A (J b) c b):
  UW prog 196 [.slice A (J b) c] w [] (λv cs=>(∃y,v= .tuple #[.agg (insV (dI b)).toArray,.i (insN (dI b):Int),.i y]/\(y==0)=(dI b).isSome)/\cs=[]):=by
 have hlm:J b<=maxLen:=aN h.cap h.max;simp only[maxLen]at hlm;cases b with
 |nil=>
  refine UV func196 ntmps196 ?_;refine An ?_;refine ZN λb2=>?_;refine fR ?_;refine iS ?_;refine UN ?_;refine jb ?_;refine w5 ?_;exact⟨⟨10,I,I⟩,I⟩
 |cons op l=>
  have hop:=hb op cJ;have hl:Vh l:=λx hx=>hb x (aW _ hx)
  have hlen:J (op::l)=J l+1:=rfl;obtain⟨ad,rfl⟩:=h.some_ (by rw[hlen];omega);have hz5:cB op=0\/cB op=1\/cB op=2\/cB op=5:=iR op;have HS:=yK op;have hn0:0<=cB op:=by omega
  obtain⟨z0,hz0⟩:∃z:Nat,cB op=z:=aj hn0;have E0:=qJ (op:=op) l;have E1:=pi (op:=op) (l:=l);have E2:=λz h1 h2=>mQ (op:=op) (l:=l) (z:=z) h1 h2
  rw[hz0]at hz5 HS E0 E1 E2;have hz6:z0<=5:=by omega
  refine UV func196 ntmps196 ?_;refine An ?_;refine ZN λb2=>?_;refine Wq309 ?_;refine wo ?_;refine ZA ?_;refine ZN λb5=>?_
  refine jb ?_;refine UZ (λw hi=>HS w) ?_;refine fR ?_;refine ZW ?_ ?_<;>intro hc5
  .rw[E0 (hH hc5)];refine UN ?_;refine ZM ?_;refine US ?_;refine w5 ?_;exact⟨⟨12,I,I⟩,I⟩
  have hz1:1<=z0:=(by have:=ne_of_beq_false hc5;omega);refine Wc ?_ ?_<;>intro hc7
  .simp only[ai]at hc7;rw[E1 (by rw[hlen]at hc7;omega)];refine UN ?_;refine ZM ?_;refine US ?_;refine w5 ?_;exact⟨⟨10,I,I⟩,I⟩
  simp only[aa]at hc7;obtain⟨z,rfl⟩:∃z,z0=z+1:=⟨z0 - 1,by omega⟩;have hzl:z<=J l:=(by rw[hlen]at hc7;omega);rw[E2 z rfl hzl];have htl:J (l.take z)=z:=I0;have hrng:∀k,0<=sX ((l.take z).drop k)/\sX ((l.take z).drop k)<((256^(z - k):Nat):Int):=λk=>(by have h1:=tW (l:=(l.take z).drop k) (λx hx=>hl x (aM (bE hx)));rwa[List.length_drop,htl]at h1)
  obtain⟨N,hN⟩:∃N:Nat->Int,(λk=>sX ((l.take z).drop k))=N:=⟨_,I⟩;have hN0:N 0=sX (l.take z):=(by rw[<-hN];rfl);have hNz:N z=0:=(by rw[<-hN];show sX ((l.take z).drop z)=0;rw[List.drop_of_length_le O];rfl);have hNs:∀k x,k<z->l[k]? =some x->N k=x+256*N (k+1):=(λk x h1 h2=>by rw[<-hN];exact LC h1 h2);have hNr:∀k,0<=N k/\N k<((256^(z - k):Nat):Int):=(λk=>by rw[<-hN];exact hrng k);rw[<-hN0];refine UU ?_;refine gE ([row b2 [.i 0,.w 0] 51,row b5 [.i op,.w 0] 51]) Zj ?_;rw[show row b5 [Value.i op,Value.w 0] 51=row b5 [Value.i op,Value.w (N z)] 51 from by rw[hNz]];refine ZA ?_;refine Zy (ez (Zv I) (Zv I) (show _=(z:Int)from by rw[aQ _ ⟨by omega,by omega⟩];omega)) ?_;refine UK ?_;refine Vs (λk:Nat=>[(0,.slice (some ad) (J (op::l)) c),(2,.p b2),(5,.p b5),(6,.i ((z+1:Nat):Int)),(7,.i (k:Int))]) (λk=>[row b2 [.i 0,.w 0] 51,row b5 [.i op,.w (N k)] 51]) (λk=>k<=z) (λk=>k) (z) (aK _) ?_;rintro k hk;refine VJ ?_ ?_<;>intro hc10
  .simp only[ai]at hc10;obtain⟨k,rfl⟩:∃m,k=m+1:=⟨k - 1,by omega⟩;have hx:l[k]? =some (l[k]'(by omega)):=ak O;have hxb:=hl _ (List.getElem_mem (show k<J l by omega));obtain⟨x,hxx⟩:=Do (l[k]'(by omega));rw[hxx]at hx hxb;have hst:=hNs k x O hx;have hr:=hNr (k+1);have hp:(256^(z - (k+1)):Nat)<=256^3:=Nat.pow_le_pow_right ne O;have hp2:((256^(z - (k+1)):Nat):Int)<=16777216:=(by have e:(256^3:Nat)=16777216:=ne;omega);have hor:=shl8_or hr.1 O hxb;refine UK ?_;refine bQ (Vg [10]) Zk (UE 0 1 ?_);refine ZG 1 ?_;refine UY 2 I (pq (Zv I) (Zv I) O I) ?_;refine ZE 3 ?_;refine ZE 4 ?_;refine UY 5 I (cZ (j:=k+1) I ir (Zv I) (Zv I) UL UL) ?_;refine Vn 6 I (bO ir py) (dK h (cw (l:=op::l) (j:=k+1) hx)) ?_;refine UY 7 I (cz I I (Zv I) Ns) ?_;refine UY 8 I (yp (Zv I) (Zv I) (show _=N k from by rw[hst];exact hor)) ?_;refine UE 9 1 ?_;refine cP 10 Zk (iT ?_);refine UK ?_;refine Zy (ez (Zv I) (Zv I) (show _=(k:Int)from by rw[aQ _ ⟨by omega,by omega⟩];omega)) ?_;refine An ?_;refine VM (k) ⟨show k<=z by omega,show k<k+1 by omega⟩
  simp only[aa]at hc10;obtain rfl:k=0:=O;refine U8 ?_;refine rY ?_;refine w5 ?_;exact⟨⟨0,I,I⟩,I⟩
variable{M:UO}{p:Nat}
theorem F0(bu bb:Nat)(L:fF)(M:UO)(p:Nat)(hp:p<=4294967295)(w:World)(hu:(JH bu L.bm bb).ok w)(h:(fM L M).ok w):
  CW prog 148 [.p bu,.w (p:Int)] w (.tuple #[.agg (insV (dL L.n M p)).toArray,.i (insN (dL L.n M p):Int),.bool (dL L.n M p).isSome]):=by
 obtain⟨n1,n64,hdl,hdb,htl⟩:=mY h;have hq:V9 .u32 ((p:Int).tdiv 64)=((p/64:Nat):Int):=by rw[bl O,u32_wrap_id _ O O];omega
 have hrm:(p:Int).tmod 64=((p%64:Nat):Int):=by rw[aq O];omega
 by_cases hpn:p/64<L.n
 .have HP:=yT L M (p/64) hpn;rw[xV hpn];have hXl:J ((M.data.drop (p/64*64)).take 64)=64:=by rw[aO,List.length_drop];omega
  have hXb:Vh ((M.data.drop (p/64*64)).take 64):=λx hx=>hdb x (bE (aM hx))
  obtain⟨X,hX⟩:=Do ((M.data.drop (p/64*64)).take 64);rw[hX]at HP hXl hXb|-;have hbl:J (X.drop (p%64))=64 - p%64:=by rw[List.length_drop,hXl]
  have HD:=λA c w h=>Co A c (X.drop (p%64)) (λx hx=>hXb x (bE hx)) w h
  rw[hbl]at HD;obtain⟨o,ho⟩:=Do (dI (X.drop (p%64)));rw[ho]at HD|-;refine UV func148 ntmps148 ?_;refine An ?_;refine ZN λb4=>?_;refine gP ?_;refine Wq489 ?_;refine Vl (λw hi=>HP w (bJ.old h hi)) ?_;rintro _ _ ⟨bq,rfl,rfl⟩;refine r7 ?_;refine UU ?_;refine Zy (fG (Zv I) (Zv I) O hrm) ?_;refine Zy (lb (sz:=1) (lo:=p%64) (hi:=64) (r:=p%64) I ir (Zv I) (.inr ⟨_,_,I,(Zv I)⟩) (.inl ⟨I,I⟩) O O O O) ?_;refine Vl (λw hi=>HD (some ⟨bq,p%64,none⟩) (64 - p%64) w (cut64 (hi.rd (UJ (sl .u8 5 (sA bq) 64 64 X))) O hXl)) ?_;rintro _ _ ⟨⟨y,rfl,hy⟩,rfl⟩;refine UK ?_;refine ZN λb9=>?_
  refine ZM ?_;refine U8 ?_;refine Zy (ly (Zv I) (Zv I) hy) ?_;refine rY ?_;refine w5 ?_;exact fx
 have HP:=Hc L M (p/64) O;rw[xU O];refine UV func148 ntmps148 ?_;refine An ?_;refine ZN λb4=>?_;refine gP ?_;refine Wq489 ?_;refine UZ (λw hi=>HP w (bJ.old h hi)) ?_;refine kF ?_;refine iS ?_;refine UN ?_;refine jb ?_;refine w5 ?_;exact fx
theorem De(n:Nat)(U:UI)(s:Sp)(va k:Nat)(kind:Int):(S4 n U s va k kind).1.2.SU=0->(S4 n U s va k kind).1.2=Tr.none:=by
 have h1:=gM n U s va kind;have h2:=gM n (SR n U s va kind).2 s (cU va) kind;have hE:∀a b t V,(t.SU=0->t=Tr.none)->(dr a b va k t V).1.2.SU=0->(dr a b va k t V).1.2=Tr.none:=λa b t V ht=>by
  unfold dr;refine bL (λq:(List Int×Tr)×UI=>q.1.2.SU=0->q.1.2=Tr.none) (λe=>by cases e) ?_;exact bL (λq:(List Int×Tr)×UI=>q.1.2.SU=0->q.1.2=Tr.none) (λe=>by cases e) ht
 unfold S4 yG;refine bL (λq:(List Int×Tr)×UI=>q.1.2.SU=0->q.1.2=Tr.none) h1 ?_;refine bL (λq:(List Int×Tr)×UI=>q.1.2.SU=0->q.1.2=Tr.none) ?_ (hE _ _ _ _ h1);unfold yF;exact bL (λq:(List Int×Tr)×UI=>q.1.2.SU=0->q.1.2=Tr.none) h2 (hE _ _ _ _ h2)
theorem Bk(br:Nat)(X:dz)(R:UG)(K:gi)(bx n:Nat)(U:UI)(b bd:Nat)(Z:dJ)(d:UF)(hM:Vc n U.m)(hT:J U.t=16)(hd:d.wf)(pc nn:Int)(l:Li)(va:Nat)(hva:va<=4294967295)(hl:J l<=100000)(hroot:u32 R.s.root)(hdv:R.device=false)(hcn:R.count=R.s.count)
  (Ad Ar:Oa) (cd cr:Nat) (w:World) (hi:Inv w (bM (Vv br X (R.wd (l++[(va:Int)])).s false K bx n U b bd Z d)) (Vv br X (R.wd (l++[(va:Int)])).s false K bx n U b bd Z d) w)
  (h:∀w',dc (bM (Vv br X (R.wd (l++[(va:Int)])).s false K bx n U b bd Z d)) w w'->iL w' ((R.wd (l++[(va:Int)])).s.wpc pc) Ad Ar cd cr):
  UW prog 215 [sv ((R.wd (l++[(va:Int)])).s.wpc pc) Ad cd Ar cr,.agg #[.i 48,.w nn],.p bx,.p b,.p br] w (Vv br X (R.wd (l++[(va:Int)])).s false K bx n U b bd Z d)
   (Ji br K bx n b bd (eP n (R.wd l) U d va)):=by
 have hlen:J (l++[(va:Int)])=J l+1:=by simp
 have hdl:((R.wd (l++[(va:Int)])).s.wpc pc).d.length=J l+1:=hlen;obtain⟨ad,rfl⟩:=(h w (dc.refl _ _)).d.some_ (by rw[hdl];omega);have HW:=Bf br X R K bx n U b bd Z d hM hT hd pc nn l va hva hl hroot hdv hcn (some ad) Ar cd cr;refine QU ?_;refine ZO λb5=>?_;refine ZO λb6=>?_
 refine jS ?_;refine UQ ?_;refine SK ?_;refine RD ?_;refine r7 ?_;refine jS ?_;refine lN ?_;refine nW ?_;refine iS ?_;refine US ?_;refine dH (Vv br X (R.wd (l++[(va:Int)])).s false K bx n U b bd Z d) (λw hi hin=>HW w hin (λw' hk=>h w' (oI hi.To hk))) ?_;rintro _ _ ⟨X',x',Z',rfl,rfl,hz⟩;refine Va ?_;refine bK (Vv br X' x' (eP n (R.wd l) U d va).r.device K bx n (eP n (R.wd l) U d va).u b bd Z' (eP n (R.wd l) U d va).d) Zj (Xo ?_);exact⟨X',x',Z',I,I,hz⟩
theorem sw(br:Nat)(X:dz)(R:UG)(K:gi)(bx n:Nat)(U:UI)(b bd:Nat)(Z:dJ)(d:UF)(hM:Vc n U.m)(hT:J U.t=16)(op:Int)(k:Nat)(hop:(op=51/\k=4)\/(op=53/\k=1))(pc nn:Int)(l:Li)(v:Int)(va:Nat)(hva:va<=4294967295)(hl:J l<=100000)(hroot:u32 R.s.root)(hdv:R.device=false)
  (Ad Ar:Oa) (cd cr:Nat) (w:World) (hi:Inv w (bM (Vv br X (R.wd ((l++[v])++[(va:Int)])).s false K bx n U b bd Z d)) (Vv br X (R.wd ((l++[v])++[(va:Int)])).s false K bx n U b bd Z d) w)
  (h:∀w',dc (bM (Vv br X (R.wd ((l++[v])++[(va:Int)])).s false K bx n U b bd Z d)) w w'->iL w' ((R.wd ((l++[v])++[(va:Int)])).s.wpc pc) Ad Ar cd cr):
  UW prog 215 [sv ((R.wd ((l++[v])++[(va:Int)])).s.wpc pc) Ad cd Ar cr,.agg #[.i op,.w nn],.p bx,.p b,.p br] w (Vv br X (R.wd ((l++[v])++[(va:Int)])).s false K bx n U b bd Z d)
   (Ji br K bx n b bd (eu.of (jX n (R.wd l) U va k v) d)):=by
 have hk:1<=k/\k<=4:=by omega
 obtain⟨rt,hrt⟩:∃m:Nat,R.s.root=m:=aj hroot.1;have hrt2:(rt:Int)<=4294967295:=by rw[<-hrt];exact hroot.2
 have hlen:J ((l++[v])++[(va:Int)])=J l+2:=by simp
 have hdl:((R.wd ((l++[v])++[(va:Int)])).s.wpc pc).d.length=J l+2:=hlen;have hdl2:(R.wd ((l++[v])++[(va:Int)])).s.d.length=J l+2:=hlen;have hdl3:(⟨R.s.pc,(l++[v])++[(va:Int)],R.s.r,R.s.flags,R.s.SQ,R.s.S1,R.s.ie,R.s.root,R.s.vec,R.s.epc,R.s.SU,R.s.addr,R.s.S6,R.s.eie,R.s.count,R.s.halted⟩:St).d.length=J l+2:=hlen;obtain⟨ad,rfl⟩:=(h w (dc.refl _ _)).d.some_ (by rw[hdl];omega);have hsp:(R.wd l).sp=⟨R.s.S1,R.s.SQ,rt⟩:=by unfold UG.sp;exact Q0
 have HL:=Dq K bx n U hM hT R.s.S1 R.s.SQ rt va k v O hva hk.1 hk.2;have hsm:jX n (R.wd l) U va k v=((R.wd l).wt (jo n U ⟨R.s.S1,R.s.SQ,rt⟩ va k v).1,(jo n U ⟨R.s.S1,R.s.SQ,rt⟩ va k v).2):=by unfold jX;rw[hsp]
 obtain⟨⟨tr,U'⟩,hq⟩:=Do (jo n U ⟨R.s.S1,R.s.SQ,rt⟩ va k v);rw[hq]at HL hsm;rw[<-hrt]at HL;unfold Ji;rw[hsm];dsimp only at HL;refine QU ?_;refine ZO λb5=>?_;refine ZO λb6=>?_
 refine Wq133 ?_;refine dZ (bO ir py) (jC (λw' hk=>(h w' hk).d) (cw (lW l v (va:Int)))) I (r7 ?_);refine US ?_;refine cj (λ_:Unit=>[(2,.p bx),(5,.p b5),(6,.p b6),(12,.p br),(13,.i ((R.wd ((l++[v])++[(va:Int)])).s.wpc pc).d.length),(14,.w (va:Int)),(15,.i (k:Int))]) (λ_=>Vv br X (R.wd ((l++[v])++[(va:Int)])).s false K bx n U b bd Z d++[row b5 (((R.wd ((l++[v])++[(va:Int)])).s.wpc pc).cells (.slice (some ad) ((R.wd ((l++[v])++[(va:Int)])).s.wpc pc).d.length cd) (.slice Ar (J R.s.r) cr)) 36,row b6 [.i op,.w nn] 51]) (λ_=>True) ?_ ?_
 .refine fR ?_;refine ZW ?_ ?_<;>intro hc7
  .exact Wx52_
  exact Wx60_
 rintro - -;refine mv ?_;refine cK I Q6 (nW ?_);refine cK I Q6 (An ?_);refine cj (λb18:Nat=>[(12,.p br),(13,.i ((R.wd ((l++[v])++[(va:Int)])).s.wpc pc).d.length),(18,.p b18)]) (λb18=>Vv br X (R.wd ((l++[v])++[(va:Int)])).s false K bx n U' b bd Z d++[Ww b18 tr]) (λ_=>True) ?_ ?_
 .refine bQ (WM [15,17] (m5 b5 (((R.wd ((l++[v])++[(va:Int)])).s.wpc pc).cells (.slice (some ad) ((R.wd ((l++[v])++[(va:Int)])).s.wpc pc).d.length cd) (.slice Ar (J R.s.r) cr)))) Zk (ZE 0 ?_);refine UE 1 5 ?_;refine eY 2 I Zk Zk Zk (bO ir (Zv I)) RK (bP Zh) I (UE 3 4 ?_);refine eY 4 I Zk Zk Zk (bO ir (Zv I)) RK (bP Zh) I (UE 5 7 ?_);refine eY 6 I Zk Zk Zk (bO ir (Zv I)) RK (bP Zh) I (ZE 7 ?_);refine UE 8 1 ?_;refine eY 9 I Zk Zk Zk (bO ir (Zv I)) RK (bP Zh) I (Wq429 ?_);refine UY 12 I (cZ (j:=J l) I ir (Zv I) (Zv I) UL UL) ?_;refine Vn 13 I (bO ir py) (jC (λw' hk=>(h w' hk).d) (cw (lX l v (va:Int)))) ?_;refine ZE 14 ?_;refine pS 15 16 Zk ?_ ?_
  .refine Wq451 ?_;refine Vz ?_;refine cP 16 Zk (jm I I (uI ir I) (λ_=>by rintro _ _ ⟨b18,rfl,rfl⟩;exact bP Zh) I ?_);rintro _ _ ⟨b18,rfl,rfl⟩;refine Wq474 ?_;refine UR ?_;refine fh ?_;refine Vd (b18) gh
  refine jm I I (uI ir I) (λ_=>by rintro _ _ ⟨b18,rfl,rfl⟩;exact bP Zh) I ?_;rintro _ _ ⟨b18,rfl,rfl⟩;refine cP 15 Zk (Wq451 ?_);refine Vz ?_;refine Wq474 ?_;refine UR ?_;refine fh ?_;refine Vd (b18) gh
 rintro b18 -;obtain⟨XA,Xc,XB,Xd⟩:=X;refine eC (λw hi=>dA (hi.get (UJ (Vf (R.wd ((l++[v])++[(va:Int)])).s XA Xc))) (show 0<J ((l++[v])++[(va:Int)]) by omega)) (λhA=>?_);obtain⟨bd2,rfl⟩:=hA;refine eC (λw hi=>(eO (hi.get (UJ (Vf (R.wd ((l++[v])++[(va:Int)])).s (sA bd2) Xc)))).cap) (λhcap=>?_);have hcap:J ((l++[v])++[(va:Int)])<=Xc:=hcap;have hcap2:J ((l++[v])++[(va:Int)])<=(dz.mk (some ⟨bd2,0,none⟩) Xc XB Xd).cd:=hcap;refine Va ?_;refine SK ?_;refine SJ ?_;refine UN ?_;refine jf ?_;refine Q3 ?_;refine pk ?_;refine iA (c:=Vf (R.wd ((l++[v])++[(va:Int)])).s (sA bd2) Xc) (c':=Vf (R.wd l).s (sA bd2) Xc) Za I (λw h=>mV (mV h)) (Xo ?_);refine⟨⟨some ⟨bd2,0,none⟩,Xc,XB,Xd⟩,(R.wd l).s,Z,I,?_,λ_=>I⟩;show _=Vv br ⟨some ⟨bd2,0,none⟩,Xc,XB,Xd⟩ (R.wd l).s R.device K bx n U' b bd Z d;rw[hdv]
 rfl
variable{nn:Int}
variable{R:UG}{U:UI}{d:UF}
theorem KC(h:16<=op/\op<=25)(nn:Int)(R:UG)(l:Li)(x y:Int):bW op nn (R.wd ((l++[x])++[y]))=(true,bif op !=25 then((bif(hI op x y).2.2 then R.wd l else(R.wd l).wt ⟨5,0⟩).wfl (hI op x y).2.1).push [(hI op x y).1]else(bif(hI op x y).2.2 then R.wd l else(R.wd l).wt ⟨5,0⟩).wfl (hI op x y).2.1):=by
 have ha:(decide (16<=op)&&decide (op<=25))=true:=by rw[ap h.1,ap h.2];rfl
 simp only[bW,ha,ah,UG.top_wd,UG.pop_wd]
section
variable{n:Nat}{op nn:Int}{R:UG}{U:UI}{d:UF}{c:Int}
theorem KA:bW op nn (R.wc c)=((bW op nn R).1,(bW op nn R).2.wc c):=by
 have key:∀b (x y x' y':Bool×UG),x=(x'.1,x'.2.wc c)->y=(y'.1,y'.2.wc c)->(bif b then x else y)=((bif b then x' else y').1,(bif b then x' else y').2.wc c):=λb x y x' y' h1 h2=>by cases b<;>assumption
 unfold bW;refine key _ _ _ _ _ ?_ ?_
 .show(true,bif op !=25 then((bif(hI op R.pop.top R.top).2.2 then(R.pop.pop).wc c else((R.pop.pop).wt ⟨5,0⟩).wc c).wfl (hI op R.pop.top R.top).2.1).push [(hI op R.pop.top R.top).1]else(bif(hI op R.pop.top R.top).2.2 then(R.pop.pop).wc c else((R.pop.pop).wt ⟨5,0⟩).wc c).wfl (hI op R.pop.top R.top).2.1)=_;cases(hI op R.pop.top R.top).2.2<;>cases(op !=25)<;>rfl
 refine SM ?_;show((df op R.s.flags).2,bif(df op R.s.flags).1 then(R.wc c).wpc (gq R nn)else R.wc c)=_;cases(df op R.s.flags).1<;>rfl
theorem stow_wc(va v:Nat):eZ n (R.wc c) U d va v=(eZ n R U d va v).wc c:=by
 unfold eZ;rw[EP];obtain⟨⟨p,ok,r,u⟩,hq⟩:=Do (cu n R U va 3);rw[hq];cases hok:ok with
 |false=>rfl
 |true=>
  refine Es ?_;cases r.device with
  |false=>rfl
  |true=>cases(bU n u.m d (je p.toNat) v).1<;>rfl
end
section
variable{n:Nat}{U:UI}{d:UF}
theorem Vc.puts{M:UO}(h:Vc n M){l:Li}(hl:∀x,x∈l->0<=x/\x<((n*64:Nat):Int))(v:Int):∀k,k<=J l->Vc n (Tl M l v k)
 |0,_=>h
 |k+1,hk=>by
  have h1:=hl (l[k]'(by omega)) (List.getElem_mem _);have e:l.getD k 0=l[k]'(by omega):=by rw[aS,ak O];rfl
  rw[Tl];exact(Vc.puts h hl v k O).put (by rw[e];omega) (kG v k)
theorem Vc.dev(h:Vc n M)(hd:d.wf)(k:Int)(v:Nat):Vc n (bU n M d k v).2.1:=by
 have hD:Vc n (dp n M d v).1:=by
  show Vc n (dP n M d.S8 d.SS d.place v).2.1;unfold dP;cases hk:iI n d.SS d.place with
  |false=>exact h
  |true=>
   have hf:d.SS<16/\d.place%64=0/\d.place<n*64:=by
    have h2:=hk;unfold iI at h2;simp only[Bool.not_eq_true',aZ,aa,bne_eq_false_iff_eq]at h2;omega
   refine Es ?_;refine bL (λq:Bool×UO×List Int=>Vc n q.2.1) (h.fill (λx hx=>hd.TP x (bE (aM hx))) 64 O) ?_;exact bL (λq:Bool×UO×List Int=>Vc n q.2.1) h h
 unfold bU;refine Wq90 ?_;refine Wq90 ?_;refine bL (λq:Bool×UO×UF=>Vc n q.2.1) hD ?_;refine Wq90 ?_;exact bL (λq:Bool×UO×UF=>Vc n q.2.1) h h
theorem Vc.whole(h:Vc n U.m)(R:UG)(va:Nat)(kind:Int):Vc n (cu n R U va kind).u.m:=by
 unfold cu;exact bL (λW:NR=>Vc n W.u.m) h (h.SR R.sp va kind (h.walk _ _ _ _))
theorem Vc.lode(h:Vc n U.m)(R:UG)(va:Nat):Vc n (eP n R U d va).u.m:=by
 have hu:=h.whole R va 2;unfold eP;refine bL (λm:eu=>Vc n m.u.m) hu ?_;exact bL (λm:eu=>Vc n m.u.m) hu hu
end
end
end Go.Ink
namespace Go.Ink
open List renaming length→J
open IntKind renaming wrap→V9
open Go.RowKit Go.Proofs.Tryz
variable{x:Nat}
variable{m:Int}
variable{n:Nat}{s:St}{U:UI}{d:UF}
variable{s1:St}{d1:UF}
variable{k:Nat}
section
attribute [local irreducible] Ve bN
theorem Gv(bu bb:Nat)(L:fF)(D:qV)(Y:dJ)(s:St)(hwf:s.wf)(Ad Ar:Oa)(cd cr:Nat)(U:UI)(hT:J U.t=16)(d:UF)(hm:(d.tick s.count).lines)(w:World)(hi:Inv w (bM (VK bu bb L D Y U d)) (VK bu bb L D Y U d) w)
  (h:∀w',dc (bM (VK bu bb L D Y U d)) w w'->iL w' s Ad Ar cd cr) (ht:∀w',dc (bM (VK bu bb L D Y U d)) w w'->iU w'):
  UW prog 93 [sv s Ad cd Ar cr,.p bu,.p D.bs] w (VK bu bb L D Y U d)
   (λv cs=>∃X,v= .agg (qK (cI L.n s U d) X).toArray/\cs=[Vf (cI L.n s U d).s X.Ad X.cd,Vj (cI L.n s U d).s X.Ar X.cr]++VK bu bb L D Y (cI L.n s U d).u (cI L.n s U d).d):=by
 have HR:=mJ s Ad Ar cd cr;have HR2:=mJ s;cases hrh:(!s.right||s.halted)with
 |true=>
  rw[rT hrh];obtain⟨rt,hrt⟩:=Do (s.right);rw[hrt]at HR2 hrh;refine Vb func93 ntmps93 hi ?_;refine An ?_;refine ZO λb3=>?_;refine ZN λb6=>?_
  refine NH ?_;rintro _ _ ⟨_,⟨A1,c1,A2,c2,rfl,rfl⟩,rfl⟩;refine Ny ?_;refine nW ?_;refine bY I ((by rw[hrh];rfl)) (UK ?_);refine ij ?_;exact bK ([row b6 (qK ⟨s,0,false,U,d⟩ ⟨A1,c1,A2,c2⟩) 177,Vf s A1 c1,Vj s A2 c2]++VK bu bb L D Y U d) Zj (lL (cs':=([Vf s A1 c1,Vj s A2 c2]++VK bu bb L D Y U d)) (.inl I) Zu I I Zh ir ir ⟨⟨A1,c1,A2,c2⟩,I,I⟩)
 |false=>
  simp only[aZ,Bool.not_eq_false']at hrh;obtain⟨hr,hh⟩:=hrh;obtain⟨hd16,hr16,hf15⟩:=St.fits hr;obtain⟨d1,hd1⟩:=Do (d.tick s.count);obtain⟨s1,hs1⟩:=Do (told s d1);rw[rU (by rw[hr,hh];rfl) hd1 hs1];rw[hd1]at hm;obtain⟨x,hx,hx256⟩:=Nd (p:=d1.S7) hm.mask;have HN:=Ip D.bi x d1.S7 d1.mask hx hx256;have HK:=tick_ok D L.bm Y d s.count;rw[hd1]at HK;have hY:=λk h1 h2=>EU (s:=s) (d:=d1) (x:=x) (k:=k) hx h1 h2
  have hN:=JU (s:=s) (d:=d1) (x:=x) hx;have hlt:=λk (h:jJ x=some k)=>Sh h
  obtain⟨o,ho⟩:=Do (jJ x);rw[ho]at HN hY hN hlt;have hw1:s1.wf/\J s1.d<=16/\J s1.r<=16:=by
   cases hc:(o.isSome&&s.ie)with
   |true=>
    cases o with
    |none=>cases hc
    |some k=>
     exact Wq415
   |false=>rw[<-hs1,hN hc];exact⟨hwf,hd16,hr16⟩
  obtain⟨hwf1,hs16,hq16⟩:=hw1;refine Vb func93 ntmps93 hi ?_;refine An ?_;refine ZO λb3=>?_;refine ZN λb6=>?_
  refine NH ?_;rintro _ _ ⟨_,⟨A1,c1,A2,c2,rfl,rfl⟩,rfl⟩;refine Ny ?_;refine nW ?_;refine cK I ((by rw[hr,hh];rfl)) (US ?_);refine Vq (my D L.bm Y d) (λw hi hin=>HK w hin) ?_;refine An ?_;refine cj (λX:dz=>[(1,.p bu),(3,.p b3),(6,.p b6)]) (λX=>[row b3 (s1.cells (.slice X.Ad (J s1.d) X.cd) (.slice X.Ar (J s1.r) X.cr)) 36,row b6 (qK ⟨St.zero,0,false,U,d⟩ ⟨none,0,none,0⟩) 177,Vf s1 X.Ad X.cd,Vj s1 X.Ar X.cr]++VK bu bb L D Y U d1) (λ_=>True) ?_ ?_
  .refine UU ?_;refine UZ (λw hi=>HN w (hi.get Zh) (ht w hi.To)) ?_;refine oO ?_;refine ZW ?_ ?_<;>intro hc6
   .obtain⟨k,rfl⟩:∃k,o=some k:=(by cases o with|none=>cases hc6|some k=>exact⟨k,I⟩);have hk8:=hlt k I;obtain rfl:s1=s.S3 ((16+k:Nat):Int) 0:=(by rw[<-hs1];exact hY k I hc6);refine Wq273 ?_;refine Vl (λw hi=>uy s A1 A2 c1 c2 ((16+k:Nat):Int) 0 w (hi.TX (UJ (Vf s A1 c1)) (UJ (Vj s A2 c2)) O O)) ?_;exact Wx74_
   obtain rfl:s1=s:=(by rw[<-hs1];exact hN hc6);refine Zc (Vd ((⟨A1,c1,A2,c2⟩:dz)) gh)
  rintro⟨A5,c5,A6,c6⟩ -;clear hY hN hs1;obtain⟨pc,dd,rr,fl,su,pg,ie,rt,ve,ep,ca,ad,es,ei,co,ha⟩:=s1;obtain⟨pcN,rfl⟩:∃m:Nat,pc=m:=aj hwf1.pc.1;obtain⟨rtN,rfl⟩:∃m:Nat,rt=m:=aj hwf1.root.1;have hpc2:=hwf1.pc.2;have hrt2:=hwf1.root.2;dsimp only at hpc2 hrt2 hs16 hq16;have HP:=p6 bu bb L U hT ⟨pg,su,rtN⟩ (show rtN<=4294967295 by omega) pcN O 1;have hgo:lI L.n ⟨pcN,dd,rr,fl,su,pg,ie,rtN,ve,ep,ca,ad,es,ei,co,ha⟩ U d1=(bif(SR L.n U ⟨pg,su,rtN⟩ pcN 1).1.2.SU !=0 then⟨St.S3 (St.next ⟨pcN,dd,rr,fl,su,pg,ie,rtN,ve,ep,ca,ad,es,ei,co,ha⟩) (SR L.n U ⟨pg,su,rtN⟩ pcN 1).1.2.SU (SR L.n U ⟨pg,su,rtN⟩ pcN 1).1.2.addr,0,false,(SR L.n U ⟨pg,su,rtN⟩ pcN 1).2,d1⟩else⟨⟨pcN,dd,rr,fl,su,pg,ie,rtN,ve,ep,ca,ad,es,ei,co,ha⟩,(SR L.n U ⟨pg,su,rtN⟩ pcN 1).1.1,true,(SR L.n U ⟨pg,su,rtN⟩ pcN 1).2,d1⟩):=rfl;obtain⟨⟨⟨pl,⟨tc,ta⟩⟩,U1⟩,hq⟩:=Do (SR L.n U ⟨pg,su,rtN⟩ pcN 1);rw[hq]at HP hgo;dsimp only at hgo;rw[hgo];refine fR ?_;refine Vq (uF bu bb L U) (λw hi hin=>HP w hin) ?_;refine UN ?_;refine ZN λb10=>?_
  refine ZA ?_;refine qN ?_;refine ZW ?_ ?_<;>intro hc9
  .rw[hc9,ah];refine UK ?_;refine kZ ?_;refine lx ?_;refine U8 ?_;refine Vl (λw hi=>uy (St.next ⟨pcN,dd,rr,fl,su,pg,ie,rtN,ve,ep,ca,ad,es,ei,co,ha⟩) A5 A6 c5 c6 tc ta w (hi.TX (UJ (sl .u32 32 A5 (J dd) c5 dd)) (UJ (sl .u32 32 A6 (J rr) c6 rr)) (show J dd*4<=_ by omega) (show J rr*4<=_ by omega))) ?_;rintro _ _ ⟨A7,c7,A8,c8,rfl,rfl⟩;refine ZA ?_;refine ij ?_;exact bK ([row b6 (qK ⟨St.S3 (St.next ⟨pcN,dd,rr,fl,su,pg,ie,rtN,ve,ep,ca,ad,es,ei,co,ha⟩) tc ta,0,false,U1,d1⟩ ⟨A7,c7,A8,c8⟩) 177,sl .u32 32 A7 (J dd) c7 dd,sl .u32 32 A8 (J rr) c8 rr]++VK bu bb L D Y U1 d1) Zj (lL (cs':=([sl .u32 32 A7 (J dd) c7 dd,sl .u32 32 A8 (J rr) c8 rr]++VK bu bb L D Y U1 d1)) (.inl I) Zu I I Zh ir ir ⟨⟨A7,c7,A8,c8⟩,I,I⟩)
  rw[hc9,ac];refine US ?_;refine oV ?_;exact bK ([row b6 (qK ⟨⟨pcN,dd,rr,fl,su,pg,ie,rtN,ve,ep,ca,ad,es,ei,co,ha⟩,pl,true,U1,d1⟩ ⟨A5,c5,A6,c6⟩) 177,sl .u32 32 A5 (J dd) c5 dd,sl .u32 32 A6 (J rr) c6 rr]++VK bu bb L D Y U1 d1) Zj (lL (cs':=([sl .u32 32 A5 (J dd) c5 dd,sl .u32 32 A6 (J rr) c6 rr]++VK bu bb L D Y U1 d1)) (.inl I) Zu I I Zh ir ir ⟨⟨A5,c5,A6,c6⟩,I,I⟩)
end
end Go.Ink
