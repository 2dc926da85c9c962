/- Lemmas. -/
import Derived.Test.YtepfimeihngjoaaGreatDoorYaj
import Derived.Test.YtepfimeihngjoaaGreatDoorYak
set_option linter.all false
set_option maxRecDepth 100000
set_option maxHeartbeats 4000000
namespace Go.Ink
open List renaming length→J, replicate→R9
open IntKind renaming wrap→V9
open Go.RowKit Go.Proofs.Tryz
section
attribute [local irreducible] UL bM
theorem DP(D:qK)(L:ez)(M:Uy)(X:fv)(d:Un)(hd:d.wf)(ho:J d.out<=1000000000)(a v:Nat)(count:Int):CI prog 323 [.p D.bs,.w a,.w v,.int .u64 count] (lJ D L.bm X d++[eY L M]) (λx cs=>∃X',x= .bool (bQ L.n M d (iV a) v).1/\cs=lJ D L.bm X' (bQ L.n M d (iV a) v).2.2++[eY L (bQ L.n M d (iV a) v).2.1]):=λw hi=>by
 obtain⟨k,hk⟩:=Uk (iV a);rw[hk];unfold iV at hk;refine UH func323 ntmps323 hi ?_;refine UE ?_;refine Zy (eA ne ne hk) ?_;refine VM ?_ ?_<;>intro hc3
 .refine UA ?_;refine U5 ([ri D.bi d.SU d.mask]) (λw hi hin=>Lp D.bi d.SU d.mask v w hin) ?_;refine UE ?_;refine bI (lJ D L.bm X {d with SU:=bits .andNot .u32 d.SU v}++[eY L M]) Zj (Io ?_);refine⟨X,?_,?_⟩
  .exact UR
  exact UR
 refine Ul ?_ ?_<;>intro hc5
 .refine UA ?_;refine U5 ([ri D.bi d.SU d.mask]) (λw hi hin=>uP D.bi d.SU d.mask v w hin) ?_;refine UE ?_;refine bI (lJ D L.bm X {d with mask:=bits .and .u32 v 255}++[eY L M]) Zj (Io ?_);refine⟨X,?_,?_⟩
  .exact UR
  exact UR
 refine Ul ?_ ?_<;>intro hc7
 .refine UA ?_;refine U5 ([NQ D.bti d.timer]) (λw hi hin=>Μ D.bti d.timer v w hin) ?_;refine UE ?_;refine bI (lJ D L.bm X {d with timer:=v}++[eY L M]) Zj (Io ?_);refine⟨X,?_,?_⟩
  .exact UR
  exact UR
 refine Ul ?_ ?_<;>intro hc9
 .refine UA ?_;refine mL ?_;refine dE ([yV D.bcn X.Ao (J d.out) X.co X.Ai (J d.inp) X.ci,b8 X.Ao X.co d.out]) (λw hi hin=>Mm D.bcn X.Ao X.co d.out X.Ai (J d.inp) X.ci (V9 .u8 v) ho w hin) ?_;rintro _ _ ⟨Ao',co',rfl,rfl⟩;refine UE ?_;refine bI (lJ D L.bm ⟨Ao',co',X.Ai,X.ci⟩ {d with out:=d.out++[V9 .u8 v]}++[eY L M]) Zj (Io ?_);refine⟨⟨Ao',co',X.Ai,X.ci⟩,?_,?_⟩
  .exact Xu
  exact Xu
 refine Ul ?_ ?_<;>intro hc11
 .refine Uu ?_;refine nQ ?_;refine Io ?_;refine⟨X,?_,?_⟩
  .exact UR
  exact UR
 refine Ul ?_ ?_<;>intro hc13
 .refine Uu ?_;refine nQ ?_;refine Io ?_;refine⟨X,?_,?_⟩
  .exact UR
  exact UR
 refine Ul ?_ ?_<;>intro hc15
 .refine Uu ?_;refine ZL ?_;refine Ut ?_;refine bN (UK [17]) Zk (mW ?_);refine Ld 2 3 ?_;refine sP ?_;refine Ld 6 4 ?_;refine ZG 7 ?_;refine ZE 8 ?_;refine ZE 9 ?_;refine Ld 10 5 ?_;refine ZG 11 ?_;refine rJ ?_;refine Ld 14 6 ?_;refine ZG 15 ?_;refine ZE 16 ?_;refine cQ 17 Zk (rH ([Ns D.bdr D.bdk,FO D.bdk d.SV,eY L M]) (λw hi hin=>P4 D.bdr D.bdk L M d.SV hd.SV hd.Tw d.SA d.place v hd.SA hd.place w hin) ?_);refine Uw ?_;refine sR ?_;refine ZW ?_ ?_<;>intro hc17
  .refine Ut ?_;refine ZL ?_;refine Ux ?_;refine jP ?_;rintro _ _ ⟨b86,rfl,rfl⟩;refine U5 ([ri D.bi d.SU d.mask]) (λw hi hin=>nE D.bi d.SU d.mask (sA b86) 1 [2] cE w hin (λw' hk=>hi.rdK (show B4 _ (ri D.bi d.SU d.mask) (slv 3 1 (sA b86) 1 1 [.i 2])from(by repeat (first|(refine .l _ ?_;repeat (first|exact .head _ _|apply UQ.tail))|(refine .r _ ?_;repeat (first|exact .head _ _|apply UQ.tail))|apply B4.t))) hk)) ?_;refine UE ?_;refine bI (lJ D L.bm X {d with SV:=(dL L.n M d.SV d.SA d.place v).2.2,status:=0,SU:=bits .or .u32 d.SU (kG [2])}++[eY L (dL L.n M d.SV d.SA d.place v).2.1]) Zj (Io ?_);refine⟨X,?_,?_⟩
   .exact UR
   exact UR
  refine Ux ?_;refine jP ?_;rintro _ _ ⟨b86,rfl,rfl⟩;refine U5 ([ri D.bi d.SU d.mask]) (λw hi hin=>nE D.bi d.SU d.mask (sA b86) 1 [2] cE w hin (λw' hk=>hi.rdK (show B4 _ (ri D.bi d.SU d.mask) (slv 3 1 (sA b86) 1 1 [.i 2])from(by repeat (first|(refine .l _ ?_;repeat (first|exact .head _ _|apply UQ.tail))|(refine .r _ ?_;repeat (first|exact .head _ _|apply UQ.tail))|apply B4.t))) hk)) ?_;refine UE ?_;refine bI (lJ D L.bm X {d with SV:=(dL L.n M d.SV d.SA d.place v).2.2,status:=1,SU:=bits .or .u32 d.SU (kG [2])}++[eY L (dL L.n M d.SV d.SA d.place v).2.1]) Zj (Io ?_);refine⟨X,?_,?_⟩
  .exact UR
  exact UR
 refine Vl ?_ ?_<;>intro hc20
 .refine py ?_;refine bV I (hc20) (UE ?_);refine Io ?_;refine⟨X,?_,?_⟩
  .exact UR
  exact UR
 refine Ul ?_ ?_<;>intro hc21
 .refine py ?_;refine bV I (hc21) (UE ?_);refine Io ?_;refine⟨X,?_,?_⟩
  .exact UR
  exact UR
 refine Ul ?_ ?_<;>intro hc22
 .refine py ?_;refine bV I (hc22) (UE ?_);refine Io ?_;refine⟨X,?_,?_⟩
  .exact UR
  exact UR
 refine VQ ?_ ?_<;>intro hc23
 .refine UE ?_;refine Io ?_;refine⟨X,?_,?_⟩
  .exact UR
  exact UR
 refine UG ?_;refine Io ?_;refine⟨X,?_,?_⟩
 .exact UR
 exact UR
variable{R:Um}
def bZ(n:Nat)(R:Um)(U:Uo)(va:Nat)(kind:Int):Nj:=
 bif((va%4:Nat):Int) !=0 then⟨0,false,R.wt ⟨6,va⟩,U⟩else
 ⟨(Sz n U R.sp va kind).1.1,(Sz n U R.sp va kind).1.2.SB==0,R.wdv (Sz n U R.sp va kind).1.2 ((Sz n U R.sp va kind).1.2.SB==0&&decide (32768<=(Sz n U R.sp va kind).1.1)),(Sz n U R.sp va kind).2⟩
theorem Em(br bu bb:Nat)(L:ez)(D:qK)(X:eN)(R:Um)(U:Uo)(hT:J U.t=16)(hroot:u32 R.s.root)(va:Nat)(hva:va<=4294967295)(kind:Int):CI prog 321 [.p br,.w va,.i kind] (gz (Ve br bu D) X R++uF bu bb L U) (λv cs=>v= .tuple #[.w (bZ L.n R U va kind).p,.bool (bZ L.n R U va kind).ok]/\cs=gz (Ve br bu D) X (bZ L.n R U va kind).r++uF bu bb L (bZ L.n R U va kind).u):=λw hi=>by
 have hr0:=hroot.1;have hr1:=hroot.2;have hsr:R.sp.root<=4294967295:=by show R.s.root.toNat<=_;omega
 have HP:=pR bu bb L U hT R.sp hsr va hva kind;have HS:=tZ (Ve br bu D) X R hr0;unfold bZ;obtain⟨⟨⟨p,ca,ad⟩,U'⟩,hq⟩:=Uk (Sz L.n U R.sp va kind);rw[hq]at HP|-;obtain⟨S,hS⟩:=Uk (R.sp);rw[hS]at HP HS;refine UH func321 ntmps321 hi ?_;refine gX ?_;refine YX ?_;refine Wj ?_ ?_<;>intro hc1
 .refine Ut ?_;refine U5 (gz (Ve br bu D) X R) (λw hi hin=>yQ (Ve br bu D) X R 6 va w hin) ?_;refine gX ?_;refine bI (gz (Ve br bu D) X (R.wt ⟨6,va⟩)++uF bu bb L U) Zj (vL (cs':=[row _ _ _,slv _ _ _ _ _ _,slv _ _ _ _ _ _,row _ _ _,VD _ _ _ _,row _ _ _]) (.inl I) Zu I I I ?_);rw[hc1];exact ff
 refine vY ?_;refine ZW ?_ ?_<;>intro hc4
 .exact absurd hc4 cE
 refine Ut ?_;refine bN (UK [8,14]) Zk (mW ?_);refine Ld 2 17 ?_;refine ZG 3 ?_;refine ZE 4 ?_;refine ZE 6 ?_;refine ZE 7 ?_;refine rU 5 12 Zk ?_ ?_
 .refine Ih ?_;refine Vb ?_;refine rU 8 12 Zk ?_ ?_
  .refine zb ?_;refine Vb ?_;refine qE ?_;refine cQ 12 Zk ?_;refine ZP λb9=>?_
   refine ZE 13 ?_;refine Wq113 ?_;exact Wq376
  refine ZP λb9=>?_
  exact Wx69_
 refine ZP λb9=>?_
 refine cQ 5 Zk (Ih ?_);refine Vb ?_;exact Wx69_
theorem tL(n:Nat)(R:Um)(U:Uo)(va:Nat)(kind:Int):(bZ n R U va kind).r.s=R.s:=by unfold bZ;exact bJ (λW:Nj=>W.r.s=R.s) I I
theorem zw(n:Nat)(R:Um)(U:Uo)(va:Nat)(hva:va<=4294967295)(kind:Int):u32 (bZ n R U va kind).p:=by unfold bZ;exact bJ (λW:Nj=>u32 W.p) (show u32 0 from⟨by decide,by decide⟩) (eU n U R.sp va hva kind).1
theorem Gh(n:Nat)(hn:n<=64)(R:Um)(U:Uo)(va:Nat)(hva:va<=4294967295)(kind:Int)(hk:(bZ n R U va kind).ok=true)(hd:(bZ n R U va kind).r.device=false):(bZ n R U va kind).p.toNat+4<=n*64:=by
 obtain⟨hu,hp⟩:=eU n U R.sp va hva kind;unfold bZ at hk hd|-;cases hm:(((va%4:Nat):Int) !=0)with
 |true=>rw[hm]at hk;cases hk
 |false=>
  rw[hm]at hk hd;simp only[ac]at hk hd|-;rw[hk]at hd;simp only[bz,aa]at hd;have hc:=hp (by simpa using hk);have h4:va%4=0:=by
   have:((va%4:Nat):Int)=0:=by simpa using hm
   omega
  have h1:=hc.m;have h2:=hu.1;rcases hc.r with h3|h3
  .omega
  simp only[iv,aC,ah]at h3;omega
def eI(n:Nat)(R:Um)(U:Uo)(d:Un)(va:Nat):ek:=
 bif !(bZ n R U va 2).ok then⟨(bZ n R U va 2).r,(bZ n R U va 2).u,d⟩else
 bif(bZ n R U va 2).r.device then gL (bZ n R U va 2) (cz d (iV (bZ n R U va 2).p.toNat) (bZ n R U va 2).r.count).2 va (cz d (iV (bZ n R U va 2).p.toNat) (bZ n R U va 2).r.count).1.1 (cz d (iV (bZ n R U va 2).p.toNat) (bZ n R U va 2).r.count).1.2
 else gL (bZ n R U va 2) d va (gZ n (bZ n R U va 2).u.m (bZ n R U va 2).p.toNat).1 (gZ n (bZ n R U va 2).u.m (bZ n R U va 2).p.toNat).2
def eM(n:Nat)(R:Um)(U:Uo)(d:Un)(va v:Nat):ek:=
 bif !(bZ n R U va 3).ok then⟨(bZ n R U va 3).r,(bZ n R U va 3).u,d⟩else
 bif(bZ n R U va 3).r.device then
  ⟨bif !(bQ n (bZ n R U va 3).u.m d (iV (bZ n R U va 3).p.toNat) v).1 then(bZ n R U va 3).r.wt ⟨10,va⟩else(bZ n R U va 3).r,⟨(bQ n (bZ n R U va 3).u.m d (iV (bZ n R U va 3).p.toNat) v).2.1,(bZ n R U va 3).u.t⟩,(bQ n (bZ n R U va 3).u.m d (iV (bZ n R U va 3).p.toNat) v).2.2⟩
 else⟨(bZ n R U va 3).r,⟨(bZ n R U va 3).u.m.Tm (bZ n R U va 3).p.toNat v,(bZ n R U va 3).u.t⟩,d⟩
theorem lode_ok(br bu bb:Nat)(L:ez)(D:qK)(X:eN)(Y:fv)(R:Um)(U:Uo)(d:Un)(l:Li)(va:Nat)(hva:va<=4294967295)(hl:J l<=100000)(hT:J U.t=16)(hroot:u32 R.s.root)(hd:d.wf)
  :CI prog 259 [.p br] (o3 br bu bb L D X Y ⟨R.wd (l++[(va:Int)]),U,d⟩) (λv cs=>∃X' Y',v= .tuple #[]/\cs=o3 br bu bb L D X' Y' (eI L.n (R.wd l) U d va)):=λw hi=>by
 have HW:=λX=>Em br bu bb L D X (R.wd l) U hT hroot va hva 2
 have hs:=tL L.n (R.wd l) U va 2;have hu:=zw L.n (R.wd l) U va hva 2;unfold eI;obtain⟨⟨p,ok,r,u⟩,hq⟩:=Uk (bZ L.n (R.wd l) U va 2);rw[hq]at HW hs hu|-;obtain⟨pn,rfl⟩:∃pn:Nat,p=pn:=ai hu.1;have hpn:pn<=4294967295:=by have:(pn:Int)<=_:=hu.2;omega
 have hs:r.s=(R.wd l).s:=hs;have hdl:J r.s.d<=100000:=by rw[hs];exact hl
 simp only[aP];have HB:=λX=>Ia D L.bm X d hd pn r.count
 obtain⟨⟨⟨v,o⟩,d'⟩,hq2⟩:=Uk (cz d (iV pn) r.count);rw[hq2]at HB|-;have HM:=tm L u.m pn hpn;rw[Ei]at HM;obtain⟨⟨v2,o2⟩,hq3⟩:=Uk (gZ L.n u.m pn);rw[hq3]at HM|-;refine UH func259 ntmps259 hi ?_;refine Rh ?_;refine Ux ?_;refine U5 (gz (Ve br bu D) X (R.wd l)++uF bu bb L U) (λw hi hin=>HW X w hin) ?_;refine tH ?_ ?_<;>intro hc2
 .refine py ?_;refine bI (o3 br bu bb L D X Y ⟨r,u,d⟩) Zj (Wq339 ?_);rw[hc2];exact⟨X,Y,I,I⟩
 refine mU ?_;refine ZW ?_ ?_<;>intro hc4
 .refine bN (UK [9]) Zk (mW ?_);refine Ld 2 18 ?_;refine sP ?_;refine ZE 6 ?_;refine Ld 7 16 ?_;refine ZG 8 ?_;refine kO ?_;refine rH (lJ D L.bm Y d) (λw hi hin=>HB Y w hin) ?_;rintro _ _ ⟨Y',rfl,rfl⟩;refine ZE 10 ?_;refine ZE 11 ?_;refine rJ ?_;refine ZE 14 ?_;refine fe ?_;refine V1 ?_ ?_<;>intro hc7
  .refine Q8 ?_;refine Uu ?_;refine jP ?_;rintro _ _ ⟨b50,rfl,rfl⟩;refine dE (gz (Ve br bu D) X (r.wt ⟨10,va⟩)) (λw hi hin=>jd (Ve br bu D) X (r.wt ⟨10,va⟩) _ 1 1 [v] (show J r.s.d+1<=1000000 by omega) w hin (λw' hk=>hi.TC Zi Zh hk)) ?_;rintro _ _ ⟨A',c',rfl,rfl⟩;refine Zn (bI (o3 br bu bb L D ⟨A',c',X.Ar,X.cr⟩ Y' ⟨(r.wt ⟨10,va⟩).wd (r.s.d++[v]),u,d'⟩) Zj ?_);refine WU ?_;rw[lC hc2,sM hc4,gL,sM hc7];exact⟨⟨A',c',X.Ar,X.cr⟩,Y',I,I⟩
  refine Uu ?_;refine jP ?_;rintro _ _ ⟨b50,rfl,rfl⟩;refine dE (gz (Ve br bu D) X r) (λw hi hin=>jd (Ve br bu D) X r _ 1 1 [v] (show J r.s.d+1<=1000000 by omega) w hin (λw' hk=>hi.TC Zi Zh hk)) ?_;rintro _ _ ⟨A',c',rfl,rfl⟩;refine Zn (bI (o3 br bu bb L D ⟨A',c',X.Ar,X.cr⟩ Y' ⟨r.wd (r.s.d++[v]),u,d'⟩) Zj ?_);refine WU ?_;rw[lC hc2,sM hc4,gL,lC hc7];exact⟨⟨A',c',X.Ar,X.cr⟩,Y',I,I⟩
 refine Uu ?_;refine M5 ?_;refine ZA ?_;refine UD (λw hi=>HM w (hi.get Zh)) ?_;refine tH ?_ ?_<;>intro hc7
 .refine Q8 ?_;refine Uu ?_;refine jP ?_;rintro _ _ ⟨b50,rfl,rfl⟩;refine dE (gz (Ve br bu D) X (r.wt ⟨10,va⟩)) (λw hi hin=>jd (Ve br bu D) X (r.wt ⟨10,va⟩) _ 1 1 [v2] (show J r.s.d+1<=1000000 by omega) w hin (λw' hk=>hi.TC Zi Zh hk)) ?_;rintro _ _ ⟨A',c',rfl,rfl⟩;refine Zn (bI (o3 br bu bb L D ⟨A',c',X.Ar,X.cr⟩ Y ⟨(r.wt ⟨10,va⟩).wd (r.s.d++[v2]),u,d⟩) Zj ?_);refine WU ?_;rw[lC hc2,lC hc4,gL,sM hc7];exact⟨⟨A',c',X.Ar,X.cr⟩,Y,I,I⟩
 refine Uu ?_;refine jP ?_;rintro _ _ ⟨b50,rfl,rfl⟩;refine dE (gz (Ve br bu D) X r) (λw hi hin=>jd (Ve br bu D) X r _ 1 1 [v2] (show J r.s.d+1<=1000000 by omega) w hin (λw' hk=>hi.TC Zi Zh hk)) ?_;rintro _ _ ⟨A',c',rfl,rfl⟩;refine Zn (bI (o3 br bu bb L D ⟨A',c',X.Ar,X.cr⟩ Y ⟨r.wd (r.s.d++[v2]),u,d⟩) Zj ?_);refine WU ?_;rw[lC hc2,lC hc4,gL,lC hc7];exact⟨⟨A',c',X.Ar,X.cr⟩,Y,I,I⟩
theorem Ω(br bu bb:Nat)(L:ez)(D:qK)(X:eN)(Y:fv)(R:Um)(U:Uo)(d:Un)(l:Li)(va v:Nat)(hva:va<=4294967295)(hv:v<=4294967295)(hT:J U.t=16)(hroot:u32 R.s.root)(hd:d.wf)(ho:J d.out<=1000000000)
  :CI prog 260 [.p br] (o3 br bu bb L D X Y ⟨R.wd ((l++[(v:Int)])++[(va:Int)]),U,d⟩) (λx cs=>∃Y',x= .tuple #[]/\cs=o3 br bu bb L D X Y' (eM L.n (R.wd l) U d va v)):=λw hi=>by
 have HW:=Em br bu bb L D X (R.wd l) U hT hroot va hva 3;have hu:=zw L.n (R.wd l) U va hva 3;obtain⟨n1,n64,_⟩:=mQ (hi.ok (eY L U.m) cE);have hin4:=Gh L.n n64 (R.wd l) U va hva 3;unfold eM;obtain⟨⟨p,ok,r,u⟩,hq⟩:=Uk (bZ L.n (R.wd l) U va 3);rw[hq]at HW hu hin4|-;obtain⟨pn,rfl⟩:∃pn:Nat,p=pn:=ai hu.1;have hpn:pn<=4294967295:=by have:(pn:Int)<=_:=hu.2;omega
 obtain⟨um,ut⟩:=u;simp only[aP]at hin4|-;have HB:=DP D L um Y d hd ho pn v r.count;obtain⟨⟨o,M',d'⟩,hq2⟩:=Uk (bQ L.n um d (iV pn) v);rw[hq2]at HB|-;have HM:=λh=>ug L um pn v h ⟨by omega,by omega⟩
 obtain⟨M2,hq3⟩:=Uk (um.Tm pn v);rw[hq3]at HM|-;obtain⟨tt,htt⟩:∃t:Bool,t=true:=⟨_,I⟩;rw[<-htt]at HM;refine UH func260 ntmps260 hi ?_;refine Us ?_;refine gJ (eE (gz (Ve br bu D) X (R.wd ((l++[(v:Int)])++[(va:Int)]))) I (λ_ _=>I) Zi (λw hi hin=>oT (Ve br bu D) X R (l++[(v:Int)]) va w hin)) I ?_;refine Vb ?_;refine UA ?_;refine U5 (gz (Ve br bu D) X (R.wd (l++[(v:Int)]))) (λw hi hin=>oT (Ve br bu D) X R l v w hin) ?_;refine Ux ?_;refine U5 (gz (Ve br bu D) X (R.wd l)++uF bu bb L U) (λw hi hin=>HW w hin) ?_;refine tH ?_ ?_<;>intro hc3
 .refine py ?_;refine bI (o3 br bu bb L D X Y ⟨r,⟨um,ut⟩,d⟩) Zj (Wq339 ?_);rw[hc3];exact⟨Y,I,I⟩
 have hok:ok=true:=(by simpa using hc3);refine yZ ?_ ?_<;>intro hc4
 .refine bN (UK [10]) Zk (mW ?_);refine Ld 2 18 ?_;refine sP ?_;refine ZE 6 ?_;refine ZE 7 ?_;refine Ld 8 16 ?_;refine ZG 9 ?_;refine mh ?_;refine rH (lJ D L.bm Y d++[eY L um]) (λw hi hin=>HB w hin) ?_;rintro _ _ ⟨Y',rfl,rfl⟩;refine ZE 11 ?_;refine fe ?_;refine Vl ?_ ?_<;>intro hc7
  .refine Q8 ?_;refine Zn (bI (o3 br bu bb L D X Y' ⟨r.wt ⟨10,va⟩,⟨M',ut⟩,d'⟩) Zj ?_);refine WU ?_;rw[lC hc3,sM hc4,sM hc7];exact⟨Y',I,I⟩
  refine Zc (bI (o3 br bu bb L D X Y' ⟨r,⟨M',ut⟩,d'⟩) Zj ?_);refine WU ?_;rw[lC hc3,sM hc4,lC hc7];exact⟨Y',I,I⟩
 have HM:=HM (hin4 hok hc4);refine Uu ?_;refine M5 ?_;refine py ?_;refine U5 ([eY L um]) (λw hi hin=>HM w hin) ?_;refine VM ?_ ?_<;>intro hc7
 .refine Q8 ?_;refine Zn (bI (o3 br bu bb L D X Y ⟨r.wt ⟨10,va⟩,⟨M2,ut⟩,d⟩) Zj ?_);refine WU ?_;rw[htt]at hc7;exact absurd hc7 cE
 refine Zc (bI (o3 br bu bb L D X Y ⟨r,⟨M2,ut⟩,d⟩) Zj ?_);refine WU ?_;rw[lC hc3,lC hc4];exact⟨Y,I,I⟩
def j0(n:Nat)(R:Um)(U:Uo)(va k:Nat):Um×Uo:=((R.wt (iN n U R.sp va k).1.2).push [(iN n U R.sp va k).1.1],(iN n U R.sp va k).2)
def jJ(n:Nat)(R:Um)(U:Uo)(va k:Nat)(v:Int):Um×Uo:=(R.wt (ja n U R.sp va k v).1,(ja n U R.sp va k v).2)
theorem EA(br bu bb:Nat)(L:ez)(D:qK)(X:eN)(R:Um)(U:Uo)(l:Li)(va k:Nat)(hva:va<=4294967295)(hk1:1<=k)(hk4:k<=4)(hl:J l<=100000)(hT:J U.t=16)(hroot:u32 R.s.root)
  :CI prog 261 [.p br,.i k,.bool false] (gz (Ve br bu D) X (R.wd (l++[(va:Int)]))++uF bu bb L U) (λx cs=>∃X',x= .tuple #[]/\cs=gz (Ve br bu D) X' (j0 L.n (R.wd l) U va k).1++uF bu bb L (j0 L.n (R.wd l) U va k).2):=λw hi=>by
 have hr0:=hroot.1;have hr1:=hroot.2;have hsr:(R.wd l).sp.root<=4294967295:=by show R.s.root.toNat<=_;omega
 have HP:=NL bu bb L U hT (R.wd l).sp hsr va k hva hk1 hk4;have HS:=tZ (Ve br bu D) X (R.wd l) hr0;unfold j0;obtain⟨⟨⟨v,ca,ad⟩,U'⟩,hq⟩:=Uk (iN L.n U (R.wd l).sp va k);rw[hq]at HP|-;obtain⟨S,hS⟩:=Uk ((R.wd l).sp);rw[hS]at HP HS;refine UH func261 ntmps261 hi ?_;refine Rh ?_;refine jF ?_;refine V2 ?_;refine ZW ?_ ?_<;>intro hc4
 .exact absurd hc4 cE
 refine Ul ?_ ?_<;>intro hc6
 .exact absurd hc6 cE
 refine Zs (bN (UK [8,14]) Zk ?_);refine mW ?_;refine Ld 2 17 ?_;refine ZG 3 ?_;refine ZE 4 ?_;refine ZE 6 ?_;refine ZE 7 ?_;refine rU 5 12 Zk ?_ ?_
 .refine Ih ?_;refine Vb ?_;refine rU 8 12 Zk ?_ ?_
  .refine zb ?_;refine Vb ?_;refine qE ?_;refine cQ 12 Zk ?_;refine ZP λb8=>?_
   exact YU
  refine ZP λb8=>?_
  refine fS ?_;refine zb ?_;refine Vb ?_;refine qE ?_;exact YU
 refine ZP λb8=>?_
 refine cQ 5 Zk (Ih ?_);refine Vb ?_;refine fS ?_;refine zb ?_;refine Vb ?_;refine qE ?_;exact YU
theorem Ez(br bu bb:Nat)(L:ez)(D:qK)(X:eN)(R:Um)(U:Uo)(l:Li)(va k:Nat)(v:Int)(hva:va<=4294967295)(hk1:1<=k)(hk4:k<=4)(hl:J l<=100000)(hT:J U.t=16)(hroot:u32 R.s.root)
  :CI prog 261 [.p br,.i k,.bool true] (gz (Ve br bu D) X (R.wd ((l++[v])++[(va:Int)]))++uF bu bb L U) (λx cs=>x= .tuple #[]/\cs=gz (Ve br bu D) X (jJ L.n (R.wd l) U va k v).1++uF bu bb L (jJ L.n (R.wd l) U va k v).2):=λw hi=>by
 have hr0:=hroot.1;have hr1:=hroot.2;have hsr:(R.wd l).sp.root<=4294967295:=by show R.s.root.toNat<=_;omega
 have HP:=I3 bu bb L U hT (R.wd l).sp hsr va k v hva hk1 hk4;have HS:=tZ (Ve br bu D) X (R.wd (l++[v])) hr0;unfold jJ;obtain⟨⟨⟨ca,ad⟩,U'⟩,hq⟩:=Uk (ja L.n U (R.wd l).sp va k v);rw[hq]at HP|-;obtain⟨S,hS⟩:=Uk ((R.wd l).sp);rw[show(R.wd (l++[v])).sp=(R.wd l).sp from I,hS]at HS;rw[hS]at HP;refine UH func261 ntmps261 hi ?_;refine Us ?_;refine U5 (gz (Ve br bu D) X (R.wd ((l++[v])++[(va:Int)]))) (λw hi hin=>oT (Ve br bu D) X R (l++[v]) va w hin) ?_;refine jF ?_;refine V2 ?_;refine ZW ?_ ?_<;>intro hc4
 .exact absurd hc4 cE
 refine Ul ?_ ?_<;>intro hc6
 .refine bN (UK [9,11,14]) Zk (y5 ?_);refine Ld 3 17 ?_;refine ZE 5 ?_;refine ZE 7 ?_;refine ZE 8 ?_;refine ZE 10 ?_;refine rU 4 6 Zk ?_ ?_
  .refine pE ?_;refine cQ 6 Zk (Ih ?_);refine Vb ?_;refine kO ?_;refine YS ?_;refine Vb ?_;exact Wx8_
  refine Ih ?_;refine Vb ?_;refine rU 4 9 Zk ?_ ?_
  .refine pE ?_;refine kO ?_;refine YS ?_;refine Vb ?_;exact Wx8_
  refine YS ?_;refine Vb ?_;refine ZG 4 ?_;exact Wx8_
 exact absurd hc6 cE
end
end Go.Ink
namespace Go.Ink
open List renaming length→J, replicate→R9
open IntKind renaming wrap→V9
open Go.RowKit Go.Proofs.Tryz
def cB(n:Nat)(op nn:Int)(m:ek):ek:=
 bif op==48 then eI n m.r.pop m.u m.d m.r.top.toNat else
 bif op==49 then eM n m.r.pop.pop m.u m.d m.r.top.toNat m.r.pop.top.toNat else
 bif op==50 then ek.of (j0 n m.r.pop m.u m.r.top.toNat 4) m.d else
 bif op==51 then ek.of (jJ n m.r.pop.pop m.u m.r.top.toNat 4 m.r.pop.top) m.d else
 bif op==52 then ek.of (j0 n m.r.pop m.u m.r.top.toNat 1) m.d else
 bif op==53 then ek.of (jJ n m.r.pop.pop m.u m.r.top.toNat 1 m.r.pop.top) m.d else
 bif op==64 then⟨m.r.wt ⟨11,0⟩,m.u,m.d⟩else
 bif op==65 then⟨m.r.ws m.r.s.back,m.u,m.d⟩else
 bif op==66 then⟨m.r.push [((m.r.s.S5 m.r.count).get nn).1],m.u,m.d⟩else
 bif op==67 then⟨m.r.pop.ws (m.r.pop.s.set nn m.r.top).1,bif nn==1||nn==2 then⟨m.u.m,dA⟩else m.u,m.d⟩else
 bif op==68 then⟨m.r.pop,⟨m.u.m,ph m.u.t m.r.top.toNat⟩,m.d⟩else
 bif op==69 then⟨m.r.ws m.r.s.halt,m.u,m.d⟩else m
section
attribute [local irreducible] UL bM
theorem JJ(br bu bb:Nat)(L:ez)(D:qK)(X:eN)(Y:fv)(R:Um)(U:Uo)(d:Un)(op nn:Int)(hnn:u32 nn)(hw:∀x,x∈R.s.d->u32 x)(hdl:J R.s.d<=100000)(hrl:J R.s.r<=100000)(hn:(bR op).1.1<=J R.s.d)(hT:J U.t=16)(hroot:u32 R.s.root)(hd:d.wf)(ho:J d.out<=1000000000)
  :CI prog 201 [.p br,.agg #[.i op,.w nn]] (o3 br bu bb L D X Y ⟨R,U,d⟩) (λv cs=>∃X' Y',v= .tuple #[]/\cs=o3 br bu bb L D X' Y' (cB L.n op nn ⟨R,U,d⟩)):=λw hi=>by
 have hu1:=hnn.1;have hu2:=hnn.2;refine UH func201 ntmps201 hi ?_;refine py ?_;refine ZO λb3=>?_;refine oQ ?_;refine ZW ?_ ?_<;>intro hc2
 .obtain rfl:=gO hc2;obtain⟨R,l,x,rfl⟩:=Um.snoc (show 1<=J R.s.d from hn);obtain⟨hx1,hx2⟩:=hw x cE;obtain⟨va,rfl⟩:∃va:Nat,x=va:=ai hx1;have hva:va<=4294967295:=O;have hll:J l<=100000:=Do;have HC:=lode_ok br bu bb L D X Y R U d l va hva hll hT hroot hd;have hst:cB L.n 48 nn ⟨R.wd (l++[(va:Int)]),U,d⟩=eI L.n (R.wd l) U d va:=(by show eI _ _ _ _ _=_;simp_all);obtain⟨m',hm'⟩:∃m',eI L.n (R.wd l) U d va=m':=⟨_,I⟩;rw[hm']at HC;rw[hm']at hst;refine py ?_;refine dE (o3 br bu bb L D X Y ⟨R.wd (l++[(va:Int)]),U,d⟩) (λw hi hin=>HC w hin) ?_;rintro _ _ ⟨X',Y',rfl,rfl⟩;refine py ?_;refine bI (o3 br bu bb L D X' Y' m') Zj (WU ?_);rw[hst];exact⟨X',Y',I,I⟩
 refine Ul ?_ ?_<;>intro hc4
 .obtain rfl:=gO hc4;obtain⟨R,l,y,x,rfl⟩:=Um.Tp (show 2<=J R.s.d from hn);obtain⟨hx1,hx2⟩:=hw x cE;obtain⟨hy1,hy2⟩:=hw y cE;obtain⟨va,rfl⟩:∃va:Nat,x=va:=ai hx1;obtain⟨v,rfl⟩:∃v:Nat,y=v:=ai hy1;have hva:va<=4294967295:=O;have hv:v<=4294967295:=O;have hll:J l<=100000:=Do;have HC:=Ω br bu bb L D X Y R U d l va v hva hv hT hroot hd ho;have hst:cB L.n 49 nn ⟨R.wd ((l++[(v:Int)])++[(va:Int)]),U,d⟩=eM L.n (R.wd l) U d va v:=(by show eM _ _ _ _ _ _=_;rw[Um.pop_wd,Um.top_wd,Um.pop_wd,Um.top_wd];rfl);obtain⟨m',hm'⟩:∃m',eM L.n (R.wd l) U d va v=m':=⟨_,I⟩;rw[hm']at HC;rw[hm']at hst;refine py ?_;refine dE (o3 br bu bb L D X Y ⟨R.wd ((l++[(v:Int)])++[(va:Int)]),U,d⟩) (λw hi hin=>HC w hin) ?_;rintro _ _ ⟨Y',rfl,rfl⟩;refine py ?_;refine bI (o3 br bu bb L D X Y' m') Zj (WU ?_);rw[hst];exact⟨X,Y',I,I⟩
 refine Ul ?_ ?_<;>intro hc6
 .obtain rfl:=gO hc6;obtain⟨R,l,x,rfl⟩:=Um.snoc (show 1<=J R.s.d from hn);obtain⟨hx1,hx2⟩:=hw x cE;obtain⟨va,rfl⟩:∃va:Nat,x=va:=ai hx1;have hva:va<=4294967295:=O;have hll:J l<=100000:=Do;have HC:=EA br bu bb L D X R U l va 4 hva An An hll hT hroot;have hst:cB L.n 50 nn ⟨R.wd (l++[(va:Int)]),U,d⟩=ek.of (j0 L.n (R.wd l) U va 4) d:=(by show ek.of (j0 _ _ _ _ _) _=_;simp_all);obtain⟨m',hm'⟩:∃m',j0 L.n (R.wd l) U va 4=m':=⟨_,I⟩;exact Wq393
 refine Ul ?_ ?_<;>intro hc8
 .obtain rfl:=gO hc8;obtain⟨R,l,y,x,rfl⟩:=Um.Tp (show 2<=J R.s.d from hn);obtain⟨hx1,hx2⟩:=hw x cE;obtain⟨hy1,hy2⟩:=hw y cE;obtain⟨va,rfl⟩:∃va:Nat,x=va:=ai hx1;obtain⟨v,rfl⟩:∃v:Nat,y=v:=ai hy1;have hva:va<=4294967295:=O;have hv:v<=4294967295:=O;have hll:J l<=100000:=Do;have HC:=Ez br bu bb L D X R U l va 4 v hva An An hll hT hroot;have hst:cB L.n 51 nn ⟨R.wd ((l++[(v:Int)])++[(va:Int)]),U,d⟩=ek.of (jJ L.n (R.wd l) U va 4 v) d:=(by show ek.of (jJ _ _ _ _ _ _) _=_;rw[Um.pop_wd,Um.top_wd,Um.pop_wd,Um.top_wd];rfl);obtain⟨m',hm'⟩:∃m',jJ L.n (R.wd l) U va 4 v=m':=⟨_,I⟩;exact Wq412
 refine Ul ?_ ?_<;>intro hc10
 .obtain rfl:=gO hc10;obtain⟨R,l,x,rfl⟩:=Um.snoc (show 1<=J R.s.d from hn);obtain⟨hx1,hx2⟩:=hw x cE;obtain⟨va,rfl⟩:∃va:Nat,x=va:=ai hx1;have hva:va<=4294967295:=O;have hll:J l<=100000:=Do;have HC:=EA br bu bb L D X R U l va 1 hva An An hll hT hroot;have hst:cB L.n 52 nn ⟨R.wd (l++[(va:Int)]),U,d⟩=ek.of (j0 L.n (R.wd l) U va 1) d:=(by show ek.of (j0 _ _ _ _ _) _=_;simp_all);obtain⟨m',hm'⟩:∃m',j0 L.n (R.wd l) U va 1=m':=⟨_,I⟩;exact Wq393
 refine Ul ?_ ?_<;>intro hc12
 .obtain rfl:=gO hc12;obtain⟨R,l,y,x,rfl⟩:=Um.Tp (show 2<=J R.s.d from hn);obtain⟨hx1,hx2⟩:=hw x cE;obtain⟨hy1,hy2⟩:=hw y cE;obtain⟨va,rfl⟩:∃va:Nat,x=va:=ai hx1;obtain⟨v,rfl⟩:∃v:Nat,y=v:=ai hy1;have hva:va<=4294967295:=O;have hv:v<=4294967295:=O;have hll:J l<=100000:=Do;have HC:=Ez br bu bb L D X R U l va 1 v hva An An hll hT hroot;have hst:cB L.n 53 nn ⟨R.wd ((l++[(v:Int)])++[(va:Int)]),U,d⟩=ek.of (jJ L.n (R.wd l) U va 1 v) d:=(by show ek.of (jJ _ _ _ _ _ _) _=_;rw[Um.pop_wd,Um.top_wd,Um.pop_wd,Um.top_wd];rfl);obtain⟨m',hm'⟩:∃m',jJ L.n (R.wd l) U va 1 v=m':=⟨_,I⟩;exact Wq412
 refine Ul ?_ ?_<;>intro hc14
 .obtain rfl:=gO hc14;refine py ?_;refine U5 (gz (Ve br bu D) X R) (λw hi hin=>yQ (Ve br bu D) X R 11 0 w hin) ?_;refine py ?_;refine bI (o3 br bu bb L D X Y ⟨R.wt ⟨11,0⟩,U,d⟩) Zj (WU ?_);exact⟨X,Y,I,I⟩
 refine Ul ?_ ?_<;>intro hc16
 .obtain rfl:=gO hc16;have hR:=JK R.s X.Ad X.Ar X.cd X.cr;refine Uu ?_;refine dW (cj (vs:=R.s.cells (.slice X.Ad (J R.s.d) X.cd) (.slice X.Ar (J R.s.r) X.cr)) ir ir ne) (cI Zh I) I (UW (λw hi=>hR w (hi.TM (Ur (UP R.s X.Ad X.cd)) (Ur (UU R.s X.Ar X.cr)) O O)) ?_);rintro _ _ ⟨A1,c1,A2,c2,rfl,rfl⟩;refine py ?_;refine et (fg (ys:=my (Ve br bu D) ⟨A1,c1,A2,c2⟩ (R.ws R.s.back)) (n:=16) (vs:=R.s.back.cells (.slice A1 (J R.s.back.d) c1) (.slice A2 (J R.s.back.r) c2)) I ir I I (ka I) Za I kP) ?_;refine Uw ?_;refine py ?_;refine bI (o3 br bu bb L D ⟨A1,c1,A2,c2⟩ Y ⟨R.ws R.s.back,U,d⟩) Zj (WU ?_);exact⟨⟨A1,c1,A2,c2⟩,Y,I,I⟩
 refine Ul ?_ ?_<;>intro hc18
 .obtain rfl:=gO hc18;have HG:=R6 (R.s.S5 R.count) (.slice X.Ad (J R.s.d) X.cd) (.slice X.Ar (J R.s.r) X.cr) nn;obtain⟨⟨g,gk⟩,hg⟩:=Uk ((R.s.S5 R.count).get nn);rw[hg]at HG;have hst:cB L.n 66 nn ⟨R,U,d⟩=⟨R.push [g],U,d⟩:=(by show ek.mk (R.push [((R.s.S5 R.count).get nn).1]) U d=_;rw[hg]);refine Uu ?_;refine dW (cj (vs:=R.s.cells (.slice X.Ad (J R.s.d) X.cd) (.slice X.Ar (J R.s.r) X.cr)) ir ir ne) (cI Zh I) I ?_;refine ZN λb4=>?_
  refine ZM ?_;refine UE ?_;refine ZL ?_;refine Ux ?_;refine sO ?_;refine UD (λw hi=>HG w) ?_;refine eK ?_;refine jP ?_;rintro _ _ ⟨b70,rfl,rfl⟩;refine dE (gz (Ve br bu D) X R) (λw hi hin=>jd (Ve br bu D) X R _ 1 1 [g] O w hin (λw' hk=>hi.TC Zi Zh hk)) ?_;rintro _ _ ⟨A',c',rfl,rfl⟩;refine py ?_;refine bI (o3 br bu bb L D ⟨A',c',X.Ar,X.cr⟩ Y ⟨R.wd (R.s.d++[g]),U,d⟩) Zj (WU ?_);rw[hst];exact⟨⟨A',c',X.Ar,X.cr⟩,Y,I,I⟩
 refine Ul ?_ ?_<;>intro hc23
 .obtain rfl:=gO hc23;obtain⟨R,l,x,rfl⟩:=Um.snoc (show 1<=J R.s.d from hn);obtain⟨hx1,hx2⟩:=hw x cE;obtain⟨va,rfl⟩:∃va:Nat,x=va:=ai hx1;have hva:va<=4294967295:=O;have hll:J l<=100000:=Do;have HE:=RI (R.wd l).s X.Ad X.Ar X.cd X.cr nn va;have hdr:=St.T5 (R.wd l).s nn va;have hst:cB L.n 67 nn ⟨R.wd (l++[(va:Int)]),U,d⟩=⟨(R.wd l).ws ((R.wd l).s.set nn va).1,bif nn==1||nn==2 then⟨U.m,dA⟩else U,d⟩:=(by show ek.mk _ _ _=_;simp_all);obtain⟨⟨⟨pc',d',r',fl',su',pg',ie',rt',ve',ep',ca',ad',es',ei',co',ha'⟩,kn⟩,hq⟩:=Uk ((R.wd l).s.set nn va);rw[hq]at HE hst hdr;obtain⟨hd',hr'⟩:=hdr;have hd':l=d':=hd'.symm;have hr':R.s.r=r':=hr'.symm;subst hd';subst hr';refine Rh ?_;refine Ut ?_;refine bN (UK [15]) Zk (sU ?_);refine US 4 I (cj (vs:=(R.wd l).s.cells (.slice X.Ad (R.wd l).s.d.length X.cd) (.slice X.Ar (R.wd l).s.r.length X.cr)) ir ir ne) (cI Zh I) ?_;refine Ld 5 1 ?_;refine ZG 6 ?_;refine UF 7 I (cA I I ne Zl) ?_;refine ZE 8 ?_;refine kO ?_;refine VF (λw hi=>HE w (hi.TM (Ur (UP (R.wd l).s X.Ad X.cd)) (Ur (UU (R.wd l).s X.Ar X.cr)) Do Do)) ?_;rintro _ _ ⟨A1,c1,A2,c2,rfl,rfl⟩;refine ZE 10 ?_;refine ZE 11 ?_;refine rJ ?_;refine Ld 14 0 ?_;refine cQ 15 Zk (ft I I (fg (ys:=my (Ve br bu D) ⟨A1,c1,A2,c2⟩ ((R.wd l).ws ⟨pc',l,R.s.r,fl',su',pg',ie',rt',ve',ep',ca',ad',es',ei',co',ha'⟩)) (n:=16) (vs:=(St.mk pc' l R.s.r fl' su' pg' ie' rt' ve' ep' ca' ad' es' ei' co' ha').cells (.slice A1 (J l) c1) (.slice A2 (J R.s.r) c2)) I ir I I (ka I) Za I Iv) ZJ ?_);refine Uw ?_;refine fe ?_;refine jF ?_;refine ZW ?_ ?_<;>intro hc26
  .have h12:(nn==1||nn==2)=true:=Do;refine Uu ?_;refine U5 (uF bu bb L U) (λw hi hin=>I5 bu bb L U hT w hin) ?_;refine py ?_;refine bI (o3 br bu bb L D ⟨A1,c1,A2,c2⟩ Y ⟨((R.wd l).ws ⟨pc',l,R.s.r,fl',su',pg',ie',rt',ve',ep',ca',ad',es',ei',co',ha'⟩),⟨U.m,dA⟩,d⟩) Zj (WU ?_);rw[hst,sM h12];exact⟨⟨A1,c1,A2,c2⟩,Y,I,I⟩
  have h12:(nn==1||nn==2)=false:=Do;refine py ?_;refine bI (o3 br bu bb L D ⟨A1,c1,A2,c2⟩ Y ⟨((R.wd l).ws ⟨pc',l,R.s.r,fl',su',pg',ie',rt',ve',ep',ca',ad',es',ei',co',ha'⟩),U,d⟩) Zj (WU ?_);rw[hst,lC h12];exact⟨⟨A1,c1,A2,c2⟩,Y,I,I⟩
 refine Ul ?_ ?_<;>intro hc28
 .obtain rfl:=gO hc28;obtain⟨R,l,x,rfl⟩:=Um.snoc (show 1<=J R.s.d from hn);obtain⟨hx1,hx2⟩:=hw x cE;obtain⟨va,rfl⟩:∃va:Nat,x=va:=ai hx1;have hva:va<=4294967295:=O;have hll:J l<=100000:=Do;have hst:cB L.n 68 nn ⟨R.wd (l++[(va:Int)]),U,d⟩=⟨R.wd l,⟨U.m,ph U.t va⟩,d⟩:=(by show ek.mk _ _ _=_;simp_all);refine Rh ?_;refine fo ?_;refine ZW ?_ ?_<;>intro hc30
  .refine UA ?_;refine U5 (uF bu bb L U) (λw hi hin=>NM bu bb L U hT va hva w hin) ?_;refine py ?_;refine bI (o3 br bu bb L D X Y ⟨R.wd l,⟨U.m,ph U.t va⟩,d⟩) Zj (WU ?_);rw[hst];exact⟨X,Y,I,I⟩
  exact absurd hc30 cE
 refine Ul ?_ ?_<;>intro hc32
 .obtain rfl:=gO hc32;refine Uu ?_;refine ZL ?_;refine py ?_;refine bI (o3 br bu bb L D X Y ⟨R.ws R.s.halt,U,d⟩) Zj (WU ?_);exact⟨X,Y,I,I⟩
 have hst:cB L.n op nn ⟨R,U,d⟩=⟨R,U,d⟩:=(by simp only[cB, *,ac]);refine py ?_;refine bI (o3 br bu bb L D X Y ⟨R,U,d⟩) Zj (WU ?_);rw[hst];exact⟨X,Y,I,I⟩
def nw(n:Nat)(s:St)(op nn:Int)(U:Uo)(d:Un):ek:=
 match cV op nn (eV s op)with
 |some R=>⟨R,U,d⟩
 |none=>bif(bS op nn (eV s op)).1 then⟨(bS op nn (eV s op)).2,U,d⟩else cB n op nn ⟨(bS op nn (eV s op)).2,U,d⟩
def lj(n:Nat)(s:St)(op nn:Int)(U:Uo)(d:Un):Wn×Uo×Un:=
 bif !s.right then(⟨s,false,false,[]⟩,U,d)else
 bif dN s op nn !=0 then(⟨s.next.SL (dN s op nn) 0,true,false,[]⟩,⟨U.m.calm,U.t⟩,d)else
 (DG s (nw n s op nn ⟨U.m.calm,U.t⟩ d),(nw n s op nn ⟨U.m.calm,U.t⟩ d).u,(nw n s op nn ⟨U.m.calm,U.t⟩ d).d)
variable{s:St}
variable{op:Int}
theorem do_ok(bu bb:Nat)(L:ez)(D:qK)(Y:fv)(s:St)(Ad Ar:Oa)(cd cr:Nat)(op nn:Int)(U:Uo)(d:Un)(hwf:s.wf)(hnn:u32 nn)(hT:J U.t=16)(hd:d.wf)(ho:J d.out<=1000000000)
  (w:World) (hi:Inv w (bK (Vq bu bb L D Y U d)) (Vq bu bb L D Y U d) w) (h:∀w',cX (bK (Vq bu bb L D Y U d)) w w'->kS w' s Ad Ar cd cr):
  Uz prog 149 [sv s Ad cd Ar cr,.agg #[.i op,.w nn],.p bu,.p D.bs] w (Vq bu bb L D Y U d)
   (λv cs=>∃X Y' Ap cp,v= .agg (ic (lj L.n s op nn U d).1 X Ap cp).toArray/\cs=RJ (lj L.n s op nn U d).1 X Ap cp++Vq bu bb L D Y' (lj L.n s op nn U d).2.1 (lj L.n s op nn U d).2.2):=by
 have HR:=oe s Ad Ar cd cr;have HK:=Qk s Ad Ar cd cr op nn hnn;have hbd:=(h w (cX.refl _ _)).hd;have hbr:=(h w (cX.refl _ _)).hr;unfold lj;obtain⟨rt,hrt⟩:=Uk (s.right);obtain⟨ck,hck⟩:=Uk (dN s op nn);rw[hrt]at HR|-;rw[hck]at HK|-;obtain⟨UM,UT⟩:=U;have HM:=ER L UM;have HZ:=xS op;obtain⟨R0,hR0⟩:=Uk (eV s op);have hmid:nw L.n s op nn ⟨UM.calm,UT⟩ d=(match cV op nn R0 with
  |some R=>⟨R,⟨UM.calm,UT⟩,d⟩
  |none=>bif(bS op nn R0).1 then⟨(bS op nn R0).2,⟨UM.calm,UT⟩,d⟩else cB L.n op nn ⟨(bS op nn R0).2,⟨UM.calm,UT⟩,d⟩):=by rw[<-hR0];rfl
 unfold eV at hR0;obtain⟨sz,hsz⟩:=Uk (cw op);rw[hsz]at HZ hR0;obtain⟨pc',hpc⟩:=Uk (V9 .u32 (s.pc+V9 .u32 sz));rw[hpc]at hR0;refine UH func149 ntmps149 hi ?_;refine py ?_;refine ZO λb4=>?_;refine ZO λb5=>?_
 refine ZN λb8=>?_
 refine UA ?_;refine UD (λw hi=>HR w) ?_;refine Vs ?_ ?_<;>intro hc1
 .refine Us ?_;refine UW (λw hi=>mH s Ad Ar cd cr w (h w hi.S1)) ?_;rintro _ _ ⟨A1,c1,A2,c2,rfl,rfl⟩;refine ZA ?_;refine dg 3 1 (iz ?_);refine bI ([row b8 (ic ⟨s,false,false,[]⟩ ⟨A1,c1,A2,c2⟩ none 0) 270]++(RJ ⟨s,false,false,[]⟩ ⟨A1,c1,A2,c2⟩ none 0++Vq bu bb L D Y ⟨UM,UT⟩ d)) Zj (Wq74 ?_);rw[sM hc1];exact⟨⟨A1,c1,A2,c2⟩,Y,none,0,I,I⟩
 refine VM ?_ ?_<;>intro hc3
 .refine py ?_;refine M5 ?_;refine U5 ([eY L UM]) (λw hi hin=>HM w hin) ?_;refine M9 ?_;rintro _ _ ⟨_,⟨A1,c1,A2,c2,rfl,rfl⟩,rfl⟩;refine ZN λb9=>?_
  refine iS ?_;refine kR ?_;refine mR ?_;refine Ux ?_;refine UD (λw hi=>HK w (h w hi.S1)) ?_;refine VM ?_ ?_<;>intro hc8
  .refine Ut ?_;refine UW (λw hi=>tR s.next A1 A2 c1 c2 ck 0 w (hi.TM (Ur (UP s A1 c1)) (Ur (UU s A2 c2)) hbd hbr)) ?_;rintro _ _ ⟨A3,c3,A4,c4,rfl,rfl⟩;refine ZA ?_;refine dg 3 1 (iz ?_);refine bI ([row b8 (ic ⟨s.next.SL ck 0,true,false,[]⟩ ⟨A3,c3,A4,c4⟩ none 0) 270]++(RJ ⟨s.next.SL ck 0,true,false,[]⟩ ⟨A3,c3,A4,c4⟩ none 0++Vq bu bb L D Y ⟨UM.calm,UT⟩ d)) Zj (Wq74 ?_);rw[lC hc1,sM hc8];exact⟨⟨A3,c3,A4,c4⟩,Y,none,0,I,I⟩
  refine Us ?_;refine sS ?_;refine ZI 0 ?_;refine Ld 2 14 ?_;refine sP ?_;refine cQ 1 Zk (VF (λw hi=>mH s.next A1 A2 c1 c2 w (hi.TM (Ur (UP s A1 c1)) (Ur (UU s A2 c2)) hbd hbr)) ?_);rintro _ _ ⟨A5,c5,A6,c6,rfl,rfl⟩;refine ZE 6 ?_;refine iW ?_;refine y7 ?_;rintro _ _ ⟨b46,rfl,rfl⟩;refine ZE 8 ?_;refine pI ?_;refine bN (UK [13]) Zk (mW ?_);refine Ld 2 0 ?_;refine Ld 3 0 ?_;refine ZG 4 ?_;refine Ld 5 0 ?_;refine ZG 6 ?_;refine iW ?_;refine VF (λw hi=>HZ w) ?_;refine Uw ?_;refine UF 8 I (cA I I ne I) ?_;refine UF 9 I (dr ne ne hpc) ?_;refine ZE 10 ?_;refine Ld 11 0 ?_;refine Ld 12 0 ?_;refine cQ 13 Zk (ke ?_);refine Zt (cq (λq:eN×fv×ek=>[(2,.p bu),(8,.p b8),(9,.p b9),(11,.p b46)]) (λq=>o3 b46 bu bb L D q.1 q.2.1 q.2.2++[row b8 [.w 0,.slice none 0 0,.slice none 0 0,.w 0,.bool false,.bool false,.bool false,.w 0,.w 0,.w 0,.w 0,.w 0,.bool false,.bool false,.int .u64 0,.bool false,.bool false,.bool false,.slice none 0 0] 270,row b9 (s.next.cells (.slice A1 (J s.next.d) c1) (.slice A2 (J s.next.r) c2)) 36,UP s.next A1 c1,UU s.next A2 c2]) (λq=>nw L.n s op nn ⟨UM.calm,UT⟩ d=q.2.2) ?_ ?_)
  .refine Zs ?_;subst hR0;have hrt1:rt=true:=Do;obtain⟨hd16,hr16, -⟩:=St.fits (hrt.trans hrt1);have hck0:ck=0:=Do;obtain⟨n1,n2⟩:=lm (hck.trans hck0);have HS:=N3 (Ve b46 bu D) ⟨A5,c5,A6,c6⟩ ⟨s.next.wpc pc',s.count,Tr.none,false⟩ op nn (show J s.d<=100000 by omega) (show J s.r<=100000 by omega) n1 n2;rcases hst:cV op nn ⟨s.next.wpc pc',s.count,Tr.none,false⟩with _|R1
   .rw[hst]at HS;simp only[Option.isSome_none,Option.getD_none]at HS;have HQ:=λX w hin=>JU (Ve b46 bu D) X ⟨s.next.wpc pc',s.count,Tr.none,false⟩ op nn hwf.d (show J s.d<=100000 by omega) (show J s.r<=100000 by omega) n1 n2 w hin
    obtain⟨⟨bq,R2⟩,hq⟩:=Uk (bS op nn ⟨s.next.wpc pc',s.count,Tr.none,false⟩);rw[hq]at HQ;refine Us ?_;refine dE (gz (Ve b46 bu D) ⟨A5,c5,A6,c6⟩ ⟨s.next.wpc pc',s.count,Tr.none,false⟩) (λw hi hin=>HS w hin) ?_;rintro _ _ ⟨X1,rfl,rfl⟩;refine Us ?_;refine i6 (bP I I) Zh ir ir (Zv I) I (kt (bP I I) I (eE (gz (Ve b46 bu D) X1 ⟨s.next.wpc pc',s.count,Tr.none,false⟩) I (λ_ _=>I) Zi (λw hi hin=>HQ X1 w hin)) I ?_);rintro _ _ ⟨_,⟨X2,rfl,rfl⟩,rfl⟩;refine Wj ?_ ?_<;>intro hc12
    .obtain rfl:bq=false:=Do;have he:=mA op nn ⟨s.next.wpc pc',s.count,Tr.none,false⟩ (by rw[hq]);rw[hq]at he;have he:R2=_:=he;subst he;have HO:=λX w hin=>JJ b46 bu bb L D X Y ⟨s.next.wpc pc',s.count,Tr.none,false⟩ ⟨UM.calm,UT⟩ d op nn hnn hwf.d (show J s.d<=100000 by omega) (show J s.r<=100000 by omega) n1 hT hwf.root hd ho w hin
     obtain⟨m',hm'⟩:∃m',cB L.n op nn ⟨⟨s.next.wpc pc',s.count,Tr.none,false⟩,⟨UM.calm,UT⟩,d⟩=m':=⟨_,I⟩;rw[hm']at HO;refine Us ?_;refine dE (o3 b46 bu bb L D X2 Y ⟨⟨s.next.wpc pc',s.count,Tr.none,false⟩,⟨UM.calm,UT⟩,d⟩) (λw hi hin=>HO X2 w hin) ?_;rintro _ _ ⟨X3,Y3,rfl,rfl⟩;refine Zn (UN ((⟨X3,Y3,m'⟩:eN×fv×ek)) Do)
    obtain rfl:bq=true:=Do;refine Zc (UN ((⟨X2,Y,⟨R2,⟨UM.calm,UT⟩,d⟩⟩:eN×fv×ek)) Do)
   rw[hst]at HS;simp only[Option.isSome_some,Option.getD_some]at HS;refine Us ?_;refine dE (gz (Ve b46 bu D) ⟨A5,c5,A6,c6⟩ ⟨s.next.wpc pc',s.count,Tr.none,false⟩) (λw hi hin=>HS w hin) ?_;rintro _ _ ⟨X1,rfl,rfl⟩;refine py ?_;refine Wq19 ?_;refine Zy (Cd (q:=false) (Zv I) ⟨_,I,λ_ e=>by simp at e⟩) ?_;refine py ?_;refine jn ?_;refine Zc (UN ((⟨X1,Y,⟨R1,⟨UM.calm,UT⟩,d⟩⟩:eN×fv×ek)) Do)
  rintro⟨X,Y',m⟩ hm;dsimp only at hm|-;refine Zs (bN (UK [10]) Zk ?_);refine mW ?_;refine Ld 2 0 ?_;refine US 3 I (cj (vs:=m.r.s.cells (.slice X.Ad (J m.r.s.d) X.cd) (.slice X.Ar (J m.r.s.r) X.cr)) ir ir ne) (cI Zh I) ?_;refine ZE 4 ?_;refine ZE 5 ?_;refine Ld 6 21 ?_;refine ZG 7 ?_;refine ZE 8 ?_;refine kO ?_;refine ZP λb12=>?_
  refine mh ?_;refine ZR ?_;refine fe ?_;refine fo ?_;refine ZW ?_ ?_<;>intro hc15
  .have he:DG s m=⟨s.next.SL m.r.SL.SB m.r.SL.addr,true,m.r.device,dY m.u.m.SD 64⟩:=sM hc15;refine bN (UK [13,15]) Zk (ZI 0 ?_);refine ZE 1 ?_;refine ZE 2 ?_;refine Ld 3 19 ?_;refine Ld 4 0 ?_;refine ZG 5 ?_;refine ZE 6 ?_;refine ZE 7 ?_;refine Ld 8 19 ?_;refine Ld 9 1 ?_;refine ZG 10 ?_;refine cQ 11 Zk (VF (λw hi=>tR s.next A1 A2 c1 c2 m.r.SL.SB m.r.SL.addr w (hi.TM (Ur (UP s.next A1 c1)) (Ur (UU s.next A2 c2)) hbd hbr)) ?_);rintro _ _ ⟨A7,c7,A8,c8,rfl,rfl⟩;refine Ld 12 0 ?_;refine cQ 13 Zk (ft I I (fg (ys:=ic ⟨s.next.SL m.r.SL.SB m.r.SL.addr,false,m.r.device,[]⟩ ⟨A7,c7,A8,c8⟩ none 0) (n:=16) (vs:=(s.next.SL m.r.SL.SB m.r.SL.addr).cells (.slice A7 (s.next.SL m.r.SL.SB m.r.SL.addr).d.length c7) (.slice A8 (s.next.SL m.r.SL.SB m.r.SL.addr).r.length c8)) I ir I I (ka I) Za I kP) ZJ ?_);refine Uw ?_;refine Ld 14 16 ?_;refine cQ 15 Zk (ke ?_);refine V1 ?_ ?_<;>intro hc17
   .refine py ?_;refine M5 ?_;refine UW (λw hi=>qS L m.u.m w (hi.get Zh)) ?_;rintro _ _ ⟨Ap,cp,rfl,rfl⟩;refine mR ?_;refine Uu ?_;refine kQ ?_;refine bI ([row b8 (ic ⟨s.next.SL m.r.SL.SB m.r.SL.addr,true,m.r.device,dY m.u.m.SD 64⟩ ⟨A7,c7,A8,c8⟩ Ap cp) 270]++(RJ ⟨s.next.SL m.r.SL.SB m.r.SL.addr,true,m.r.device,dY m.u.m.SD 64⟩ ⟨A7,c7,A8,c8⟩ Ap cp++Vq bu bb L D Y' m.u m.d)) Zj (Wq74 ?_);rw[lC hc1,lC hc8,hm,he];exact⟨⟨A7,c7,A8,c8⟩,Y',Ap,cp,I,I⟩
   exact absurd hc17 cE
  have he:DG s m=⟨m.r.s,false,m.r.device,dY m.u.m.SD 64⟩:=lC hc15;refine VM ?_ ?_<;>intro hc17
  .refine py ?_;refine M5 ?_;refine UW (λw hi=>qS L m.u.m w (hi.get Zh)) ?_;rintro _ _ ⟨Ap,cp,rfl,rfl⟩;refine mR ?_;refine Uu ?_;refine kQ ?_;refine bI ([row b8 (ic ⟨m.r.s,false,m.r.device,dY m.u.m.SD 64⟩ X Ap cp) 270]++(RJ ⟨m.r.s,false,m.r.device,dY m.u.m.SD 64⟩ X Ap cp++Vq bu bb L D Y' m.u m.d)) Zj (Wq74 ?_);rw[lC hc1,lC hc8,hm,he];exact⟨X,Y',Ap,cp,I,I⟩
  exact absurd hc17 cE
 exact absurd hc3 cE
end
end Go.Ink
