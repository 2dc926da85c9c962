/- Lemmas. -/
import Derived.Test.YtepfimeihngjoaaGreatDoorYag
import Derived.Test.YtepfimeihngjoaaGreatDoorYah
set_option linter.all false
set_option maxRecDepth 100000
set_option maxHeartbeats 4000000
namespace Go.Ink
open List renaming length→J, replicate→R9
open IntKind renaming wrap→V9
open Go.RowKit Go.Proofs.Tryz
variable{j:Nat}
section
attribute [local irreducible] UL bM
variable{n k:Nat}
variable{L:ez}
variable{d:Li}{a:Nat}
def rh(n:Nat)(d:Li)(va:Nat)(e:Int):Option (Nat×Int):=
 bif e%2==0 then none else(iw n d (WZ e va)).map λl=>(WZ e va,l)
def ia(n:Nat)(d:Li)(root va:Nat):Option (Nat×Int):=
 bif decide (16384<=va)then none else(iw n d (W8 root va)).bind (rh n d va)
def dw(n:Nat)(M:Uy)(root va:Nat)(kind:Int)(Sy:Bool):(TE×Tr)×Uy:=
 bif UV kind==0 then((TE.zero,⟨10,va⟩),M)else
 match ia n M.data root va with
 |none=>((TE.zero,⟨UV kind,va⟩),M)
 |some (a,l)=>bif bits .and .u32 l (oL kind Sy) !=oL kind Sy then((TE.zero,⟨UV kind,va⟩),M)else
   ((leafE va (i3 l kind),Tr.none),bif i3 l kind !=l then M.Tm a (i3 l kind)else M)
def SF(n:Nat)(U:Uo)(s:Sp)(va:Nat)(kind:Int):(Int×Tr)×Uo:=
 bif !s.SJ then(((va:Int),Tr.none),U)else
 bif(pf U.t va kind s.Sy).2 then(((pf U.t va kind s.Sy).1,Tr.none),U)else
 bif(dw n U.m s.root va kind s.Sy).1.2.SB !=0 then((0,(dw n U.m s.root va kind s.Sy).1.2),⟨(dw n U.m s.root va kind s.Sy).2,U.t⟩)else
 ((oU (dw n U.m s.root va kind s.Sy).1.1.pfn va,(dw n U.m s.root va kind s.Sy).1.2),⟨(dw n U.m s.root va kind s.Sy).2,zG U.t (dw n U.m s.root va kind s.Sy).1.1⟩)
def Sz(n:Nat)(U:Uo)(s:Sp)(va:Nat)(kind:Int):(Int×Tr)×Uo:=
 bif UV kind==0 then((0,⟨10,va⟩),U)else
 bif(SF n U s va kind).1.2.SB !=0 then((0,(SF n U s va kind).1.2),(SF n U s va kind).2)else
 bif(decide ((SF n U s va kind).1.1<((n*64:Nat):Int))||((kind !=1)&&iv (SF n U s va kind).1.1))then SF n U s va kind else((0,⟨10,va⟩),(SF n U s va kind).2)
variable{va:Nat}
theorem uG{root:Nat}{l:Int}(h:UO d)(hl:ia n d root va=some (a,l)):u32 l/\a+4<=n*64:=by
 unfold ia at hl;cases hc:decide (16384<=va)with
 |true=>grind
 |false=>
  rw[hc]at hl;simp only[ac]at hl;obtain⟨e,h1,h2⟩:=Option.bind_eq_some_iff.1 hl;unfold rh at h2;cases hc2:(e%2==0)with
  |true=>grind
  |false=>
   rw[hc2]at h2;simp only[ac]at h2;obtain⟨l',h3,h4⟩:=Option.map_eq_some_iff.1 h2;simp only[aD]at h4;obtain⟨rfl,rfl⟩:=h4;exact pw h h3
theorem FJ(L:ez)(M:Uy)(a:Nat)(ha:a<=4294967295000)(w:World)(h:(eY L M).ok w):CW prog 334 [.p L.bm,.int .u64 a] w (PS (iw L.n M.data a)):=by
 obtain⟨n1,n64,hdl,hdb,htl⟩:=mQ h;refine UB func334 ntmps334 ?_;refine gX ?_;refine UD (λw hi=>j4 L M w (bH.old h hi)) ?_;refine pG ?_;refine Vs ?_ ?_<;>intro hc1
 .simp only[ah]at hc1;have hc:decide (a+4<=L.n*64)=false:=ao O
  refine UG ?_;refine pd ?_;unfold PS iw;rw[hc];exact ff
 simp only[aa]at hc1;refine Us ?_;refine(Bool.eq_false_or_eq_true (decide (a+4<=L.n*64))).elim (λh0=>?_) (λh0=>?_)
 .refine Us ?_;refine BU ?_;refine UD (λw hi=>tm L M a O w (bH.old h hi)) ?_;unfold PS iw Cg;rw[h0];refine gV ?_;refine Ux ?_;exact kV
 refine Us ?_;refine BU ?_;refine UD (λw hi=>tm L M a O w (bH.old h hi)) ?_;unfold PS iw Cg;rw[h0];refine fy ?_;refine Ux ?_;exact kV
theorem look_ok(L:ez)(M:Uy)(root va:Nat)(hroot:root<=4294967295)(hva:va<=4294967295)(w:World)(h:(eY L M).ok w):CW prog 287 [.p L.bm,.w root,.w va] w (Yg (ia L.n M.data root va)):=by
 obtain⟨n1,n64,hdl,hdb,htl⟩:=mQ h;obtain⟨e1,he1⟩:=Uk (iw L.n M.data (W8 root va));have HE1:=FJ L M (W8 root va) (by unfold W8;omega);rw[he1]at HE1;refine UB func287 ntmps287 ?_;refine xt ?_;refine ZW ?_ ?_<;>intro hc1
 .have hc:decide (16384<=va)=true:=by(have h0:(16384:Int)<=va:=by simpa using hc1);exact ak O
  have hl:ia L.n M.data root va=none:=by(unfold ia;rw[hc];rfl)
  rw[hl];exact In
 have hlt:va<16384:=by(have h0:¬(16384:Int)<=va:=by simpa using hc1);omega
 have hl:ia L.n M.data root va=e1.bind (rh L.n M.data va):=by(unfold ia;grind)
 rw[hl];refine Us ?_;revert HE1 he1;refine Option.rec (λhe1 HE1=>?_) (λe he1 HE1=>?_) e1
 .refine Us ?_;refine Wq308 ?_;refine UD (λw hi=>HE1 w (bH.old h hi)) ?_;simp only[PS];refine IK ?_;refine mV ?_;exact In
 refine Us ?_;refine Wq308 ?_;refine UD (λw hi=>HE1 w (bH.old h hi)) ?_;simp only[PS];refine eK ?_;have heu:=(pw hdb he1).1;obtain⟨eu0,eu1⟩:=heu;refine Ut ?_;refine Wm I I (m4 (cU I) ne (and1 ⟨eu0,eu1⟩)) ?_;refine Wj ?_ ?_<;>intro hc4
 .have hc:(e%2==0)=true:=hc4;have hl2:(some e).bind (rh L.n M.data va)=none:=by(simp only[Option.bind_some];unfold rh;rw[hc];rfl)
  rw[hl2];exact In
 have hc:(e%2==0)=false:=hc4;have hl2:(some e).bind (rh L.n M.data va)=(iw L.n M.data (WZ e va)).map λl=>(WZ e va,l):=by(simp only[Option.bind_some];unfold rh;rw[hc];rfl)
 rw[hl2];obtain⟨e2,he2⟩:=Uk (iw L.n M.data (WZ e va));have HE2:=FJ L M (WZ e va) (by unfold WZ;omega);rw[he2]at HE2|-;have hat:((WZ e va:Nat):Int)=e/256*64+4*((va/64%16:Nat):Int):=(by unfold WZ;omega);refine Uu ?_;refine Zy (jH (Zv I) (Zv I) O (show _=e/256 from Xe _ 8)) ?_;refine pG ?_;refine Wq152 ?_;refine pG ?_;refine Zy (dr (Zv I) (Zv I) (show _=((WZ e va:Nat):Int)from(u64_wrap_id _ O O).trans O)) ?_;refine Ut ?_;revert HE2 he2;refine Option.rec (λhe2 HE2=>?_) (λl he2 HE2=>?_) e2
 .refine Us ?_;refine UD (λw hi=>HE2 w (bH.old h hi)) ?_;simp only[PS];refine jG ?_;refine mV ?_;exact In
 refine Us ?_;refine UD (λw hi=>HE2 w (bH.old h hi)) ?_;simp only[PS];refine qB ?_;refine Ut ?_;have h2in:=(pw hdb he2).2;refine ZA ?_;refine BU ?_;refine Ux ?_;refine o9 ?_;exact ff
theorem wdo_ok(L:ez)(M:Uy)(root va:Nat)(hroot:root<=4294967295)(hva:va<=4294967295)(kind:Int)(Sy:Bool):CI prog 222 [.p L.bm,.w root,.w va,.i kind,.bool Sy] [eY L M] (λv cs=>v= .tuple #[(dw L.n M root va kind Sy).1.1.v,(dw L.n M root va kind Sy).1.2.v]/\cs=[eY L (dw L.n M root va kind Sy).2]):=λw hi=>by
 obtain⟨n1,n64,hdl,hdb,htl⟩:=mQ (hi.ok _ (List.mem_cons_self ..));obtain⟨fk,hfk⟩:=Uk (UV kind);obtain⟨wb,hwb⟩:=Uk (oL kind Sy);obtain⟨lk,hlk⟩:=Uk (ia L.n M.data root va);have HF:=FD kind;have HB:=NG kind Sy;have HL:=look_ok L M root va hroot hva;unfold dw;rw[hfk]at HF|-;rw[hwb]at HB|-;rw[hlk]at HL|-;refine UH func222 ntmps222 hi ?_;refine py ?_;refine ZN λb10=>?_;refine ZN λb11=>?_
 refine Uu ?_;refine UD (λw hi=>HF w) ?_;refine tH ?_ ?_<;>intro hc2
 .have hc:(fk==0)=true:=hc2;rw[hc];refine gV ?_;refine Uu ?_;refine ZM ?_;refine iz ?_;exact Rw
 have hc:(fk==0)=false:=hc2;rw[hc];refine fy ?_;refine UA ?_;refine UD (λw hi=>HB w) ?_;refine Ut ?_;revert HL hlk;refine Option.rec (λhlk HL=>?_) (λal hlk HL=>?_) lk
 .refine Ut ?_;refine UD (λw hi=>HL w (hi.get Zh)) ?_;simp only[Yg];refine jF ?_;refine Us ?_;refine mV ?_;refine UA ?_;refine ZM ?_;refine iz ?_;exact Rw
 obtain⟨a,l⟩:=al;have hin:=uG hdb hlk;obtain⟨lu,ain⟩:=hin;obtain⟨lu0,lu1⟩:=lu;have mu:=rf l kind;simp only;refine Ut ?_;refine UD (λw hi=>HL w (hi.get Zh)) ?_;simp only[Yg];refine jF ?_;refine Vs ?_ ?_<;>intro hc6
 .have hc6':(bits .and .u32 l wb !=wb)=true:=hc6;rw[hc6'];refine gV ?_;refine UA ?_;refine ZM ?_;refine iz ?_;exact Rw
 have hc6':(bits .and .u32 l wb !=wb)=false:=hc6;rw[hc6'];refine fy ?_;refine jF ?_;refine py ?_;refine ZW ?_ ?_<;>intro hc10
 .have hm:i3 l kind=bits .or .u32 (bits .or .u32 l 32) 64:=by(unfold i3;grind)
  rw[hm]at mu|-;obtain⟨m,hmm⟩:=Uk (bits .or .u32 (bits .or .u32 l 32) 64);refine UE ?_;rw[hmm]at mu|-;refine VQ ?_ ?_<;>intro hc12
  .rw[hc12];refine gV ?_;exact Wq403
  rw[hc12];refine QB ?_;exact δ
 have hm:i3 l kind=bits .or .u32 l 32:=by(unfold i3;grind)
 rw[hm]at mu|-;obtain⟨m,hmm⟩:=Uk (bits .or .u32 l 32);refine Uu ?_;rw[hmm]at mu|-;refine VQ ?_ ?_<;>intro hc12
 .rw[hc12];refine gV ?_;exact Wq403
 rw[hc12];refine QB ?_;exact δ
theorem zy(n:Nat)(M:Uy)(root va:Nat)(h:va<=4294967295)(kind:Int)(Sy:Bool):(dw n M root va kind Sy).1.1.wf:=by
 grind [dw,UV,TE.zero_wf,bits,oL,Pm,rf]
theorem zE(n:Nat)(U:Uo)(s:Sp)(va:Nat)(kind:Int):(SF n U s va kind).2.t.length=J U.t:=by
 grind [SF,pf,dw,Jn]
theorem pt(n:Nat)(U:Uo)(s:Sp)(va:Nat)(kind:Int):(Sz n U s va kind).2.t.length=J U.t:=by
 grind [zE,Sz,UV,SF,iv]
theorem I9(bu bb:Nat)(L:ez)(U:Uo)(hT:J U.t=16)(s:Sp)(hr:s.root<=4294967295)(va:Nat)(hva:va<=4294967295)(kind:Int):CI prog 182 [.p bu,s.v,.w va,.i kind] (uF bu bb L U) (λv cs=>v= .tuple #[.w (SF L.n U s va kind).1.1,(SF L.n U s va kind).1.2.v]/\cs=uF bu bb L (SF L.n U s va kind).2):=λw hi=>by
 obtain⟨fd,hfd⟩:=Uk (pf U.t va kind s.Sy);obtain⟨wd,hwd⟩:=Uk (dw L.n U.m s.root va kind s.Sy);have hwf:=zy L.n U.m s.root va hva kind s.Sy;have HFD:=NU bb U.t hT va hva kind s.Sy;have HWD:=wdo_ok L U.m s.root va hr hva kind s.Sy;unfold SF;rw[hfd]at HFD|-;rw[hwd]at HWD hwf|-;obtain⟨⟨te,tr⟩,M'⟩:=wd;simp only at HWD hwf|-;refine UH func182 ntmps182 hi ?_;refine py ?_;refine ZO λb5=>?_;refine ZA ?_;refine ZN λb9=>?_
 refine oI ?_ ?_<;>intro hc1
 .rw[hc1];refine gV ?_;refine Uu ?_;refine iz ?_;exact Qz
 rw[hc1];refine fy ?_;refine Ut ?_;refine B7 ?_;refine Ld 2 1 ?_;refine sP ?_;refine Ld 6 1 ?_;refine ZG 7 ?_;refine fS ?_;refine VF (λw hi=>HFD w (hi.get Zh)) ?_;refine Uw ?_;refine qE ?_;refine rJ ?_;refine fe ?_;refine Ul ?_ ?_<;>intro hc4
 .rw[hc4];refine gV ?_;refine Uu ?_;refine iz ?_;exact Qz
 rw[hc4];refine fy ?_;refine py ?_;refine cq (λq:Nat×Nat=>[(0,.p bu),(2,.w va),(9,.p b9),(12,.p q.1),(13,.p q.2)]) (λq=>[Cm bu L.bm bb,eY L M',ww bb U.t,V8 b9 Tr.none,teC q.1 te,V8 q.2 tr]) (λ_=>True) ?_ ?_
 .refine bN (UK [10,16,17]) Zk (rK ?_);refine ZG 3 ?_;refine Ld 4 2 ?_;refine ZG 5 ?_;refine ZE 6 ?_;refine ZE 7 ?_;refine Ld 8 1 ?_;refine ZG 9 ?_;refine wa_3 10 14 15 Zk ?_ ?_ ?_
  .refine M4 ?_;refine Vb ?_;refine ZE 11 ?_;refine rJ ?_;refine rU 14 15 Zk ?_ ?_
   .refine ZP λb12=>?_
    refine cQ 15 Zk ?_;refine ZP λb13=>?_
    exact W9
   refine ZP λb13=>?_
   refine cQ 14 Zk ?_;refine ZP λb12=>?_
   exact W9
  .refine ZP λb12=>?_
   refine rU 10 15 Zk ?_ ?_
   .refine M4 ?_;refine Vb ?_;refine ZE 11 ?_;refine rJ ?_;refine cQ 15 Zk ?_;refine ZP λb13=>?_
    exact W9
   refine ZP λb13=>?_
   exact Wx91_
  refine ZP λb13=>?_
  refine rU 10 14 Zk ?_ ?_
  .refine M4 ?_;refine Vb ?_;refine ZE 11 ?_;refine rJ ?_;refine cQ 14 Zk ?_;refine ZP λb12=>?_
   exact W9
  refine ZP λb12=>?_
  exact Wx91_
 rintro⟨b12,b13⟩ -;dsimp only;refine V1 ?_ ?_<;>intro hc7
 .rw[hc7];exact Yx
 rw[hc7];refine fy ?_;refine Us ?_;refine bN (UK [5]) Zk (mW ?_);refine Ld 2 1 ?_;refine ZG 3 ?_;refine ZI 4 ?_;refine cQ 5 Zk (rH ([ww bb U.t]) (λw hi hin=>NV bb U.t hT te hwf w hin) ?_);refine Uw ?_;refine pI ?_;refine bN (UK [8]) Zk (Ld 0 2 ?_);refine ZG 1 ?_;refine UF 2 I (fL ne ne I) ?_;refine ZE 3 ?_;refine UF 4 I (fH (Zv I) (Zv I) O (show _=((va%64:Nat):Int)from by grind)) ?_;refine UF 5 I (dr ne ne I) ?_;refine ZI 6 ?_;refine ZE 7 ?_;refine fS ?_;refine ZR ?_;refine pI ?_;exact bI [Cm bu L.bm bb,eY L M',ww bb (zG U.t te),V8 b9 tr] Zj Qz
theorem pT(n:Nat)(U:Uo)(s:Sp)(va:Nat)(hva:va<=4294967295)(kind:Int):u32 (SF n U s va kind).1.1/\((SF n U s va kind).1.2.SB=0->(SF n U s va kind).1.1%64=((va%64:Nat):Int)):=by
 unfold SF;cases(!s.SJ)with
 |true=>exact⟨⟨by grind,by grind⟩,λ_=>by grind⟩
 |false=>
  refine fy ?_;cases hf:(pf U.t va kind s.Sy).2 with
  |true=>
   grind [pf,kC,wx,asked,uv]
  |false=>
   refine fy ?_;cases hc:((dw n U.m s.root va kind s.Sy).1.2.SB !=0)with
   |true=>
    refine gV ?_;refine⟨⟨by decide,by decide⟩,λh=>?_⟩
    grind
   |false=>
    grind [uv,dw]
theorem eU(n:Nat)(U:Uo)(s:Sp)(va:Nat)(hva:va<=4294967295)(kind:Int):u32 (Sz n U s va kind).1.1/\((Sz n U s va kind).1.2.SB=0->nU n va (Sz n U s va kind).1.1):=by
 obtain⟨h1,h2⟩:=pT n U s va hva kind;have u0:u32 0:=⟨by decide,by decide⟩;unfold Sz;cases hf:(UV kind==0)with
 |true=>grind
 |false=>
  refine fy ?_;cases hc:((SF n U s va kind).1.2.SB !=0)with
  |true=>
   grind
  |false=>
   refine fy ?_;cases hr:(decide ((SF n U s va kind).1.1<((n*64:Nat):Int))||((kind !=1)&&iv (SF n U s va kind).1.1))with
   |false=>grind
   |true=>
    refine gV ?_;refine⟨h1,λh=>⟨h1,h2 h,?_⟩⟩
    grind
def iU(a b:Int)(va k:Nat):List Int:=(List.range k).map (iA a b va)
theorem oc(a b:Int)(va k:Nat):iU a b va (k+1)=iU a b va k++[iA a b va k]:=by simp[iU,List.range_succ]
theorem tX(a b:Int)(va k:Nat):J (iU a b va k)=k:=by simp[iU]
def dh(a b:Int)(va k:Nat)(t:Tr)(U:Uo):(List Int×Tr)×Uo:=
 bif iv a then(([],⟨10,va⟩),U)else bif(decide (((64 - va%64:Nat):Int)<(k:Int))&&iv b)then(([],⟨10,cT va⟩),U)else((iU a b va k,t),U)
def xN(n:Nat)(s:Sp)(va k:Nat)(kind:Int)(p1:(Int×Tr)×Uo):(List Int×Tr)×Uo:=
 bif(Sz n p1.2 s (cT va) kind).1.2.SB !=0 then(([],(Sz n p1.2 s (cT va) kind).1.2),(Sz n p1.2 s (cT va) kind).2)
 else dh p1.1.1 (Sz n p1.2 s (cT va) kind).1.1 va k (Sz n p1.2 s (cT va) kind).1.2 (Sz n p1.2 s (cT va) kind).2
def xO(n:Nat)(s:Sp)(va k:Nat)(kind:Int)(p1:(Int×Tr)×Uo):(List Int×Tr)×Uo:=
 bif p1.1.2.SB !=0 then(([],p1.1.2),p1.2)else
 bif decide (((64 - va%64:Nat):Int)<(k:Int))then xN n s va k kind p1 else dh p1.1.1 0 va k p1.1.2 p1.2
def SM(n:Nat)(U:Uo)(s:Sp)(va k:Nat)(kind:Int):(List Int×Tr)×Uo:=xO n s va k kind (Sz n U s va kind)
theorem Ey{a b:Int}(hn:n<=64)(ha:0<=a)(ha1:a<((n*64:Nat):Int))(hm:a%64=((va%64:Nat):Int))(hb:((64 - va%64:Nat):Int)<(k:Int)->0<=b/\b<((n*64:Nat):Int)/\b%64=0)(hk:k<=4):∀x,x∈iU a b va k->0<=x/\x<((n*64:Nat):Int):=by
 intro x hx;unfold iU at hx;obtain⟨j,hj,rfl⟩:=List.mem_map.1 hx;rw[List.mem_range]at hj;unfold iA;cases hc:decide (j<64 - va%64)with
 |true=>
  grind [IntKind.wrap_u32]
 |false=>
  refine fy ?_;have h1:=of_decide_eq_false hc;obtain⟨b0,b1,b2⟩:=hb O;rw[au];omega
theorem nj{U:Uo}{s:Sp}(hn:n<=64)(hva:va<=4294967295){kind:Int}(hk:k<=4):∀x,x∈(SM n U s va k kind).1.1->0<=x/\x<((n*64:Nat):Int):=by
 obtain⟨_,h1⟩:=eU n U s va hva kind;unfold SM xO;cases hc:((Sz n U s va kind).1.2.SB !=0)with
 |true=>grind
 |false=>
  refine fy ?_;have p1:=h1 Do;cases hl:decide (((64 - va%64:Nat):Int)<(k:Int))with
  |true=>
   refine gV ?_;unfold xN;obtain⟨_,h2⟩:=eU n (Sz n U s va kind).2 s (cT va) (jf va) kind;cases hc2:((Sz n (Sz n U s va kind).2 s (cT va) kind).1.2.SB !=0)with
   |true=>grind
   |false=>
    refine fy ?_;have p2:=h2 Do;unfold dh;cases d1:iv (Sz n U s va kind).1.1 with
    |true=>grind
    |false=>
     refine fy ?_;rw[hl];simp only[bz];cases d2:iv (Sz n (Sz n U s va kind).2 s (cT va) kind).1.1 with
     |true=>grind
     |false=>
      refine fy ?_;exact Ey hn p1.u.1 (pz d1 p1) p1.m (λ_=>⟨p2.u.1,pz d2 p2,by simp[p2.m,AM]⟩) hk
  |false=>
   refine fy ?_;unfold dh;cases d1:iv (Sz n U s va kind).1.1 with
   |true=>grind
   |false=>
    refine fy ?_;rw[hl];simp only[bn,ac];exact Ey hn p1.u.1 (pz d1 p1) p1.m (λh=>absurd h (of_decide_eq_false hl)) hk
theorem lP{U:Uo}{s:Sp}{kind:Int}:(SM n U s va k kind).1.1.length<=k:=by
 grind [SM,xO,xN,dh,tX]
def iN(n:Nat)(U:Uo)(s:Sp)(va k:Nat):(Int×Tr)×Uo:=
 ((ef (SM n U s va k 2).2.m.data (SM n U s va k 2).1.1,(SM n U s va k 2).1.2),(SM n U s va k 2).2)
def ja(n:Nat)(U:Uo)(s:Sp)(va k:Nat)(v:Int):Tr×Uo:=
 ((SM n U s va k 3).1.2,⟨SZ (SM n U s va k 3).2.m (SM n U s va k 3).1.1 v (SM n U s va k 3).1.1.length,(SM n U s va k 3).2.t⟩)
theorem pR(bu bb:Nat)(L:ez)(U:Uo)(hT:J U.t=16)(s:Sp)(hr:s.root<=4294967295)(va:Nat)(hva:va<=4294967295)(kind:Int):CI prog 143 [.p bu,s.v,.w va,.i kind] (uF bu bb L U) (λv cs=>v= .tuple #[.w (Sz L.n U s va kind).1.1,(Sz L.n U s va kind).1.2.v]/\cs=uF bu bb L (Sz L.n U s va kind).2):=λw hi=>by
 obtain⟨fk,hfk⟩:=Uk (UV kind);obtain⟨td,htd⟩:=Uk (SF L.n U s va kind);have HF:=FD kind;have HT:=I9 bu bb L U hT s hr va hva kind;unfold Sz;rw[hfk]at HF|-;rw[htd]at HT|-;obtain⟨⟨p,tr⟩,U'⟩:=td;simp only at HT|-;refine UH func143 ntmps143 hi ?_;refine py ?_;refine ZO λb5=>?_;refine ZA ?_;refine ZN λb9=>?_
 refine UA ?_;refine ZN λb10=>?_
 refine iS ?_;refine UD (λw hi=>HF w) ?_;refine Vs ?_ ?_<;>intro hc2
 .rw[hc2];exact Yx
 rw[hc2];refine fy ?_;refine UG ?_;refine U5 (uF bu bb L U) (λw hi hin=>HT w hin) ?_;refine Us ?_;refine ZN λb12=>?_
 refine BY ?_;refine Uw ?_;refine oI ?_ ?_<;>intro hc5
 .rw[hc5];exact Yx
 rw[hc5];refine fy ?_;refine eK ?_;refine UD (λw hi=>j4 L U'.m w (hi.get Zh)) ?_;refine UA ?_;refine dx (fx I I) (.cons (cU I) .nil) (λ_ _=>I) (λhg w hi=>vl p w) I (Wj ?_ ?_)<;>intro hc7
 .rw[hc7];refine gV ?_;refine Zs (bN (UK [3]) Zk ?_);refine Wq248 ?_;refine fe ?_;refine Us ?_;exact Qz
 rw[hc7];refine fy ?_;refine Us ?_;refine bN (UK [2]) Zk (MS ?_);refine py ?_;exact Qz
theorem Jz(bu bb:Nat)(L:ez)(U:Uo)(hT:J U.t=16)(s:Sp)(hr:s.root<=4294967295)(va k:Nat)(hva:va<=4294967295)(hk1:1<=k)(hk4:k<=4)(kind:Int):CI prog 352 [.p bu,s.v,.w va,.i k,.i kind] (uF bu bb L U) (λv cs=>∃A c,v= .tuple #[.slice A (SM L.n U s va k kind).1.1.length c,(SM L.n U s va k kind).1.2.v]/\cs=uF bu bb L (SM L.n U s va k kind).2++[sl .u32 32 A (SM L.n U s va k kind).1.1.length c (SM L.n U s va k kind).1.1]):=λw hi=>by
 have HP1:=pR bu bb L U hT s hr va hva kind;have hl1:=pt L.n U s va kind;obtain⟨p1,hp1⟩:=Uk (Sz L.n U s va kind);unfold SM;rw[hp1]at HP1 hl1|-;rw[hT]at hl1;have HP2:=pR bu bb L p1.2 hl1 s hr (cT va) (jf va) kind;obtain⟨p2,hp2⟩:=Uk (Sz L.n p1.2 s (cT va) kind);unfold xO xN;rw[hp2]at HP2|-;obtain⟨⟨a1,tr1⟩,U1⟩:=p1;obtain⟨⟨a2,tr2⟩,U2⟩:=p2;simp only at HP1 HP2|-;refine UH func352 ntmps352 hi ?_;refine py ?_;refine ZO λb6=>?_;refine ZA ?_;refine ZN λb11=>?_
 refine iR ?_;refine cG I (Do) (UG ?_);refine U5 (uF bu bb L U) (λw hi hin=>HP1 w hin) ?_;refine Us ?_;refine ZN λb13=>?_
 refine ZA ?_;refine et (cH (vs:=tr1.cells) ir I I (ka I) Za mJ) ?_;refine Uw ?_;refine oI ?_ ?_<;>intro hc4
 .rw[hc4];exact Wx81_
 rw[hc4];refine fy ?_;refine Uu ?_;refine Zy (fH (Zv I) (Zv I) O (show _=((va%64:Nat):Int)from by grind)) ?_;refine sO ?_;refine Zy (eA (Zv I) (Zv I) (show V9 .i64 _=((64 - va%64:Nat):Int) by rw[aN _ ⟨by omega,by omega⟩];omega)) ?_;refine Ux ?_;refine Zy (fH (Zv I) (Zv I) O (show _=((va%64:Nat):Int)from by grind)) ?_;refine sT ?_;refine Zy (dr (Zv I) (Zv I) (show V9 .u32 (V9 .u32 _+64)=((cT va:Nat):Int) by rw[au,au];unfold cT;omega)) ?_;refine Ut ?_;refine cq (λq:Int×Uo×Tr=>[(2,.w va),(3,.i k),(11,.p b11),(12,.w a1),(13,.p b13),(14,.i ((64 - va%64:Nat):Int)),(15,.w (cT va:Nat)),(16,.w q.1)]) (λq=>uF bu bb L q.2.1++[V8 b11 Tr.none,V8 b13 q.2.2]) (λq=>(bif decide (((64 - va%64:Nat):Int)<(k:Int))then bif tr2.SB !=0 then((([]:Li),tr2),U2)else dh a1 a2 va k tr2 U2 else dh a1 0 va k tr1 U1)=dh a1 q.1 va k q.2.2 q.2.1) ?_ ?_
 .refine Vl ?_ ?_<;>intro hc8
  .have hsm:(bif decide (((64 - va%64:Nat):Int)<(k:Int))then bif tr2.SB !=0 then((([]:Li),tr2),U2)else dh a1 a2 va k tr2 U2 else dh a1 0 va k tr1 U1)=bif tr2.SB !=0 then((([]:Li),tr2),U2)else dh a1 a2 va k tr2 U2:=by rw[hc8];rfl
   refine UA ?_;refine U5 (uF bu bb L U1) (λw hi hin=>HP2 w hin) ?_;refine Ut ?_;refine et (cH (vs:=tr2.cells) ir I I (ka I) Za mJ) ?_;refine Uw ?_;refine VM ?_ ?_<;>intro hc10
   .rw[hsm,hc10];exact Wx81_
   refine Zc (UN ((a2,U2,tr2)) Do)
  have hsm:(bif decide (((64 - va%64:Nat):Int)<(k:Int))then bif tr2.SB !=0 then((([]:Li),tr2),U2)else dh a1 a2 va k tr2 U2 else dh a1 0 va k tr1 U1)=dh a1 0 va k tr1 U1:=by rw[hc8];rfl
  refine Zc (UN ((0,U1,tr1)) hsm)
 rintro⟨a2',U',tr'⟩ hq;dsimp only at hq;rw[hq];dsimp only;unfold dh;refine Uu ?_;refine UD (λw hi=>vl a1 w) ?_;refine Vs ?_ ?_<;>intro hc12
 .rw[hc12];exact YA
 rw[hc12];refine fy ?_;refine Ux ?_;refine dx (bP I I) (.cons (cU I) .nil) (λ_ _=>I) (λhg w hi=>vl a2' w) I (Wj ?_ ?_)<;>intro hc14
 .rw[hc14];exact YA
 rw[hc14];refine fy ?_;refine Uu ?_;refine dg 32 1 (gX ?_);refine UX (λq:Nat×Option Addr×Nat=>[(11,.p b11),(12,.w a1),(13,.p b13),(14,.i ((64 - va%64:Nat):Int)),(16,.w a2'),(17,.slice q.2.1 (J (iU a1 a2' va q.1)) q.2.2),(78,.i k),(79,.i (q.1:Int))]) (λq=>uF bu bb L U'++[V8 b11 Tr.none,V8 b13 tr',sl .u32 32 q.2.1 (J (iU a1 a2' va q.1)) q.2.2 (iU a1 a2' va q.1)]) (λq=>q.1<=k) (λq=>k - q.1) ((0,none,0)) O ?_;rintro⟨j,A1,c1⟩ hj;simp only at hj;dsimp only;refine Ul ?_ ?_<;>intro hc18
 .simp only[ah]at hc18;have hle:=tX a1 a2' va j;refine vY ?_;refine ZW ?_ ?_<;>intro hc20
  .simp only[ah]at hc20;have he:iA a1 a2' va j=V9 .u32 (a1+(j:Int)):=by(unfold iA;grind)
   refine Ut ?_;refine mL ?_;refine Zy (dr (Zv I) (Zv I) (show V9 .u32 (a1+V9 .u32 (j:Int))=iA a1 a2' va j by rw[he,u32_wrap_id (j:Int) O O])) ?_;refine jP ?_;rintro _ _ ⟨b90,rfl,rfl⟩;refine gJ (cu (e:=32) (sz:=1) (bytes:=4) I I Za I I (λw hi=>hi.rd (Ur (slv 32 1 (sA b90) 1 1 [.w (iA a1 a2' va j)]))) (ka I) gI O) I ?_;exact Wx47_
  simp only[aa]at hc20;have he:iA a1 a2' va j=V9 .u32 (a2'+((j - (64 - va%64):Nat):Int)):=by(unfold iA;grind)
  refine Uu ?_;refine Zy (eA (Zv I) (Zv I) (show V9 .i64 ((j:Int) - ((64 - va%64:Nat):Int))=((j - (64 - va%64):Nat):Int) by rw[aN _ ⟨by omega,by omega⟩];omega)) ?_;refine mL ?_;refine Zy (dr (Zv I) (Zv I) (show V9 .u32 (a2'+V9 .u32 ((j - (64 - va%64):Nat):Int))=iA a1 a2' va j by rw[he,u32_wrap_id (((j - (64 - va%64):Nat):Int)) O O])) ?_;refine jP ?_;rintro _ _ ⟨b99,rfl,rfl⟩;refine gJ (cu (e:=32) (sz:=1) (bytes:=4) I I Za I I (λw hi=>hi.rd (Ur (slv 32 1 (sA b99) 1 1 [.w (iA a1 a2' va j)]))) (ka I) gI O) I ?_;exact Wx47_
 simp only[aa]at hc18;obtain rfl:j=k:=by omega
 refine UA ?_;refine QH ?_;exact Nh
theorem NL(bu bb:Nat)(L:ez)(U:Uo)(hT:J U.t=16)(s:Sp)(hr:s.root<=4294967295)(va k:Nat)(hva:va<=4294967295)(hk1:1<=k)(hk4:k<=4):CI prog 326 [.p bu,s.v,.w va,.i k] (uF bu bb L U) (λv cs=>v= .tuple #[.w (iN L.n U s va k).1.1,(iN L.n U s va k).1.2.v]/\cs=uF bu bb L (iN L.n U s va k).2):=λw hi=>by
 obtain⟨n1,n64,_⟩:=mQ (hi.ok (eY L U.m) cE);have HS:=Jz bu bb L U hT s hr va k hva hk1 hk4 2;have hin0:=nj (n:=L.n) (U:=U) (s:=s) (va:=va) (k:=k) n64 hva (kind:=2) hk4;have hlen0:=lP (n:=L.n) (U:=U) (s:=s) (va:=va) (k:=k) (kind:=2);unfold iN;obtain⟨sp,hsp⟩:=Uk (SM L.n U s va k 2);rw[hsp]at HS hin0 hlen0|-;obtain⟨⟨l,tr⟩,U'⟩:=sp;simp only at HS hin0 hlen0|-;refine UH func326 ntmps326 hi ?_;refine py ?_;refine ZO λb5=>?_;refine ZA ?_;refine ZN λb9=>?_
 refine UG ?_;refine dE (uF bu bb L U) (λw hi hin=>HS w hin) ?_;rintro _ _ ⟨A1,c1,rfl,rfl⟩;refine Us ?_;refine ZN λb11=>?_
 refine BY ?_;refine Uw ?_;refine Ut ?_;refine eZ (λw hi=>mQ (hi.get (Ur (eY L U'.m)))) (λhmm=>?_);obtain⟨_,_,hdl,hdb,_⟩:=hmm;refine UA ?_;have e0:ef U'.m.data (l.drop (J l))=0:=by(rw[List.drop_length];rfl)
 refine py ?_;refine rL ?_;refine Ut ?_;refine UX (λj:Nat=>[(0,.p bu),(9,.p b9),(10,.slice A1 (J l) c1),(11,.p b11),(12,.w (ef U'.m.data (l.drop j))),(13,.i ((j:Int) - 1))]) (λ_=>uF bu bb L U'++[sl .u32 32 A1 (J l) c1 l,V8 b9 Tr.none,V8 b11 tr]) (λj=>j<=J l) (λj=>j) (J l) O ?_;rintro j hj;refine Vl ?_ ?_<;>intro hc4
 .simp only[ah]at hc4;obtain⟨i,rfl⟩:∃i,j=i+1:=⟨j - 1,by omega⟩;have hil:i<J l:=by omega
  have hrange:=hin0 _ (List.getElem_mem hil);refine Q4 ?_;rintro⟨ba,rfl⟩;obtain⟨an,han⟩:=ai hrange.1;refine Uu ?_;refine B7 ?_;refine Ld 2 0 ?_;refine sP ?_;refine UF 6 I (bW (j:=i) (sz:=1) (r:=i) I ir (Zv I) (Zv I) Uq Uq O) ?_;refine US 7 I (bL ir (Zv I)) (cN Zh (show(ints .u32 l)[i]? =some (.w (an:Int))from by rw[<-han];exact lh hil)) ?_;refine fS ?_;refine VF (λw hi=>ES L U'.m an O w (hi.get Zh)) ?_;refine Uw ?_;refine qE ?_;refine rJ ?_;refine pI ?_;have hg:=fF hdb an;have hst:=yp hdb (show J l<=4 by omega) hil;rw[han]at hst;refine ZA ?_;refine Ik ?_;refine ZA ?_;refine Zy (cA I I (Zv I) MT) ?_;refine Zy (xA ne ne hst) ?_;refine UA ?_;refine rL ?_;refine py ?_;refine UN (i) O
 simp only[aa]at hc4;obtain rfl:j=0:=by omega
 rw[List.drop_zero];refine UA ?_;refine QH ?_;exact bI (uF bu bb L U'++[V8 b9 tr]) Zj Qz
theorem I3(bu bb:Nat)(L:ez)(U:Uo)(hT:J U.t=16)(s:Sp)(hr:s.root<=4294967295)(va k:Nat)(v:Int)(hva:va<=4294967295)(hk1:1<=k)(hk4:k<=4):CI prog 324 [.p bu,s.v,.w va,.w v,.i k] (uF bu bb L U) (λx cs=>x=(ja L.n U s va k v).1.v/\cs=uF bu bb L (ja L.n U s va k v).2):=λw hi=>by
 obtain⟨n1,n64,_⟩:=mQ (hi.ok (eY L U.m) cE);have HS:=Jz bu bb L U hT s hr va k hva hk1 hk4 3;have hin0:=nj (n:=L.n) (U:=U) (s:=s) (va:=va) (k:=k) n64 hva (kind:=3) hk4;have hlen0:=lP (n:=L.n) (U:=U) (s:=s) (va:=va) (k:=k) (kind:=3);unfold ja;obtain⟨sp,hsp⟩:=Uk (SM L.n U s va k 3);rw[hsp]at HS hin0 hlen0|-;obtain⟨⟨l,tr⟩,U'⟩:=sp;simp only at HS hin0 hlen0|-;refine UH func324 ntmps324 hi ?_;refine py ?_;refine ZO λb6=>?_;refine ZN λb10=>?_
 refine UG ?_;refine dE (uF bu bb L U) (λw hi hin=>HS w hin) ?_;rintro _ _ ⟨A1,c1,rfl,rfl⟩;refine Us ?_;refine ZN λb12=>?_
 refine BY ?_;refine Uw ?_;refine gX ?_;refine UX (λj:Nat=>[(0,.p bu),(3,.w v),(10,.p b10),(12,.p b12),(23,.slice A1 (J l) c1),(24,.i (J l)),(25,.i (j:Int))]) (λj=>uF bu bb L ⟨SZ U'.m l v j,U'.t⟩++[sl .u32 32 A1 (J l) c1 l,V8 b10 Tr.none,V8 b12 tr]) (λj=>j<=J l) (λj=>J l - j) (0) O ?_;rintro j hj;refine Ul ?_ ?_<;>intro hc3
 .simp only[ah]at hc3;have hil:j<J l:=by omega
  have hrange:=hin0 _ (List.getElem_mem hil);refine Q4 ?_;rintro⟨ba,rfl⟩;obtain⟨an,han⟩:=ai hrange.1;have hgd:(l.getD j 0).toNat=an:=by(grind)
  refine Ux ?_;refine Zy (bW (j:=j) (sz:=1) (r:=j) I ir (Zv I) (Zv I) Uq Uq O) ?_;refine dW (bL ir (Zv I)) (cN Zh (show(ints .u32 l)[j]? =some (.w (an:Int))from by rw[<-han];exact lh hil)) I (Ut ?_);refine bN (UK [10]) Zk (rK ?_);refine sP ?_;refine ZE 6 ?_;refine UF 7 I (fL ne ne I) ?_;refine UF 8 I (jH (Zv I) (Zv I) (by rw[aN _ ⟨by omega,by omega⟩];omega) rfl) ?_;refine UF 9 I (cA I I (Zv I) (Ck v (show j<4 by omega))) ?_;refine mh ?_;refine rH ([eY L (SZ U'.m l v j)]) (λw hi hin=>uh L (SZ U'.m l v j) an O (mj v j) (ku v j) w hin) ?_;refine Uw ?_;refine fe ?_;refine Us ?_;refine WR ?_;refine r8 (j+1) ?_ ?_ ?_
  .omega
  .exact XK
  exact(show zh _ _ from by rw[show SZ U'.m l v (j+1)=(SZ U'.m l v j).put an (mj v j) by rw[SZ,hgd]];exact Zj)
 simp only[aa]at hc3;obtain rfl:j=J l:=by omega
 refine UG ?_;refine kQ ?_;exact bI (uF bu bb L ⟨SZ U'.m l v (J l),U'.t⟩++[V8 b10 tr]) Zj (mz (cs':=[row _ _ _,VD _ _ _ _,row _ _ _]) (.inl I) Zu I I Zh ir ir ff)
end
end Go.Ink
namespace Go.Ink
open List renaming length→J, replicate→R9
open IntKind renaming wrap→V9
open Go.RowKit Go.Proofs.Tryz
def Dj(l:List Nat):List Int:=l.map λn:Nat=>(n:Int)
section
attribute [local irreducible] UL bM
theorem nE(b:Nat)(p m:Int)(A:Oa)(c:Nat)(l:List Nat)(hl:∀x,x∈l->x<8)(w:World)(hi:Inv w (bK [ri b p m]) [ri b p m] w)(h:∀w',cX (bK [ri b p m]) w w'->Rd w' .i64 A (J l) c (Dj l)):Uz prog 62 [.p b,.slice A (J l) c] w [ri b p m] (λx cs=>x= .bool true/\cs=[ri b (bits .or .u32 p (kG l)) m]):=by
 have hrw:=h w (cX.refl _ _);have hm:=hrw.max;have hcp:=hrw.cap;simp only[maxLen]at hm;refine UH func62 ntmps62 hi ?_;refine IK ?_;refine UX (λk:Nat=>[(0,.p b),(5,.w (uJ l k)),(8,.slice A (J l) c),(9,.i (J l)),(10,.i (k:Int))]) (λ_=>[ri b p m]) (λk=>k<=J l) (λk=>J l - k) (0) (ay _) ?_;rintro k hk;refine Ul ?_ ?_<;>intro hc3
 .simp only[ah]at hc3;have hkl:k<J l:=by omega
  have hx:=hl _ (List.getElem_mem hkl);have hgd:l.getD k 0=l[k]'hkl:=by simp[hkl]
  obtain⟨ad,rfl⟩:=hrw.some_ O;refine UA ?_;refine BR ?_;refine dW (bL ir (Zv I)) (qa h (bX (show(Dj l)[k]? =some ((l[k]'hkl:Nat):Int) by simp[Dj,hkl]))) rfl (jG ?_);refine cG I ((by rw[ao (show¬((l[k]'hkl:Nat):Int)<0 by omega),ao (show¬(8:Int)<=((l[k]'hkl:Nat):Int) by omega)];rfl)) (Uu ?_);refine Ik ?_;refine Zy (xA (Zv I) (Zv I) (show _=uJ l (k+1)from by rw[uJ,hgd])) ?_;refine kb ?_;refine Vo (k+1) ⟨by omega,by omega⟩
 simp only[aa]at hc3;obtain rfl:k=J l:=by omega
 refine oQ ?_;refine ZL ?_;refine UG ?_;exact y8
theorem Ml(A:Oa)(c:Nat)(x:Int)(xs:Li)(hl:J xs<=1000000000):CI prog 356 [.slice A (J (x::xs)) c,.i 0,.i 1] [b8 A c (x::xs)] (λv cs=>∃A' c',v= .slice A' (J xs) c'/\cs=[b8 A' c' xs]):=λw hi=>by
 have hrd0:=hi.rd (Ur (b8 A c (x::xs)));have hcap:=hrd0.cap;obtain⟨bb,rfl⟩:=dp (hi.get (Ur (b8 A c (x::xs)))) (by simp);simp only[aE]at hcap;have hxl:J (x::xs)=J xs+1:=rfl;obtain⟨q0,hq0⟩:=Uk ((⟨bb,(if c=1 then 0 else 1),none⟩:Addr));have hq1:(some q0:Oa)=(if c=1 then some ⟨bb,0,none⟩else(some (⟨bb,0,none⟩:Addr)).map (·.add (1*1))):=by
  rw[<-hq0];split<;>rfl
 refine UH func356 ntmps356 hi ?_;refine fo ?_;refine Zy (Nw (lo:=0) (hi:=1) (mx:=J (x::xs)) I ir (Zv I) (Zv I) (Zv I) (Zv I) (by omega) (by omega) (by omega)) ?_;refine eK ?_;refine jn ?_;refine eK ?_;refine bN (UK [6]) Zk (ZE 0 ?_);refine ZE 1 ?_;refine UF 2 I (eO 0 I ir (Zv I) (Zv I) (λ_=>by first|rfl|omega) (λ_=>by omega)) ?_;refine ZE 3 ?_;refine ZE 4 ?_;refine UF 5 I (D9 (lo:=1) (hi:=J (x::xs)) (r:=q0) I ir (Zv I) (.inr ⟨_,_,I,(Zv I)⟩) (.inl ⟨I,I⟩) (by simp) (by simpa using hcap) hq1) ?_;refine cQ 6 Zk (jX I I (Ju (e:=5) (bytes:=1) I (by omega) rfl Za rfl rfl (λw hi=>(by have h5:=(hi.rd (Ur (b8 (sA bb) c (x::xs)))).cut (lo:=1) (hi:=J (x::xs)) (by simp) (aL _);rw[<-hq1]at h5;exact h5)) (by rw[iO,nH];exact cP) (by omega)) ZJ rfl ?_);refine Uw ?_;rw[show 0+(J (x::xs) - 1)=J xs by simp,show(ints .u8 (x::xs)).take 0++((ints .u8 (x::xs)).take (J (x::xs))).drop 1=ints .u8 xs from by(simp[ints];exact List.take_of_length_le (by simp))];refine ZE 7 ?_;refine fe ?_;refine Ux ?_;refine Zy (kX (sz:=1) (lo:=J xs) (hi:=J (x::xs)) (r:=J xs) I ir (Zv I) (.inr ⟨_,_,I,(Zv I)⟩) (.inr ⟨_,_,I,(Zv I)⟩) (by omega) (by omega) (by omega) (by omega)) ?_;refine et (Φ I Za I ir I I (aL _) (by simp only[aE];omega)) ?_;refine Uw ?_;refine UE ?_;exact IN
theorem Qb(b:Nat)(Ao:Oa)(no co:Nat)(Ai:Oa)(ci:Nat)(inp:Li)(hl:J inp<=1000000000):CI prog 347 [.p b] [yV b Ao no co Ai (J inp) ci,b8 Ai ci inp] (λv cs=>∃Ai' ci',v= .int .u8 (gB inp 0)/\cs=[b8 Ai' ci' inp.tail,yV b Ao no co Ai' (J inp.tail) ci']):=λw hi=>by
 cases inp with
 |nil=>
  refine UH func347 ntmps347 hi ?_;refine mU ?_;refine mV ?_;refine Ux ?_;refine bI [b8 Ai ci [],yV b Ao no co Ai 0 ci] Zj (Vd ([slv _ _ _ _ _ _,row _ _ _]) ?_);exact pF
 |cons x xs=>
  have hxl:J (x::xs)=J xs+1:=rfl;have hc1':((J (x::xs):Int)==0)=false:=by rw[bE];simp only[aE];omega
  obtain⟨bb,rfl⟩:=dp (hi.get (Ur (b8 Ai ci (x::xs)))) cE;refine UH func347 ntmps347 hi ?_;refine mU ?_;refine cG I (hc1') (UG ?_);refine Zy (bW (j:=0) (sz:=1) (r:=0) I ir (Zv I) (Zv I) Uq Uq O) ?_;refine dW (bL ir ne) (cN (xs:=ints .u8 (x::xs)) Zh I) I (eK ?_);refine dE ([b8 (sA bb) ci (x::xs)]) (λw hi hin=>Ml (sA bb) ci x xs (by simp only[aE]at hl;omega) w hin) ?_;rintro _ _ ⟨A2,c2,rfl,rfl⟩;refine jD ?_;refine UE ?_;refine Vd ([slv _ _ _ _ _ _,row _ _ _]) ?_;exact pF
theorem P4(bd bk:Nat)(L:ez)(M:Uy)(SV:Li)(hk:J SV=1024)(hkb:UO SV)(SA a cmd:Nat)(hs:SA<=4294967295)(ha:a<=4294967295):CI prog 351 [.p bd,.p L.bm,.w SA,.w a,.w cmd] [Ns bd bk,FO bk SV,eY L M] (λv cs=>v= .bool (dL L.n M SV SA a cmd).1/\cs=[Ns bd bk,FO bk (dL L.n M SV SA a cmd).2.2,eY L (dL L.n M SV SA a cmd).2.1]):=λw hi=>by
 obtain⟨n1,n64,hdl,hdb,htl⟩:=mQ (hi.ok (eY L M) cE);refine UH func351 ntmps351 hi ?_;refine mU ?_;refine Wm I I (fH (cU I) (Zv I) O (show _=((a%64:Nat):Int)from by rw[aw O];omega)) ?_;refine Uu ?_;refine dx (bU I I) (.cons (cU I) .nil) (λ_ _=>I) (λhg w hi=>j4 L M w (hi.get (Ur (eY L M)))) I (Wj ?_ ?_)<;>intro hc1
 .have hno:ix L.n SA a=false:=by(have h2:=(xe L.n SA a).symm.trans hc1;simpa using h2)
  have V0:dL L.n M SV SA a cmd=(false,M,SV):=by(unfold dL;rw[hno];rfl)
  rw[V0];refine Ux ?_;exact QV
 have hyes:ix L.n SA a=true:=by(have h2:=(xe L.n SA a).symm.trans hc1;simpa using h2)
 have hf:SA<16/\a%64=0/\a<L.n*64:=by(unfold ix at hyes;simp only[Bool.not_eq_true',aY,aa,bne_eq_false_iff_eq]at hyes;omega)
 obtain⟨s16,am,an⟩:=hf;have V0:dL L.n M SV SA a cmd=bif cmd==1 then(true,M.fill (a/64*64) ((SV.drop (SA*64)).take 64) 64,SV)else bif cmd==2 then(true,M,SV.take (SA*64)++(M.data.drop (a/64*64)).take 64++SV.drop (SA*64+64))else(false,M,SV):=by(unfold dL;rw[hyes];rfl)
 rw[V0];have hsl:J ((SV.drop (SA*64)).take 64)=64:=by(rw[aU,List.length_drop];omega)
 refine UE ?_;refine Zy (fL (Zv I) (Zv I) (show _=((SA*64:Nat):Int)from(u32_wrap_id _ O O).trans O)) ?_;refine ZA ?_;refine Zy (dr (Zv I) (Zv I) (show _=((SA+1:Nat):Int)from(u32_wrap_id _ O O).trans O)) ?_;refine Zy (fL (Zv I) (Zv I) (show _=((SA*64+64:Nat):Int)from(u32_wrap_id _ O O).trans O)) ?_;refine Zy (kX (sz:=1) (lo:=SA*64) (hi:=SA*64+64) (r:=SA*64) I ir (Zv I) (.inr ⟨_,_,I,(Zv I)⟩) (.inr ⟨_,_,I,(Zv I)⟩) O O O O) ?_;refine UA ?_;refine Y8 ?_;refine sO ?_;refine UA ?_;rw[show SA*64+64 - SA*64=64 by omega];refine oI ?_ ?_<;>intro hc6
 .have hcm:(cmd==1)=true:=(lW cmd 1).symm.trans hc6;rw[hcm];refine gV ?_;refine Uu ?_;refine U5 ([eY L M]) (λw hi hin=>Cz L M (a/64) O (some ⟨bk,SA*64,none⟩) (1024 - SA*64) ((SV.drop (SA*64)).take 64) hsl (λx hx=>hkb x (bD (aX hx))) w hin (λw' hk=>disk_rd (hi.rdK (show B4 _ (eY L M) (FO bk SV)from(by repeat (first|(refine .l _ ?_;repeat (first|exact .head _ _|apply UQ.tail))|(refine .r _ ?_;repeat (first|exact .head _ _|apply UQ.tail))|apply B4.t))) hk) s16)) ?_;refine UA ?_;exact bI [Ns bd bk,FO bk SV,eY L (M.fill (a/64*64) ((SV.drop (SA*64)).take 64) 64)] Zj QV
 have hcm:(cmd==1)=false:=(lW cmd 1).symm.trans hc6;rw[hcm];refine fy ?_;refine Ul ?_ ?_<;>intro hc8
 .have hcm2:(cmd==2)=true:=(lW cmd 2).symm.trans hc8;rw[hcm2];refine gV ?_;refine Ut ?_;refine UW (λw hi=>x0 L M (a/64) O w (hi.get (Ur (eY L M)))) ?_;rintro _ _ ⟨bq,rfl,rfl⟩;refine gX ?_;refine gJ (Jt I I Za I I (λw hi=>hi.rd (Ur (sl .u8 5 (sA bq) 64 64 ((M.data.drop (a/64*64)).take 64)))) cP O) I ?_;refine Uw ?_;rw[show(ints .u8 SV).take (SA*64)++(ints .u8 ((M.data.drop (a/64*64)).take 64)).take (min 64 64)++(ints .u8 SV).drop (SA*64+min 64 64)=ints .u8 (SV.take (SA*64)++(M.data.drop (a/64*64)).take 64++SV.drop (SA*64+64))from by(rw[Nat.min_self,iO,iO,nH,bY,bY,List.take_take,Nat.min_self])];refine gX ?_;exact QV
 have hcm2:(cmd==2)=false:=(lW cmd 2).symm.trans hc8;rw[hcm2];refine fy ?_;refine UE ?_;exact QV
theorem Ia(D:qK)(bm:Nat)(X:fv)(d:Un)(hd:d.wf)(a:Nat)(count:Int):CI prog 322 [.p D.bs,.w a,.int .u64 count] (lJ D bm X d) (λv cs=>∃X',v= .tuple #[.w (cz d (iV a) count).1.1,.bool (cz d (iV a) count).1.2]/\cs=lJ D bm X' (cz d (iV a) count).2):=λw hi=>by
 have hinp:=hd.inp;have hgb:V9 .u32 (gB d.inp 0)=gB d.inp 0:=by have:=fF hd.T4 0;exact u32_wrap_id _ O O
 obtain⟨k,hk⟩:=Uk (iV a);rw[hk];unfold iV at hk;refine UH func322 ntmps322 hi ?_;refine eK ?_;refine Zy (eA ne ne hk) ?_;refine VM ?_ ?_<;>intro hc2
 .refine UA ?_;refine UD (λw hi=>q9 D.bi d.SU d.mask w (hi.get Zh)) ?_;refine Ux ?_;refine Iu ?_;refine⟨X,?_,?_⟩
  .exact sQ
  exact sQ
 refine Ul ?_ ?_<;>intro hc4
 .refine UA ?_;refine UD (λw hi=>yA D.bi d.SU d.mask w (hi.get Zh)) ?_;refine Ux ?_;refine Iu ?_;refine⟨X,?_,?_⟩
  .exact sQ
  exact sQ
 refine Ul ?_ ?_<;>intro hc6
 .refine UA ?_;refine UD (λw hi=>NP D.bti d.timer w (hi.get Zh)) ?_;refine Ux ?_;refine Iu ?_;refine⟨X,?_,?_⟩
  .exact sQ
  exact sQ
 refine Ul ?_ ?_<;>intro hc8
 .refine Us ?_;refine mL ?_;refine Ux ?_;refine Iu ?_;refine⟨X,?_,?_⟩
  .exact sQ
  exact sQ
 refine Vl ?_ ?_<;>intro hc10
 .refine DU ?_;refine UE ?_;refine Iu ?_;refine⟨X,?_,?_⟩
  .exact sQ
  exact sQ
 refine VQ ?_ ?_<;>intro hc11
 .refine UE ?_;refine Iu ?_;refine⟨X,?_,?_⟩
  .exact sQ
  exact sQ
 refine Ul ?_ ?_<;>intro hc13
 .refine UA ?_;refine dE ([yV D.bcn X.Ao (J d.out) X.co X.Ai (J d.inp) X.ci,b8 X.Ai X.ci d.inp]) (λw hi hin=>Qb D.bcn X.Ao (J d.out) X.co X.Ai X.ci d.inp hinp w hin) ?_;rintro _ _ ⟨Ai',ci',rfl,rfl⟩;refine Zy (cA I I (Zv I) (show V9 .u32 (gB d.inp 0)=gB d.inp 0 from hgb)) ?_;refine Ux ?_;refine bI (lJ D bm ⟨X.Ao,X.co,Ai',ci'⟩ {d with inp:=d.inp.tail}) Zj (Iu ?_);refine⟨⟨X.Ao,X.co,Ai',ci'⟩,?_,?_⟩
  .exact sQ
  exact sQ
 refine Ul ?_ ?_<;>intro hc15
 .refine UA ?_;refine UD (λw hi=>BF D.bcn X.Ao (J d.out) X.co X.Ai (J d.inp) X.ci w (hi.get Zh)) ?_;refine BU ?_;refine Ux ?_;refine Iu ?_;refine⟨X,?_,?_⟩
  .exact sQ
  exact sQ
 refine Ul ?_ ?_<;>intro hc17
 .refine iR ?_;refine Iu ?_;refine⟨X,?_,?_⟩
  .exact sQ
  exact sQ
 refine Ul ?_ ?_<;>intro hc19
 .refine iR ?_;refine Iu ?_;refine⟨X,?_,?_⟩
  .exact sQ
  exact sQ
 refine Ul ?_ ?_<;>intro hc21
 .refine iR ?_;refine Iu ?_;refine⟨X,?_,?_⟩
  .exact sQ
  exact sQ
 refine eK ?_;refine Iu ?_;refine⟨X,?_,?_⟩
 .exact sQ
 exact sQ
end
end Go.Ink
