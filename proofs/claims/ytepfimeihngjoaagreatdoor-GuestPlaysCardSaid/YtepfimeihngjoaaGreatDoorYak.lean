/- Lemmas. -/
import Derived.Test.YtepfimeihngjoaaGreatDoorYag
import Derived.Test.YtepfimeihngjoaaGreatDoorYah
import Derived.Test.YtepfimeihngjoaaGreatDoorYai
set_option linter.all false
set_option maxRecDepth 100000
set_option maxHeartbeats 4000000
namespace Go.Ink
open List renaming length→J, replicate→R9
open IntKind renaming wrap→V9
open Go.RowKit Go.Proofs.Tryz
section
attribute [local irreducible] UL bM
variable{R:Um}
theorem Qk(s:St)(Ad Ar:Oa)(cd cr:Nat)(op n:Int)(hu:u32 n)(w:World)(h:kS w s Ad Ar cd cr):
  CW prog 197 [sv s Ad cd Ar cr,.agg #[.i op,.w n]] w (.i (dN s op n)):=by
 have hu1:=hu.1;have hu2:=hu.2;have hD:=h.hd;have hR:=h.hr;have HR:=Bh op n;have HS:=Ly op;have HN:=ON op;have HG:=R6 s (.slice Ad (J s.d) cd) (.slice Ar (J s.r) cr) n;have HE:=RI s Ad Ar cd cr n 0;obtain⟨q1,hq1⟩:=Uk (eG op n);obtain⟨q2,hq2⟩:=Uk (lz op);obtain⟨⟨g0,g⟩,hq3⟩:=Uk (s.get n);obtain⟨⟨e0,e⟩,hq4⟩:=Uk (s.set n 0);have hle:=E4 op;unfold dN;rw[hq1]at HR|-;rw[hq2]at HS|-;rw[hq3]at HG|-;rw[hq4]at HE|-;obtain⟨⟨⟨a,b⟩,⟨c,d⟩⟩,hq5⟩:=Uk (bR op);rw[hq5]at HN hle|-;obtain⟨ha,hb,hc,hd⟩:=hle;have ha:a<=3:=ha;have hb:b<=3:=hb;have hc:c<=3:=hc;have hd:d<=3:=hd;refine UB func197 ntmps197 ?_;refine py ?_;refine ZO λb2=>?_;refine ZO λb3=>?_
 refine UG ?_;refine UD (λw hi=>HR w) ?_;refine Wj ?_ ?_<;>intro hc1
 .exact V4
 refine Ut ?_;refine UD (λw hi=>HS w) ?_;refine V1 ?_ ?_<;>intro hc3
 .exact V4
 refine UE ?_;refine sO ?_;refine UD (λw hi=>HG w) ?_;refine xt ?_;refine ZW ?_ ?_<;>intro hc6
 .refine vE ?_;refine⟨?_,I⟩;exact rN
 refine UG ?_;refine sO ?_;refine UW (λw hi=>HE w (h.SS hi)) ?_;rintro _ _ ⟨A1,c1,A2,c2,rfl,rfl⟩;refine Us ?_;refine ZN λb7=>?_
 refine ZM ?_;refine tH ?_ ?_<;>intro hc9
 .refine vE ?_;refine⟨?_,I⟩;exact rN
 refine UA ?_;refine UD (λw hi=>HN w) ?_;refine jF ?_;refine oI ?_ ?_<;>intro hc12
 .exact V4
 refine UA ?_;refine rL ?_;refine ZA ?_;refine mT ?_;refine UA ?_;refine Wm I I (eA (cU I) (cU I) Zl) ?_;refine ZB ?_;refine Wm I I (dr (cU I) (cU I) Zl) ?_;refine VQ ?_ ?_<;>intro hc14
 .exact V4
 refine jE ?_;refine⟨?_,I⟩;exact rN
def Um.sp(R:Um):Sp:=⟨R.s.SJ,R.s.Sy,R.s.root.toNat⟩
abbrev Um.wdv(R:Um)(t:Tr)(b:Bool):Um:=⟨R.s,R.count,t,b⟩
structure Nj where
 p:Int
 ok:Bool
 r:Um
 u:Uo
theorem tZ(K:IP)(X:eN)(R:Um)(hr:0<=R.s.root)(w:World)(h:(wD K X R).ok w):
  CW prog 325 [.p K.br] w R.sp.v:=
 (N4 K X R w h).mono λv cs ⟨h1,h2⟩=>⟨by rw[h1,Um.sp,Sp.v,Int.toNat_of_nonneg hr],h2⟩
abbrev my(K:IP)(X:eN)(R:Um):List Value:=[.w R.s.pc,.slice X.Ad (J R.s.d) X.cd,.slice X.Ar (J R.s.r) X.cr,.w R.s.flags,.bool R.s.Sy,.bool R.s.SJ,.bool R.s.ie,.w R.s.root,.w R.s.vec,.w R.s.epc,.w R.s.SB,.w R.s.addr,.bool R.s.SO,.bool R.s.eie,.int .u64 R.s.count,.bool R.s.halted,.int .u64 R.count,.pointer K.u,.pointer K.b,.i R.SL.SB,.w R.SL.addr,.bool R.device]
structure ek where
 r:Um
 u:Uo
 d:Un
def gL(W:Nj)(d:Un)(va:Nat)(v:Int)(o:Bool):ek:=⟨(bif !o then W.r.wt ⟨10,va⟩else W.r).push [v],W.u,d⟩
abbrev o3(br bu bb:Nat)(L:ez)(D:qK)(X:eN)(Y:fv)(m:ek):List bH:=gz (Ve br bu D) X m.r++uF bu bb L m.u++lJ D L.bm Y m.d
end
end Go.Ink
namespace Go.Ink
open List renaming length→J, replicate→R9
open IntKind renaming wrap→V9
open Go.RowKit Go.Proofs.Tryz
abbrev ek.of(p:Um×Uo)(d:Un):ek:=⟨p.1,p.2,d⟩
abbrev Um.ws(R:Um)(s:St):Um:=⟨s,R.count,R.SL,R.device⟩
section
attribute [local irreducible] UL bM
abbrev St.wpc(s:St)(x:Int):St:=⟨x,s.d,s.r,s.flags,s.Sy,s.SJ,s.ie,s.root,s.vec,s.epc,s.SB,s.addr,s.SO,s.eie,s.count,s.halted⟩
def eV(s:St)(op:Int):Um:=⟨s.next.wpc (V9 .u32 (s.pc+V9 .u32 (cw op))),s.count,Tr.none,false⟩
def DG(s:St)(m:ek):Wn:=
 bif m.r.SL.SB !=0 then⟨s.next.SL m.r.SL.SB m.r.SL.addr,true,m.r.device,dY m.u.m.SD 64⟩else⟨m.r.s,false,m.r.device,dY m.u.m.SD 64⟩
theorem mA(op n:Int)(R:Um)(h:(bS op n R).1=false):(bS op n R).2=R:=by
 grind [bS,cZ,PD]
variable{s:St}
variable{op:Int}
def RC(R:Um)(va:Nat):Um:=bif((va%4:Nat):Int) !=0 then R.wt ⟨6,va⟩else R.wt ⟨10,va⟩
def otherN(op nn:Int)(R:Um):Um:=
 bif op==48 then RC R.pop R.top.toNat else
 bif op==49 then RC R.pop.pop R.top.toNat else
 bif op==50 then R.pop.wt ⟨10,R.top⟩else
 bif op==51 then R.pop.wt ⟨10,R.top⟩else
 bif op==52 then R.pop.wt ⟨10,R.top⟩else
 bif op==53 then R.pop.wt ⟨10,R.top⟩else
 bif op==64 then R.wt ⟨11,0⟩else
 bif op==65 then R.ws R.s.back else
 bif op==66 then R.push [((R.s.S5 R.count).get nn).1]else
 bif op==67 then R.pop.ws (R.pop.s.set nn R.top).1 else
 bif op==68 then R.pop else
 bif op==69 then R.ws R.s.halt else R
def AP(s:St)(op nn:Int):Um:=
 match cV op nn (eV s op)with
 |some R=>R
 |none=>bif(bS op nn (eV s op)).1 then(bS op nn (eV s op)).2 else otherN op nn (bS op nn (eV s op)).2
def Sb(s:St)(R:Um):Wn:=
 bif R.SL.SB !=0 then⟨s.next.SL R.SL.SB R.SL.addr,true,R.device,[]⟩else⟨R.s,false,R.device,[]⟩
def Xs(s:St)(op nn:Int):Wn:=
 bif !s.right then⟨s,false,false,[]⟩else
 bif dN s op nn !=0 then⟨s.next.SL (dN s op nn) 0,true,false,[]⟩else
 Sb s (AP s op nn)
theorem Mw(bm:Nat)(A:Oa)(c:Nat)(l:Li)(hl:J l<=1024)(w:World)(h:Rd w .u8 A (J l) c l):Uz prog 89 [.p bm,.slice A (J l) c] w []
  (λv cs=>∃D,v= .tuple #[.p D.bs,.i 0]/\cs=lJ D bm ⟨none,0,none,0⟩ (Un.init l)):=by
 obtain⟨dd,hdd⟩:=Uk (oY l);unfold Un.init;rw[hdd];have HD:=λw (hi:Rd w .u8 A (J l) c l)=>Mb A c l hl w hi
 rw[hdd]at HD;refine UB func89 ntmps89 ?_;refine iR ?_;refine jn ?_;refine Uu ?_;refine UW (λw hi=>HD w (h.SS hi)) ?_;rintro _ _ ⟨bdr,bdk,rfl,rfl⟩;refine qB ?_;refine Ut ?_;refine UW (λw hi=>Lc w) ?_;rintro _ _ ⟨bi,rfl,rfl⟩;refine UW (λw hi=>Jk w) ?_;rintro _ _ ⟨bti,rfl,rfl⟩;refine UW (λw hi=>Mp w) ?_;rintro _ _ ⟨bcn,rfl,rfl⟩;refine Us ?_;refine ZO λb24=>?_
 refine ZA ?_;refine dg 5 1 (dg 5 1 (Ut ?_));refine bI (lJ ⟨b24,bi,bti,bcn,bdr,bdk⟩ bm ⟨none,0,none,0⟩ ⟨0,0,0,[],[],dd,0,0,0⟩) Zj (Iu ?_);exact⟨⟨b24,bi,bti,bcn,bdr,bdk⟩,I,I⟩
variable{l:Li}
theorem init_wf(h:J l<=1024)(hb:UO l):(Un.init l).wf:=⟨λx hx=>(by cases hx),H6 h,Mi hb,ay _,ay _,ay _⟩
variable{n:Nat}
variable{M:Uy}
structure Un.ok(d:Un):Prop where
 wf:d.wf
 SU:u32 d.SU
 mask:u32 d.mask
 timer:u32 d.timer
 status:u32 d.status
theorem Un.wf.re{d d':Un}(h:d.wf)(h1:d'.inp=d.inp)(h2:d'.SV=d.SV)(h3:d'.SA=d.SA)(h4:d'.place=d.place):d'.wf:=
 ⟨h1▸h.T4,h2▸h.SV,h2▸h.Tw,h3▸h.SA,h4▸h.place,h1▸h.inp⟩
theorem Un.TB(h:J l<=1024)(hb:UO l):(Un.init l).ok:=⟨init_wf h hb,u0,u0,u0,u0⟩
theorem H7{d:Un}(h:d.ok)(k count:Int):u32 (cz d k count).1.1/\(cz d k count).2.ok/\(cz d k count).2.out=d.out:=by
 have hi:=h.wf.inp;unfold cz;refine bJ (λq:(Int×Bool)×Un=>u32 q.1.1/\q.2.ok/\q.2.out=d.out) ⟨h.SU,h,I⟩ ?_;refine bJ (λq:(Int×Bool)×Un=>u32 q.1.1/\q.2.ok/\q.2.out=d.out) ⟨h.mask,h,I⟩ ?_;refine bJ (λq:(Int×Bool)×Un=>u32 q.1.1/\q.2.ok/\q.2.out=d.out) ⟨h.timer,h,I⟩ ?_;refine bJ (λq:(Int×Bool)×Un=>u32 q.1.1/\q.2.ok/\q.2.out=d.out) ⟨wrap_u32 _,h,I⟩ ?_;refine bJ (λq:(Int×Bool)×Un=>u32 q.1.1/\q.2.ok/\q.2.out=d.out) ⟨u0,h,I⟩ ?_;refine bJ (λq:(Int×Bool)×Un=>u32 q.1.1/\q.2.ok/\q.2.out=d.out) ⟨u0,h,I⟩ ?_;refine bJ (λq:(Int×Bool)×Un=>u32 q.1.1/\q.2.ok/\q.2.out=d.out) ⟨gB_u32 h.wf.T4 0,⟨⟨λx hx=>h.wf.T4 x (List.mem_of_mem_tail hx),h.wf.SV,h.wf.Tw,h.wf.SA,h.wf.place,by grind⟩,h.SU,h.mask,h.timer,h.status⟩,rfl⟩ ?_
 grind [u32,i7,h.wf.SA,h.wf.place,h.status,u0]
theorem H0(h:M.ok n){SV:Li}(hl:J SV=1024)(hb:UO SV)(SA a cmd:Nat):(dL n M SV SA a cmd).2.1.ok n/\(dL n M SV SA a cmd).2.2.length=1024/\UO (dL n M SV SA a cmd).2.2:=by
 unfold dL;cases hk:(!ix n SA a)with
 |true=>grind
 |false=>
  have hk':ix n SA a=true:=by simpa using hk
  simp only[ix,Bool.not_eq_true',aY,aa,bne_eq_false_iff_eq]at hk';obtain⟨⟨h1,h2⟩,h3⟩:=hk';have hdl:=h.dl;refine fy ?_;refine bJ (λq:Bool×Uy×List Int=>q.2.1.ok n/\J q.2.2=1024/\UO q.2.2) ⟨h.fill _ (λx hx=>hb x (bD (aX hx))) _,hl,hb⟩ ?_;refine bJ (λq:Bool×Uy×List Int=>q.2.1.ok n/\J q.2.2=1024/\UO q.2.2) ⟨h,?_,λx hx=>?_⟩ ⟨h,hl,hb⟩
  .grind
  rcases aK.1 hx with hx|hx
  .rcases aK.1 hx with hx|hx
   .exact hb x (aX hx)
   exact h.db x (bD (aX hx))
  exact hb x (bD hx)
theorem DI(hm:M.ok n){d:Un}(h:d.ok)(k:Int){v:Nat}(hv:v<=4294967295):(bQ n M d k v).2.1.ok n/\(bQ n M d k v).2.2.ok/\(bQ n M d k v).2.2.out.length<=J d.out+1:=by
 have hD:=H0 hm h.wf.SV h.wf.Tw d.SA d.place v;have hvu:=i7 hv;have h0:M.ok n/\d.ok/\J d.out<=J d.out+1:=⟨hm,h,by omega⟩;unfold bQ;refine bJ (λq:Bool×Uy×Un=>q.2.1.ok n/\q.2.2.ok/\J q.2.2.out<=J d.out+1) ⟨hm,⟨h.wf.re I I I I,eu .andNot d.SU v,h.mask,h.timer,h.status⟩,Nat.le_succ _⟩ ?_;refine bJ (λq:Bool×Uy×Un=>q.2.1.ok n/\q.2.2.ok/\J q.2.2.out<=J d.out+1) ⟨hm,⟨h.wf.re I I I I,h.SU,eu .and v 255,h.timer,h.status⟩,Nat.le_succ _⟩ ?_;refine bJ (λq:Bool×Uy×Un=>q.2.1.ok n/\q.2.2.ok/\J q.2.2.out<=J d.out+1) ⟨hm,⟨h.wf.re I I I I,h.SU,h.mask,hvu,h.status⟩,Nat.le_succ _⟩ ?_;refine bJ (λq:Bool×Uy×Un=>q.2.1.ok n/\q.2.2.ok/\J q.2.2.out<=J d.out+1) ⟨hm,⟨⟨h.wf.T4,h.wf.SV,h.wf.Tw,h.wf.SA,h.wf.place,h.wf.inp⟩,h.SU,h.mask,h.timer,h.status⟩,by simp⟩ ?_;refine bJ (λq:Bool×Uy×Un=>q.2.1.ok n/\q.2.2.ok/\J q.2.2.out<=J d.out+1) ⟨hm,⟨⟨h.wf.T4,h.wf.SV,h.wf.Tw,hv,h.wf.place,h.wf.inp⟩,h.SU,h.mask,h.timer,h.status⟩,Nat.le_succ _⟩ ?_;refine bJ (λq:Bool×Uy×Un=>q.2.1.ok n/\q.2.2.ok/\J q.2.2.out<=J d.out+1) ⟨hm,⟨⟨h.wf.T4,h.wf.SV,h.wf.Tw,h.wf.SA,hv,h.wf.inp⟩,h.SU,h.mask,h.timer,h.status⟩,Nat.le_succ _⟩ ?_;refine bJ (λq:Bool×Uy×Un=>q.2.1.ok n/\q.2.2.ok/\J q.2.2.out<=J d.out+1) ⟨hD.1,⟨⟨h.wf.T4,hD.2.1,hD.2.2,h.wf.SA,h.wf.place,h.wf.inp⟩,eu .or d.SU (kG [2]),h.mask,h.timer,bJ u32 u0 u1⟩,Nat.le_succ _⟩ ?_
 grind
structure VR(op:Int)(s s':St):Prop where
 wf:s'.wf
 fl:s'.flags<=15
 cnt:s'.count=s.count
 dl:J s'.d+(bR op).1.1=J s.d+(bR op).1.2
 dt:s'.d.take (J s.d - (bR op).1.1)=s.d.take (J s.d - (bR op).1.1)
 rl:J s'.r+(bR op).2.1=J s.r+(bR op).2.2
 rt:s'.r.take (J s.r - (bR op).2.1)=s.r.take (J s.r - (bR op).2.1)
theorem VR.of{s':St}{m:Li}(P X Q Y:Li)(hn:bR op=((J P,J X),(J Q,J Y)))(wf:s'.wf)(fl:s'.flags<=15)(cnt:s'.count=s.count)
  (h1:s.d=l++P) (h2:s'.d=l++X) (h3:s.r=m++Q) (h4:s'.r=m++Y):VR op s s':=by
 refine⟨wf,fl,cnt,?_,?_,?_,?_⟩
 .grind
 .grind
 .grind
 grind
theorem wm(h:s.wf){l:Li}(hl:∀x,x∈l->u32 x):(⟨s.pc,l,s.r,s.flags,s.Sy,s.SJ,s.ie,s.root,s.vec,s.epc,s.SB,s.addr,s.SO,s.eie,s.count,s.halted⟩:St).wf:=⟨h.pc,h.flags,h.root,h.vec,h.epc,h.SB,h.addr,h.count,hl,h.r⟩
theorem Β(h:s.wf){l:Li}(hl:∀x,x∈l->u32 x):(⟨s.pc,s.d,l,s.flags,s.Sy,s.SJ,s.ie,s.root,s.vec,s.epc,s.SB,s.addr,s.SO,s.eie,s.count,s.halted⟩:St).wf:=⟨h.pc,h.flags,h.root,h.vec,h.epc,h.SB,h.addr,h.count,h.d,hl⟩
theorem Gi(h:s.wf){x:Int}(hx:u32 x):(⟨x,s.d,s.r,s.flags,s.Sy,s.SJ,s.ie,s.root,s.vec,s.epc,s.SB,s.addr,s.SO,s.eie,s.count,s.halted⟩:St).wf:=⟨hx,h.flags,h.root,h.vec,h.epc,h.SB,h.addr,h.count,h.d,h.r⟩
theorem NE(h:s.wf){x:Int}(hx:u32 x):(⟨s.pc,s.d,s.r,x,s.Sy,s.SJ,s.ie,s.root,s.vec,s.epc,s.SB,s.addr,s.SO,s.eie,s.count,s.halted⟩:St).wf:=⟨h.pc,hx,h.root,h.vec,h.epc,h.SB,h.addr,h.count,h.d,h.r⟩
theorem Jy{nn:Int}{R R':Um}(hw:R.s.wf)(hf:R.s.flags<=15)(hnn:u32 nn)(h1:(bR op).1.1<=J R.s.d)(h2:(bR op).2.1<=J R.s.r)(h:cV op nn R=some R'):VR op R.s R'.s/\R'.SL=R.SL/\R'.device=R.device/\R'.count=R.count:=by
 by_cases e:op=0
 .subst e;obtain rfl:R=R':=aG h;exact⟨VR.of (l:=R.s.d) (m:=R.s.r) [] [] [] [] I hw hf I cE cE cE cE,I,I,I⟩
 have e0:(op==0)=false:=by simpa using e
 by_cases e:op=1
 .exact Wq326
 have e1:(op==1)=false:=by simpa using e
 by_cases e:op=2
 .exact Wq326
 have e2:(op==2)=false:=by simpa using e
 by_cases e:op=3
 .subst e;obtain⟨R,l,x,rfl⟩:=Um.snoc (show 1<=J R.s.d from h1);rw[mq]at h;obtain rfl:=aG h;exact⟨VR.of (l:=l) (m:=R.s.r) [x] [x,x] [] [] I (wm hw (by grind [hw.d])) hf rfl rfl rfl cE cE,rfl,rfl,rfl⟩
 have e3:(op==3)=false:=by simpa using e
 by_cases e:op=4
 .subst e;obtain⟨R,l,x,rfl⟩:=Um.snoc (show 1<=J R.s.d from h1);rw[la]at h;obtain rfl:=aG h;exact⟨VR.of (l:=l) (m:=R.s.r) [x] [] [] [] I (wm hw (sN hw.d)) hf I I cE cE cE,I,I,I⟩
 have e4:(op==4)=false:=by simpa using e
 by_cases e:op=5
 .subst e;obtain⟨R,l,x,y,rfl⟩:=Um.Tp (show 2<=J R.s.d from h1);rw[k8]at h;obtain rfl:=aG h;have hd:∀z,z∈(l++[x])++[y]->u32 z:=hw.d;exact⟨VR.of (l:=l) (m:=R.s.r) [x,y] [y,x] [] [] I (wm hw Do) hf I cE I cE cE,I,I,I⟩
 have e5:(op==5)=false:=by simpa using e
 by_cases e:op=6
 .subst e;obtain⟨R,l,x,y,rfl⟩:=Um.Tp (show 2<=J R.s.d from h1);rw[k9]at h;obtain rfl:=aG h;have hd:∀z,z∈(l++[x])++[y]->u32 z:=hw.d;exact⟨VR.of (l:=l) (m:=R.s.r) [x,y] [x,y,x] [] [] I (wm hw Do) hf I cE I cE cE,I,I,I⟩
 have e6:(op==6)=false:=by simpa using e
 by_cases e:op=7
 .subst e;obtain⟨R,l,x,rfl⟩:=Um.snoc (show 1<=J R.s.d from h1);rw[mn]at h;obtain rfl:=aG h;have hd:∀z,z∈l++[x]->u32 z:=hw.d;exact⟨VR.of (l:=l) (m:=R.s.r) [x] [] [] [x] I (Β (wm hw (sN hd)) (Qx hw.r (xn hd))) hf I I cE cE I,I,I,I⟩
 have e7:(op==7)=false:=by simpa using e
 by_cases e:op=8
 .subst e;obtain⟨R,l,x,rfl⟩:=Um.TU (show 1<=J R.s.r from h2);rw[jZ]at h;obtain rfl:=aG h;have hd:∀z,z∈l++[x]->u32 z:=hw.r;exact⟨VR.of (l:=R.s.d) (m:=l) [] [x] [x] [] I (wm (Β hw (sN hd)) (Qx hw.d (xn hd))) hf I cE I I cE,I,I,I⟩
 grind [nh]
theorem GW{nn:Int}{R:Um}(hw:R.s.wf)(hf:R.s.flags<=15)(h1:(bR op).1.1<=J R.s.d)(h2:(bR op).2.1<=J R.s.r)(h:(bS op nn R).1=true):VR op R.s (bS op nn R).2.s/\((bS op nn R).2.SL=R.SL\/(bS op nn R).2.SL=⟨5,0⟩)/\(bS op nn R).2.device=R.device/\(bS op nn R).2.count=R.count:=by
 cases ha:(decide (16<=op)&&decide (op<=25))with
 |true=>
  have h3:=yv ha;rw[h3]at h1;obtain⟨R,l,x,y,rfl⟩:=Um.Tp h1;have hd:∀z,z∈(l++[x])++[y]->u32 z:=hw.d;obtain⟨hv,hf0,hf1⟩:=arDo_ok op (b:=y) (xn (sN hd));obtain⟨⟨v,fl,ok⟩,hq⟩:=Uk (gP op x y);rw[hq]at hv hf0 hf1;have hv:u32 v:=hv;have hf0:0<=fl:=hf0;have hf1:fl<=15:=hf1;have hst:bS op nn (R.wd ((l++[x])++[y]))=(true,bif op !=25 then((bif ok then R.wd l else(R.wd l).wt ⟨5,0⟩).wfl fl).push [v]else(bif ok then R.wd l else(R.wd l).wt ⟨5,0⟩).wfl fl):=by
   simp only[bS,ha,ae,Um.top_wd,Um.pop_wd,hq]
  simp only[aC,ah]at ha;have hwl:(R.wd l).s.wf:=wm hw (sN (sN hd));rw[hst];have hfu:u32 fl:=⟨hf0,by omega⟩;by_cases e:op=25
  .subst e;cases ok
   .exact⟨VR.of (l:=l) (m:=R.s.r) [x,y] [] [] [] I (NE hwl hfu) hf1 I cE cE cE cE,.inr I,I,I⟩
   exact⟨VR.of (l:=l) (m:=R.s.r) [x,y] [] [] [] I (NE hwl hfu) hf1 I cE cE cE cE,.inl I,I,I⟩
  have e':(op !=25)=true:=by simpa using e
  have hn:=Kx (op:=op) O O;simp only[e',ae];cases ok
  .exact⟨VR.of (l:=l) (m:=R.s.r) [x,y] [v] [] [] hn (wm (NE hwl hfu) (Qx (sN (sN hd)) hv)) hf1 I cE I cE (by simp[Um.push]),.inr rfl,rfl,rfl⟩
  exact⟨VR.of (l:=l) (m:=R.s.r) [x,y] [v] [] [] hn (wm (NE hwl hfu) (Qx (sN (sN hd)) hv)) hf1 I cE I cE (by simp[Um.push]),.inl rfl,rfl,rfl⟩
 |false=>
  have hth:u32 (fW R nn):=wrap_u32 _;by_cases e:op=38
  .subst e;exact⟨VR.of (l:=R.s.d) (m:=R.s.r) [] [] [] [R.s.pc] I (Gi (Β hw (Qx hw.r hw.pc)) hth) hf I cE (ax _).symm cE I,.inl I,I,I⟩
  have e1:(op==38)=false:=by simpa using e
  by_cases e:op=32
  .subst e;exact⟨VR.of (l:=R.s.d) (m:=R.s.r) [] [] [] [] I (Gi hw hth) hf I cE (ax _).symm cE (ax _).symm,.inl I,I,I⟩
  have e2:(op==32)=false:=by simpa using e
  by_cases e:op=39
  .subst e;obtain⟨R,l,x,rfl⟩:=Um.TU (show 1<=J R.s.r from h2);have hst:bS 39 nn (R.wr (l++[x]))=(true,(R.wr l).wpc x):=by show(_,_)=_;rw[Um.popR_wr,Um.topR_wr]
   rw[hst];have hd:∀z,z∈l++[x]->u32 z:=hw.r;exact⟨VR.of (l:=R.s.d) (m:=l) [] [] [x] [] I (Gi (Β hw (sN hd)) (xn hd)) hf I cE cE I cE,.inl I,I,I⟩
  have e3:(op==39)=false:=by simpa using e
  by_cases e:op=40
  .subst e;obtain⟨R,l,x,rfl⟩:=Um.snoc (show 1<=J R.s.d from h1);have hst:bS 40 nn (R.wd (l++[x]))=(true,(R.wd l).wpc x):=by show(_,_)=_;rw[Um.pop_wd,Um.top_wd]
   rw[hst];have hd:∀z,z∈l++[x]->u32 z:=hw.d;exact⟨VR.of (l:=l) (m:=R.s.r) [x] [] [] [] I (Gi (wm hw (sN hd)) (xn hd)) hf I I cE cE cE,.inl I,I,I⟩
  have e4:(op==40)=false:=by simpa using e
  have hst:bS op nn R=((cZ op R.s.flags).2,bif(cZ op R.s.flags).1 then R.wpc (fW R nn)else R):=by simp only[bS, *,ae,ac]
  rw[hst]at h|-;have hn:bR op=((0,0),(0,0)):=by
   have h:(cZ op R.s.flags).2=true:=h;by_cases e:op=33
   .subst e;rfl
   by_cases e':op=34
   .subst e';rfl
   by_cases e'':op=35
   .subst e'';rfl
   by_cases e5:op=36
   .subst e5;rfl
   by_cases e6:op=37
   .subst e6;rfl
   have b1:(op==33)=false:=by simpa using e
   have b2:(op==34)=false:=by simpa using e'
   have b3:(op==35)=false:=by simpa using e''
   have b4:(op==36)=false:=by simpa using e5
   have b5:(op==37)=false:=by simpa using e6
   unfold cZ at h;rw[b1,b2,b3,b4,b5]at h;cases h
  cases(cZ op R.s.flags).1
  .exact⟨VR.of (l:=R.s.d) (m:=R.s.r) [] [] [] [] hn hw hf I cE (ax _).symm cE (ax _).symm,.inl I,I,I⟩
  exact⟨VR.of (l:=R.s.d) (m:=R.s.r) [] [] [] [] hn (Gi hw hth) hf I cE (ax _).symm cE (ax _).symm,.inl I,I,I⟩
end
end Go.Ink
namespace Go.Ink
open List renaming length→J, replicate→R9
open IntKind renaming wrap→V9
open Go.RowKit Go.Proofs.Tryz
structure vK(n:Nat)(op:Int)(s:St)(d:Un)(m:ek):Prop where
 u:Wg n m.u
 dv:m.d.ok
 o:J m.d.out<=J d.out+1
 t:Ww m.r.SL
 did:m.r.SL.SB=0->VR op s m.r.s
variable{n:Nat}
variable{s:St}
theorem get_u32(h:s.wf)(reg:Int):u32 (s.get reg).1:=by
 have hb:∀b,u32 (Va b):=λb=>by cases b;exact u0;exact u1
 unfold St.get;refine bJ (λq:Int×Bool=>u32 q.1) (hb _) ?_;refine bJ (λq:Int×Bool=>u32 q.1) (hb _) ?_
 grind [u32,h.root,h.vec,h.epc,h.SB,h.addr,wrap_u32,h.flags,u0]
def ze(s:St)(q:St×Bool):Prop:=q.1.wf/\q.1.flags<=15/\q.1.count=s.count
theorem set_wf(h:s.wf)(hf:s.flags<=15)(reg:Int){v:Int}(hv:u32 v):ze s (s.set reg v):=by
 have h0:ze s (s,false):=⟨h,hf,I⟩;unfold St.set;refine Rc ?_;refine Rc ?_;refine bJ (ze s) ⟨⟨h.pc,h.flags,eu .andNot v 63,h.vec,h.epc,h.SB,h.addr,h.count,h.d,h.r⟩,hf,I⟩ ?_;refine bJ (ze s) ⟨⟨h.pc,h.flags,h.root,hv,h.epc,h.SB,h.addr,h.count,h.d,h.r⟩,hf,I⟩ ?_;refine bJ (ze s) ⟨⟨h.pc,h.flags,h.root,h.vec,hv,h.SB,h.addr,h.count,h.d,h.r⟩,hf,I⟩ ?_;refine bJ (ze s) ⟨⟨h.pc,h.flags,h.root,h.vec,h.epc,hv,h.addr,h.count,h.d,h.r⟩,hf,I⟩ ?_;refine bJ (ze s) ⟨⟨h.pc,h.flags,h.root,h.vec,h.epc,h.SB,hv,h.count,h.d,h.r⟩,hf,I⟩ ?_;refine Rc ?_;refine Rc ?_;refine bJ (ze s) ⟨⟨h.pc,eu .and v 15,h.root,h.vec,h.epc,h.SB,h.addr,h.count,h.d,h.r⟩,?_,I⟩ h0
 grind [bits,ML]
section
variable{n:Nat}{op:Int}{d:Un}
theorem De(h:s.wf):s.next.wf:=by
 refine⟨h.pc,h.flags,h.root,h.vec,h.epc,h.SB,h.addr,?_,h.d,h.r⟩
 grind [IntKind.wrap_u64]
theorem Jd(h:s.wf)(c:Int){a:Int}(ha:u32 a):(s.SL c a).wf:=⟨h.vec,h.flags,h.root,h.vec,h.pc,wrap_u32 _,ha,h.count,h.d,h.r⟩
structure Goes(n:Nat)(s:St)(d:Un)(q:Wn×Uo×Un):Prop where
 wf:q.1.s.wf
 right:q.1.s.right=true
 cnt:q.1.s.count=V9 .u64 (s.count+1)
 u:Wg n q.2.1
 dv:q.2.2.ok
 o:J q.2.2.out<=J d.out+1
theorem Mk{s':St}(h:VR op s s')(hs:J s.d<=16/\J s.r<=16)(hn:(bR op).1.1<=J s.d/\(bR op).2.1<=J s.r)(hr:(J s.d:Int) - (bR op).1.1+(bR op).1.2<=16/\(J s.r:Int) - (bR op).2.1+(bR op).2.2<=16):s'.right=true:=by
 grind [h.dl,h.rl,h.fl,St.right]
end
section
open Go.ChangeShapes Go.WideShapes
variable{P:Program}{w:World}{t:TypeId}{cs:List Value}{v:Value}
theorem VS.rows{α:Type}{e:TypeId}{sz:Nat}{f:α->List Value}{Q:α->Prop}(ht:P.underlying t=some (.slice e))(hc:P.cellsOf e=sz)(hf:∀a,J (f a)=sz)(a0:α)
  (ho:∀es,VS P w e es->∃a,es=f a/\Q a) (h:VS P w t cs):
  ∃(A:Oa) (c:Nat) (xs:List α),cs=[.slice A (J xs) c]/\UJ w sz A (J xs) c (xs.flatMap f)/\(∀x,x∈xs->Q x)/\c*P.bytesOf e<=140737488351232:=by
 rcases h.slice ht with rfl|⟨a,len,cap,rfl,hl,hm,hb,hi⟩
 .exact⟨none,0,[],I,⟨by simp,aL _,by decide,λ_=>⟨I,I⟩,λ_ h=>by cases h⟩,(λx hx=>by cases hx),by simp⟩
 have each:∀i:Nat,∃x:α,i<cap->(∀j v,(f x)[j]? =some v->w.cell? (a.add (i*sz+j))=some v)/\Q x:=λi=>by
  by_cases hlt:i<cap
  .obtain⟨es,base,h1,h2⟩:=hi i hlt;obtain⟨x,rfl,hq⟩:=ho es h2;rw[hc]at h1;refine⟨x,λ_=>⟨λj v hj=>?_,hq⟩⟩;have hjl:=(ap.1 hj).1;rw[hf]at hjl;have:=(World.cells?_some h1).2.2 j hjl;rw[Go.Ink.rG]at this;rw[this];exact hj
  exact⟨a0,λh=>absurd h hlt⟩
 obtain⟨g,hg⟩:=Classical.axiomOfChoice each;refine⟨some a,cap,(List.range len).map g,by simp,⟨by rw[yO hf],by simpa using hl,hm,(λh=>by cases h),?_⟩,?_,hb⟩
 .intro ad e j u hu;obtain rfl:a=ad:=by simpa using e
  have hj:=(ap.1 hu).1;rw[yO hf,List.length_map,List.length_range]at hj;by_cases hsz:sz=0
  .subst hsz;simp at hj
  have hq:j/sz<len:=(Nat.div_lt_iff_lt_mul (Nat.pos_of_ne_zero hsz)).2 hj;have hjm:j/sz*sz+j%sz=j:=Nat.div_add_mod' j sz;have hx:((List.range len).map g)[j/sz]? =some (g (j/sz)):=by rw[List.getElem?_map,List.getElem?_range hq];rfl
  have hr:j%sz<J (f (g (j/sz))):=by rw[hf];exact Nat.mod_lt _ (Nat.pos_of_ne_zero hsz)
  have h1:=fK hf hx (aj hr);rw[hjm]at h1;rw[h1]at hu;have h2:=(hg (j/sz) O).1 (j%sz) _ (aj hr);rw[hjm]at h2;rw[h2,hu]
 intro x hx;simp only[List.mem_map,List.mem_range]at hx;obtain⟨i,hi',rfl⟩:=hx;exact(hg i O).2
theorem zp.rows{α:Type}{e:TypeId}{sz:Nat}{f:α->List Value}{Q:α->Prop}(ht:P.underlying t=some (.slice e))(hc:P.cellsOf e=sz)(hf:∀a,J (f a)=sz)(a0:α)
  (ho:∀es,VS P w e es->∃a,es=f a/\Q a) (h:zp P w t v):
  ∃(A:Oa) (c:Nat) (xs:List α),v= .slice A (J xs) c/\UJ w sz A (J xs) c (xs.flatMap f)/\(∀x,x∈xs->Q x)/\c*P.bytesOf e<=140737488351232:=by
 obtain⟨⟨r,b,hk⟩,h⟩:=h;obtain⟨a,l,c,rfl⟩:=okWide_slice ht hk;obtain⟨A,c',xs,h1,h2⟩:=h.rows ht hc hf a0 ho;simp[Value.cells]at h1;obtain⟨rfl,rfl,rfl⟩:=h1;exact⟨_,_,_,I,h2⟩
end
structure XT.ok(W:World)(a:XT):Prop where
 v:u32 a.v
 nn:u32 a.nn
 rd:Rd W .u32 a.At (J a.ts) a.ct a.ts
 ts:∀x,x∈a.ts->u32 x
section
attribute [local irreducible] UL bM
theorem Yb{n:Int}(h:(Lit.int .u8 n).wf=true):0<=n/\n<=255:=by
 simp only[Lit.wf,aC,ah]at h;have h1:IntKind.u8.min=0:=rfl;have h2:IntKind.u8.max=255:=rfl;rw[h1,h2]at h;exact h
theorem vq(b:Nat)(Ao:Oa)(co:Nat)(o:Li)(Ai:Oa)(ni ci:Nat)(ho:J o<=1000000000)(w:World)(h:(yV b Ao (J o) co Ai ni ci).ok w)(h2:(b8 Ao co o).ok w):
  Uz prog 42 [.p b] w [] (λv cs=>∃A' c',v= .slice A' (J o) c'/\cs=[b8 A' c' o]):=by
 refine UB func42 ntmps42 ?_;refine vF ?_;refine ZS (λw hi=>nO Ao _ co o w (UJ.SS (de h2) hi) O) ?_;exact YM
section
theorem wv:dY (R9 64 false) 64=[]:=by rfl
end
theorem Hp(b x:Nat)(p m:Int)(hx:bits .and .u32 p m=(x:Int))(h256:x<256)(w:World)(h:(ri b p m).ok w)(ht:lG w):
  CW prog 141 [.p b] w (.tuple #[.i (((jy x).getD 0:Nat):Int),.bool (jy x).isSome]):=by
 refine UB func141 ntmps141 ?_;refine Ux ?_;refine B7 ?_;refine Ld 2 0 ?_;refine Q5 ?_;refine ZE 5 ?_;refine Ld 6 1 ?_;refine QU ?_;refine UF 8 I (m4 ne ne hx) ?_;refine ZE 9 ?_;refine fe ?_;refine V1 ?_ ?_<;>intro hc2
 .obtain rfl:x=0:=(by have:=gO hc2;omega);rw[O7];refine UG ?_;exact kV
 have hx0:0<x:=(by have:=ne_of_beq_false hc2;omega);obtain⟨k,j,e1, -⟩:=I7 hx0 h256;have HT:=tz_ok x k hx0 h256 e1;rw[e1];refine Uu ?_;refine UD (λw hi=>HT w (ht.old hi)) ?_;refine Uu ?_;exact kV
end
variable{w:World}
theorem qi{cin:List bH}(h:(cR cin).ok w):∀c,c∈cin->c.ok w:=by
 obtain⟨_,_,_,h3⟩:=h;exact h3
variable{w0:World}{S:List Nat}{cs:List bH}
theorem Inv.TD{w':World}{cin rest:List bH}{c:bH}(h:Inv w0 S cs w)(hp:ga cin cs rest)(h2:UQ rest c)(hk:cX (bK cin) w w'):c.ok w':=by
 have hc:=h.ok _ (hp.perm.symm.subset (List.mem_append_right _ h2.mem));refine c.loc w w' (λb hb=>hk.block b (c.lt w hc b hb) λhin=>?_) hc;have hn:=((hp.perm.flatMap_right bH.bs).nodup_iff).1 h.nodup;rw[List.flatMap_append]at hn;exact(List.nodup_append.1 hn).2.2 b hin b (dm.2 ⟨_,h2.mem,hb⟩) I
section
variable{C:Cx}{fr:Fr}{d:Option Tmp}{ty:TypeId}{pos:String}{af:Array Edge}{gd:Option (Nat×Bool)}{x:Operand}
theorem JH{f:FuncId}{l:List Operand}{vs fs caps:List Value}{ats:Array TypeId}{a:Act}(hf:qH C.N fr a)(hx:ev fr x=some (.func (.func f) fs.toArray caps.toArray))(hl:evs fr l=some vs)(hc:∀args w,(callFunc f args).run C.P w= .ok (.enter f args) w):
  (execOp a.eval ⟨d,.call {callee:= .value x,args:=l.toArray,argTypes:=ats},ty,pos,af,gd⟩).run C.P w= .ok (.enter f (fs++vs++caps).toArray) w:=by
 have h1:=hf.ev hx;simp[execOp,resolve,invoke,Deferred.ofValue,h1,<-FF hf hl,hc]
end
variable{e sz c:Nat}{xs vs:List Value}
theorem hH{A:Oa}(h:(slv e sz A n c xs).ok w)(hn:0<n):∃b,A=some ⟨b,0,none⟩:=by
 rcases h.2 with⟨_,h'⟩|⟨g',cap',cur,h',_⟩
 .omega
 simp only[Value.slice.injEq]at h';exact⟨g',h'.1⟩
section
variable{C:Cx}{fr:Fr}{cs:List bH}{d:Option Nat}{T:TypeId}{x y:Operand}{ty:TypeId}{pos:String}{af:Array Edge}{gd:Option (Nat×Bool)}{v:Value}
theorem Eu{bb o:Nat}{mk:bH->List bH}(hT:∀w,(sizeOf T).run C.P w= .ok 1 w)(hx:ev fr x=some (.pointer (some ⟨bb,o,none⟩)))(hy:ev fr y=some v)(h1:v.oneCell'=true)(hu:At cs (slv e sz (sA bb) n c xs) mk)(ho:o<n*sz):
  Vx C ⟨d,.store T x y,ty,pos,af,gd⟩ fr cs true (λu cs'=>u=undef/\cs'=mk (slv e sz (sA bb) n c (xs.set o v))):=λa w hf hi next Q h=>by
 have hown:w.ownsRow 0 e sz (.slice (sA bb) n c) n xs:=hi.get hu.has;have hlen:=hown.1;have hc:w.cell? ⟨bb,o,none⟩=some (xs[o]'(by omega)):=by
  rw[hown.cellAt o O];exact aj O
 have hfz:w.frozen? ⟨bb,o,none⟩=false:=hown.frozenAt o;have hcs:v.cells= #[v]:=by cases v<;>first|rfl|cases h1
 have hr:(execOp a.eval ⟨d,.store T x y,ty,pos,af,gd⟩).run C.P w= .ok .skip (w.setCell ⟨bb,o,none⟩ v):=by
  exact Wq419
 unfold Oper.wp;rw[hr];obtain⟨h2,h3⟩:=hown.stored o v;have hk:=cX.TJ (show w.grownBy (w.setCell ⟨bb,o,none⟩ v) (Value.slice (sA bb) n c).ownBlock from h3);refine h _ _ _ ⟨I,I⟩ (hi.upd (hu _) hk (kI hk h2 λa ha=>?_)) (λe=>by cases e);obtain rfl:(⟨bb,0,none⟩:Addr)=a:=by simpa using ha
 left;simp[slv,bH.bs,ab]
end
section
variable{C:Cx}{fr:Fr}{cs:List bH}{d:Option Nat}{x:Operand}{ty:TypeId}{pos:String}{af:Array Edge}{gd:Option (Nat×Bool)}{v:Value}
variable{l:List Operand}
theorem iK{f:FuncId}{fs caps:List Value}{ats:Array TypeId}{K:Value->List bH->Prop}(cin:List bH){rest:List bH}(hx:ev fr x=some (.func (.func f) fs.toArray caps.toArray))(hl:evs fr l=some vs)(hc:∀args w,(callFunc f args).run C.P w= .ok (.enter f args) w)
  (hp:ga cin cs rest) (h:∀w,Inv C.w0 C.S cs w->Inv w (bK cin) cin w->Uz C.P f (fs++vs++caps) w cin K):
  Vx C ⟨d,.call {callee:= .value x,args:=l.toArray,argTypes:=ats},ty,pos,af,gd⟩ fr cs true (λv cs'=>∃cout,K v cout/\cs'=cout++rest):=λa w hf hinv next Q hn=>by
 have hin:Inv w (bK cin) cin w:=⟨cX.refl _ _,by
  have:=((hp.perm.flatMap_right bH.bs).nodup_iff).1 hinv.nodup;rw[show List.flatMap bH.bs (cin++rest)=bK cin++bK rest from eT _ _]at this;exact(List.nodup_append.1 this).1,λc hc=>hinv.ok c (hp.perm.mem_iff.2 (aK.2 (.inl hc))),λb hb=> .inl hb⟩
 unfold Oper.wp;rw[JH hf hx hl hc];refine Calls.mono (h w hinv hin) λe w' hq=>?_
 obtain⟨v,cout,rfl,hk,hi⟩:=hq;exact hn _ _ _ ⟨cout,hk,I⟩ (hinv.step hp.perm (.refl _) hi.S1 hi) (λe=>by cases e)
end
def Sd.top(s:Sd):Sd:=⟨s.l,s.SK,max s.high ((J s.l:Int) - s.SK)⟩
def Lw.Ti(w:Lw):Int×Lw:=((fu 2 w.code w.r).1,⟨(fu 2 w.code w.r).2.1,w.d,(fu 2 w.code w.r).2.2,w.flags,w.target,w.branch⟩)
def Lw.wfl(w:Lw)(x:Int):Lw:=⟨w.code,w.d,w.r,x,w.target,w.branch⟩
def Lw.SN(w:Lw):Lw:=⟨w.code,w.d.top,w.r.top,w.flags,w.target,w.branch⟩
def Lw.reckon(w:Lw)(op a b:Int):Lw:=
 let w1:=(w.add 4 a b op).wfl w.here
 bif op !=25 then(w1.add 3 a b op).Tt [w1.here]else w1
def Lw.go(w:Lw)(op n next:Int):Lw:=
 bif op==1||op==2 then(w.add 0 0 0 n).Tt [w.here]else
 bif op==3 then w.SH.2.Tt [w.SH.1,w.SH.1]else
 bif op==4 then w.SH.2 else
 bif op==5 then w.SH.2.SH.2.Tt [w.SH.1,w.SH.2.SH.1]else
 bif op==6 then w.SH.2.SH.2.Tt [w.SH.2.SH.1,w.SH.1,w.SH.2.SH.1]else
 bif op==7 then w.SH.2.TX [w.SH.1]else
 bif op==8 then w.Ti.2.Tt [w.Ti.1]else
 bif decide (16<=op)&&decide (op<=25)then w.SH.2.SH.2.reckon op w.SH.2.SH.1 w.SH.1 else
 bif op==38 then(w.add 0 0 0 next).TX [w.here]else
 bif op==39 then w.Ti.2.wtg w.Ti.1 else
 bif op==40 then w.SH.2.wtg w.SH.1 else
 bif decide (33<=op)&&decide (op<=37)then w.wbr op else w
def Lw.one(w:Lw)(op n next:Int):Lw:=(w.go op n next).SN
section
variable{D R:Li}
structure SI(D R D0:Li)(code:List II)(s:Sd)(t:Li):Prop where
 Ua:0<=s.SK
 T9:s.SK<=(J D0:Int)
 eq:t=D0.take (J D0 - s.SK.toNat)++s.l.map (eB D R code)
 idx:∀n,n∈s.l->II.in_ n code
variable{D0:Li}{code:List II}{s:Sd}{t:Li}
theorem SI.app(h:SI D R D0 code s t)(e:List II):SI D R D0 (code++e) s t:=
 ⟨h.Ua,h.T9,by rw[h.eq];congr 1;exact List.map_congr_left λn hn=>(g9 (h.idx n hn)).symm,λn hn=>sh e (h.idx n hn)⟩
theorem SI.put{D0:Li}{code:List II}{s:Sd}{t:Li}(h:SI D R D0 code s t)(l:Li)(hl:∀n,n∈l->II.in_ n code):SI D R D0 code (s.put l) (t++l.map (eB D R code)):=
 ⟨h.Ua,h.T9,by rw[h.eq];simp[Sd.put],λn hn=>by rcases aK.1 hn with h1|h1;exact h.idx n h1;grind⟩
theorem SI.top{D0:Li}{code:List II}{s:Sd}{t:Li}(h:SI D R D0 code s t):SI D R D0 code s.top t:=⟨h.Ua,h.T9,h.eq,h.idx⟩
theorem SI.len(h:SI D R D0 code s t):(J t:Int)=(J D0:Int) - s.SK+(J s.l:Int):=by
 have h1:=h.Ua;have h2:=h.T9;rw[h.eq];simp;omega
theorem J6{k:Int}(hk:k=1/\D0=D\/k=2/\D0=R){code:List II}{s:Sd}{t:Li}(h:SI D R D0 code s t)(hD:J D0<=100)
  (hn:(fu k code s).2.2.SK<=(J D0:Int)):
  ∃l x,t=l++[x]/\SI D R D0 (fu k code s).2.1 (fu k code s).2.2 l/\II.in_ (fu k code s).1 (fu k code s).2.1/\eB D R (fu k code s).2.1 (fu k code s).1=x/\∃e,(fu k code s).2.1=code++e:=by
 have h0:=h.Ua;have h1:=h.T9;have he:=h.eq;unfold fu at hn|-;cases hl:s.l.getLast? with
 |some n=>
  rw[hl]at hn;obtain⟨m,hm⟩:∃m,s.l=m++[n]:=List.getLast?_eq_some_iff.1 hl;refine⟨D0.take (J D0 - s.SK.toNat)++m.map (eB D R code),eB D R code n,?_,⟨h0,h1,?_,?_⟩,?_,I,[],?_⟩
  .grind
  .simp[hm]
  .intro j hj;rw[hm]at hj;exact h.idx j Do
  .exact h.idx n Do
  simp
 |none=>
  rw[hl]at hn;have hs:s.l=[]:=List.getLast?_eq_none_iff.1 hl;have hn:s.SK+1<=(J D0:Int):=hn;have hw:V9 .u32 s.SK=s.SK:=by rw[au];omega
  rw[hs]at he;obtain⟨j,hj⟩:∃j:Nat,s.SK=j:=⟨s.SK.toNat,by omega⟩;have hv:eB D R (code++[⟨k,J code,0,0,V9 .u32 s.SK⟩]) (J code)=D0.getD (J D0 - 1 - j) 0:=by
   rw[kv,hw,hj];rcases hk with⟨rfl,rfl⟩|⟨rfl,rfl⟩<;>rfl
  refine⟨D0.take (J D0 - (j+1)),D0.getD (J D0 - 1 - j) 0,?_,⟨by grind,hn,?_,λn hn=>by cases hn⟩,oW _ _,hv,_,rfl⟩
  .rw[he,hj];have e1:J D0 - ((j:Int)).toNat=(J D0 - (j+1))+1:=by omega
   rw[e1,List.map_nil,ax,List.take_add_one];congr 1;have e2:J D0 - 1 - j=J D0 - (j+1):=by omega
   have e3:J D0 - (j+1)<J D0:=by omega
   grind
  grind
structure LI(D R:Li)(w:Lw)(td tr:Li):Prop where
 d:SI D R D w.code w.d td
 r:SI D R R w.code w.r tr
variable{w:Lw}
theorem FL.app{f0 f:Int}{w':Lw}(h:FL D R f0 w f){e:List II}(hc:w'.code=w.code++e)(hf:w'.flags=w.flags):FL D R f0 w' f:=by
 rcases h with⟨h1,h2⟩|⟨h1,h2⟩
 .exact Or.inl ⟨by rw[hf,h1],h2⟩
 exact Or.inr ⟨by grind [sh],by grind [g9]⟩
variable{td tr:Li}
theorem qW(h:LI D R w td tr)(hD:J D<=100)(hn:w.SH.2.d.SK<=(J D:Int)):
  ∃l x,td=l++[x]/\LI D R w.SH.2 l tr/\II.in_ w.SH.1 w.SH.2.code/\eB D R w.SH.2.code w.SH.1=x/\∃e,w.SH.2.code=w.code++e:=by
 obtain⟨l,x,h1,h2,h3,h4,e,h5⟩:=J6 (k:=1) (Or.inl ⟨I,I⟩) h.d hD hn;exact⟨l,x,h1,⟨h2,by have:=h.r.app e;rw[<-h5]at this;exact this⟩,h3,h4,e,h5⟩
theorem J7(h:LI D R w td tr)(hR:J R<=100)(hn:w.Ti.2.r.SK<=(J R:Int)):
  ∃l x,tr=l++[x]/\LI D R w.Ti.2 td l/\II.in_ w.Ti.1 w.Ti.2.code/\eB D R w.Ti.2.code w.Ti.1=x/\∃e,w.Ti.2.code=w.code++e:=by
 obtain⟨l,x,h1,h2,h3,h4,e,h5⟩:=J6 (k:=2) (Or.inr ⟨I,I⟩) h.r hR hn;exact⟨l,x,h1,⟨by have:=h.d.app e;rw[<-h5]at this;exact this,h2⟩,h3,h4,e,h5⟩
theorem LI.Tt{w:Lw}{td tr:Li}(h:LI D R w td tr)(l:Li)(hl:∀n,n∈l->II.in_ n w.code):LI D R (w.Tt l) (td++l.map (eB D R w.code)) tr:=⟨h.d.put l hl,h.r⟩
theorem LI.TX{w:Lw}{td tr:Li}(h:LI D R w td tr)(l:Li)(hl:∀n,n∈l->II.in_ n w.code):LI D R (w.TX l) td (tr++l.map (eB D R w.code)):=⟨h.d,h.r.put l hl⟩
theorem LI.add{w:Lw}{td tr:Li}(h:LI D R w td tr)(op a b imm:Int):LI D R (w.add op a b imm) td tr:=⟨h.d.app _,h.r.app _⟩
theorem LI.SN{w:Lw}{td tr:Li}(h:LI D R w td tr):LI D R w.SN td tr:=⟨h.d.top,h.r.top⟩
theorem LI.wfl{w:Lw}{td tr:Li}(h:LI D R w td tr)(x:Int):LI D R (w.wfl x) td tr:=⟨h.d,h.r⟩
theorem LI.wtg{w:Lw}{td tr:Li}(h:LI D R w td tr)(x:Int):LI D R (w.wtg x) td tr:=⟨h.d,h.r⟩
theorem LI.wbr{w:Lw}{td tr:Li}(h:LI D R w td tr)(x:Int):LI D R (w.wbr x) td tr:=⟨h.d,h.r⟩
theorem LI.T1(h:LI D R w.SN td tr):(J td:Int)<=(J D:Int)+w.SN.d.high:=by
 have h1:=h.d.len;have h2:w.SN.d.SK=w.d.SK:=rfl;have h3:w.SN.d.l=w.d.l:=rfl;have h4:(J w.d.l:Int) - w.d.SK<=w.SN.d.high:=Int.le_max_right _ _
 grind
theorem LI.lenR(h:LI D R w.SN td tr):(J tr:Int)<=(J R:Int)+w.SN.r.high:=by
 have h1:=h.r.len;have h2:w.SN.r.SK=w.r.SK:=rfl;have h3:w.SN.r.l=w.r.l:=rfl;have h4:(J w.r.l:Int) - w.r.SK<=w.SN.r.high:=Int.le_max_right _ _
 grind
end
section
variable{s:St}{op nn:Int}
theorem Sc{R:Um}(hs:s.right=true)(hp:dy op=true)(ho:eG op nn=true)(hm:AP s op nn=R)(ht:R.SL=Tr.none)(hv:R.device=false)
  (h1:(bR op).1.1<=J s.d) (h2:(bR op).2.1<=J s.r) (h3:J s.d+(bR op).1.2<=16+(bR op).1.1) (h4:J s.r+(bR op).2.2<=16+(bR op).2.1):
  Xs s op nn=⟨R.s,false,false,[]⟩:=by
 have hn:qe s (bR op)=0:=by
  unfold qe;rw[show decide ((J s.d:Int)<((bR op).1.1:Int))=false from ao O,show decide ((J s.r:Int)<((bR op).2.1:Int))=false from ao O,
   show decide (16<(J s.d:Int) - ((bR op).1.1:Int)+((bR op).1.2:Int))=false from ao O,show decide (16<(J s.r:Int) - ((bR op).2.1:Int)+((bR op).2.2:Int))=false from ao O]
  rfl
 have hc:=je hp;have e1:lz op=false:=by unfold lz;rw[show decide (65<=op)=false from ao O];rfl
 have e2:(op==66)=false:=by simp;omega
 have e3:(op==67)=false:=by simp;omega
 unfold Xs dN;rw[hs,ho,hn,e1,e2,e3,hm];show Sb s R=_;unfold Sb;rw[ht,hv]
 rfl
theorem wK(h:(16<=op/\op<=23)\/op=25)(R:Um):cV op nn R=none/\bS op nn R=(true,bif op !=25 then(R.pop.pop.wfl (gP op R.pop.top R.top).2.1).push [(gP op R.pop.top R.top).1]else R.pop.pop.wfl (gP op R.pop.top R.top).2.1):=by
 have h:op=16\/op=17\/op=18\/op=19\/op=20\/op=21\/op=22\/op=23\/op=25:=by omega
 rcases h with rfl|rfl|rfl|rfl|rfl|rfl|rfl|rfl|rfl<;>exact⟨I,I⟩
theorem Fg(h:33<=op/\op<=37)(R:Um):cV op nn R=none/\bS op nn R=(true,bif(cZ op R.s.flags).1 then R.wpc (fW R nn)else R):=by
 have h:op=33\/op=34\/op=35\/op=36\/op=37:=by omega
 rcases h with rfl|rfl|rfl|rfl|rfl<;>exact⟨I,I⟩
end
structure D4(D R:Li)(f0:Int)(s:St)(op nn:Int)(w':Lw)(s':St):Prop where
 did:Xs s op nn=⟨s',false,false,[]⟩
 li:LI D R w' s'.d s'.r
 fl:FL D R f0 w' s'.flags
 pc:s'.pc=rF D R w' op nn (dS s op) s'.flags
 tg:w'.target= -1\/II.in_ w'.target w'.code
 going:op<32->w'.target= -1/\w'.branch=0
 rest:s'=⟨s'.pc,s'.d,s'.r,s'.flags,s.Sy,s.SJ,s.ie,s.root,s.vec,s.epc,s.SB,s.addr,s.SO,s.eie,V9 .u64 (s.count+1),s.halted⟩
section
variable{D R:Li}{f0:Int}{s:St}{op nn:Int}{w w':Lw}
theorem iQ(td tr:Li)(hs:s.right=true)(hp:dy op=true)(ho:eG op nn=true)(hm:cV op nn (eV s op)=some (((eV s op).wd td).wr tr))
  (h1:(bR op).1.1<=J s.d) (h2:(bR op).2.1<=J s.r) (h3:J s.d+(bR op).1.2<=16+(bR op).1.1) (h4:J s.r+(bR op).2.2<=16+(bR op).2.1)
  (hl:LI D R w' td tr) (hf:FL D R f0 w' s.flags) (hb:w'.branch=0) (ht:w'.target= -1) (ho2:(op==32||op==38)=false):∃s',D4 D R f0 s op nn w' s':=
 ⟨(((eV s op).wd td).wr tr).s,Sc hs hp ho (by grind [AP]) rfl rfl h1 h2 h3 h4,hl,hf,(tG hb ht ho2).symm,Or.inl ht,λ_=>⟨ht,hb⟩,I⟩
variable{x:Int}
theorem yn{td tr:Li}(h:LI D R w td tr)(hD:J D<=100)(hn:w.SH.2.SH.2.d.SK<=(J D:Int)):
  ∃l x y,td=(l++[x])++[y]/\LI D R w.SH.2.SH.2 l tr/\II.in_ w.SH.1 w.SH.2.SH.2.code/\eB D R w.SH.2.SH.2.code w.SH.1=y/\
   II.in_ w.SH.2.SH.1 w.SH.2.SH.2.code/\eB D R w.SH.2.SH.2.code w.SH.2.SH.1=x/\∃e,w.SH.2.SH.2.code=w.code++e:=by
 obtain⟨l1,y,a1,a2,a3,a4,e1,a5⟩:=qW h hD (Int.le_trans (J8 w.SH.2) hn)
 grind [qW,sh,g9]
end
end Go.Ink
