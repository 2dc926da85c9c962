/- Lemmas. -/
import Derived.Test.YtepfimeihngjoaaGreatDoorXah
import Derived.Test.YtepfimeihngjoaaGreatDoorXai
set_option linter.all false
set_option maxRecDepth 100000
set_option maxHeartbeats 4000000
namespace Go.Ink
open List renaming length→J, replicate→R9
open IntKind renaming wrap→V9
open Go.RowKit Go.Proofs.Tryz
variable{j:Nat}{b:Bool}
section
attribute [local irreducible] Ve bN
variable{n k:Nat}
variable{L:fF}
variable{d:Li}{a:Nat}
theorem Ox(bb:Nat)(T:List TE)(hT:J T=16)(va:Nat)(hva:va<=4294967295):CI prog 328 [.p bb,.w va] [CO bb T] (λx cs=>x= .tuple #[]/\cs=[CO bb (pv T va)]):=λw hi=>by
 have hlt:va/64%16<J T:=by omega
 have he:T[va/64%16]? =some (xl T va):=by simp[xl,hlt]
 have hcell:(dG T)[(va/64%16)*4+1]? =some (.w (xl T va).vpn):=by
  have h1:=gK he;have h2:(((dG T).drop ((va/64%16)*4)).take 4)[1]? =some (.w (xl T va).vpn):=by rw[h1];rfl
  rw[List.getElem?_take,if_pos (by omega),List.getElem?_drop]at h2;exact h2
 unfold pv;obtain⟨e,hee⟩:=Do (xl T va);rw[hee]at hcell|-;refine Vb func328 ntmps328 hi ?_;refine UN ?_;refine Zy (kf (Zv I) (Zv I) (by omega) (show _=((va/64:Nat):Int)from by rw[bl (by omega),u32_wrap_id _ (by omega) (by omega)];omega)) ?_;refine UK ?_;refine jf ?_;refine lO ?_;refine ZE 3 ?_;refine UE 4 0 ?_;refine cP 2 Zk (V1 (λw hi=>tR (va/64) w) ?_);refine UR ?_;refine UY 5 I (dj (j:=(va/64%16)) (sz:=4) (r:=(va/64%16)*4) I ir (Zv I) (Zv I) (λ_=>by omega) (λ_=>by omega) (by omega)) ?_;refine ZE 6 ?_;refine fh ?_;refine UU ?_;refine dZ (bO ir py) (cT Zh hcell) I (WK ?_ ?_)<;>intro hc2
 .rw[hc2];refine UK ?_;refine eA (gb (n:=4) (vs:=TE.zero.cells) ir I I (jR I) Za I (by rw[eG];simp only[TE.cells,aE,bD];omega)) ?_;refine UR ?_;rw[show J TE.zero.cells=4 from I,lf (T:=T) TE.zero hlt];exact WZ
 rw[hc2];refine Zc (io (cs':=[row _ _ _]) (.inr I) Zu I ?_);exact fx
theorem and1{v:Int}(h:u32 v):bits .and .u32 v 1=v%2:=bits_mask .u32 32 ne wraps_u32 1 ne v h.1 (by have:=h.2;omega)
theorem Ni{v:Int}(h:u32 v):bits .and .u32 v 15=v%16:=bits_mask .u32 32 ne wraps_u32 4 ne v h.1 (by have:=h.2;omega)
theorem Nf(v:Nat)(h:v<=4294967295):bits .andNot .u32 (v:Int) 63=((v/64*64:Nat):Int):=by
 show V9 .u32 (((BitVec.ofInt 32 (v:Int))&&& ~~~ (BitVec.ofInt 32 63)).toNat:Int)=_;have e1:(BitVec.ofInt 32 (v:Int)).toNat=v:=by rw[BitVec.ofInt_natCast,BitVec.toNat_ofNat];exact CC
 have h1:v&&&4294967232=(v/64)*64:=by
  apply Nat.eq_of_testBit_eq;intro i;have e:(4294967232:Nat)=(2^26 - 1)*2^6:=by decide
  rw[e,Nat.testBit_and,show(v/64)*64=(v/2^6)*2^6 from I];rw[Nat.testBit_mul_two_pow,Nat.testBit_mul_two_pow,Nat.testBit_two_pow_sub_one,Nat.testBit_div_two_pow];by_cases hi:6<=i
  .simp only[hi,decide_true,bz,show i - 6+6=i by omega];by_cases h26:i - 6<26
   .simp[h26]
   have:v.testBit i=false:=Nat.testBit_lt_two_pow (Nat.lt_of_lt_of_le (show v<2^32 by omega) (Nat.pow_le_pow_right O O));simp[this]
  simp[hi]
 grind [u32_wrap_id]
variable{va:Nat}
theorem vj{root:Nat}{l:Int}(h:Vh d)(hl:iw n d root va=some (a,l)):u32 l/\a+4<=n*64:=by
 unfold iw at hl;cases hc:decide (16384<=va)with
 |true=>grind
 |false=>
  rw[hc]at hl;simp only[ac]at hl;obtain⟨e,h1,h2⟩:=Option.bind_eq_some_iff.1 hl;unfold rD at h2;cases hc2:(e%2==0)with
  |true=>grind
  |false=>
   rw[hc2]at h2;simp only[ac]at h2;obtain⟨l',h3,h4⟩:=Option.map_eq_some_iff.1 h2;simp only[aB]at h4;obtain⟨rfl,rfl⟩:=h4;exact pF h h3
theorem Gc(L:fF)(M:UO)(a:Nat)(ha:a<=4294967295000)(w:World)(h:(fM L M).ok w):CW prog 334 [.p L.bm,.int .u64 a] w (Qg (iH L.n M.data a)):=by
 obtain⟨n1,n64,hdl,hdb,htl⟩:=mY h;refine UV func334 ntmps334 ?_;refine gP ?_;refine UZ (λw hi=>mI L M w (bJ.old h hi)) ?_;refine pQ ?_;refine VP ?_ ?_<;>intro hc1
 .simp only[ai]at hc1;have hc:decide (a+4<=L.n*64)=false:=ao O
  refine Va ?_;refine po ?_;unfold Qg iH;rw[hc];exact fx
 simp only[aa]at hc1;refine UN ?_;refine(Bool.eq_false_or_eq_true (decide (a+4<=L.n*64))).elim (λh0=>?_) (λh0=>?_)
 .refine UN ?_;refine CE ?_;refine UZ (λw hi=>yN L M a O w (bJ.old h hi)) ?_;unfold Qg iH CY;rw[h0];refine ix ?_;refine US ?_;exact oW
 refine UN ?_;refine CE ?_;refine UZ (λw hi=>yN L M a O w (bJ.old h hi)) ?_;unfold Qg iH CY;rw[h0];refine fE ?_;refine US ?_;exact oW
theorem look_ok(L:fF)(M:UO)(root va:Nat)(hroot:root<=4294967295)(hva:va<=4294967295)(w:World)(h:(fM L M).ok w):CW prog 287 [.p L.bm,.w root,.w va] w (YA (iw L.n M.data root va)):=by
 obtain⟨n1,n64,hdl,hdb,htl⟩:=mY h;obtain⟨e1,he1⟩:=Do (iH L.n M.data (Xw root va));have HE1:=Gc L M (Xw root va) (by unfold Xw;omega);rw[he1]at HE1;refine UV func287 ntmps287 ?_;refine wn ?_;refine ZW ?_ ?_<;>intro hc1
 .have hc:decide (16384<=va)=true:=by(have h0:(16384:Int)<=va:=by simpa using hc1);exact ap O
  have hl:iw L.n M.data root va=none:=by(unfold iw;rw[hc];rfl)
  rw[hl];exact I2
 have hlt:va<16384:=by(have h0:¬(16384:Int)<=va:=by simpa using hc1);omega
 have hl:iw L.n M.data root va=e1.bind (rD L.n M.data va):=by(unfold iw;grind)
 rw[hl];refine UN ?_;revert HE1 he1;refine Option.rec (λhe1 HE1=>?_) (λe he1 HE1=>?_) e1
 .refine UN ?_;refine Wq332 ?_;refine UZ (λw hi=>HE1 w (bJ.old h hi)) ?_;simp only[Qg];refine Jm ?_;refine iS ?_;exact I2
 refine UN ?_;refine Wq332 ?_;refine UZ (λw hi=>HE1 w (bJ.old h hi)) ?_;simp only[Qg];refine eL ?_;have heu:=(pF hdb he1).1;obtain⟨eu0,eu1⟩:=heu;refine UK ?_;refine WV I I (oX (cO I) py (and1 ⟨eu0,eu1⟩)) ?_;refine WK ?_ ?_<;>intro hc4
 .have hc:(e%2==0)=true:=hc4;have hl2:(some e).bind (rD L.n M.data va)=none:=by(simp only[Option.bind_some];unfold rD;rw[hc];rfl)
  rw[hl2];exact I2
 have hc:(e%2==0)=false:=hc4;have hl2:(some e).bind (rD L.n M.data va)=(iH L.n M.data (Xt e va)).map λl=>(Xt e va,l):=by(simp only[Option.bind_some];unfold rD;rw[hc];rfl)
 rw[hl2];obtain⟨e2,he2⟩:=Do (iH L.n M.data (Xt e va));have HE2:=Gc L M (Xt e va) (by unfold Xt;omega);rw[he2]at HE2|-;have hat:((Xt e va:Nat):Int)=e/256*64+4*((va/64%16:Nat):Int):=(by unfold Xt;omega);refine UQ ?_;refine Zy (jT (Zv I) (Zv I) O (show _=e/256 from XH _ 8)) ?_;refine pQ ?_;refine Wq164 ?_;refine pQ ?_;refine Zy (dy (Zv I) (Zv I) (show _=((Xt e va:Nat):Int)from(u64_wrap_id _ O O).trans O)) ?_;refine UK ?_;revert HE2 he2;refine Option.rec (λhe2 HE2=>?_) (λl he2 HE2=>?_) e2
 .refine UN ?_;refine UZ (λw hi=>HE2 w (bJ.old h hi)) ?_;simp only[Qg];refine kF ?_;refine iS ?_;exact I2
 refine UN ?_;refine UZ (λw hi=>HE2 w (bJ.old h hi)) ?_;simp only[Qg];refine r7 ?_;refine UK ?_;have h2in:=(pF hdb he2).2;refine ZA ?_;refine CE ?_;refine US ?_;refine pm ?_;exact fx
theorem wdo_ok(L:fF)(M:UO)(root va:Nat)(hroot:root<=4294967295)(hva:va<=4294967295)(kind:Int)(SQ:Bool):CI prog 222 [.p L.bm,.w root,.w va,.i kind,.bool SQ] [fM L M] (λv cs=>v= .tuple #[(dE L.n M root va kind SQ).1.1.v,(dE L.n M root va kind SQ).1.2.v]/\cs=[fM L (dE L.n M root va kind SQ).2]):=λw hi=>by
 obtain⟨n1,n64,hdl,hdb,htl⟩:=mY (hi.ok _ (bn ..));obtain⟨fk,hfk⟩:=Do (Vo kind);obtain⟨wb,hwb⟩:=Do (oP kind SQ);obtain⟨lk,hlk⟩:=Do (iw L.n M.data root va);have HF:=F5 kind;have HB:=Oc kind SQ;have HL:=look_ok L M root va hroot hva;unfold dE;rw[hfk]at HF|-;rw[hwb]at HB|-;rw[hlk]at HL|-;refine Vb func222 ntmps222 hi ?_;refine An ?_;refine ZN λb10=>?_;refine ZN λb11=>?_
 refine UQ ?_;refine UZ (λw hi=>HF w) ?_;refine uf ?_ ?_<;>intro hc2
 .have hc:(fk==0)=true:=hc2;rw[hc];refine ix ?_;refine UQ ?_;refine ZM ?_;refine ij ?_;exact RI
 have hc:(fk==0)=false:=hc2;rw[hc];refine fE ?_;refine UU ?_;refine UZ (λw hi=>HB w) ?_;refine UK ?_;revert HL hlk;refine Option.rec (λhlk HL=>?_) (λal hlk HL=>?_) lk
 .refine UK ?_;refine UZ (λw hi=>HL w (hi.get Zh)) ?_;simp only[YA];refine jS ?_;refine UN ?_;refine iS ?_;refine UU ?_;refine ZM ?_;refine ij ?_;exact RI
 obtain⟨a,l⟩:=al;have hin:=vj hdb hlk;obtain⟨lu,ain⟩:=hin;obtain⟨lu0,lu1⟩:=lu;have mu:=rB l kind;simp only;refine UK ?_;refine UZ (λw hi=>HL w (hi.get Zh)) ?_;simp only[YA];refine jS ?_;refine VP ?_ ?_<;>intro hc6
 .have hc6':(bits .and .u32 l wb !=wb)=true:=hc6;rw[hc6'];refine ix ?_;refine UU ?_;refine ZM ?_;refine ij ?_;exact RI
 have hc6':(bits .and .u32 l wb !=wb)=false:=hc6;rw[hc6'];refine fE ?_;refine jS ?_;refine An ?_;refine ZW ?_ ?_<;>intro hc10
 .have hm:jj l kind=bits .or .u32 (bits .or .u32 l 32) 64:=by(unfold jj;grind)
  rw[hm]at mu|-;obtain⟨m,hmm⟩:=Do (bits .or .u32 (bits .or .u32 l 32) 64);refine U8 ?_;rw[hmm]at mu|-;refine Wh ?_ ?_<;>intro hc12
  .rw[hc12];exact Wq423
  rw[hc12];refine fE ?_;refine UQ ?_;refine Jn ?_;exact Wq153
 have hm:jj l kind=bits .or .u32 l 32:=by(unfold jj;grind)
 rw[hm]at mu|-;obtain⟨m,hmm⟩:=Do (bits .or .u32 l 32);refine UQ ?_;rw[hmm]at mu|-;refine Wh ?_ ?_<;>intro hc12
 .rw[hc12];exact Wq423
 rw[hc12];refine fE ?_;refine UQ ?_;refine Jn ?_;exact Wq153
theorem AB(n:Nat)(M:UO)(root va:Nat)(h:va<=4294967295)(kind:Int)(SQ:Bool):(dE n M root va kind SQ).1.1.wf:=by
 grind [dE,Vo,TE.zero_wf,bits,oP,PM,rB]
theorem J1(T:List TE)(e:TE):J (AJ T e)=J T:=by grind [AJ]
theorem AH(n:Nat)(U:UI)(s:Sp)(va:Nat)(kind:Int):(SY n U s va kind).2.t.length=J U.t:=by
 grind [SY,pu,dE,J1]
theorem pE(n:Nat)(U:UI)(s:Sp)(va:Nat)(kind:Int):(SR n U s va kind).2.t.length=J U.t:=by
 grind [AH,SR,Vo,SY,iG]
abbrev uF(bu bb:Nat)(L:fF)(U:UI):List bJ:=[JH bu L.bm bb,fM L U.m,CO bb U.t]
abbrev Ww(b:Nat)(t:Tr):bJ:=row b t.cells 254
abbrev teC(b:Nat)(e:TE):bJ:=row b e.cells 92
theorem JL(bu bb:Nat)(L:fF)(U:UI)(hT:J U.t=16)(s:Sp)(hr:s.root<=4294967295)(va:Nat)(hva:va<=4294967295)(kind:Int):CI prog 182 [.p bu,s.v,.w va,.i kind] (uF bu bb L U) (λv cs=>v= .tuple #[.w (SY L.n U s va kind).1.1,(SY L.n U s va kind).1.2.v]/\cs=uF bu bb L (SY L.n U s va kind).2):=λw hi=>by
 obtain⟨fd,hfd⟩:=Do (pu U.t va kind s.SQ);obtain⟨wd,hwd⟩:=Do (dE L.n U.m s.root va kind s.SQ);have hwf:=AB L.n U.m s.root va hva kind s.SQ;have HFD:=Ov bb U.t hT va hva kind s.SQ;have HWD:=wdo_ok L U.m s.root va hr hva kind s.SQ;unfold SY;rw[hfd]at HFD|-;rw[hwd]at HWD hwf|-;obtain⟨⟨te,tr⟩,M'⟩:=wd;simp only at HWD hwf|-;refine Vb func182 ntmps182 hi ?_;refine An ?_;refine ZO λb5=>?_;refine ZA ?_;refine ZN λb9=>?_
 refine oU ?_ ?_<;>intro hc1
 .rw[hc1];refine ix ?_;refine UQ ?_;refine ij ?_;exact QS
 rw[hc1];refine fE ?_;refine UK ?_;refine jf ?_;refine wx ?_;refine wP ?_;refine UE 6 1 ?_;refine ZG 7 ?_;refine gg ?_;refine V1 (λw hi=>HFD w (hi.get Zh)) ?_;refine UR ?_;refine qS ?_;refine r8 ?_;refine fh ?_;refine UH ?_ ?_<;>intro hc4
 .rw[hc4];refine ix ?_;refine UQ ?_;refine ij ?_;exact QS
 rw[hc4];refine fE ?_;refine An ?_;refine cj (λq:Nat×Nat=>[(0,.p bu),(2,.w va),(9,.p b9),(12,.p q.1),(13,.p q.2)]) (λq=>[JH bu L.bm bb,fM L M',CO bb U.t,Ww b9 Tr.none,teC q.1 te,Ww q.2 tr]) (λ_=>True) ?_ ?_
 .refine bQ (Vg [10,16,17]) Zk (nZ ?_);refine ZG 3 ?_;refine UE 4 2 ?_;refine ZG 5 ?_;refine wU ?_;refine UE 8 1 ?_;refine ZG 9 ?_;refine wa_3 10 14 15 Zk ?_ ?_ ?_
  .refine Nw ?_;refine Vz ?_;refine ZE 11 ?_;refine r8 ?_;refine pS 14 15 Zk ?_ ?_
   .refine ZP λb12=>?_
    refine cP 15 Zk ?_;refine ZP λb13=>?_
    exact Xx
   refine ZP λb13=>?_
   refine ku ?_;refine ZP λb12=>?_
   exact Xx
  .refine ZP λb12=>?_
   refine pS 10 15 Zk ?_ ?_
   .refine Nw ?_;refine Vz ?_;refine ZE 11 ?_;refine r8 ?_;refine cP 15 Zk ?_;refine ZP λb13=>?_
    exact Xx
   refine ZP λb13=>?_
   exact Wx96_
  refine ZP λb13=>?_
  refine pS 10 14 Zk ?_ ?_
  .refine Nw ?_;refine Vz ?_;refine ZE 11 ?_;refine r8 ?_;refine ku ?_;refine ZP λb12=>?_
   exact Xx
  refine ZP λb12=>?_
  exact Wx96_
 rintro⟨b12,b13⟩ -;dsimp only;refine Wp ?_ ?_<;>intro hc7
 .rw[hc7];exact YP
 rw[hc7];refine fE ?_;refine UN ?_;refine bQ (Vg [5]) Zk (wx ?_);refine ZG 3 ?_;refine ZI 4 ?_;refine cP 5 Zk (rX ([CO bb U.t]) (λw hi hin=>Ow bb U.t hT te hwf w hin) ?_);refine UR ?_;refine pk ?_;refine bQ (Vg [8]) Zk (UE 0 2 ?_);refine ZG 1 ?_;refine UY 2 I (fT py py I) ?_;refine ZE 3 ?_;refine UY 4 I (fG (Zv I) (Zv I) O (show _=((va%64:Nat):Int)from by grind)) ?_;refine UY 5 I (dy py py I) ?_;refine ZI 6 ?_;refine ZE 7 ?_;refine gg ?_;refine ZR ?_;refine pk ?_;exact bK [JH bu L.bm bb,fM L M',CO bb (AJ U.t te),Ww b9 tr] Zj QS
theorem qa(n:Nat)(U:UI)(s:Sp)(va:Nat)(hva:va<=4294967295)(kind:Int):u32 (SY n U s va kind).1.1/\((SY n U s va kind).1.2.SU=0->(SY n U s va kind).1.1%64=((va%64:Nat):Int)):=by
 unfold SY;cases(!s.S1)with
 |true=>exact⟨⟨by grind,by grind⟩,λ_=>by grind⟩
 |false=>
  refine fE ?_;cases hf:(pu U.t va kind s.SQ).2 with
  |true=>
   grind [pu,kN,xl,asked,u5]
  |false=>
   refine fE ?_;cases hc:((dE n U.m s.root va kind s.SQ).1.2.SU !=0)with
   |true=>
    refine ix ?_;refine⟨⟨by decide,by decide⟩,λh=>?_⟩
    grind
   |false=>
    grind [u5,dE]
theorem fj(n:Nat)(U:UI)(s:Sp)(va:Nat)(hva:va<=4294967295)(kind:Int):u32 (SR n U s va kind).1.1/\((SR n U s va kind).1.2.SU=0->oa n va (SR n U s va kind).1.1):=by
 obtain⟨h1,h2⟩:=qa n U s va hva kind;have u0:u32 0:=⟨by decide,by decide⟩;unfold SR;cases hf:(Vo kind==0)with
 |true=>grind
 |false=>
  refine fE ?_;cases hc:((SY n U s va kind).1.2.SU !=0)with
  |true=>
   grind
  |false=>
   refine fE ?_;cases hr:(decide ((SY n U s va kind).1.1<((n*64:Nat):Int))||((kind !=1)&&iG (SY n U s va kind).1.1))with
   |false=>grind
   |true=>
    refine ix ?_;refine⟨h1,λh=>⟨h1,h2 h,?_⟩⟩
    grind
def jd(a b:Int)(va k:Nat):List Int:=(List.range k).map (iN a b va)
theorem oo(a b:Int)(va k:Nat):jd a b va (k+1)=jd a b va k++[iN a b va k]:=by simp[jd,List.range_succ]
theorem uK(a b:Int)(va k:Nat):J (jd a b va k)=k:=by simp[jd]
def dr(a b:Int)(va k:Nat)(t:Tr)(U:UI):(List Int×Tr)×UI:=
 bif iG a then(([],⟨10,va⟩),U)else bif(decide (((64 - va%64:Nat):Int)<(k:Int))&&iG b)then(([],⟨10,cU va⟩),U)else((jd a b va k,t),U)
def yF(n:Nat)(s:Sp)(va k:Nat)(kind:Int)(p1:(Int×Tr)×UI):(List Int×Tr)×UI:=
 bif(SR n p1.2 s (cU va) kind).1.2.SU !=0 then(([],(SR n p1.2 s (cU va) kind).1.2),(SR n p1.2 s (cU va) kind).2)
 else dr p1.1.1 (SR n p1.2 s (cU va) kind).1.1 va k (SR n p1.2 s (cU va) kind).1.2 (SR n p1.2 s (cU va) kind).2
def yG(n:Nat)(s:Sp)(va k:Nat)(kind:Int)(p1:(Int×Tr)×UI):(List Int×Tr)×UI:=
 bif p1.1.2.SU !=0 then(([],p1.1.2),p1.2)else
 bif decide (((64 - va%64:Nat):Int)<(k:Int))then yF n s va k kind p1 else dr p1.1.1 0 va k p1.1.2 p1.2
def S4(n:Nat)(U:UI)(s:Sp)(va k:Nat)(kind:Int):(List Int×Tr)×UI:=yG n s va k kind (SR n U s va kind)
theorem EZ{a b:Int}(hn:n<=64)(ha:0<=a)(ha1:a<((n*64:Nat):Int))(hm:a%64=((va%64:Nat):Int))(hb:((64 - va%64:Nat):Int)<(k:Int)->0<=b/\b<((n*64:Nat):Int)/\b%64=0)(hk:k<=4):∀x,x∈jd a b va k->0<=x/\x<((n*64:Nat):Int):=by
 intro x hx;unfold jd at hx;obtain⟨j,hj,rfl⟩:=List.mem_map.1 hx;rw[List.mem_range]at hj;unfold iN;cases hc:decide (j<64 - va%64)with
 |true=>
  grind [IntKind.wrap_u32]
 |false=>
  refine fE ?_;have h1:=of_decide_eq_false hc;obtain⟨b0,b1,b2⟩:=hb O;rw[au];omega
theorem ny{U:UI}{s:Sp}(hn:n<=64)(hva:va<=4294967295){kind:Int}(hk:k<=4):∀x,x∈(S4 n U s va k kind).1.1->0<=x/\x<((n*64:Nat):Int):=by
 obtain⟨_,h1⟩:=fj n U s va hva kind;unfold S4 yG;cases hc:((SR n U s va kind).1.2.SU !=0)with
 |true=>grind
 |false=>
  refine fE ?_;have p1:=h1 bZ;cases hl:decide (((64 - va%64:Nat):Int)<(k:Int))with
  |true=>
   refine ix ?_;unfold yF;obtain⟨_,h2⟩:=fj n (SR n U s va kind).2 s (cU va) (jt va) kind;cases hc2:((SR n (SR n U s va kind).2 s (cU va) kind).1.2.SU !=0)with
   |true=>grind
   |false=>
    refine fE ?_;have p2:=h2 bZ;unfold dr;cases d1:iG (SR n U s va kind).1.1 with
    |true=>grind
    |false=>
     refine fE ?_;rw[hl];simp only[bz];cases d2:iG (SR n (SR n U s va kind).2 s (cU va) kind).1.1 with
     |true=>grind
     |false=>
      refine fE ?_;exact EZ hn p1.u.1 (pJ d1 p1) p1.m (λ_=>⟨p2.u.1,pJ d2 p2,by simp[p2.m,BC]⟩) hk
  |false=>
   refine fE ?_;unfold dr;cases d1:iG (SR n U s va kind).1.1 with
   |true=>grind
   |false=>
    refine fE ?_;rw[hl];simp only[bo,ac];exact EZ hn p1.u.1 (pJ d1 p1) p1.m (λh=>absurd h (of_decide_eq_false hl)) hk
theorem lV{U:UI}{s:Sp}{kind:Int}:(S4 n U s va k kind).1.1.length<=k:=by
 grind [S4,yG,yF,dr,uK]
theorem zg(h:Vh d){l:Li}(hl:J l<=4){j:Nat}(hj:j<J l):bits .or .u32 (V9 .u32 (eh d (l.drop (j+1))*2^(min (8:Int).toNat IntKind.u32.bits))) (gB d (l[j]'hj).toNat)=eh d (l.drop j):=by
 have h1:=ln h (l.drop (j+1));have h2:=fW h (l[j]'hj).toNat;have h3:J (l.drop (j+1))<=3:=by rw[List.length_drop];omega
 rw[show l.drop j=l[j]'hj::l.drop (j+1)from List.drop_eq_getElem_cons hj];simp only[eh];generalize eh d (l.drop (j+1))=v at h1;generalize J (l.drop (j+1))=m at h1 h3;have hv:0<=v/\v<16777216:=by
  obtain rfl|rfl|rfl|rfl:m=0\/m=1\/m=2\/m=3:=by omega
  all_goals (simp at h1;omega)
 have e1:(2:Int)^(min (8:Int).toNat IntKind.u32.bits)=256:=rfl;rw[e1,u32_wrap_id _ O O,bits_join .u32 32 ne wraps_u32 8 (v*256) _ O O O O O O];omega
def Tl(M:UO)(l:Li)(v:Int):Nat->UO
 |0=>M
 |k+1=>(Tl M l v k).put ((l.getD k 0).toNat) (mC v k)
def i6(n:Nat)(U:UI)(s:Sp)(va k:Nat):(Int×Tr)×UI:=
 ((eh (S4 n U s va k 2).2.m.data (S4 n U s va k 2).1.1,(S4 n U s va k 2).1.2),(S4 n U s va k 2).2)
def jo(n:Nat)(U:UI)(s:Sp)(va k:Nat)(v:Int):Tr×UI:=
 ((S4 n U s va k 3).1.2,⟨Tl (S4 n U s va k 3).2.m (S4 n U s va k 3).1.1 v (S4 n U s va k 3).1.1.length,(S4 n U s va k 3).2.t⟩)
theorem C6(v:Int){k:Nat}(hk:k<4):V9 .u8 (v.fdiv (2^(min (V9 .i64 (8*(k:Int))).toNat IntKind.u32.bits)))=mC v k:=by
 rw[<-ur v hk];obtain rfl|rfl|rfl|rfl:k=0\/k=1\/k=2\/k=3:=by omega
 all_goals rfl
theorem p6(bu bb:Nat)(L:fF)(U:UI)(hT:J U.t=16)(s:Sp)(hr:s.root<=4294967295)(va:Nat)(hva:va<=4294967295)(kind:Int):CI prog 143 [.p bu,s.v,.w va,.i kind] (uF bu bb L U) (λv cs=>v= .tuple #[.w (SR L.n U s va kind).1.1,(SR L.n U s va kind).1.2.v]/\cs=uF bu bb L (SR L.n U s va kind).2):=λw hi=>by
 obtain⟨fk,hfk⟩:=Do (Vo kind);obtain⟨td,htd⟩:=Do (SY L.n U s va kind);have HF:=F5 kind;have HT:=JL bu bb L U hT s hr va hva kind;unfold SR;rw[hfk]at HF|-;rw[htd]at HT|-;obtain⟨⟨p,tr⟩,U'⟩:=td;simp only at HT|-;refine Vb func143 ntmps143 hi ?_;refine An ?_;refine ZO λb5=>?_;refine ZA ?_;refine ZN λb9=>?_
 refine UU ?_;refine ZN λb10=>?_
 refine jb ?_;refine UZ (λw hi=>HF w) ?_;refine VP ?_ ?_<;>intro hc2
 .rw[hc2];exact YP
 rw[hc2];refine fE ?_;refine Va ?_;refine Vq (uF bu bb L U) (λw hi hin=>HT w hin) ?_;refine UN ?_;refine ZN λb12=>?_
 refine CG ?_;refine UR ?_;refine oU ?_ ?_<;>intro hc5
 .rw[hc5];exact YP
 rw[hc5];refine fE ?_;refine eL ?_;refine UZ (λw hi=>mI L U'.m w (hi.get Zh)) ?_;refine UU ?_;refine dC (fQ I I) (.cons (cO I) .nil) (λ_ _=>I) (λhg w hi=>vT p w) I (WK ?_ ?_)<;>intro hc7
 .rw[hc7];refine ix ?_;refine Zs (bQ (Vg [3]) Zk ?_);refine Wq266 ?_;refine fh ?_;refine UN ?_;exact QS
 rw[hc7];refine fE ?_;refine UN ?_;refine bQ (Vg [2]) Zk (Nr ?_);refine An ?_;exact QS
theorem Ke(bu bb:Nat)(L:fF)(U:UI)(hT:J U.t=16)(s:Sp)(hr:s.root<=4294967295)(va k:Nat)(hva:va<=4294967295)(hk1:1<=k)(hk4:k<=4)(kind:Int):CI prog 352 [.p bu,s.v,.w va,.i k,.i kind] (uF bu bb L U) (λv cs=>∃A c,v= .tuple #[.slice A (S4 L.n U s va k kind).1.1.length c,(S4 L.n U s va k kind).1.2.v]/\cs=uF bu bb L (S4 L.n U s va k kind).2++[sl .u32 32 A (S4 L.n U s va k kind).1.1.length c (S4 L.n U s va k kind).1.1]):=λw hi=>by
 have HP1:=p6 bu bb L U hT s hr va hva kind;have hl1:=pE L.n U s va kind;obtain⟨p1,hp1⟩:=Do (SR L.n U s va kind);unfold S4;rw[hp1]at HP1 hl1|-;rw[hT]at hl1;have HP2:=p6 bu bb L p1.2 hl1 s hr (cU va) (jt va) kind;obtain⟨p2,hp2⟩:=Do (SR L.n p1.2 s (cU va) kind);unfold yG yF;rw[hp2]at HP2|-;obtain⟨⟨a1,tr1⟩,U1⟩:=p1;obtain⟨⟨a2,tr2⟩,U2⟩:=p2;simp only at HP1 HP2|-;refine Vb func352 ntmps352 hi ?_;refine An ?_;refine ZO λb6=>?_;refine ZA ?_;refine ZN λb11=>?_
 refine mv ?_;refine cK I (bZ) (Va ?_);refine Vq (uF bu bb L U) (λw hi hin=>HP1 w hin) ?_;refine UN ?_;refine ZN λb13=>?_
 refine ZA ?_;refine eA (cL (vs:=tr1.cells) ir I I (jR I) Za mS) ?_;refine UR ?_;refine oU ?_ ?_<;>intro hc4
 .rw[hc4];exact Wx82_
 rw[hc4];refine fE ?_;refine UQ ?_;refine Zy (fG (Zv I) (Zv I) O (show _=((va%64:Nat):Int)from by grind)) ?_;refine wo ?_;refine Zy (ez (Zv I) (Zv I) (show V9 .i64 _=((64 - va%64:Nat):Int) by rw[aQ _ ⟨by omega,by omega⟩];omega)) ?_;refine US ?_;refine Zy (fG (Zv I) (Zv I) O (show _=((va%64:Nat):Int)from by grind)) ?_;refine sa ?_;refine Zy (dy (Zv I) (Zv I) (show V9 .u32 (V9 .u32 _+64)=((cU va:Nat):Int) by rw[au,au];unfold cU;omega)) ?_;refine UK ?_;refine cj (λq:Int×UI×Tr=>[(2,.w va),(3,.i k),(11,.p b11),(12,.w a1),(13,.p b13),(14,.i ((64 - va%64:Nat):Int)),(15,.w (cU va:Nat)),(16,.w q.1)]) (λq=>uF bu bb L q.2.1++[Ww b11 Tr.none,Ww b13 q.2.2]) (λq=>(bif decide (((64 - va%64:Nat):Int)<(k:Int))then bif tr2.SU !=0 then((([]:Li),tr2),U2)else dr a1 a2 va k tr2 U2 else dr a1 0 va k tr1 U1)=dr a1 q.1 va k q.2.2 q.2.1) ?_ ?_
 .refine VJ ?_ ?_<;>intro hc8
  .have hsm:(bif decide (((64 - va%64:Nat):Int)<(k:Int))then bif tr2.SU !=0 then((([]:Li),tr2),U2)else dr a1 a2 va k tr2 U2 else dr a1 0 va k tr1 U1)=bif tr2.SU !=0 then((([]:Li),tr2),U2)else dr a1 a2 va k tr2 U2:=by rw[hc8];rfl
   refine UU ?_;refine Vq (uF bu bb L U1) (λw hi hin=>HP2 w hin) ?_;refine UK ?_;refine eA (cL (vs:=tr2.cells) ir I I (jR I) Za mS) ?_;refine UR ?_;refine Wc ?_ ?_<;>intro hc10
   .rw[hsm,hc10];exact Wx82_
   refine Zc (Vd ((a2,U2,tr2)) bZ)
  have hsm:(bif decide (((64 - va%64:Nat):Int)<(k:Int))then bif tr2.SU !=0 then((([]:Li),tr2),U2)else dr a1 a2 va k tr2 U2 else dr a1 0 va k tr1 U1)=dr a1 0 va k tr1 U1:=by rw[hc8];rfl
  refine Zc (Vd ((0,U1,tr1)) hsm)
 rintro⟨a2',U',tr'⟩ hq;dsimp only at hq;rw[hq];dsimp only;unfold dr;refine UQ ?_;refine UZ (λw hi=>vT a1 w) ?_;refine VP ?_ ?_<;>intro hc12
 .rw[hc12];exact YT
 rw[hc12];refine fE ?_;refine US ?_;refine dC (bS I I) (.cons (cO I) .nil) (λ_ _=>I) (λhg w hi=>vT a2' w) I (WK ?_ ?_)<;>intro hc14
 .rw[hc14];exact YT
 rw[hc14];refine fE ?_;refine UQ ?_;refine dB 32 1 (gP ?_);refine Vs (λq:Nat×Option Addr×Nat=>[(11,.p b11),(12,.w a1),(13,.p b13),(14,.i ((64 - va%64:Nat):Int)),(16,.w a2'),(17,.slice q.2.1 (J (jd a1 a2' va q.1)) q.2.2),(78,.i k),(79,.i (q.1:Int))]) (λq=>uF bu bb L U'++[Ww b11 Tr.none,Ww b13 tr',sl .u32 32 q.2.1 (J (jd a1 a2' va q.1)) q.2.2 (jd a1 a2' va q.1)]) (λq=>q.1<=k) (λq=>k - q.1) ((0,none,0)) O ?_;rintro⟨j,A1,c1⟩ hj;simp only at hj;dsimp only;refine UH ?_ ?_<;>intro hc18
 .simp only[ai]at hc18;have hle:=uK a1 a2' va j;refine wD ?_;refine ZW ?_ ?_<;>intro hc20
  .simp only[ai]at hc20;have he:iN a1 a2' va j=V9 .u32 (a1+(j:Int)):=by(unfold iN;grind)
   refine UK ?_;refine mU ?_;refine Zy (dy (Zv I) (Zv I) (show V9 .u32 (a1+V9 .u32 (j:Int))=iN a1 a2' va j by rw[he,u32_wrap_id (j:Int) O O])) ?_;refine jQ ?_;rintro _ _ ⟨b90,rfl,rfl⟩;refine gS (cC (e:=32) (sz:=1) (bytes:=4) I I Za I I (λw hi=>hi.rd (UJ (slv 32 1 (sA b90) 1 1 [.w (iN a1 a2' va j)]))) (jR I) gD O) I ?_;exact Wx47_
  simp only[aa]at hc20;have he:iN a1 a2' va j=V9 .u32 (a2'+((j - (64 - va%64):Nat):Int)):=by(unfold iN;grind)
  refine UQ ?_;refine Zy (ez (Zv I) (Zv I) (show V9 .i64 ((j:Int) - ((64 - va%64:Nat):Int))=((j - (64 - va%64):Nat):Int) by rw[aQ _ ⟨by omega,by omega⟩];omega)) ?_;refine mU ?_;refine Zy (dy (Zv I) (Zv I) (show V9 .u32 (a2'+V9 .u32 ((j - (64 - va%64):Nat):Int))=iN a1 a2' va j by rw[he,u32_wrap_id (((j - (64 - va%64):Nat):Int)) O O])) ?_;refine jQ ?_;rintro _ _ ⟨b99,rfl,rfl⟩;refine gS (cC (e:=32) (sz:=1) (bytes:=4) I I Za I I (λw hi=>hi.rd (UJ (slv 32 1 (sA b99) 1 1 [.w (iN a1 a2' va j)]))) (jR I) gD O) I ?_;exact Wx47_
 simp only[aa]at hc18;obtain rfl:j=k:=by omega
 refine UU ?_;refine QX ?_;exact NO
theorem Oj(bu bb:Nat)(L:fF)(U:UI)(hT:J U.t=16)(s:Sp)(hr:s.root<=4294967295)(va k:Nat)(hva:va<=4294967295)(hk1:1<=k)(hk4:k<=4):CI prog 326 [.p bu,s.v,.w va,.i k] (uF bu bb L U) (λv cs=>v= .tuple #[.w (i6 L.n U s va k).1.1,(i6 L.n U s va k).1.2.v]/\cs=uF bu bb L (i6 L.n U s va k).2):=λw hi=>by
 obtain⟨n1,n64,_⟩:=mY (hi.ok (fM L U.m) cJ);have HS:=Ke bu bb L U hT s hr va k hva hk1 hk4 2;have hin0:=ny (n:=L.n) (U:=U) (s:=s) (va:=va) (k:=k) n64 hva (kind:=2) hk4;have hlen0:=lV (n:=L.n) (U:=U) (s:=s) (va:=va) (k:=k) (kind:=2);unfold i6;obtain⟨sp,hsp⟩:=Do (S4 L.n U s va k 2);rw[hsp]at HS hin0 hlen0|-;obtain⟨⟨l,tr⟩,U'⟩:=sp;simp only at HS hin0 hlen0|-;refine Vb func326 ntmps326 hi ?_;refine An ?_;refine ZO λb5=>?_;refine ZA ?_;refine ZN λb9=>?_
 refine Va ?_;refine dH (uF bu bb L U) (λw hi hin=>HS w hin) ?_;rintro _ _ ⟨A1,c1,rfl,rfl⟩;refine UN ?_;refine ZN λb11=>?_
 refine CG ?_;refine UR ?_;refine UK ?_;refine eU (λw hi=>mY (hi.get (UJ (fM L U'.m)))) (λhmm=>?_);obtain⟨_,_,hdl,hdb,_⟩:=hmm;refine UU ?_;have e0:eh U'.m.data (l.drop (J l))=0:=by(rw[List.drop_length];rfl)
 refine An ?_;refine sb ?_;refine UK ?_;refine Vs (λj:Nat=>[(0,.p bu),(9,.p b9),(10,.slice A1 (J l) c1),(11,.p b11),(12,.w (eh U'.m.data (l.drop j))),(13,.i ((j:Int) - 1))]) (λ_=>uF bu bb L U'++[sl .u32 32 A1 (J l) c1 l,Ww b9 Tr.none,Ww b11 tr]) (λj=>j<=J l) (λj=>j) (J l) O ?_;rintro j hj;refine VJ ?_ ?_<;>intro hc4
 .simp only[ai]at hc4;obtain⟨i,rfl⟩:∃i,j=i+1:=⟨j - 1,by omega⟩;have hil:i<J l:=by omega
  have hrange:=hin0 _ (List.getElem_mem hil);refine Rf ?_;rintro⟨ba,rfl⟩;obtain⟨an,han⟩:=aj hrange.1;refine UQ ?_;refine jf ?_;refine nZ ?_;refine wP ?_;refine UY 6 I (cn (j:=i) (sz:=1) (r:=i) I ir (Zv I) (Zv I) UL UL O) ?_;refine Vn 7 I (bO ir (Zv I)) (da Zh (show(ints .u32 l)[i]? =some (.w (an:Int))from by rw[<-han];exact lr hil)) ?_;refine gg ?_;refine V1 (λw hi=>O0 L U'.m an O w (hi.get Zh)) ?_;refine UR ?_;refine qS ?_;refine r8 ?_;refine pk ?_;have hg:=fW hdb an;have hst:=zg hdb (show J l<=4 by omega) hil;rw[han]at hst;refine ZA ?_;refine IY ?_;refine ZA ?_;refine Zy (cz I I (Zv I) Ns) ?_;refine Zy (yp py py hst) ?_;refine UU ?_;refine sb ?_;refine An ?_;refine Vd (i) O
 simp only[aa]at hc4;obtain rfl:j=0:=by omega
 rw[List.drop_zero];refine UU ?_;refine QX ?_;exact bK (uF bu bb L U'++[Ww b9 tr]) Zj QS
theorem JE(bu bb:Nat)(L:fF)(U:UI)(hT:J U.t=16)(s:Sp)(hr:s.root<=4294967295)(va k:Nat)(v:Int)(hva:va<=4294967295)(hk1:1<=k)(hk4:k<=4):CI prog 324 [.p bu,s.v,.w va,.w v,.i k] (uF bu bb L U) (λx cs=>x=(jo L.n U s va k v).1.v/\cs=uF bu bb L (jo L.n U s va k v).2):=λw hi=>by
 obtain⟨n1,n64,_⟩:=mY (hi.ok (fM L U.m) cJ);have HS:=Ke bu bb L U hT s hr va k hva hk1 hk4 3;have hin0:=ny (n:=L.n) (U:=U) (s:=s) (va:=va) (k:=k) n64 hva (kind:=3) hk4;have hlen0:=lV (n:=L.n) (U:=U) (s:=s) (va:=va) (k:=k) (kind:=3);unfold jo;obtain⟨sp,hsp⟩:=Do (S4 L.n U s va k 3);rw[hsp]at HS hin0 hlen0|-;obtain⟨⟨l,tr⟩,U'⟩:=sp;simp only at HS hin0 hlen0|-;refine Vb func324 ntmps324 hi ?_;refine An ?_;refine ZO λb6=>?_;refine ZN λb10=>?_
 refine Va ?_;refine dH (uF bu bb L U) (λw hi hin=>HS w hin) ?_;rintro _ _ ⟨A1,c1,rfl,rfl⟩;refine UN ?_;refine ZN λb12=>?_
 refine CG ?_;refine UR ?_;refine gP ?_;refine Vs (λj:Nat=>[(0,.p bu),(3,.w v),(10,.p b10),(12,.p b12),(23,.slice A1 (J l) c1),(24,.i (J l)),(25,.i (j:Int))]) (λj=>uF bu bb L ⟨Tl U'.m l v j,U'.t⟩++[sl .u32 32 A1 (J l) c1 l,Ww b10 Tr.none,Ww b12 tr]) (λj=>j<=J l) (λj=>J l - j) (0) O ?_;rintro j hj;refine UH ?_ ?_<;>intro hc3
 .simp only[ai]at hc3;have hil:j<J l:=by omega
  have hrange:=hin0 _ (List.getElem_mem hil);refine Rf ?_;rintro⟨ba,rfl⟩;obtain⟨an,han⟩:=aj hrange.1;have hgd:(l.getD j 0).toNat=an:=by(grind)
  refine US ?_;refine Zy (cn (j:=j) (sz:=1) (r:=j) I ir (Zv I) (Zv I) UL UL O) ?_;refine dZ (bO ir (Zv I)) (da Zh (show(ints .u32 l)[j]? =some (.w (an:Int))from by rw[<-han];exact lr hil)) I (UK ?_);refine bQ (Vg [10]) Zk (nZ ?_);refine wP ?_;refine ZE 6 ?_;refine UY 7 I (fT py py I) ?_;refine UY 8 I (jT (Zv I) (Zv I) (by rw[aQ _ ⟨by omega,by omega⟩];omega) rfl) ?_;refine UY 9 I (cz I I (Zv I) (C6 v (show j<4 by omega))) ?_;refine cP 10 Zk (rX ([fM L (Tl U'.m l v j)]) (λw hi hin=>ro L (Tl U'.m l v j) an O (mC v j) (kG v j) w hin) ?_);refine UR ?_;refine fh ?_;refine UN ?_;refine W8 ?_;refine sC (j+1) ?_ ?_ ?_
  .omega
  .exact Xq
  exact(show z9 _ _ from by rw[show Tl U'.m l v (j+1)=(Tl U'.m l v j).put an (mC v j) by rw[Tl,hgd]];exact Zj)
 simp only[aa]at hc3;obtain rfl:j=J l:=by omega
 refine Va ?_;refine oV ?_;exact bK (uF bu bb L ⟨Tl U'.m l v (J l),U'.t⟩++[Ww b10 tr]) Zj (lL (cs':=[row _ _ _,Wg _ _ _ _,row _ _ _]) (.inl I) Zu I I Zh ir ir fx)
end
end Go.Ink
namespace Go.Ink
open List renaming length→J, replicate→R9
open IntKind renaming wrap→V9
open Go.RowKit Go.Proofs.Tryz
def DX(l:List Nat):List Int:=l.map λn:Nat=>(n:Int)
def dP(n:Nat)(M:UO)(S8:Li)(SS a cmd:Nat):Bool×UO×List Int:=
 bif !iI n SS a then(false,M,S8)else
 bif cmd==1 then(true,M.fill (a/64*64) ((S8.drop (SS*64)).take 64) 64,S8)else
 bif cmd==2 then(true,M,S8.take (SS*64)++(M.data.drop (a/64*64)).take 64++S8.drop (SS*64+64))else(false,M,S8)
section
attribute [local irreducible] Ve bN
theorem L5(b:Nat)(p m v:Int):CI prog 348 [.p b,.w v] [rE b p m] (λx cs=>x= .tuple #[]/\cs=[rE b (bits .andNot .u32 p v) m]):=λw hi=>by
 refine Vb func348 ntmps348 hi ?_;refine UU ?_;refine Zy (tM py py I) ?_;refine jO ?_;exact WZ
theorem Ea(b:Nat)(p m v:Int):CI prog 40 [.p b,.w v] [rE b p m] (λx cs=>x= .tuple #[]/\cs=[rE b p (bits .and .u32 v 255)]):=λw hi=>by
 refine Vb func40 ntmps40 hi ?_;refine UU ?_;refine ZL ?_;exact WZ
theorem mg(b:Nat)(p m:Int)(A:Oa)(c:Nat)(l:List Nat)(hl:∀x,x∈l->x<8)(w:World)(hi:Inv w (bM [rE b p m]) [rE b p m] w)(h:∀w',dc (bM [rE b p m]) w w'->Rd w' .i64 A (J l) c (DX l)):UW prog 62 [.p b,.slice A (J l) c] w [rE b p m] (λx cs=>x= .bool true/\cs=[rE b (bits .or .u32 p (ju l)) m]):=by
 have hrw:=h w (dc.refl _ _);have hm:=hrw.max;have hcp:=hrw.cap;simp only[maxLen]at hm;refine Vb func62 ntmps62 hi ?_;refine Jm ?_;refine Vs (λk:Nat=>[(0,.p b),(5,.w (vm l k)),(8,.slice A (J l) c),(9,.i (J l)),(10,.i (k:Int))]) (λ_=>[rE b p m]) (λk=>k<=J l) (λk=>J l - k) (0) (ax _) ?_;rintro k hk;refine UH ?_ ?_<;>intro hc3
 .simp only[ai]at hc3;have hkl:k<J l:=by omega
  have hx:=hl _ (List.getElem_mem hkl);have hgd:l.getD k 0=l[k]'hkl:=by simp[hkl]
  obtain⟨ad,rfl⟩:=hrw.some_ O;refine UU ?_;refine GA ?_;refine dZ (bO ir (Zv I)) (tQ h (cw (show(DX l)[k]? =some ((l[k]'hkl:Nat):Int) by simp[DX,hkl]))) rfl (kF ?_);refine cK I ((by rw[ao (show¬((l[k]'hkl:Nat):Int)<0 by omega),ao (show¬(8:Int)<=((l[k]'hkl:Nat):Int) by omega)];rfl)) (UQ ?_);refine IY ?_;refine Zy (yp (Zv I) (Zv I) (show _=vm l (k+1)from by rw[vm,hgd])) ?_;refine j5 ?_;refine VM (k+1) ⟨by omega,by omega⟩
 simp only[aa]at hc3;obtain rfl:k=J l:=by omega
 refine nW ?_;refine ZL ?_;refine Va ?_;exact Ew
end
end Go.Ink
