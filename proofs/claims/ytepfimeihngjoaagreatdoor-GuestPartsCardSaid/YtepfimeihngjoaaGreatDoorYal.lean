/- Lemmas. -/
import Derived.Test.YtepfimeihngjoaaGreatDoorYag
import Derived.Test.YtepfimeihngjoaaGreatDoorYah
import Derived.Test.YtepfimeihngjoaaGreatDoorYai
set_option linter.all false
set_option maxRecDepth 100000
set_option maxHeartbeats 4000000
namespace Go.Ink
open List renaming length→J
open IntKind renaming wrap→V9
open Go.RowKit Go.Proofs.Tryz
abbrev insV(o:Option ((Int×Int)×Nat)):List Value:=[.i ((o.map (·.1.1)).getD 0),.w ((o.map (·.1.2)).getD 0)]
abbrev insN(o:Option ((Int×Int)×Nat)):Nat:=(o.map (·.2)).getD 0
variable{op:Int}
variable{z:Nat}
variable{k:Nat}
section
attribute [local irreducible] UL bM
theorem BE(A:Oa)(c:Nat)(b:Li)(hb:UO b)(w:World)(h:Rd w .u8 A (J b) c b):
  Uz prog 196 [.slice A (J b) c] w [] (λv cs=>(∃y,v= .tuple #[.agg (insV (dH b)).toArray,.i (insN (dH b):Int),.i y]/\(y==0)=(dH b).isSome)/\cs=[]):=by
 have hlm:J b<=maxLen:=aR h.cap h.max;simp only[maxLen]at hlm;cases b with
 |nil=>
  refine UB func196 ntmps196 ?_;refine py ?_;refine ZN λb2=>?_;refine fo ?_;refine mV ?_;refine Us ?_;refine iS ?_;refine v8 ?_;exact⟨⟨10,I,I⟩,I⟩
 |cons op l=>
  have hop:=hb op cE;have hl:UO l:=λx hx=>hb x (bo _ hx)
  have hlen:J (op::l)=J l+1:=rfl;obtain⟨ad,rfl⟩:=h.some_ (by rw[hlen];omega);have hz5:cw op=0\/cw op=1\/cw op=2\/cw op=5:=iD op;have HS:=xS op;have hn0:0<=cw op:=by omega
  obtain⟨z0,hz0⟩:∃z:Nat,cw op=z:=ai hn0;have E0:=qv (op:=op) l;have E1:=oZ (op:=op) (l:=l);have E2:=λz h1 h2=>mG (op:=op) (l:=l) (z:=z) h1 h2
  rw[hz0]at hz5 HS E0 E1 E2;have hz6:z0<=5:=by omega
  refine UB func196 ntmps196 ?_;refine py ?_;refine ZN λb2=>?_;refine Wq289 ?_;refine sO ?_;refine ZA ?_;refine ZN λb5=>?_
  refine iS ?_;refine UD (λw hi=>HS w) ?_;refine fo ?_;refine ZW ?_ ?_<;>intro hc5
  .rw[E0 (gO hc5)];refine Us ?_;refine ZM ?_;refine Ux ?_;refine v8 ?_;exact⟨⟨12,I,I⟩,I⟩
  have hz1:1<=z0:=(by have:=ne_of_beq_false hc5;omega);refine VM ?_ ?_<;>intro hc7
  .simp only[ah]at hc7;rw[E1 (by rw[hlen]at hc7;omega)];refine Us ?_;refine ZM ?_;refine Ux ?_;refine v8 ?_;exact⟨⟨10,I,I⟩,I⟩
  simp only[aa]at hc7;obtain⟨z,rfl⟩:∃z,z0=z+1:=⟨z0 - 1,by omega⟩;have hzl:z<=J l:=(by rw[hlen]at hc7;omega);rw[E2 z rfl hzl];have htl:J (l.take z)=z:=MX;have hrng:∀k,0<=sE ((l.take z).drop k)/\sE ((l.take z).drop k)<((256^(z - k):Nat):Int):=λk=>(by have h1:=tA (l:=(l.take z).drop k) (λx hx=>hl x (aX (bD hx)));rwa[List.length_drop,htl]at h1)
  obtain⟨N,hN⟩:∃N:Nat->Int,(λk=>sE ((l.take z).drop k))=N:=⟨_,I⟩;have hN0:N 0=sE (l.take z):=(by rw[<-hN];rfl);have hNz:N z=0:=(by rw[<-hN];show sE ((l.take z).drop z)=0;rw[List.drop_of_length_le O];rfl);have hNs:∀k x,k<z->l[k]? =some x->N k=x+256*N (k+1):=(λk x h1 h2=>by rw[<-hN];exact K0 h1 h2);have hNr:∀k,0<=N k/\N k<((256^(z - k):Nat):Int):=(λk=>by rw[<-hN];exact hrng k);rw[<-hN0];refine UA ?_;refine iH ([row b2 [.i 0,.w 0] 51,row b5 [.i op,.w 0] 51]) Zj ?_;rw[show row b5 [Value.i op,Value.w 0] 51=row b5 [Value.i op,Value.w (N z)] 51 from by rw[hNz]];refine ZA ?_;refine Zy (eA (Zv I) (Zv I) (show _=(z:Int)from by rw[aN _ ⟨by omega,by omega⟩];omega)) ?_;refine Ut ?_;refine UX (λk:Nat=>[(0,.slice (some ad) (J (op::l)) c),(2,.p b2),(5,.p b5),(6,.i ((z+1:Nat):Int)),(7,.i (k:Int))]) (λk=>[row b2 [.i 0,.w 0] 51,row b5 [.i op,.w (N k)] 51]) (λk=>k<=z) (λk=>k) (z) (aL _) ?_;rintro k hk;refine Vl ?_ ?_<;>intro hc10
  .simp only[ah]at hc10;obtain⟨k,rfl⟩:∃m,k=m+1:=⟨k - 1,by omega⟩;have hx:l[k]? =some (l[k]'(by omega)):=aj O;have hxb:=hl _ (List.getElem_mem (show k<J l by omega));obtain⟨x,hxx⟩:=Uk (l[k]'(by omega));rw[hxx]at hx hxb;have hst:=hNs k x O hx;have hr:=hNr (k+1);have hp:(256^(z - (k+1)):Nat)<=256^3:=Nat.pow_le_pow_right An O;have hp2:((256^(z - (k+1)):Nat):Int)<=16777216:=(by have e:(256^3:Nat)=16777216:=An;omega);have hor:=shl8_or hr.1 O hxb;refine Ut ?_;refine bN (UK [10]) Zk (Ld 0 1 ?_);refine ZG 1 ?_;refine UF 2 I (tI (Zv I) (Zv I) O I) ?_;refine ZE 3 ?_;refine ZE 4 ?_;refine UF 5 I (cW (j:=k+1) I ir (Zv I) (Zv I) Uq Uq) ?_;refine US 6 I (bL ir ne) (dG h (bX (l:=op::l) (j:=k+1) hx)) ?_;refine UF 7 I (cA I I (Zv I) MT) ?_;refine UF 8 I (xA (Zv I) (Zv I) (show _=N k from by rw[hst];exact hor)) ?_;refine Ld 9 1 ?_;refine mh ?_;refine ke ?_;refine Ut ?_;refine Zy (eA (Zv I) (Zv I) (show _=(k:Int)from by rw[aN _ ⟨by omega,by omega⟩];omega)) ?_;refine py ?_;refine Vo (k) ⟨show k<=z by omega,show k<k+1 by omega⟩
  simp only[aa]at hc10;obtain rfl:k=0:=O;refine UE ?_;refine mS ?_;refine v8 ?_;exact⟨⟨0,I,I⟩,I⟩
variable{s:St}{d:Un}
section
variable{s:St}{d:Un}
theorem Ks(h:s.wf):s.next.wf:=⟨h.pc,h.flags,h.root,h.vec,h.epc,h.SB,h.addr,by show 0<=V9 .u64 _/\V9 .u64 _<=_;rw[aS];omega,h.d,h.r⟩
theorem Er(h:s.wf)(c:Int){a:Int}(ha:u32 a):(s.SL c a).wf:=⟨h.vec,h.flags,h.root,h.vec,h.pc,wrap_u32 _,ha,h.count,h.d,h.r⟩
theorem Ji(h:s.wf)(hr:s.right=true):(told s d).wf/\(told s d).right=true/\(told s d).count=s.count/\(told s d).halted=s.halted:=by
 unfold told;cases Pt d with
 |none=>exact⟨h,hr,I,I⟩
 |some k=>
  show(bif s.ie then s.SL _ _ else s).wf/\(bif s.ie then s.SL _ _ else s).right=true/\(bif s.ie then s.SL _ _ else s).count=s.count/\(bif s.ie then s.SL _ _ else s).halted=s.halted;cases s.ie with
  |true=>exact⟨Er h _ u0,hr,I,I⟩
  |false=>exact⟨h,hr,I,I⟩
end
end
end Go.Ink
namespace Go.Ink
open List renaming length→J
open IntKind renaming wrap→V9
open Go.RowKit
variable{a:Nat}
variable{b:Nat}
structure Pg where
  code:List II
  SE:Int
  SG:Int
  Tc:Int
  Te:Int
  SP:List Int
  SQ:List Int
  flags:Int
  next:Int
  target:Int
  branch:Int
  taken:Int
  count:Int
  values:Int
def rc(SE SG:Int)(pl:Pl)(n:Int)(x:II):List HI:=
  (bif x.op==0 then[⟨1,eJ pl n 9,0,0,x.imm⟩]else
   bif x.op==1 then[⟨14,eJ pl n 9,14,0,V9 .u32 (4+SE - 1 - x.imm)⟩]else
   bif x.op==2 then[⟨14,eJ pl n 9,13,0,V9 .u32 (20+SG - 1 - x.imm)⟩]else
   bif x.op==3 then j9 pl x.a 7++(j9 pl x.b 8++xm x.imm (eJ pl n 9) (eJ pl x.a 7) (eJ pl x.b 8))else
   bif x.op==4 then j9 pl x.a 7++(j9 pl x.b 8++(mF x.imm (eJ pl x.a 7) (eJ pl x.b 8)++[⟨2,eJ pl n 9,10,0,0⟩]))else[])++jh pl n (eJ pl n 9)
def j6(SE SG:Int)(pl:Pl):List II->Nat->List HI
  |[],_=>[]
  |x::c,n=>rc SE SG pl n x++j6 SE SG pl c (n+1)
def gS(op:Int):Int:=bif op==33 then 1 else bif op==34 then 1 else bif op==35 then 4 else bif op==36 then 2 else 8
def jO(op:Int):Bool:=bif op==33 then true else bif op==34 then false else true
def gM(p:Pg)(pl:Pl):List HI:=bif decide (0<=p.flags)then⟨1,11,0,0,15⟩::(j9 pl p.flags 7++[⟨5,11,11,eJ pl p.flags 7,0⟩,⟨15,0,15,11,1⟩])else[]
def iy(p:Pg)(pos:Nat):List HI:=bif p.branch !=0 then[⟨14,11,15,0,1⟩,⟨1,12,0,0,gS p.branch⟩,⟨5,11,11,12,0⟩,⟨bif jO p.branch then 16 else 17,0,11,0,V9 .u32 ((pos+3:Nat)+2)⟩,⟨1,9,0,0,p.taken⟩]else[]
def jI(p:Pg)(pl:Pl):List HI:=bif decide (0<=p.target)then j9 pl p.target 7++[⟨2,9,eJ pl p.target 7,0,0⟩]else[]
def tB(p:Pg)(pl:Pl)(pos:Nat):List HI:=
  gM p pl++(⟨1,9,0,0,p.next⟩::(iy p (pos+J (gM p pl)+1)++(jI p pl++[⟨15,0,15,9,0⟩,⟨1,11,0,0,V9 .u32 p.count⟩,⟨15,0,15,11,36⟩,⟨19,0,0,0,1⟩])))
def Pg.TK(p:Pg):Int:=iZ p.SE p.Tc (J p.SP)
def Pg.TZ(p:Pg):Int:=iZ p.SG p.Te (J p.SQ)
def Pg.Ty(p:Pg):Bool:= !decide (p.TK<p.SE)
def Pg.TI(p:Pg):Bool:= !decide (p.TZ<p.SG)
def uT(p:Pg)(e:Int):List HI:=⟨1,15,0,0,0⟩::(p7 e 14 2 p.SE p.TK++p7 e 13 3 p.SG p.TZ)
def iT(p:Pg)(pl:Pl):List HI:=j6 p.SE p.SG pl p.code 0++(iX pl 14 4 2 p.SP++iX pl 13 20 3 p.SQ)
def fB(p:Pg)(pl:Pl)(e:Int):List HI:=
  bif p.Ty then(bif p.TI then uT p e++(iT p pl++tB p pl (17+J (iT p pl)))else⟨1,15,0,0,0⟩::p7 e 14 2 p.SE p.TK)else[⟨1,15,0,0,0⟩]
def gh(p:Pg)(pl:Pl):List HI:=fB p pl (V9 .u32 (J (fB p pl 0):Nat))++[⟨19,0,0,0,2⟩]
def Lo(pl:Pl)(R W:Li)(n:Int)(v:Int):Prop:=(pl.inR n=true->R.getD (pl.r n).toNat 0=v)/\(pl.inR n=false->W.getD (64+(pl.s n).toNat) 0=v)
section
variable{C l:List HI}{k:Nat}{R W:Li}{M:HM}{pl:Pl}
variable{n:Int}{into:Nat}
theorem Uv.get{v:Int}{r:Nat}(h:Uv C k (j9 pl n into++l) R W M)(hh:pl.has n)(hi:into=7\/into=8)(hr:eJ pl n into=r)(h15:R.getD 15 0=0)(hv:Lo pl R W n v):
    ∃k' R',Uv C k' l R' W M/\R'.getD r 0=v/\kT [into] R R':=by
  obtain⟨r2,h1,h2⟩:=mE hh (into:=into) O;obtain rfl:r2=r:=by omega
  rcases h2 with⟨rfl,h3⟩|⟨h3,h4,h5⟩
  . unfold j9 at h
    rw[h3]at h;have hs:0<=pl.s n/\pl.s n<128:=by rcases hh with⟨h6, -⟩|⟨-,h6⟩;rw[h3]at h6;cases h6;exact h6
    have g:=Uv.ld (rd:=r2) (ra:=15) (p:=64+(pl.s n).toNat) h (zO hs h15) O;exact⟨_,_,g,(cY (by rw[h.rl];omega)).trans (hv.2 h3),kT.set R _ _ cE⟩
  unfold j9 at h;rw[h4]at h;exact⟨k,R,h,by rw[<-h5];exact hv.1 h4,kT.refl _ _⟩
theorem Uv.S1{v:Int}{r:Nat}(h:Uv C k (jh pl n (eJ pl n 9)++l) R W M)(hh:pl.has n)(hr:eJ pl n 9=r)(h15:R.getD 15 0=0)(hv:R.getD r 0=v)(hv2:0<=v/\v<=4294967295):
    ∃k' W',Uv C k' l R W' M/\Lo pl R W' n v/\∀j,(pl.inR n=true\/j≠64+(pl.s n).toNat)->W'.getD j 0=W.getD j 0:=by
  obtain⟨r2,h1,h2⟩:=mE hh (into:=9) O;have h1:eJ pl n 9=r2:=h1;obtain rfl:r2=r:=by omega
  unfold jh at h;rcases h2 with⟨rfl,h3⟩|⟨h3,h4,h5⟩
  . rw[h3]at h
    have hs:0<=pl.s n/\pl.s n<128:=by rcases hh with⟨h6, -⟩|⟨-,h6⟩;rw[h3]at h6;cases h6;exact h6
    have hg:eJ pl n 9=9:=by unfold eJ;rw[h3];rfl
    rw[hg]at h;have g:=Uv.st (ra:=15) (rb:=9) (p:=64+(pl.s n).toNat) (v:=v) h (zO hs h15) O (by grind [IntKind.wrap_u32]);refine⟨_,_,g,⟨λh6=>Do,λ_=>cY (by rw[h.wl];omega)⟩,λj hj=>?_⟩
    grind
  rw[h4]at h;exact⟨k,W,h,⟨λ_=>Do,λh6=>Do⟩,λ_ _=>I⟩
theorem LP{op:Int}{x y:Nat}(hx:x<4294967296)(hy:y<4294967296)(hop:(16<=op/\op<=23)\/op=25):0<=(gP op x y).2.1/\(gP op x y).2.1<=15:=by
  have hb:∀b:Bool,0<=Va b/\Va b<=1:=λb=>by cases b<;>decide
  have hT:∀(a b r o:Int) (p q c:Bool),0<=mb a b r (Va p+2*Va q) c o/\mb a b r (Va p+2*Va q) c o<=15:=λa b r o p q c=>by
    rw[vg];grind
  have hp:∀r:Nat,r<4294967296->0<=dj r/\dj r<=15:=λr hr=>by
    grind [jk]
  have hr:=tD hop hx hy;have h8:op=16\/op=17\/op=18\/op=19\/op=20\/op=21\/op=22\/op=23\/op=25:=by omega
  obtain⟨r,hr,hr2⟩:=hr;rcases h8 with rfl|rfl|rfl|rfl|rfl|rfl|rfl|rfl|rfl
  . show 0<=nK x y/\nK x y<=15
    have hr:V9 .u32 ((x:Int)+y)=(r:Int):=hr;unfold nK;rw[hr,jk hr2];exact hT ..
  . show 0<=jV x y/\jV x y<=15
    exact Wx99_
  . show 0<=dj (vM 18 x y)/\dj (vM 18 x y)<=15;grind
  . show 0<=dj (vM 19 x y)/\dj (vM 19 x y)<=15;grind
  . show 0<=dj (vM 20 x y)/\dj (vM 20 x y)<=15;grind
  . show 0<=dj (vM 21 x y)/\dj (vM 21 x y)<=15;grind
  . show 0<=dj (vM 22 x y)/\dj (vM 22 x y)<=15;grind
  . show 0<=dj (vM 23 x y)/\dj (vM 23 x y)<=15;grind
  show 0<=jV x y/\jV x y<=15;exact Wx99_
end
def Gb(pl:Pl)(T V:Li)(n:Nat)(R W:Li):Prop:=∀a:Nat,a<n->(n:Int)<=T.getD a 0->Lo pl R W a (V.getD a 0)
section
variable{C l:List HI}{k:Nat}{R W:Li}{M:HM}{pl:Pl}{T:Li}
variable{n:Nat}
theorem Uv.outs{V:Li}{N base B from_:Nat}(hp:Nm pl T N)(hV:VO V)(hbase:base=13\/base=14)(hfr:from_=4\/from_=20):∀(out:Li) (j:Nat) (k:Nat) (R W:Li),Uv C k (yr pl base from_ out j++l) R W M->
  (∀n,n∈out->0<=n/\n<N/\(N:Int)<=T.getD n.toNat 0)->B+j+J out<=16->R.getD base 0=(B:Int)->R.getD 15 0=0->Gb pl T V N R W->
  ∃k' R' W',Uv C k' l R' W' M/\kT [7] R R'/\(∀i,(i<from_+B+j\/from_+B+j+J out<=i)->W'.getD i 0=W.getD i 0)/\(∀i,i<J out->W'.getD (from_+B+j+i) 0=V.getD (out.getD i 0).toNat 0)
 |[],j,k,R,W,h,ho,hB,hb,h15,hh=>⟨k,R,W,h,kT.refl _ _,λ_ _=>I,λi hi=>absurd hi cE⟩
 |n::out,j,k,R,W,h,ho,hB,hb,h15,hh=>by
  obtain⟨n0,n1,n2⟩:=ho n cE;have en:((n.toNat:Nat):Int)=n:=by omega
  have hn:=hp.has n.toNat O;have hl:=hh n.toNat O n2;rw[en]at hn hl;have hB':B+j+(J out+1)<=16:=hB;have h:Uv C k (j9 pl n 7++(⟨15,0,(base:Int),eJ pl n 7,V9 .u32 ((from_:Int)+V9 .u32 (j:Int))⟩::(yr pl base from_ out (j+1)++l))) R W M:=by
   have e:yr pl base from_ (n::out) j++l=j9 pl n 7++(⟨15,0,(base:Int),eJ pl n 7,V9 .u32 ((from_:Int)+V9 .u32 (j:Int))⟩::(yr pl base from_ out (j+1)++l)):=by
    show(j9 pl n 7++(_::yr pl base from_ out (j+1)))++l=_;rw[aq,aF]
   rwa[e]at h
  obtain⟨r,hr,hr2⟩:=mE hn (into:=7) O;have hr:eJ pl n 7=(r:Int):=hr;obtain⟨v,hv,hv2⟩:=m5 hV n.toNat;rw[hv]at hl;obtain⟨k1,R1,g1,g2,g3⟩:=Uv.get (into:=7) h hn O hr h15 hl;rw[hr]at g1;have hb1:R1.getD base 0=(B:Int):=by rw[g3 base gW,hb]
  have g4:=Uv.st (ra:=base) (rb:=r) (p:=from_+B+j) (v:=(v:Int)) g1 (by grind [IntKind.wrap_u32,IntKind.wrap_u64]) O (by grind [IntKind.wrap_u32]);have hold:Gb pl T V N R1 (W.set (from_+B+j) v):=λa ha ht=>by
   have h1:=hh a ha ht;have h2:=hp.has a ha;refine⟨λhi=>?_,λhi=>?_⟩
   .rw[g3 _ ?_];exact h1.1 hi;rcases h2 with⟨-,q⟩|⟨q, -⟩
    .grind
    grind
   rw[cJ O];exact h1.2 hi
  obtain⟨k2,R2,W2,q1,q2,q3,q4⟩:=Uv.outs hp hV hbase hfr out (j+1) _ R1 _ g4 (λm hm=>ho m (by simp[hm])) O hb1 (by rw[g3 15 An,h15]) hold;have hw:=h.wl;refine⟨k2,R2,W2,q1,g3.trans q2 Do,λi hi=>?_,λi hi=>?_⟩
  .grind [cJ]
  cases i with
  |zero=>
   grind [cY]
  |succ i=>
   grind
theorem Uv.stack{V:Li}{N base B from_ word:Nat}{out:Li}(hp:Nm pl T N)(hV:VO V)(hbase:base=13\/base=14)(hfr:from_=4\/from_=20)(hw:word=2\/word=3)(h:Uv C k (iX pl base from_ word out++l) R W M)
  (ho:∀n,n∈out->0<=n/\n<N/\(N:Int)<=T.getD n.toNat 0) (hB:B+J out<=16) (hb:R.getD base 0=(B:Int)) (h15:R.getD 15 0=0) (hh:Gb pl T V N R W):
  ∃k' R' W',Uv C k' l R' W' M/\kT [7,11] R R'/\(∀i,i≠word->(i<from_+B\/from_+B+J out<=i)->W'.getD i 0=W.getD i 0)/\(∀i,i<J out->W'.getD (from_+B+i) 0=V.getD (out.getD i 0).toNat 0)/\W'.getD word 0=((B+J out:Nat):Int)/\Gb pl T V N R' W':=by
 have h:Uv C k (yr pl base from_ out 0++(⟨1,11,0,0,V9 .u32 (J out:Int)⟩::⟨3,11,11,(base:Int),0⟩::⟨15,0,15,11,(word:Int)⟩::l)) R W M:=by
  have e:iX pl base from_ word out++l=yr pl base from_ out 0++(⟨1,11,0,0,V9 .u32 (J out:Int)⟩::⟨3,11,11,(base:Int),0⟩::⟨15,0,15,11,(word:Int)⟩::l):=by
   unfold iX;simp only[aq,aF,aJ]
  rwa[e]at h
 obtain⟨k1,R1,W1,g1,g2,g3,g4⟩:=Uv.outs hp hV hbase hfr out 0 k R W h ho O hb h15 hh;have hl:=g1.rl;have hl2:=g1.wl;have a1:=Uv.li (rd:=11) g1;have a2:=Uv.op (rd:=11) (ra:=11) (rb:=base) (v:=((B+J out:Nat):Int)) a1 An An (by
  rw[cY O,cJ O,g2 base gW,hb];show V9 .u64 (V9 .u32 (J out:Int)+(B:Int))=_;rw[au,aS];omega)
 have a3:=Uv.st (ra:=15) (rb:=11) (p:=word) (v:=((B+J out:Nat):Int)) a2 (by rw[cJ An,cJ An,g2 15 An,h15,aS];omega) O (by grind [cY,IntKind.wrap_u32]);refine⟨_,_,_,a3,?_,λi h1 h2=>?_,λi hi=>?_,cY O,λa ha ht=>?_⟩
 .intro j hj;simp only[aI,aV,or_false,not_or]at hj;rw[cJ O,cJ O,g2 j gW]
 .grind
 .grind [cJ]
 have h1:=hh a ha ht;have h2:=hp.has a ha;refine⟨λhi=>?_,λhi=>?_⟩
 .have q1:0<=pl.r a:=by unfold Pl.inR at hi;simpa using hi
  have q2:pl.r a<7:=by rcases h2 with⟨-,q⟩|⟨q, -⟩;exact q;rw[hi]at q;cases q
  rw[cJ O,cJ O,g2 _ (nm1 O)];exact h1.1 hi
 rw[cJ O,g3 _ O];exact h1.2 hi
theorem Uv.room{base word e:Nat}{SK S0:Int}(h:Uv C k (p7 e base word SK S0++l) R W M)(hbase:base=13\/base=14)(hw:word=2\/word=3)(h15:R.getD 15 0=0)(hn:W.getD word 0=(n:Int))(hn2:n<=16)(h0:0<=SK/\SK<=16)(hm:0<=S0/\S0<=4294967295)
  (he:C.drop e=[⟨19,0,0,0,2⟩]):SK<=n/\(n:Int)<=S0/\∃k' R',Uv C k' l R' W M/\R'.getD base 0=(n:Int) - SK/\kT [base,11,12] R R':=by
 have hl:=h.rl;have no:∀(R1:Li),¬Uv C e [⟨19,0,0,0,2⟩] R1 W M:=λR1 g=>by have:=(Uv.exit g).1;cases this
 have a1:=Uv.ld (rd:=base) (ra:=15) (p:=word) h (by grind [IntKind.wrap_u64]) O;rw[hn]at a1;have a2:=Uv.li (rd:=11) a1;have e11:((R.set base (n:Int)).set 11 (V9 .u32 SK)).getD 11 0=SK:=by rw[cY Do,au];omega
 have eb:((R.set base (n:Int)).set 11 (V9 .u32 SK)).getD base 0=n:=by rw[cJ O,cY O]
 have a3:=Uv.op (rd:=12) (ra:=base) (rb:=11) (v:=Va (decide ((n:Int)<SK))) a2 An An (by rw[e11,eb];rfl);have b3:(((R.set base (n:Int)).set 11 (V9 .u32 SK)).set 12 (Va (decide ((n:Int)<SK)))).getD 12 0=Va (decide ((n:Int)<SK)):=cY Do;have a4:=Uv.bnez (ra:=12) a3 he;rw[b3]at a4;rcases a4 with⟨c1,a4⟩|⟨-,a4⟩
 .have hlt:SK<=n:=by
   cases hd:decide ((n:Int)<SK)with
   |true=>rw[hd]at c1;cases c1
   |false=>grind
  have a5:=Uv.li (rd:=12) a4;have a6:=Uv.op (rd:=12) (ra:=12) (rb:=base) (v:=Va (decide (S0<(n:Int)))) a5 An An (by
   rw[cY Do,cJ O,cJ O,eb];show Va (decide (V9 .u32 S0<(n:Int)))=_;rw[show V9 .u32 S0=S0 by rw[au];omega])
  have a7:=Uv.bnez (ra:=12) a6 he;rw[cY Do]at a7;rcases a7 with⟨c2,a7⟩|⟨-,a7⟩
  .have hle:(n:Int)<=S0:=by
    cases hd:decide (S0<(n:Int))with
    |true=>rw[hd]at c2;cases c2
    |false=>grind
   have a8:=Uv.op (rd:=base) (ra:=base) (rb:=11) (v:=(n:Int) - SK) a7 An An (by
    rw[cJ O,cJ O,cJ O,eb,cJ An,cJ An,cJ An,e11];show V9 .u64 ((n:Int) - SK)=_;rw[aS];omega)
   refine⟨hlt,hle,_,_,a8,cY Do,?_⟩;intro j hj
   grind
  grind
 grind
end
end Go.Ink
namespace Go.Ink
open List renaming length→J, replicate→R9
open IntKind renaming wrap→V9
open Go.RowKit
def j7(W:Li)(from_:Nat)(l:Li):Nat->List Int
 |0=>W
 |k+1=>(j7 W from_ l k).set (from_+k) (l.getD k 0)
def Tm(s:St):List Int:=(j7 (j7 (((((R9 256 (0:Int)).set 0 s.pc).set 1 s.flags).set 2 (J s.d:Int)).set 3 (J s.r:Int)) 4 s.d 16) 20 s.r 16).set 36 0
theorem lY(W:Li)(f:Nat)(l:Li):∀k,J (j7 W f l k)=J W
 :=by intro y1;induction y1<;>simp_all [j7]
theorem Fe(W:Li)(f:Nat)(l:Li):∀k,f+k<=J W->∀j,j<k->(j7 W f l k).getD (f+j) 0=l.getD j 0
 :=by intro y1;induction y1<;>grind [j7,cY,lY,cJ]
theorem kH(W:Li)(f:Nat)(l:Li):∀k,∀j,(j<f\/f+k<=j)->(j7 W f l k).getD j 0=W.getD j 0
 :=by intro y1;induction y1<;>grind [j7,cJ]
theorem ET(s:St):J (Tm s)=256:=by unfold Tm;simp[lY]
theorem Oy(s:St):(Tm s).getD 0 0=s.pc/\(Tm s).getD 1 0=s.flags/\(Tm s).getD 2 0=J s.d/\(Tm s).getD 3 0=J s.r:=by
 unfold Tm;refine⟨?_,?_,?_,?_⟩
 .rw[cJ An,kH _ _ _ _ _ O,kH _ _ _ _ _ O,cJ An,cJ An,cJ An];grind
 .rw[cJ An,kH _ _ _ _ _ O,kH _ _ _ _ _ O,cJ An,cJ An];grind
 .grind [cJ,kH,cY]
 grind [cJ,kH,cY]
theorem RM(s:St)(j:Nat)(hj:j<16):(Tm s).getD (4+j) 0=s.d.getD j 0:=by
 unfold Tm;rw[cJ O,kH _ _ _ _ _ O];exact Fe _ _ _ _ cE j hj
theorem RL(s:St)(j:Nat)(hj:j<16):(Tm s).getD (20+j) 0=s.r.getD j 0:=by
 unfold Tm;rw[cJ O];exact Fe _ _ _ _ (by simp[lY]) j hj
def Pg.TT(p:Pg)(V:Li)(f0:Int):Int:=bif decide (0<=p.flags)then V.getD p.flags.toNat 0%16 else f0
def Pg.TG(p:Pg)(V:Li)(f:Int):Int:=bif decide (0<=p.target)then V.getD p.target.toNat 0 else bif(cZ p.branch f).1 then p.taken else p.next
section
variable{C l:List HI}{k:Nat}{R W:Li}{M:HM}{pl:Pl}{T V:Li}{N:Nat}
theorem Gb.mono{R' W':Li}(hp:Nm pl T N)(h:Gb pl T V N R W)(hs:∀j,j<7->R'.getD j 0=R.getD j 0)(hw:∀j,64<=j->W'.getD j 0=W.getD j 0):Gb pl T V N R' W':=λa ha ht=>by
 have h1:=h a ha ht;have h2:=hp.has a ha;refine⟨λhi=>?_,λhi=>?_⟩
 .have q1:0<=pl.r a:=by unfold Pl.inR at hi;simpa using hi
  have q2:pl.r a<7:=by rcases h2 with⟨-,q⟩|⟨q, -⟩;exact q;rw[hi]at q;cases q
  rw[hs _ O];exact h1.1 hi
 rw[hw _ O];exact h1.2 hi
theorem Uv.take7{n:Int}(hp:Nm pl T N)(hV:VO V)(h:Uv C k (j9 pl n 7++l) R W M)(h15:R.getD 15 0=0)(hh:Gb pl T V N R W)(hn:0<=n/\n<N/\(N:Int)<=T.getD n.toNat 0):
  ∃k' R' r,Uv C k' l R' W M/\eJ pl n 7=(r:Nat)/\r<9/\R'.getD r 0=V.getD n.toNat 0/\kT [7] R R':=by
 obtain⟨n0,n1,n2⟩:=hn;have en:((n.toNat:Nat):Int)=n:=by omega
 have h1:=hp.has n.toNat O;have h2:=hh n.toNat O n2;rw[en]at h1 h2;obtain⟨r,hr,hr2⟩:=mE h1 (into:=7) O
 grind [eJ,Uv.get]
theorem Qv{v:Nat}(hv:v<4294967296):bits .and .u64 15 (v:Int)=(v:Int)%16:=by
 have h1:=MJ (a:=15) (b:=v) An O;rw[show((15:Nat):Int)=15 from I]at h1;rw[h1,Nat.and_comm,show(15:Nat)=2^4 - 1 from I,Nat.and_two_pow_sub_one_eq_mod];omega
theorem K8{op f:Int}(hop:33<=op/\op<=37)(hf:0<=f/\f<=15):(cZ op f).1=(bif jO op then bits .and .u64 f (gS op) !=0 else bits .and .u64 f (gS op)==0):=by
 obtain⟨n,rfl⟩:∃n:Nat,f=n:=ai hf.1;obtain⟨h1,h2,h3,h4⟩:=PO n O;have h:op=33\/op=34\/op=35\/op=36\/op=37:=by omega
 rcases h with rfl|rfl|rfl|rfl|rfl
 .show(bits .and .u32 (n:Int) 1 !=0)=(bits .and .u64 (n:Int) 1 !=0);rw[h1]
 .show(bits .and .u32 (n:Int) 1==0)=(bits .and .u64 (n:Int) 1==0);rw[h1]
 .show(bits .and .u32 (n:Int) 4 !=0)=(bits .and .u64 (n:Int) 4 !=0);rw[h3]
 .show(bits .and .u32 (n:Int) 2 !=0)=(bits .and .u64 (n:Int) 2 !=0);rw[h2]
 show(bits .and .u32 (n:Int) 8 !=0)=(bits .and .u64 (n:Int) 8 !=0);rw[h4]
theorem Uv.flagsEnd{p:Pg}{f0:Int}(hp:Nm pl T N)(hV:VO V)(h:Uv C k (gM p pl++l) R W M)(h15:R.getD 15 0=0)(hh:Gb pl T V N R W)(hf:0<=p.flags->p.flags<N/\(N:Int)<=T.getD p.flags.toNat 0)(h1:W.getD 1 0=f0):
  ∃k' R' W',Uv C k' l R' W' M/\kT [7,11] R R'/\W'.getD 1 0=p.TT V f0/\∀i,i≠1->W'.getD i 0=W.getD i 0:=by
 unfold gM at h;unfold Pg.TT;by_cases hd:0<=p.flags
 .rw[ak hd]at h|-;have h:Uv C k (⟨1,11,0,0,15⟩::(j9 pl p.flags 7++(⟨5,11,11,eJ pl p.flags 7,0⟩::⟨15,0,15,11,1⟩::l))) R W M:=by
   have e:(⟨1,11,0,0,15⟩::(j9 pl p.flags 7++[⟨5,11,11,eJ pl p.flags 7,0⟩,⟨15,0,15,11,1⟩]))++l=(⟨1,11,0,0,15⟩::(j9 pl p.flags 7++(⟨5,11,11,eJ pl p.flags 7,0⟩::⟨15,0,15,11,1⟩::l)):List HI):=by simp
   rw[ae,e]at h;exact h
  have g0:=Uv.li (rd:=11) h;obtain⟨k1,R1,r,g1,g2,g3,g4,g5⟩:=Uv.take7 hp hV g0 Do (hh.mono hp (λj hj=>cJ O) (λ_ _=>I)) ⟨hd,(hf hd).1,(hf hd).2⟩;obtain⟨v,v1,v2⟩:=m5 hV p.flags.toNat;rw[g2]at g1;have hl:=h.rl;have a1:=Uv.op (rd:=11) (ra:=11) (rb:=r) (v:=(v:Int)%16) g1 An An (by rw[g5 11 An,cY O,g4,v1];exact Qv v2);have a2:=Uv.st (ra:=15) (rb:=11) (p:=1) (v:=(v:Int)%16) a1 (by rw[cJ An,g5 15 An,cJ An,h15];rfl) An (by rw[cY (by rw[g1.rl];decide),au];omega);refine⟨_,_,_,a2,?_,?_,λi hi=>cJ (λe=>hi e.symm)⟩
  .intro j hj;simp only[aI,aV,or_false,not_or]at hj;rw[cJ O,g5 j gW,cJ O]
  grind [cY,h.wl]
 grind [kT.refl]
theorem Uv.Ui{p:Pg}{pos:Nat}{f:Int}(h:Uv C k (iy p pos++l) R W M)(hk:p.branch≠0->k=pos)(hps:pos<=100000)(h15:R.getD 15 0=0)(hf:0<=f/\f<=15)(h1:W.getD 1 0=f)(h9:R.getD 9 0=p.next)(hb:p.branch=0\/(33<=p.branch/\p.branch<=37)):
  ∃k' R',Uv C k' l R' W M/\R'.getD 9 0=(bif(cZ p.branch f).1 then p.taken else p.next)/\kT [9,11,12] R R':=by
 unfold iy at h;rcases hb with hb|hb
 .rw[hb]at h|-;exact⟨k,R,h,h9,kT.refl _ _⟩
 rw[show(p.branch !=0)=true by simp;omega,ae]at h;have hk:=hk O;have hl:=h.rl;have a1:=Uv.ld (rd:=11) (ra:=15) (p:=1) h (by rw[h15];rfl) An;have a2:=Uv.li (rd:=12) a1;rw[h1]at a2;have hbit:=K8 hb hf;obtain⟨q,hq⟩:=Uk (bits .and .u64 f (gS p.branch));rw[hq]at hbit;have a3:=Uv.op (rd:=11) (ra:=11) (rb:=12) (v:=q) a2 An An (by rw[cJ An,cY O,cY Do];exact hq);have e11:(((R.set 11 f).set 12 (gS p.branch)).set 11 q).getD 11 0=q:=cY Do;have e9:(((R.set 11 f).set 12 (gS p.branch)).set 11 q).getD 9 0=p.next:=by rw[cJ An,cJ An,cJ An,h9]
 have ew:V9 .u32 (((pos+3:Nat):Int)+2)=((pos+5:Nat):Int):=by rw[au];omega
 rw[ew]at a3;have hdrop:C.drop (pos+5)=l:=by
  have:=h.at_;rw[hk]at this;have h5:=congrArg (List.drop 5) this;rw[List.drop_drop]at h5;exact h5
 have same:kT [9,11,12] R (((R.set 11 f).set 12 (gS p.branch)).set 11 q):=by
  intro j hj;simp only[aI,aV,or_false,not_or]at hj;rw[cJ O,cJ O,cJ O]
 have goOn:∀{k2:Nat},Uv C k2 (⟨1,9,0,0,p.taken⟩::l) (((R.set 11 f).set 12 (gS p.branch)).set 11 q) W M->(cZ p.branch f).1=true->∃k' R',Uv C k' l R' W M/\R'.getD 9 0=(bif(cZ p.branch f).1 then p.taken else p.next)/\kT [9,11,12] R R':=λg he=>by
  refine⟨_,_,Uv.li (rd:=9) g,?_,same.trans (kT.set _ 9 _ (e:=[9]) cE) Do⟩
  grind
 have stay:Uv C (pos+5) l (((R.set 11 f).set 12 (gS p.branch)).set 11 q) W M->(cZ p.branch f).1=false->∃k' R',Uv C k' l R' W M/\R'.getD 9 0=(bif(cZ p.branch f).1 then p.taken else p.next)/\kT [9,11,12] R R':=λg he=>
  ⟨_,_,g,by grind,same⟩
 cases hs:jO p.branch with
 |true=>
  rw[hs]at a3 hbit;have a4:=Uv.beqz (ra:=11) a3 hdrop;rw[e11]at a4;rcases a4 with⟨c,g⟩|⟨c,g⟩
  .exact goOn g Do
  grind
 |false=>
  rw[hs]at a3 hbit;have a4:=Uv.bnez (ra:=11) a3 hdrop;rw[e11]at a4;rcases a4 with⟨c,g⟩|⟨c,g⟩
  .exact goOn g Do
  grind
end
section
variable{pl:Pl}
theorem MM(op rd a b:Int):J (xm op rd a b)<=3:=by grind [xm,yu,RT]
theorem PN(op a b:Int):J (mF op a b)<=21:=by
 have h:=MM op 9 a b;unfold mF fR;cases op==16 with
 |true=>simp[kN,gU,ip,vX];omega
 |false=>
  grind [kM,gU,ip,vX]
theorem oneL_le(nd nr:Int)(n:Int)(x:II):J (rc nd nr pl n x)<=25:=by
 grind [Pq,eJ,yL,MM,PN,rc]
theorem O2(nd nr:Int):∀(c:List II) (n:Nat),J (j6 nd nr pl c n)<=25*J c
 :=by intro y1;induction y1<;>grind [oneL_le,rc,j6]
theorem endL_le(p:Pg)(pos:Nat):J (tB p pl pos)<=20:=by
 have h1:J (gM p pl)<=4:=by
  unfold gM;have:=yL (pl:=pl) p.flags 7;cases decide (0<=p.flags)with
  |true=>simp;omega
  |false=>simp
 have h2:∀q,J (iy p q)<=5:=λq=>by grind [iy]
 grind [jI,yL,gM,tB]
theorem ψ{p:Pg}(hn:J p.code<=64)(hD:J p.SP<=16)(hR:J p.SQ<=16):J (iT p pl)<=2000:=by
 grind [O2,outL_le,iT,iX]
end
variable{T:Li}{pl:Pl}
def fV(T:Li)(n at_:Int):List Int:=bif decide (0<=n)then T.set n.toNat (if at_>T.getD n.toNat 0 then at_ else T.getD n.toNat 0)else T
def lZ(x:II):Bool:=x.op==3||x.op==4
def fh:List II->Nat->List Int->List Int
 |[],_,T=>T
 |x::c,k,T=>fh c (k+1) (bif lZ x then fV (fV T x.a k) x.b k else T)
def jR(T:Li)(l:Li)(at_:Int):List Int:=l.foldl (λT n=>fV T n at_) T
def VK(n:Nat):List Int:=(List.range n).map λk:Nat=>(k:Int)
def ge(p:Pg):List Int:=jR (jR (jR (fh p.code 0 (VK (J p.code))) p.SP (J p.code)) p.SQ (J p.code)) [p.flags,p.target] (J p.code)
theorem jY(T:Li)(n a:Int):Up T (fV T n a):=by
 unfold fV;cases decide (0<=n)with
 |false=>exact Up.refl T
 |true=>
  refine⟨by grind,λi=>?_⟩
  grind
variable{n:Int}
theorem xH{a:Int}(h0:0<=n)(h1:n.toNat<J T):a<=(fV T n a).getD n.toNat 0:=by
 grind [fV,cY]
theorem jq:∀(l:Li) (T:Li) (a:Int),Up T (jR T l a)
 |[],T,a=>Up.refl T
 |n::l,T,a=>(jY T n a).trans (jq l (fV T n a) a)
theorem pQ:∀(l:Li) (T:Li) (a:Int),∀n,n∈l->0<=n->n.toNat<J T->a<=(jR T l a).getD n.toNat 0
 |[],_,_,n,hn,_,_=>by cases hn
 |m::l,T,a,n,hn,h0,h1=>by
  show a<=(jR (fV T m a) l a).getD n.toNat 0;have hl:=(jY T m a).1;rcases aI.1 hn with rfl|hn
  .exact Int.le_trans (xH h0 h1) ((jq l (fV T n a) a).2 _)
  exact pQ l (fV T m a) a n hn h0 O
theorem kF:∀(c:List II) (k:Nat) (T:Li),Up T (fh c k T)
 |[],_,T=>Up.refl T
 |x::c,k,T=>by
  refine Up.trans ?_ (kF c (k+1) _);cases lZ x with
  |true=>exact(jY T x.a k).trans (jY _ x.b k)
  |false=>exact Up.refl T
theorem uI:∀(c:List II) (k:Nat) (T:Li) (i:Nat) (x:II),c[i]? =some x->lZ x=true->(0<=x.a/\x.a.toNat<J T)->(0<=x.b/\x.b.toNat<J T)->
  ((k+i:Nat):Int)<=(fh c k T).getD x.a.toNat 0/\((k+i:Nat):Int)<=(fh c k T).getD x.b.toNat 0
 |[],_,_,i,x,h,_,_,_=>by cases h
 |y::c,k,T,0,x,h,hx,ha,hb=>by
  obtain rfl:y=x:=by grind
  have e:fh (y::c) k T=fh c (k+1) (fV (fV T y.a k) y.b k):=by
   show fh c (k+1) (bif lZ y then _ else _)=_;rw[hx];rfl
  have h1:=(jY T y.a k).1;have h2:=kF c (k+1) (fV (fV T y.a k) y.b k);have h3:=xH (T:=T) (a:=k) ha.1 ha.2;have h4:=xH (T:=fV T y.a k) (a:=k) hb.1 O;have h5:=(jY (fV T y.a k) y.b k).2 y.a.toNat;rw[e,Nat.add_zero];exact⟨Int.le_trans h3 (Int.le_trans h5 (h2.2 _)),Int.le_trans h4 (h2.2 _)⟩
 |y::c,k,T,i+1,x,h,hx,ha,hb=>by
  have hl:J (bif lZ y then fV (fV T y.a k) y.b k else T)=J T:=by
   cases lZ y with
   |true=>exact((jY T y.a k).trans (jY _ y.b k)).1
   |false=>rfl
  have:=uI c (k+1) (bif lZ y then fV (fV T y.a k) y.b k else T) i x Do hx ⟨ha.1,by omega⟩ ⟨hb.1,by omega⟩;rw[show k+1+i=k+(i+1) by omega]at this;exact this
variable{i:Nat}
theorem Pu{n:Nat}(h:i<n):(VK n).getD i 0=i:=by
 grind [VK]
theorem qj(n:Nat):J (VK n)=n:=by simp[VK]
theorem yC(p:Pg):Up (fh p.code 0 (VK (J p.code))) (ge p):=((jq _ _ _).trans (jq _ _ _)).trans (jq _ _ _)
theorem Ph(p:Pg):J (ge p)=J p.code:=by rw[(yC p).1,(kF _ _ _).1,qj]
theorem KW(p:Pg){i:Nat}(h:i<J p.code):(i:Int)<=(ge p).getD i 0:=by
 have h1:=((kF p.code 0 (VK (J p.code))).trans (yC p)).2 i
 grind [Pu]
theorem KV(p:Pg){n:Nat}{x:II}(h:p.code[n]? =some x)(hx:lZ x=true)(ha:0<=x.a/\x.a<J p.code)(hb:0<=x.b/\x.b<J p.code):(n:Int)<=(ge p).getD x.a.toNat 0/\(n:Int)<=(ge p).getD x.b.toNat 0:=by
 have h1:=uI p.code 0 (VK (J p.code)) n x h hx ⟨ha.1,by rw[qj];omega⟩ ⟨hb.1,by rw[qj];omega⟩;rw[bA]at h1;exact⟨Int.le_trans h1.1 ((yC p).2 _),Int.le_trans h1.2 ((yC p).2 _)⟩
theorem qh(p:Pg){n:Int}(h:n∈p.SP\/n∈p.SQ\/n=p.flags\/n=p.target)(h0:0<=n/\n<J p.code):(J p.code:Int)<=(ge p).getD n.toNat 0:=by
 have l0:J (fh p.code 0 (VK (J p.code)))=J p.code:=by rw[(kF _ _ _).1,qj]
 have l1:=(jq p.SP (fh p.code 0 (VK (J p.code))) (J p.code)).1;have u2:=jq p.SQ (jR (fh p.code 0 (VK (J p.code))) p.SP (J p.code)) (J p.code);have l2:=u2.1;have u3:=jq [p.flags,p.target] (jR (jR (fh p.code 0 (VK (J p.code))) p.SP (J p.code)) p.SQ (J p.code)) (J p.code);rcases h with h|h|h
 .exact Int.le_trans (pQ p.SP _ _ n h h0.1 O) ((u2.trans u3).2 _)
 .exact Int.le_trans (pQ p.SQ _ _ n h h0.1 O) (u3.2 _)
 exact pQ [p.flags,p.target] _ _ n Do h0.1 O
def ly(T:Li)(pl:Pl)(n:Nat):Pl:=
 ⟨pl.reg.set n (-1),pl.slot.set n (fG T pl.slot n),if((fG T pl.slot n:Nat):Int)+1>pl.Ta then((fG T pl.slot n:Nat):Int)+1 else pl.Ta⟩
def p5(T:Li)(Tb:Int)(pl:Pl)(n:Nat):Pl:=
 bif decide (((fG T pl.reg n:Nat):Int)<Tb)then⟨pl.reg.set n (fG T pl.reg n),pl.slot,pl.Ta⟩else
 bif(gc T pl.reg n n !=n)then ly T ⟨pl.reg.set n (pl.reg.getD (gc T pl.reg n n) 0),pl.slot,pl.Ta⟩ (gc T pl.reg n n)else ly T pl n
def jx(T:Li)(Tb:Int)(N:Nat):Nat->Pl
 |0=>⟨R9 N (-1),R9 N (-1),0⟩
 |n+1=>p5 T Tb (jx T Tb N n) n
theorem pigeon(place:Li)(h:∀k:Nat,k<=J place->∃i,i<J place/\place.getD i 0=(k:Int)):False:=by
 have hc:∃f:Nat->Nat,∀k,k<=J place->f k<J place/\place.getD (f k) 0=(k:Int):=by
  refine⟨λk=>if hk:k<=J place then Classical.choose (h k hk)else 0,λk hk=>?_⟩;simp only[dif_pos hk];exact Classical.choose_spec (h k hk)
 obtain⟨f,hf⟩:=hc;have h1:=nu (J place) ((List.range (J place+1)).map f) ?_ ?_
 .simp at h1;omega
 .rw[List.Nodup,List.pairwise_map];refine List.Pairwise.imp_of_mem ?_ (List.nodup_range (n:=J place+1));intro a b ha hb hab e;have h2:=(hf a (by have:=List.mem_range.1 ha;omega)).2;have h3:=(hf b (by have:=List.mem_range.1 hb;omega)).2;rw[e,h3]at h2;exact hab O
 intro x hx;obtain⟨k,hk,rfl⟩:=List.mem_map.1 hx;exact(hf k (by have:=List.mem_range.1 hk;omega)).1
theorem Bq(T place:Li)(n:Nat):∀f k,k+f=J place->(∀j,j<k->fa T place n j (J place)=true)->fa T place n (kL T place n f k) (J place)=false/\kL T place n f k<=J place/\∀j,j<kL T place n f k->fa T place n j (J place)=true
 |0,k,hk,hb=>by
  refine⟨?_,by show k<=_;omega,hb⟩;show fa T place n k (J place)=false;cases h:fa T place n k (J place) with
  |false=>rfl
  |true=>
   refine(pigeon place λj hj=>?_).elim;have ht:fa T place n j (J place)=true:=by
    by_cases e:j=k
    .rw[e];exact h
    exact hb j O
   obtain⟨i,h1,h2, -⟩:=(zH T place n j (J place)).1 ht;exact⟨i,h1,h2⟩
 |f+1,k,hk,hb=>by
  cases h:fa T place n k (J place) with
  |false=>
   have e:kL T place n (f+1) k=k:=by show(bif fa T place n k (J place) then _ else k)=k;rw[h];rfl
   rw[e];exact⟨h,by omega,hb⟩
  |true=>
   have e:kL T place n (f+1) k=kL T place n f (k+1):=by show(bif fa T place n k (J place) then kL T place n f (k+1)else k)=_;rw[h];rfl
   rw[e];exact Bq T place n f (k+1) O (λj hj=>by
    by_cases e:j=k
    ·rw[e];exact h
    exact hb j O)
theorem rx(T place:Li)(n:Nat):fa T place n (fG T place n) (J place)=false/\fG T place n<=J place/\∀j,j<fG T place n->fa T place n j (J place)=true:=
 Bq T place n (J place) 0 O (λj hj=>absurd hj O)
theorem oE{place:Li}{n:Nat}(hi:i<J place)(h:place.getD i 0=(fG T place n:Nat)):nA T i n=false:=by
 cases hm:nA T i n with
 |false=>rfl
 |true=>
  have:=(zH T place n (fG T place n) (J place)).2 ⟨i,hi,h,hm⟩;rw[(rx T place n).1]at this;cases this
variable{j:Nat}
structure SInv(T:Li)(Tb:Int)(N n:Nat)(pl:Pl):Prop where
 rl:J pl.reg=N
 sl:J pl.slot=N
 had:∀i,i<n->(0<=pl.reg.getD i 0/\pl.reg.getD i 0<Tb/\pl.slot.getD i 0= -1)\/(pl.reg.getD i 0= -1/\0<=pl.slot.getD i 0/\pl.slot.getD i 0<=N)
 new:∀i,n<=i->i<N->pl.reg.getD i 0= -1/\pl.slot.getD i 0= -1
 reg:∀i j,i<j->j<n->0<=pl.reg.getD i 0->pl.reg.getD i 0=pl.reg.getD j 0->T.getD i 0<=j
 slot:∀i j,i<j->j<n->0<=pl.slot.getD i 0->pl.slot.getD i 0=pl.slot.getD j 0->T.getD i 0<=j
theorem sinv0(T:Li)(Tb:Int)(N:Nat):SInv T Tb N 0 (jx T Tb N 0):=
 ⟨by simp[jx],by simp[jx],λi hi=>absurd hi O,λi _ hi=>by
  constructor<;>(show(R9 N (-1:Int)).getD i 0= -1;rw[aM,List.getElem?_replicate_of_lt hi];rfl),λi j _ hj=>absurd hj O,λi j _ hj=>absurd hj O⟩
theorem JD{Tb:Int}{N n:Nat}(hT:∀i,i<N->(i:Int)<=T.getD i 0)(h:SInv T Tb N n pl)(hn:n<N):SInv T Tb N (n+1) (p5 T Tb pl n):=by
 have hrl:=h.rl;have hsl:=h.sl;obtain⟨nr,ns⟩:=h.new n (aL _) hn;unfold p5;by_cases hr:((fG T pl.reg n:Nat):Int)<Tb
 .rw[ak hr,ae];refine⟨by simp[hrl],hsl,λi hi=>?_,λi h1 h2=>?_,λi j hij hj h0 he=>?_,λi j hij hj h0 he=>?_⟩
  .by_cases e:i=n
   .subst e;refine Or.inl ?_;dsimp only;rw[cY O];exact⟨by omega,hr,ns⟩
   dsimp only;rw[cJ (λx=>e x.symm)];exact h.had i O
  .dsimp only;rw[cJ O];exact h.new i O h2
  .dsimp only at h0 he;by_cases ej:j=n
   .subst ej;rw[cJ O,cY O]at he;exact Dn (oE O he) hij (hT j hn)
   rw[cJ O,cJ O]at he;rw[cJ O]at h0;exact h.reg i j hij O h0 he
  by_cases ej:j=n
  .subst ej;dsimp only at h0 he;rw[ns]at he;omega
  exact h.slot i j hij O h0 he
 rw[ao hr,ac];rcases uH T pl.reg n n with hl|⟨l1,l2,l3⟩
 .rw[hl,show(n !=n)=false by simp,ac];unfold ly;have hf:=rx T pl.slot n;refine⟨by simp[hrl],by simp[hsl],λi hi=>?_,λi h1 h2=>?_,λi j hij hj h0 he=>?_,λi j hij hj h0 he=>?_⟩
  .dsimp only;by_cases e:i=n
   .subst e;refine Or.inr ?_;rw[cY O,cY O];exact⟨I,by omega,by omega⟩
   rw[cJ (λx=>e x.symm),cJ (λx=>e x.symm)];exact h.had i O
  .dsimp only;rw[cJ O,cJ O];exact h.new i O h2
  .dsimp only at h0 he;rw[cJ O]at he h0;by_cases ej:j=n
   .subst ej;rw[cY O]at he;omega
   rw[cJ O]at he;exact h.reg i j hij O h0 he
  dsimp only at h0 he;rw[cJ O]at he h0;by_cases ej:j=n
  .subst ej;rw[cY O]at he;exact Dn (oE O he) hij (hT j hn)
  rw[cJ O]at he;exact h.slot i j hij O h0 he
 obtain⟨lg,hlg⟩:=Uk (gc T pl.reg n n);rw[hlg]at l1 l2 l3|-;rw[show(lg !=n)=true by simp;omega,ae];have hm:(n:Int)<T.getD lg 0:=by
  unfold nA at l3;simp only[Bool.or_eq_true,aC,ah,beq_iff_eq]at l3;omega
 obtain⟨hreg,hlt,hslot⟩:0<=pl.reg.getD lg 0/\pl.reg.getD lg 0<Tb/\pl.slot.getD lg 0= -1:=by
  rcases h.had lg l1 with q|⟨q, -⟩
  .exact q
  exact absurd q l2
 unfold ly;have hf:=rx T pl.slot lg;have er:∀i,i≠lg->i≠n->((pl.reg.set n (pl.reg.getD lg 0)).set lg (-1)).getD i 0=pl.reg.getD i 0:=λi h1 h2=>by rw[cJ (λe=>h1 e.symm),cJ (λe=>h2 e.symm)]
 have ern:((pl.reg.set n (pl.reg.getD lg 0)).set lg (-1)).getD n 0=pl.reg.getD lg 0:=by rw[cJ O,cY O]
 have erl:((pl.reg.set n (pl.reg.getD lg 0)).set lg (-1)).getD lg 0= -1:=cY (by rw[List.length_set];omega);have es:∀i,i≠lg->(pl.slot.set lg ((fG T pl.slot lg:Nat):Int)).getD i 0=pl.slot.getD i 0:=λi h1=>cJ (λe=>h1 e.symm)
 have esl:(pl.slot.set lg ((fG T pl.slot lg:Nat):Int)).getD lg 0=(fG T pl.slot lg:Nat):=cY O;refine⟨by simp[hrl],by simp[hsl],λi hi=>?_,λi h1 h2=>?_,λi j hij hj h0 he=>?_,λi j hij hj h0 he=>?_⟩
 .dsimp only;by_cases e:i=lg
  .subst e;rw[erl,esl];exact Or.inr ⟨I,by omega,by omega⟩
  by_cases e2:i=n
  .subst e2;rw[ern,es _ e];exact Or.inl ⟨hreg,hlt,ns⟩
  rw[er i e e2,es i e];exact h.had i O
 .dsimp only;rw[er i O O,es i O];exact h.new i O h2
 .dsimp only at h0 he;by_cases ei:i=lg
  .subst ei;rw[erl]at h0;omega
  rw[er i ei O]at h0 he;by_cases ejn:j=n
  .subst ejn;rw[ern]at he;by_cases hil:i<lg
   .have:=h.reg i lg hil l1 h0 he;omega
   have:=h.reg lg i O O hreg he.symm;omega
  by_cases ejl:j=lg
  .subst ejl;rw[erl]at he;omega
  rw[er j ejl ejn]at he;exact h.reg i j hij O h0 he
 dsimp only at h0 he;by_cases ei:i=lg
 .subst ei;rw[es j O]at he;rw[esl]at he;exact O1 (oE O he.symm) hij (hT j O)
 rw[es i ei]at h0 he;by_cases ejl:j=lg
 .subst ejl;rw[esl]at he;exact Dn (oE O he) hij (hT j O)
 rw[es j ejl]at he;by_cases ejn:j=n
 .subst ejn;rw[ns]at he;omega
 exact h.slot i j hij O h0 he
end Go.Ink
