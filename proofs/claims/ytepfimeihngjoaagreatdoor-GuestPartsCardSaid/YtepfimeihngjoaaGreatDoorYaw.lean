/- Lemmas. -/
import Derived.Test.YtepfimeihngjoaaGreatDoorYas
import Derived.Test.YtepfimeihngjoaaGreatDoorYat
import Derived.Test.YtepfimeihngjoaaGreatDoorYau
set_option linter.all false
set_option maxRecDepth 100000
set_option maxHeartbeats 4000000
namespace Go.Ink
open List renaming length→J, replicate→R9
open IntKind renaming wrap→V9
open Go.RowKit Go.Proofs.Tryz
variable{a:Int}
section
variable{C:Cx}{Q:kW}{fr:Fr}{cs:List bH}{rest:List bH}{e:Exit}{b r:Nat}{IL:List (Bool×Ky×Value)}{cur:Option (Ky×Value)}
theorem AA(hd:V5 cs (WG b r IL cur) rest)(h:Vh C Q e fr (VG b (IL.map (·.2))::rest)):Vh C Q e fr cs:=λa w hf hi=>h a w hf ((hi.perm hd.perm).itEnd)
end
section
attribute [local irreducible] UL bM
variable{room:Int}{X:VY}
theorem cnew_ok(room:Int)(w:World):Uz prog 91 [.i room] w [] (λv cs=>if 1<=room/\room<=1024 then∃bc ml,v= .tuple #[.p bc,.i 0]/\cs=Vu bc room ⟨ml,none,0,0,[],[]⟩else v= .tuple #[.pointer none,.i 1]/\cs=[]):=by
 refine UB func91 ntmps91 ?_;refine vY ?_;refine ZW ?_ ?_<;>intro hc1
 .have hnr:¬(1<=room/\room<=1024):=Do;refine UG ?_;refine pd ?_;rw[if_neg hnr];exact ff
 have hnr:1<=room/\room<=1024:=Do;refine Ut ?_;refine dg 262 4 (pM (pM (ZA ?_)));refine gJ (Co I) I ?_;rintro _ _ ⟨b11,rfl,rfl⟩;refine ZA ?_;refine ZO λb13=>?_
 refine Uu ?_;refine bI (Vu b13 room ⟨b11,none,0,0,[],[]⟩) Zj (vL (cs':=Vu b13 room ⟨b11,none,0,0,[],[]⟩) (.inl I) (aO _) I I I ?_);rw[if_pos hnr];exact⟨b13,b11,I,I⟩
theorem BN(bc:Nat)(room:Int)(X:VY):CI prog 128 [.p bc] (Vu bc room X) (λv cs=>∃ml fl,v= .i (J X.Z:Int)/\cs=Vu bc room ⟨ml,none,0,fl,[],[]⟩):=λw hi=>by
 refine UH func128 ntmps128 hi ?_;refine vY ?_;refine dg 262 4 (pM (pM (py ?_)));refine gJ (Co I) I ?_;rintro _ _ ⟨b11,rfl,rfl⟩;refine jD ?_;refine jD ?_;refine UG ?_;refine kR ?_;refine jD ?_;refine UE ?_;exact bI (Vu bc room ⟨b11,none,0,V9 .i64 (X.fl+1),[],[]⟩) Zj (IH (cs':=Vu bc room ⟨b11,none,0,V9 .i64 (X.fl+1),[],[]⟩) (.inl I) (aO _) I I pF)
end
end Go.Ink
namespace Go.Ink
open List renaming length→J
open IntKind renaming wrap→V9
open Go.RowKit Go.Proofs.Tryz
variable{w:World}
section
attribute [local irreducible] UL bM
section
variable(S:VU)(l:List HI)(fix:Li)(X:VB)
theorem Ql(hl:J l<=20000)(op a b:Int):CI prog 308 [.p S.b,.w op,.i a,.i b] (UC S l fix X) (λr9 cs=>∃l' X',l'=l++mF op a b/\cs=UC S l' (fix) X'):=λw hi=>by
 have ha:=tE op 9 a b;have hs:∀x y,J (ip x y)=2:=λ_ _=>I
 have hb:∀x y,J (vX x y)=3:=λ_ _=>I
 refine UH func308 ntmps308 hi ?_;refine UA ?_;refine dE (UC S l fix X) (λw hi hin=>Mv S l fix X O op 9 a b w hin) ?_;rintro _ _ ⟨l1,X1,hl1,rfl⟩;refine Uu ?_;refine dE (UC S l1 fix X1) (λw hi hin=>gN S l1 fix X1 Do 13 10 9 15 w hin) ?_;rintro _ _ ⟨l2,X2,hl2,rfl⟩;refine Uu ?_;refine dE (UC S l2 fix X2) (λw hi hin=>xh S l2 fix X2 Do 11 9 w hin) ?_;rintro _ _ ⟨l3,X3,hl3,rfl⟩;refine Uu ?_;refine dE (UC S l3 fix X3) (λw hi hin=>DO S l3 fix X3 Do 11 1 w hin) ?_;rintro _ _ ⟨l4,X4,hl4,rfl⟩;refine py ?_;refine cq (λq:List HI×VB=>[(0,.p S.b)]) (λq=>UC S q.1 fix q.2) (λq=>J q.1<=J l+30/\q.1++(⟨5,11,11,12,0⟩::(ip 11 11++vX 11 3))=l++mF op a b) ?_ ?_
 .refine fo ?_;refine ZW ?_ ?_<;>intro hc5
  .refine Ut ?_;refine dE (UC S l4 fix X4) (λw hi hin=>gN S l4 fix X4 Y5 12 11 9 a w hin) ?_;rintro _ _ ⟨l5,X5,hl5,rfl⟩;refine Z9 ?_;rintro _ _ ⟨_,⟨l6,X6,hl6,rfl⟩,rfl⟩;refine UA ?_;refine dE (UC S l6 fix X6) (λw hi hin=>gN S l6 fix X6 Zz 7 11 a 9 w hin) ?_;rintro _ _ ⟨l7,X7,hl7,rfl⟩;refine Uu ?_;refine dE (UC S l7 fix X7) (λw hi hin=>gN S l7 fix X7 ZU 7 12 b 9 w hin) ?_;rintro _ _ ⟨l8,X8,hl8,rfl⟩;refine py ?_;refine Vo (((l8,X8):List HI×VB)) ⟨by grind,by simp only[hl1,hl2,hl3,hl4,hl5,hl6,hl7,hl8,mF,fR,kN,kM,gU,ae,ac,bl,aZ,aq,aF,aJ,hc5]⟩
  refine Vl ?_ ?_<;>intro hc10
  .refine DU ?_;refine Uu ?_;refine dE (UC S l4 fix X4) (λw hi hin=>gN S l4 fix X4 Y5 12 11 a b w hin) ?_;rintro _ _ ⟨l5,X5,hl5,rfl⟩;refine Z9 ?_;rintro _ _ ⟨_,⟨l6,X6,hl6,rfl⟩,rfl⟩;refine Ux ?_;refine dE (UC S l6 fix X6) (λw hi hin=>gN S l6 fix X6 Zz 7 11 a b w hin) ?_;rintro _ _ ⟨l7,X7,hl7,rfl⟩;refine Uu ?_;refine dE (UC S l7 fix X7) (λw hi hin=>gN S l7 fix X7 ZU 7 12 a 9 w hin) ?_;rintro _ _ ⟨l8,X8,hl8,rfl⟩;refine py ?_;refine Vo (((l8,X8):List HI×VB)) ⟨by grind,by simp only[hl1,hl2,hl3,hl4,hl5,hl6,hl7,hl8,mF,fR,kN,kM,gU,ae,ac,bl,aZ,aq,aF,aJ,hc5,hc10]⟩
  refine VQ ?_ ?_<;>intro hc11
  .refine Uu ?_;refine dE (UC S l4 fix X4) (λw hi hin=>gN S l4 fix X4 Y5 12 11 a b w hin) ?_;rintro _ _ ⟨l5,X5,hl5,rfl⟩;refine Z9 ?_;rintro _ _ ⟨_,⟨l6,X6,hl6,rfl⟩,rfl⟩;refine Ux ?_;refine dE (UC S l6 fix X6) (λw hi hin=>gN S l6 fix X6 Zz 7 11 a b w hin) ?_;rintro _ _ ⟨l7,X7,hl7,rfl⟩;refine Uu ?_;refine dE (UC S l7 fix X7) (λw hi hin=>gN S l7 fix X7 ZU 7 12 a 9 w hin) ?_;rintro _ _ ⟨l8,X8,hl8,rfl⟩;refine py ?_;refine Vo (((l8,X8):List HI×VB)) ⟨by grind,by simp only[hl1,hl2,hl3,hl4,hl5,hl6,hl7,hl8,mF,fR,kN,kM,gU,ae,ac,bl,aZ,aq,aF,aJ,hc5,hc10,hc11]⟩
  refine Us ?_;exact gK (cs':=UC S l4 fix X4) (.inl I) Zu I ⟨l4,X4,(by simp only[hl1,hl2,hl3,hl4,mF,fR,hc5,hc10,hc11,Bool.or_false,ae,ac,aq,aF,aJ,ax]),rfl⟩
 rintro⟨m9,s9⟩ ⟨hs8,hs9⟩;dsimp only at hs8 hs9|-;refine Us ?_;refine dE (UC S m9 fix s9) (λw hi hin=>gN S m9 fix s9 O 5 11 11 12 w hin) ?_;rintro _ _ ⟨l21,X21,hl21,rfl⟩;refine Uu ?_;refine dE (UC S l21 fix X21) (λw hi hin=>xh S l21 fix X21 Do 11 11 w hin) ?_;rintro _ _ ⟨l22,X22,hl22,rfl⟩;refine Ut ?_;refine dE (UC S l22 fix X22) (λw hi hin=>DO S l22 fix X22 Do 11 3 w hin) ?_;rintro _ _ ⟨l23,X23,hl23,rfl⟩;refine Zn (gK (cs':=UC S l23 fix X23) (.inr I) Zu I ?_);exact⟨l23,X23,Do,I⟩
end
variable{LK:List (Ky×LS)}{k:Ky}
theorem KX(LK:List (Ky×LS))(k:Ky):fX (VP LK) k (.slice none 0 0)=(gR LK k).v:=yd LS.v LK k LS.zero
theorem AU(LK:List (Ky×LS))(k:Ky):cK (·.1) k (VP LK)=cK (·.1) k LK:=ko (key:=λx:Ky×LS=>x.1) (key':=λx:Ky×Value=>x.1) (λx:Ky×LS=>(x.1,x.2.v)) ir k LK
theorem ment_at(LK:List (Ky×LS))(k:Ky):(uz (VP LK) k (.slice none 0 0))[yx (VP LK) k]? =some (k,(gR LK k).v):=by
 grind [uz,yx,AU,cK,nC,VP,nD,LS.v,LS.zero]
theorem OX(LK:List (Ky×LS))(k:Ky)(x:LS):(uz (VP LK) k (.slice none 0 0)).set (yx (VP LK) k) (k,x.v)=VP (dP LK k x):=by
 unfold uz yx dP;rw[AU];cases h:cK (λx:Ky×LS=>x.1) k LK with
 |some j=>
  simp[VP]
 |none=>
  simp[VP]
end
end Go.Ink
namespace Go.Ink
open List renaming length→J, replicate→R9
open IntKind renaming wrap→V9
open Go.RowKit Go.Proofs.Tryz
set_option maxHeartbeats 1000000
variable{x:Int}
theorem Sh(v:BitVec 32):Vg (V9 .u32 (v.toNat:Int))=v.msb:=by
 rw[BitVec.msb_eq_decide,u32_wrap_id _ O (by have:=v.isLt;omega)];exact decide_eq_decide.2 O
variable{a b:Int}
theorem yF(ha:u32 a)(hb:u32 b):Vg (bits .xor .u32 a b)=(Vg a^^Vg b):=by
 rw[<-Fq ha,<-Fq hb,<-BitVec.msb_xor];exact Sh _
theorem Lt(ha:u32 a)(hb:u32 b):Vg (bits .and .u32 a b)=(Vg a&&Vg b):=by
 rw[<-Fq ha,<-Fq hb,<-BitVec.msb_and];exact Sh _
variable{r:Int}
theorem ovMore(ha:u32 a)(hb:u32 b)(hr:u32 r):(bits .and .u32 (bits .and .u32 (bits .xor .u32 a r) (bits .xor .u32 b r)) 2147483648 !=0)=((Vg a==Vg b)&&(Vg r !=Vg a)):=by
 rw[F6 (eu _ _ _),Lt (eu _ _ _) (eu _ _ _),yF ha hr,yF hb hr];cases Vg a<;>cases Vg b<;>cases Vg r<;>rfl
theorem ovLess(ha:u32 a)(hb:u32 b)(hr:u32 r):(bits .and .u32 (bits .and .u32 (bits .xor .u32 a b) (bits .xor .u32 a r)) 2147483648 !=0)=((Vg a !=Vg b)&&(Vg r !=Vg a)):=by
 rw[F6 (eu _ _ _),Lt (eu _ _ _) (eu _ _ _),yF ha hb,yF ha hr];cases Vg a<;>cases Vg b<;>cases Vg r<;>rfl
theorem OR(ha:u32 a)(hb:u32 b):nK a b=yP (decide (4294967296<=a+b)) ((Vg a==Vg b)&&(Vg (V9 .u32 (a+b)) !=Vg a)) (V9 .u32 (a+b)):=by
 have e:decide (V9 .u32 (a+b)<a)=decide (4294967296<=a+b):=decide_eq_decide.2 (by
  have:=ha.1;have:=ha.2;have:=hb.1;have:=hb.2;rw[au];omega)
 unfold nK;rw[e];exact w6 (wrap_u32 _) (ovMore ha hb (wrap_u32 _))
theorem Fc(ha:u32 a)(hb:u32 b):jV a b=yP (decide (a<b)) ((Vg a !=Vg b)&&(Vg (V9 .u32 (a - b)) !=Vg a)) (V9 .u32 (a - b)):=by
 unfold jV;exact w6 (wrap_u32 _) (ovLess ha hb (wrap_u32 _))
theorem Qs{op:Int}(ha:u32 a)(hb:u32 b):gP op a b=bif !(gm op a b).2.2 then(0,0,false)else(bif op==25 then 0 else(gm op a b).1,yP (gm op a b).2.1.1 (gm op a b).2.1.2 (gm op a b).1,true):=by
 have hP:∀{r:Int},u32 r->zk r=(r,yP false false r,true):=λh=>by unfold zk;rw[Hy h]
 have hmv:∀up,u32 (da a b up):=λup=>by unfold da;exact bJ u32 u0 (bJ u32 (wrap_u32 _) (FC ha _))
 by_cases e:op=16
 .subst e;show(_,nK a b,true)=_;rw[OR ha hb];rfl
 have e16:(op==16)=false:=by simpa using e
 by_cases e:op=17
 .subst e;show(_,jV a b,true)=_;rw[Fc ha hb];rfl
 have e17:(op==17)=false:=by simpa using e
 by_cases e:op=25
 .subst e;show(_,jV a b,true)=_;rw[Fc ha hb];rfl
 have e25:(op==25)=false:=by simpa using e
 by_cases e:op=18
 .exact Xl
 have e18:(op==18)=false:=by simpa using e
 by_cases e:op=19
 .exact Xl
 have e19:(op==19)=false:=by simpa using e
 by_cases e:op=20
 .exact Xl
 have e20:(op==20)=false:=by simpa using e
 by_cases e:op=21
 .subst e;show zk _=_;rw[hP (hmv true)];rfl
 have e21:(op==21)=false:=by simpa using e
 by_cases e:op=22
 .subst e;show zk _=_;rw[hP (hmv false)];rfl
 have e22:(op==22)=false:=by simpa using e
 by_cases e:op=23
 .subst e;show zk _=_;rw[hP (wrap_u32 _)];rfl
 have e23:(op==23)=false:=by simpa using e
 by_cases e:op=24
 .subst e;show(bif b==0 then _ else zk _)=_;unfold gm;cases hz:(b==0)with
  |true=>simp[hz,bne]
  |false=>rw[hP (wrap_u32 _)];simp[hz,bne]
 have e24:(op==24)=false:=by simpa using e
 unfold gP gm;simp only[e16,e17,e25,e18,e19,e20,e21,e22,e23,e24,ac,bn,Bool.or_false,Bool.not_false,ae]
variable{s:St}{n:Int}
theorem JE(h:0<=n)(v:Int):(s.set n v).2=(decide (n<=10)&&(n !=9)):=by
 by_cases hn:n<=10
 .obtain rfl|rfl|rfl|rfl|rfl|rfl|rfl|rfl|rfl|rfl|rfl:n=0\/n=1\/n=2\/n=3\/n=4\/n=5\/n=6\/n=7\/n=8\/n=9\/n=10:=by omega
  all_goals rfl
 have e:∀k:Int,k<=10->(n==k)=false:=λk hk=>by simp only[bE,ne_eq];omega
 rw[ao hn];unfold St.set;simp[e]
theorem Ms{op:Int}(h:0<=n):dN s op n=bif !eG op n then 1 else bif lz op&& !s.Sy then 2 else bif((op==66)||(op==67))&&(decide (10<n)||((op==67)&&(n==9)))then 1 else qe s (bR op):=by
 unfold dN;rw[LD h,JE h];have e:(!decide (n<=10))=decide (10<n):=by
  by_cases hn:n<=10
  .rw[ak hn,ao O];rfl
  rw[ao hn,ak O];rfl
 by_cases e6:op=66
 .subst e6;cases hr:eG 66 n<;>cases hs:(lz 66&& !s.Sy)<;>simp[e]
 by_cases e7:op=67
 .subst e7;cases hr:eG 67 n<;>cases hs:(lz 67&& !s.Sy)<;>simp[e,bne]
 have a6:(op==66)=false:=by simpa using e6
 have a7:(op==67)=false:=by simpa using e7
 rw[a6,a7];simp
section
attribute [local irreducible] UL bM
theorem om(op:Int)(w:World):CW prog 127 [.i op] w (.i (cw op)):=by
 rw[<-xR];refine UB func127 ntmps127 ?_;refine tH ?_ ?_<;>intro hc1
 .refine fC ?_;exact XC
 refine jF ?_;refine Vs ?_ ?_<;>intro hc3
 .refine fC ?_;exact XC
 refine jF ?_;refine jF ?_;refine Vs ?_ ?_<;>intro hc5
 .refine fC ?_;exact XC
 refine jE ?_;exact XC
theorem Ab(op n:Int)(hn:u32 n)(w:World):CW prog 210 [.agg #[.i op,.w n]] w (.bool (eG op n)):=by
 have HZ:=om op;obtain⟨z,hz⟩:=Uk (cw op);have hz4:z=0\/z=1\/z=2\/z=5:=by
  rw[<-hz,<-xR];unfold xT;exact bJ (λz:Int=>z=0\/z=1\/z=2\/z=5) An (bJ (λz:Int=>z=0\/z=1\/z=2\/z=5) An (bJ (λz:Int=>z=0\/z=1\/z=2\/z=5) An An))
 have e:(((z==5)||((z==2)&&decide (n<256)))||((z==1)&&(n==0)))=eG op n:=by
  unfold eG;have e2:decide (n<256)=decide (n<=255):=decide_eq_decide.2 O
  rw[hz,e2];rcases hz4 with rfl|rfl|rfl|rfl<;>simp
 rw[<-e];rw[hz]at HZ;refine UB func210 ntmps210 ?_;refine py ?_;refine ZO λb1=>?_;refine Ux ?_;refine UD (λw hi=>HZ w) ?_;refine jF ?_;refine UE ?_;exact vB
theorem CB(op:Int)(w:World):CW prog 211 [.i op] w (.bool (lz op)):=by
 refine UB func211 ntmps211 ?_;exact Wp
theorem CG(op:Int)(w:World):CW prog 209 [.i op] w (.agg (j5 (bR op)).toArray):=by
 rw[<-Kv];refine UB func209 ntmps209 ?_;refine py ?_;refine ZN λb2=>?_;refine mU ?_;refine ZW ?_ ?_<;>intro hc2
 .refine py ?_;refine bV I (hc2) (v7 ?_);exact WD
 refine Ul ?_ ?_<;>intro hc3
 .refine py ?_;refine bV I (hc3) (v7 ?_);exact WD
 refine VQ ?_ ?_<;>intro hc4
 .exact VH
 refine Ul ?_ ?_<;>intro hc6
 .exact VH
 refine Vl ?_ ?_<;>intro hc8
 .refine py ?_;refine bV I (hc8) (v7 ?_);exact WD
 refine Ul ?_ ?_<;>intro hc9
 .refine py ?_;refine bV I (hc9) (v7 ?_);exact WD
 refine Ul ?_ ?_<;>intro hc10
 .refine DU ?_;exact VH
 refine VQ ?_ ?_<;>intro hc11
 .exact VH
 refine Ul ?_ ?_<;>intro hc13
 .exact VH
 refine Ul ?_ ?_<;>intro hc15
 .exact VH
 refine Ul ?_ ?_<;>intro hc17
 .exact VH
 refine Ul ?_ ?_<;>intro hc19
 .exact VH
 refine Vl ?_ ?_<;>intro hc21
 .refine py ?_;refine bV I (hc21) (v7 ?_);exact WD
 refine Ul ?_ ?_<;>intro hc22
 .refine py ?_;refine bV I (hc22) (v7 ?_);exact WD
 refine Ul ?_ ?_<;>intro hc23
 .refine py ?_;refine bV I (hc23) (v7 ?_);exact WD
 refine VQ ?_ ?_<;>intro hc24
 .exact VH
 refine Vl ?_ ?_<;>intro hc26
 .refine py ?_;refine bV I (hc26) (v7 ?_);exact WD
 refine Ul ?_ ?_<;>intro hc27
 .refine py ?_;refine bV I (hc27) (v7 ?_);exact WD
 refine VQ ?_ ?_<;>intro hc28
 .exact VH
 refine Ul ?_ ?_<;>intro hc30
 .exact VH
 refine Ul ?_ ?_<;>intro hc32
 .exact VH
 refine tH ?_ ?_<;>intro hc34
 .refine Us ?_;refine iz ?_;exact Wx80_
 refine Uu ?_;refine kQ ?_;exact Wx80_
theorem CQ(s:St)(Ad Ar:Oa)(cd cr:Nat)(op n:Int)(hu:u32 n)(w:World)(h:kS w s Ad Ar cd cr):
  CW prog 166 [sv s Ad cd Ar cr,.agg #[.i op,.w n]] w (.i (dN s op n)):=by
 have hD:=h.hd;have hR:=h.hr;rw[Ms hu.1];have HR:=Ab op n hu;have HS:=CB op;have HN:=CG op;obtain⟨q1,hq1⟩:=Uk (eG op n);obtain⟨q2,hq2⟩:=Uk (lz op);have hle:=E4 op;rw[hq1]at HR|-;rw[hq2]at HS|-;obtain⟨⟨⟨a,b⟩,⟨c,d⟩⟩,hq5⟩:=Uk (bR op);rw[hq5]at HN hle|-;obtain⟨ha,hb,hc,hd⟩:=hle;have ha:a<=3:=ha;have hb:b<=3:=hb;have hc:c<=3:=hc;have hd:d<=3:=hd;refine UB func166 ntmps166 ?_;refine py ?_;refine ZO λb2=>?_;refine ZO λb3=>?_
 refine Ux ?_;refine UD (λw hi=>HN w) ?_;refine ZN λb5=>?_
 refine ZM ?_;refine Ux ?_;refine UD (λw hi=>HR w) ?_;refine Wj ?_ ?_<;>intro hc2
 .exact V4
 refine Ut ?_;refine UD (λw hi=>HS w) ?_;refine V1 ?_ ?_<;>intro hc4
 .exact V4
 refine jF ?_;refine V1 ?_ ?_<;>intro hc6
 .exact V4
 refine Uu ?_;refine Zy (dc (j:=0) (sz:=1) (r:=0) I ir (Zv I) (Zv I) Uq Uq O) ?_;refine UA ?_;refine Wm I I (dc (j:=2) (sz:=1) (r:=2) I ir (Zv I) (Zv I) Uq Uq O) ?_;refine Ul ?_ ?_<;>intro hc8
 .exact V4
 refine Uu ?_;refine Zy (dc (j:=0) (sz:=1) (r:=0) I ir (Zv I) (Zv I) Uq Uq O) ?_;refine ZC ?_;refine rL ?_;refine Zy (dc (j:=1) (sz:=1) (r:=1) I ir (Zv I) (Zv I) Uq Uq O) ?_;refine ZC ?_;refine mT ?_;refine Uu ?_;refine Wm I I (dc (j:=2) (sz:=1) (r:=2) I ir (Zv I) (Zv I) Uq Uq O) ?_;refine ZD ?_;refine Wm I I (eA (cU I) (cU I) Zl) ?_;refine Wm I I (dc (j:=3) (sz:=1) (r:=3) I ir (Zv I) (Zv I) Uq Uq O) ?_;refine ZD ?_;refine Wm I I (dr (cU I) (cU I) Zl) ?_;refine VQ ?_ ?_<;>intro hc10
 .exact V4
 refine jE ?_;refine⟨?_,I⟩;exact rN
theorem raw_ok(op a b:Int)(ha:u32 a)(hb:u32 b)(w:World):CW prog 272 [.i op,.w a,.w b] w (.tuple #[.w (gm op a b).1,.w (jK (gm op a b).2.1.1 (gm op a b).2.1.2),.bool (gm op a b).2.2]):=by
 have ha1:=ha.1;have ha2:=ha.2;have hb1:=hb.1;have hb2:=hb.2;refine UB func272 ntmps272 ?_;refine jF ?_;refine ZW ?_ ?_<;>intro hc2
 .refine Ut ?_;refine kR ?_;refine fo ?_;refine Ig ?_;refine ZA ?_;refine Ig ?_;refine Zy (dr (Zv I) (Zv I) (u64_wrap_id _ O O)) ?_;refine Vs ?_ ?_<;>intro hc5
  .refine UG ?_;refine F8 ?_;refine ZA ?_;refine F8 ?_;refine Zy (oK (Zv I) (Zv I) (EH ha hb)) ?_;refine Wq44 ?_;refine Vs ?_ ?_<;>intro hc7
   .exact WM
   exact WK
  refine UA ?_;refine F8 ?_;refine ZA ?_;refine F8 ?_;refine Zy (oK (Zv I) (Zv I) (EH ha hb)) ?_;refine Wq44 ?_;refine Vs ?_ ?_<;>intro hc7
  .exact WM
  exact WK
 refine Vl ?_ ?_<;>intro hc10
 .refine DU ?_;refine Ut ?_;refine sT ?_;refine mU ?_;refine ZW ?_ ?_<;>intro hc14
  .refine UG ?_;refine Q7 ?_;refine Vs ?_ ?_<;>intro hc16
   .exact WM
   exact WK
  refine UA ?_;refine Q7 ?_;refine Vs ?_ ?_<;>intro hc16
  .exact WM
  exact WK
 refine VQ ?_ ?_<;>intro hc11
 .refine Ut ?_;refine sT ?_;refine mU ?_;refine ZW ?_ ?_<;>intro hc14
  .refine UG ?_;refine Q7 ?_;refine Vs ?_ ?_<;>intro hc16
   .exact WM
   exact WK
  refine UA ?_;refine Q7 ?_;refine Vs ?_ ?_<;>intro hc16
  .exact WM
  exact WK
 refine Ul ?_ ?_<;>intro hc19
 .refine iR ?_;exact VI
 refine Ul ?_ ?_<;>intro hc21
 .refine iR ?_;exact VI
 refine Ul ?_ ?_<;>intro hc23
 .refine iR ?_;exact VI
 refine Ul ?_ ?_<;>intro hc25
 .refine Vl ?_ ?_<;>intro hc26
  .refine gX ?_;exact VI
  refine UA ?_;refine Ik ?_;refine UG ?_;exact VI
 refine Ul ?_ ?_<;>intro hc29
 .refine Vl ?_ ?_<;>intro hc30
  .refine gX ?_;exact VI
  refine UA ?_;refine F8 ?_;refine UG ?_;exact VI
 refine Ul ?_ ?_<;>intro hc33
 .refine Ut ?_;refine Zy (fL ne ne I) ?_;refine UG ?_;exact VI
 refine Ul ?_ ?_<;>intro hc35
 .refine Ul ?_ ?_<;>intro hc36
  .refine Ut ?_;have hb0:b≠0:=(by simpa using hc36);refine Zy (jW (Zv I) (Zv I) O I) ?_;refine UG ?_;exact VI
  refine gX ?_;exact VI
 refine gX ?_;exact VI
theorem JR(op a b:Int)(ha:u32 a)(hb:u32 b)(w:World):CW prog 213 [.i op,.w a,.w b] w (.tuple #[.w (gP op a b).1,.w (gP op a b).2.1,.bool (gP op a b).2.2]):=by
 rw[Qs ha hb];have HW:=raw_ok op a b ha hb;obtain⟨⟨r,⟨c,o⟩,k⟩,hq⟩:=Uk (gm op a b);rw[hq]at HW|-;dsimp only at HW|-;refine UB func213 ntmps213 ?_;refine fo ?_;refine UD (λw hi=>HW w) ?_;refine mU ?_;refine ZW ?_ ?_<;>intro hc2
 .have hk:k=false:=(by simpa using hc2);refine UE ?_;refine o9 ?_;exact WP
 have hk:k=true:=(by simpa using hc2);refine VM ?_ ?_<;>intro hc4
 .refine eK ?_;refine Zy (Ya (Zv I) (Zv I) (show _=Vg r from I)) ?_;refine py ?_;refine ZW ?_ ?_<;>intro hc6
  .refine iR ?_;refine ZW ?_ ?_<;>intro hc8
   .refine vZ ?_;exact WP
   exact Xw
  refine VM ?_ ?_<;>intro hc8
  .refine vZ ?_;exact WP
  exact Xw
 refine UA ?_;refine Zy (Ya (Zv I) (Zv I) (show _=Vg r from I)) ?_;refine py ?_;refine ZW ?_ ?_<;>intro hc6
 .refine iR ?_;refine ZW ?_ ?_<;>intro hc8
  .refine vZ ?_;exact WP
  exact Xw
 refine VM ?_ ?_<;>intro hc8
 .refine vZ ?_;exact WP
 exact Xw
theorem CJ(op f:Int)(w:World):CW prog 273 [.i op,.w f] w (.tuple #[.bool (cZ op f).1,.bool (cZ op f).2]):=by
 refine UB func273 ntmps273 ?_;refine IK ?_;refine ZW ?_ ?_<;>intro hc2
 .exact VX
 refine Ul ?_ ?_<;>intro hc4
 .exact VX
 refine Ul ?_ ?_<;>intro hc6
 .exact VX
 refine Ul ?_ ?_<;>intro hc8
 .exact VX
 refine Ul ?_ ?_<;>intro hc10
 .exact VX
 refine eK ?_;refine pd ?_;refine⟨?_,I⟩;exact sW
theorem GK(b:Int)(hb:u32 b)(w:World):CW prog 274 [.w b] w (.w (jC b)):=by
 have hb1:=hb.1;have e:=N7 hb;refine UB func274 ntmps274 ?_;refine UG ?_;refine Zy (fH (Zv I) (Zv I) O (show _=b%256 from aw hb1)) ?_;refine oI ?_ ?_<;>intro hc2
 .rw[if_pos (by simpa using hc2)]at e;rw[e];refine Us ?_;refine sT ?_;exact vG
 rw[if_neg (by simpa using hc2)]at e;rw[e];refine UE ?_;exact vB
variable{k:Nat}
theorem enc_ok(op nn:Int)(w:World):Uz prog 81 [.agg #[.i op,.w nn]] w [] (λv cs=>∃A c,v= .slice A (J (qt op nn)) c/\cs=[sl .u8 5 A (J (qt op nn)) c (qt op nn)]):=by
 have hz5:cw op=0\/cw op=1\/cw op=2\/cw op=5:=iD op;have HS:=om op;obtain⟨z,hz⟩:∃z:Nat,cw op=z:=ai O;have he:qt op nn=yR op nn (max 1 z):=by unfold qt;rw[hz];rfl
 rw[he,By _ _ O];rw[hz]at hz5 HS;refine UB func81 ntmps81 ?_;refine py ?_;refine ZO λb1=>?_;refine Ux ?_;refine IA ?_;refine jP ?_;rintro _ _ ⟨b8,rfl,rfl⟩;refine eK ?_;refine UX (λq:Nat×Option Addr×Nat=>[(1,.p b1),(3,.slice q.2.1 q.1 q.2.2),(4,.i (q.1:Int))]) (λq=>[row b1 [.i op,.w nn] 51,sl .u8 5 q.2.1 q.1 q.2.2 (yR op nn q.1)]) (λq=>1<=q.1/\q.1<=max 1 z) (λq=>10 - q.1) ((⟨1,some ⟨b8,0,none⟩,1⟩:Nat×Option Addr×Nat)) ⟨aL _,by omega⟩ ?_;rintro⟨k,A,c⟩ ⟨hk1,hkz⟩;dsimp only at hk1 hkz|-;refine UA ?_;refine UD (λw hi=>HS w) ?_;refine Vs ?_ ?_<;>intro hc3
 .simp only[ah]at hc3;refine UE ?_;refine Zy (eA (Zv I) (Zv I) (show _=((k - 1:Nat):Int)from by rw[aN _ ⟨by omega,by omega⟩];omega)) ?_;refine Ig ?_;refine Zy (fL (Zv I) (Zv I) (show _=((8*(k - 1):Nat):Int)from by rw[u64_wrap_id _ O O];omega)) ?_;refine F8 ?_;refine Zy (cA I I (Zv I) (show _=encB nn (k - 1)from I)) ?_;refine jP ?_;rintro _ _ ⟨b25,rfl,rfl⟩;refine gJ (cu (e:=5) (sz:=1) (bytes:=1) I I Za I I (λw hi=>hi.rd (Ur (slv 5 1 (sA b25) 1 1 (ints .u8 [encB nn (k - 1)])))) cP gI O) I ?_;rintro _ _ ⟨A2,c2,rfl,rfl⟩;rw[bY,<-HJ op nn hk1];refine UA ?_;refine WR ?_;refine UN ((⟨k+1,A2,c2⟩:Nat×Option Addr×Nat)) ⟨⟨show 1<=k+1 by omega,show k+1<=max 1 z by omega⟩,show 10 - (k+1)<10 - k by omega⟩
 simp only[aa]at hc3;obtain rfl:k=max 1 z:=O;refine fo ?_;refine Vd ([slv _ _ _ _ _ _]) ?_;exact⟨A,c,I,I⟩
theorem Mq(A:Oa)(c:Nat)(l:List (Int×Int))(hl:J l<=1000)(w:World)(h:UJ w 2 A (J l) c (l.flatMap iP)):Uz prog 24 [.slice A (J l) c] w [] (λv cs=>∃A' c',v= .slice A' (J (BK l)) c'/\cs=[sl .u8 5 A' (J (BK l)) c' (BK l)]):=by
 refine UB func24 ntmps24 ?_;refine iR ?_;refine dg 5 1 (Ut ?_);refine UX (λq:Nat×Option Addr×Nat=>[(0,.slice A (J l) c),(3,.slice q.2.1 (J (me l q.1)) q.2.2),(4,.i (q.1:Int))]) (λq=>[sl .u8 5 q.2.1 (J (me l q.1)) q.2.2 (me l q.1)]) (λq=>q.1<=J l) (λq=>J l - q.1) ((⟨0,none,0⟩:Nat×Option Addr×Nat)) (ay _) ?_;rintro⟨k,A1,c1⟩ hk;dsimp only at hk|-;have hcl:=oH l k;refine VM ?_ ?_<;>intro hc3
 .simp only[ah]at hc3;have hkl:k<J l:=O;obtain⟨ad,rfl⟩:=h.some_ O;have hla:l[k]? =some (l[k]'hkl):=aj hkl;obtain⟨⟨op,nn⟩,ha⟩:=Uk (l[k]'hkl);rw[ha]at hla;have hel:=Bz op nn;refine UG ?_;refine BR ?_;refine dW (cj (vs:=[.i op,.w nn]) ir ir ne) (fP h (λj v hj=>fK A0 (i:=j) hla hj)) I (UW (λw hi=>enc_ok op nn w) ?_);rintro _ _ ⟨A2,c2,rfl,rfl⟩;refine gJ (cu (e:=5) (sz:=1) (bytes:=1) I I Za I I (λw hi=>hi.rd (Ur (sl .u8 5 A2 (J (qt op nn)) c2 (qt op nn)))) cP gI O) I ?_;rintro _ _ ⟨A3,c3,rfl,rfl⟩;rw[bY,<-ar,<-vr hla];refine UA ?_;refine WR ?_;refine UN ((⟨k+1,A3,c3⟩:Nat×Option Addr×Nat)) ⟨show k+1<=J l by omega,show J l - (k+1)<J l - k by omega⟩
 simp only[aa]at hc3;obtain rfl:k=J l:=O;refine fo ?_;refine Vd ([slv _ _ _ _ _ _]) ?_;exact⟨A1,c1,I,I⟩
variable{n:Nat}
def RS.cells(x:RS):List Value:=[.slice x.A (J x.r.bytes) x.c,.bool x.r.ends]
def RS.v(x:RS):Value:= .agg x.cells.toArray
def WE(RZ:List (Ky×RS)):List (Ky×Value):=RZ.map λx=>(x.1,x.2.v)
theorem nl(x:RS):∀u∈x.cells,u.oneCell'=true:=λu h=>by
 simp only[RS.cells,aI,aV,or_false]at h;rcases h with rfl|rfl<;>rfl
def Vk.eng(E:Vk):Vi:=⟨E.room,E.X.Z.map BA.b,WW E.RZ,E.last,E.S9,E.S8,E.begun⟩
def Wb(G:List (Bool×Ky×RS)):List (Bool×Ky×Value):=G.map λg=>(g.1,g.2.1,g.2.2.v)
variable{G:List (Bool×Ky×RS)}{j:Nat}{q:Ky}
theorem gIL_at{v:Value}(h:(Wb G)[j]? =some (false,q,v)):∃x,G[j]? =some (false,q,x)/\v=x.v:=by
 grind [Wb]
theorem gIL_del{f:Bool}{x:RS}(hn:(G.map λg=>g.2.1).Nodup)(h:G[j]? =some (f,q,x)):vU (Wb G) q=Wb (G.eraseIdx j):=by
 have hp:cK (λz:Bool×Ky×Value=>z.2.1) q (Wb G)=some j:=by
  have e:cK (λz:Bool×Ky×Value=>z.2.1) q (Wb G)=cK (λg:Bool×Ky×RS=>g.2.1) q G:=ko (key:=λg:Bool×Ky×RS=>g.2.1) (key':=λz:Bool×Ky×Value=>z.2.1) (λg:Bool×Ky×RS=>(g.1,g.2.1,g.2.2.v)) ir q G;rw[e];cases hp:cK (λg:Bool×Ky×RS=>g.2.1) q G with
  |none=>exact absurd I (iu hp _ (az h))
  |some i=>
   obtain⟨hi,hk⟩:=fj hp;obtain⟨hj,hje⟩:=ap.1 h;have:i=j:=(List.getElem_inj (xs:=G.map λg=>g.2.1) (h₀:=by grind) (h₁:=by grind) hn).1 Do;rw[this]
 grind [vU,Wb,ChangeMaps.map_eraseIdx]
variable{α:Type}
theorem JF:∀(l:List α) (j:Nat) (x:α),(l.set j x).eraseIdx j=l.eraseIdx j
 :=by grind
theorem sf{β:Type}{g:α->β}{l:List α}{x y:α}(h:l[j]? =some x)(hg:g y=g x):(l.set j y).map g=l.map g:=by
 rw[List.map_set,hg];apply List.ext_getElem?
 grind
theorem wq:∀{G:List (Bool×Ky×RS)} {j:Nat} {x:Ky×RS},G[j]? =some (false,x)->pS (G.set j (true,x))<pS G
 |[],j,x,h=>by simp at h
 |g::G,0,x,h=>by
  grind [pS]
 |g::G,j+1,x,h=>by
  have:=wq (G:=G) (j:=j) (x:=x) Do
  grind [pS]
abbrev Vr(be:Nat)(E:Vk):List bH:=[enR be E,Wy E.bc (.i E.room) (.slice E.X.Ac (J E.X.Z) E.X.cc) (.map (some E.X.ml)) (.i E.X.fl),blC E.X,cR (E.X.Z.map VE),VG E.X.ml (VP E.X.LK),cR (VJ E.X.LK),VG E.mr (WE E.RZ),cR (WF E.RZ)]
theorem FH(x:RS)(n:Int)(w:World):CW prog 96 [.agg x.cells.toArray,.i n] w (.i (bif n==0 then 0 else(J x.r.bytes:Int))):=by
 refine UB func96 ntmps96 ?_;refine py ?_;refine ZO λb2=>?_;refine oI ?_ ?_<;>intro hc1
 .refine vE ?_;rw[hc1];exact ff
 refine nR ?_;rw[hc1];exact ff
theorem enew_ok(room:Int)(w:World):Uz prog 28 [.i room] w [] (λv cs=>if 1<=room/\room<=1024 then∃be bc mr ml,v= .tuple #[.p be,.i 0]/\cs=Vr be ⟨bc,mr,room,⟨ml,none,0,0,[],[]⟩,[],(0,0),0,0,false⟩else v= .tuple #[.pointer none,.i 1]/\cs=[]):=by
 have HN:=cnew_ok room;refine UB func28 ntmps28 ?_;by_cases hr:1<=room/\room<=1024
 .have HN2:∀w,Uz prog 91 [.i room] w [] (λv cs=>∃bc ml,v= .tuple #[.p bc,.i 0]/\cs=Vu bc room ⟨ml,none,0,0,[],[]⟩):=λw=>Uz.mono (HN w) λv cs h=>by grind
  refine UE ?_;refine UW (λw hi=>HN2 w) ?_;rintro _ _ ⟨bc,ml,rfl,rfl⟩;refine qB ?_;refine Ut ?_;refine pM (ZA ?_);refine gJ (Co I) I ?_;rintro _ _ ⟨b15,rfl,rfl⟩;refine ZA ?_;refine ZO λb17=>?_
  refine Uu ?_;refine bI (Vr b17 ⟨bc,b15,room,⟨ml,none,0,0,[],[]⟩,[],(0,0),0,0,false⟩) Zj (vL (cs':=Vr b17 ⟨bc,b15,room,⟨ml,none,0,0,[],[]⟩,[],(0,0),0,0,false⟩) (.inl I) (aO _) I I I ?_);rw[if_pos hr];exact⟨b17,bc,b15,ml,I,I⟩
 have HN2:∀w,Uz prog 91 [.i room] w [] (λv cs=>v= .tuple #[.pointer none,.i 1]/\cs=[]):=λw=>Uz.mono (HN w) λv cs h=>by grind
 refine UE ?_;refine UD (λw hi=>HN2 w) ?_;refine jG ?_;refine mV ?_;refine UE ?_;refine pd ?_;rw[if_neg hr];exact ff
theorem F9.trans{E E1 E2:Vi}{c1 c2:Nat}(h1:F9 E E1 c1)(h2:F9 E1 E2 c2):F9 E E2 (c1+c2):=⟨λa b c=>by
 obtain⟨x1,x2,x3,x4⟩:=h1.S9 a b O;obtain⟨y1,y2,y3,y4⟩:=h2.S9 x1 x2 O;exact⟨y1,y2,by omega,by omega⟩,h2.room.trans h1.room⟩
theorem F9.zero(E:Vi):F9 E E 0:=⟨λa b _=>⟨a,b,by omega,Int.le_refl _⟩,rfl⟩
end
end Go.Ink
namespace Go.Ink
open List renaming length→J, replicate→R9
open IntKind renaming wrap→V9
open Go.RowKit Go.Proofs.Tryz
section
attribute [local irreducible] UL bM
section
variable(S:VU)(l:List HI)(fix:Li)(X:VB)
theorem Qa(hl:J l<=10000)(base word SK high:Int)(o:Nat)(hb1:0<=SK/\SK<=100000)(hb2: -100000<=high/\high<=100000)(hb3:o<=100000)(hf:J fix<=100):CI prog 233 [.p S.b,.i base,.w word,.i SK,.i high,.i o] (UC S l fix X) (λr9 cs=>r9= .bool (!decide (iZ SK high o<SK))/\∃l' f' X',l'=l++(bif(!decide (iZ SK high o<SK))then p7 0 base word SK (iZ SK high o)else[])/\f'=fix++(bif(!decide (iZ SK high o<SK))then[((J l+3:Nat):Int),((J l+6:Nat):Int)]else[])/\cs=UC S l' f' X'):=λw hi=>by
 have hm:(if(16:Int)+SK - o<16 - high then(16:Int)+SK - o else 16 - high)=iZ SK high o:=rfl;obtain⟨mo,hmo⟩:=Uk (iZ SK high o);rw[hmo]at hm|-;refine UH func233 ntmps233 hi ?_;refine UG ?_;refine rL ?_;refine ZA ?_;refine mT ?_;refine ZA ?_;refine rL ?_;refine Zy (Ny ne ne hm) ?_;refine yZ ?_ ?_<;>intro hc2
 .have hok:(!decide (mo<SK))=false:=Do;rw[hok];refine Ux ?_;refine Vd (UC S l fix X) ?_;exact⟨I,l,fix,X,(ax l).symm,(ax fix).symm,I⟩
 have hok:(!decide (mo<SK))=true:=Do;rw[hok];refine Ux ?_;refine dE (UC S l fix X) (λw hi hin=>BL S l fix X O base 15 word w hin) ?_;rintro _ _ ⟨l1,X1,hl1,rfl⟩;refine UA ?_;refine mL ?_;refine dE (UC S l1 fix X1) (λw hi hin=>mf S l1 fix X1 Do 11 (V9 .u32 SK) w hin) ?_;rintro _ _ ⟨l2,X2,hl2,rfl⟩;refine UA ?_;refine dE (UC S l2 fix X2) (λw hi hin=>gN S l2 fix X2 Do 12 12 base 11 w hin) ?_;rintro _ _ ⟨l3,X3,hl3,rfl⟩;refine Uu ?_;refine dE (UC S l3 fix X3) (λw hi hin=>xf S l3 fix X3 Do 12 O w hin) ?_;rintro _ _ ⟨l4,X4,hl4,rfl⟩;refine UA ?_;refine mL ?_;refine dE (UC S l4 (fix++[(J l3:Int)]) X4) (λw hi hin=>mf S l4 (fix++[(J l3:Int)]) X4 Do 12 (V9 .u32 mo) w hin) ?_;rintro _ _ ⟨l5,X5,hl5,rfl⟩;refine UA ?_;refine dE (UC S l5 (fix++[(J l3:Int)]) X5) (λw hi hin=>gN S l5 (fix++[(J l3:Int)]) X5 Do 12 12 12 base w hin) ?_;rintro _ _ ⟨l6,X6,hl6,rfl⟩;refine Uu ?_;refine dE (UC S l6 (fix++[(J l3:Int)]) X6) (λw hi hin=>xf S l6 (fix++[(J l3:Int)]) X6 Do 12 Do w hin) ?_;rintro _ _ ⟨l7,X7,hl7,rfl⟩;refine Ux ?_;refine dE (UC S l7 ((fix++[(J l3:Int)])++[(J l6:Int)]) X7) (λw hi hin=>gN S l7 ((fix++[(J l3:Int)])++[(J l6:Int)]) X7 Do 4 base base 11 w hin) ?_;rintro _ _ ⟨l8,X8,hl8,rfl⟩;refine UG ?_;refine Vd (UC S l8 ((fix++[(J l3:Int)])++[(J l6:Int)]) X8) ?_;exact⟨I,l8,_,X8,(by simp only[hl1,hl2,hl3,hl4,hl5,hl6,hl7,hl8,p7,ae,aq,aF,aJ]),Do,rfl⟩
end
variable{α:Type}{l:List α}{k:Nat}{x:α}
structure Ga(p:Pg)(Q:W6)(w:World):Prop where
 code:UJ w 5 Q.Ac (J p.code) Q.cc (p.code.flatMap II.cells)
 SP:Rd w .i64 Q.Ad (J p.SP) Q.cd p.SP
 SQ:Rd w .i64 Q.Ar (J p.SQ) Q.cr p.SQ
theorem pO(a b:Int)(w:World):CW prog 337 [.i a,.i b] w (.bool (sB a b)):=by
 refine UB func337 ntmps337 ?_;refine xt ?_;refine VW ?_;exact⟨by unfold sB;grind,rfl⟩
theorem z6(w:World):CW prog 296 [.i 7] w (.bool true):=by
 refine UB func296 ntmps296 ?_;exact Wp
theorem P7(A:Oa)(c:Nat)(l:Li)(hl:J l<=100)(w:World)(h:Rd w .i64 A (J l) c l):CW prog 335 [.slice A (J l) c] w (.bool (vm l)):=by
 refine UB func335 ntmps335 ?_;refine jG ?_;refine UX (λk:Nat=>[(5,.slice A (J l) c),(6,.i (J l)),(7,.i (k:Int))]) (λ_=>[]) (λk=>k<=J l/\(l.take k).all (λn=>decide (0<=n)&&decide (n<=16))=true) (λk=>J l - k) (0) Do ?_;rintro k ⟨hk,ha⟩;refine Ul ?_ ?_<;>intro hc2
 .simp only[ah]at hc2;obtain⟨ad,rfl⟩:=h.some_ O;obtain⟨x,hx⟩:∃x,l[k]? =some x:=⟨_,aj (show k<J l by omega)⟩;refine UA ?_;refine BR ?_;refine dW (bL ir ne) (dG h (bX hx)) I (iR ?_);refine ZW ?_ ?_<;>intro hc4
  .have hf:(λn:Int=>decide (0<=n)&&decide (n<=16)) x=false:=Do;refine nR ?_;exact⟨by unfold vm;grind,rfl⟩
  have hf:(λn:Int=>decide (0<=n)&&decide (n<=16)) x=true:=Do;refine fZ ?_;refine Vo (k+1) ⟨⟨by omega,F7 hx ha hf⟩,by omega⟩
 simp only[aa]at hc2;obtain rfl:k=J l:=by omega
 rw[List.take_length]at ha;refine nR ?_;exact⟨by unfold vm;rw[ha],rfl⟩
theorem kw:∀(T:Li) (k i:Nat) {t:Int} {j:Nat} {v:Value},T[i]? =some t->(span (k+i) t)[j]? =some v->(fO k T)[i*3+j]? =some v
 |[],_,_,_,_,_,h,_=>by simp at h
 |x::T,k,0,t,j,v,h,hj=>by
  obtain rfl:x=t:=by grind
  rw[Nat.zero_mul,bA]
  match j,hj with
  |0,hj=>exact hj
  |1,hj=>exact hj
  |2,hj=>exact hj
  |j+3,hj=>simp at hj
 |x::T,k,i+1,t,j,v,h,hj=>by
  have:=kw T (k+1) i (t:=t) (j:=j) (v:=v) Do Do;rw[show(i+1)*3+j=(i*3+j)+3 by omega];exact this
theorem wB:∀(T:Li) (k i:Nat) (t:Int),(fO k T).set (i*3+2) (.i t)=fO k (T.set i t)
 |[],_,_,_=>rfl
 |x::T,k,0,t=>rfl
 |x::T,k,i+1,t=>by
  have:=wB T (k+1) i t
  grind [fO]
variable{n c:Nat}{xs:List Value}
theorem Ga.SS{p:Pg}{Q:W6}{w0 w:World}{cs:List bH}(h:Ga p Q w0)(hi:Inv w0 [] cs w):Ga p Q w:=⟨h.code.SS hi,h.SP.SS hi,h.SQ.SS hi⟩
theorem qT{p:Pg}(h:p.SX=true):(∀(k:Nat) (x:II),p.code[k]? =some x->lZ x=true->(0<=x.a/\x.a<k)/\(0<=x.b/\x.b<k))/\(∀n,n∈p.SP\/n∈p.SQ->0<=n/\n<J p.code)/\(0<=p.flags->p.flags<J p.code)/\(0<=p.target->p.target<J p.code):=by
 unfold Pg.SX at h;simp only[aC]at h;obtain⟨-,h1,h2,h3,h4⟩:=h;have hv:∀a b,sB a b=true->0<=a/\a<b:=λa b h=>by grind [sB]
 refine⟨λk x hx hab=>?_,λn hn=>?_,λh0=>?_,λh0=>?_⟩
 .have hm:=xp p.code 0 h1 k x hx
  grind [lZ,kD,sB]
 .grind
 .grind [Pg.Tu]
 grind [Pg.Tu]
theorem KJ(T:Li)(i j:Nat)(w:World):CW prog 300 [.agg #[.i i,.i i,.i (T.getD i 0)],.agg #[.i j,.i j,.i (T.getD j 0)]] w (.bool (nA T i j)):=by
 obtain⟨ti,hti⟩:=Uk (T.getD i 0);obtain⟨tj,htj⟩:=Uk (T.getD j 0);unfold nA;rw[hti,htj];refine UB func300 ntmps300 ?_;refine py ?_;refine ZO λb2=>?_;refine ZO λb3=>?_
 refine jF ?_;refine fC ?_;exact⟨by grind,rfl⟩
theorem I4(b:Nat)(A:Oa)(c:Nat)(T:Li)(n at_:Int)(hn:0<=n->n.toNat<J T):CI prog 339 [.i n,.i at_,.p b] (lvF b A c T) (λ_ cs=>cs=lvF b A c (fV T n at_)):=λw hi=>by
 refine UH func339 ntmps339 hi ?_;refine Ul ?_ ?_<;>intro hc0
 .simp only[ah]at hc0;have hlt:=hn hc0;obtain⟨m,rfl⟩:∃m:Nat,n=m:=ai hc0;rw[aP]at hlt;obtain⟨bs,rfl⟩:=hH (hi.get (Ur (lvC A c T))) O;have hx:T[m]? =some (T.getD m 0):=Do;have hu:fV T m at_=T.set m (if at_>T.getD m 0 then at_ else T.getD m 0):=(by unfold fV;grind);obtain⟨t,ht⟩:=Uk (T.getD m 0);rw[ht]at hx hu;obtain⟨t2,ht2⟩:=Uk ((if at_>t then at_ else t));rw[ht2]at hu;refine bN (Wz [11] (pk b [.slice (sA bs) (J T) c])) Zk (fD 0 I Zk Zk Zk (bL ir ne) (dD I) (bO (t:=410) Zh) I (ZE 1 ?_));refine fD 2 I Zk Zk Zk (bL ir ne) (dD I) (bO (t:=410) Zh) I (ZE 3 ?_);refine UF 4 I (bW (j:=m) (sz:=3) (r:=m*3) I ir (Zv I) (Zv I) ir (λ_=>hlt) O) ?_;refine Ld 5 2 ?_;refine US 6 I (bL ir ne) (EC Zh (kw T 0 m (j:=2) hx I)) ?_;refine ZE 7 ?_;refine UF 8 I (vP ne ne ht2) ?_;refine UF 9 I (bW (j:=m) (sz:=3) (r:=m*3) I ir (Zv I) (Zv I) ir (λ_=>hlt) O) ?_;refine Ld 10 2 ?_;refine cQ 11 Zk (ft I I (Eu ir I I I Za O) (λ_=>by refine Uw ?_;exact bO (t:=410) Zh) ?_);refine Uw ?_;refine fe ?_;refine gK (cs':=[row b [.slice (sA bs) (J T) c] 410,slv 415 3 (sA bs) (J T) c ((fO 0 T).set (m*3+2) (.i t2))]) (.inr I) Zu I ?_;rw[hu,wB,show J T=J (T.set m t2) by simp]
 simp only[aa]at hc0;have hu:fV T n at_=T:=(by unfold fV;grind);refine Zc (gK (cs':=lvF b A c T) (.inr I) Zu I ?_);rw[hu]
variable{m:Nat}
theorem UJ.head{w:World}{A:Oa}(h:UJ w 1 A n c xs)(hm:m<=n):UJ w 1 A m c (xs.take m):=
 ⟨by simp_all [h.len],by have:=h.cap;omega,h.max,λe=>by have:=h.nil e;omega,λad e j u hu=>h.at_ ad e j u Do⟩
theorem OO(n:Nat)(hn:n<=64)(w:World):CW prog 355 [.int .u64 1,.int .u64 n] w (.tuple #[.int .u64 0,.int .u64 n]):=by
 refine UB func355 ntmps355 ?_;refine UE ?_;refine Zy (m4 (Zv I) (Zv I) (show _=(1:Int)from I)) ?_;refine UA ?_;refine Zy (jH (Zv I) (Zv I) O (show _=(0:Int)from I)) ?_;refine UA ?_;refine Zy (m4 ne ne (and64r n hn)) ?_;refine UA ?_;refine Zy (jH (Zv I) (Zv I) O (RH n hn)) ?_;refine Ux ?_;refine Zy (fL ne ne (mul1r n hn)) ?_;refine Ux ?_;refine Zy (fL ne ne (mul0r n)) ?_;refine ZA ?_;refine Zy (jH (Zv I) (Zv I) O (RH n hn)) ?_;refine QL ?_;refine UA ?_;refine Zy (m4 (Zv I) (Zv I) (show _=(0:Int)from I)) ?_;refine UA ?_;refine Zy (jH (Zv I) (Zv I) O (show _=(0:Int)from I)) ?_;refine UG ?_;refine Zy (fL (Zv I) (Zv I) (show _=(0:Int)from I)) ?_;refine QL ?_;refine Ux ?_;refine Zy (fL (Zv I) (Zv I) (show _=(0:Int)from I)) ?_;refine ZA ?_;refine QL ?_;refine ZA ?_;refine Zy (jH (Zv I) (Zv I) O (show _=(0:Int)from I)) ?_;refine QL ?_;refine Ux ?_;refine Zy (fL ne ne (mul1r n hn)) ?_;refine Ut ?_;exact kV
theorem mul_ok(n:Nat)(hn:n<=64)(w:World):CW prog 338 [.int .u64 1,.int .u64 n] w (.tuple #[.int .u64 0,.int .u64 n]):=by
 refine UB func338 ntmps338 ?_;refine Ux ?_;refine jn ?_;refine UA ?_;refine UD (λw hi=>OO n hn w) ?_;refine mU ?_;exact kV
theorem nG{k:IntKind}(l:Li)(n:Nat)(v:Int):(ints k l).set n (.int k v)=ints k (l.set n v):=by simp[ints]
end
end Go.Ink
namespace Go.Ink
open List renaming length→J
open IntKind renaming wrap→V9
open Go.RowKit Go.Proofs.Tryz
def qd(e:Int):List Int->List HI->List HI
 |[],l=>l
 |i::f,l=>qd e f (l.set i.toNat ((l.getD i.toNat HI.zero).imm' e))
theorem wL(p:Pg)(pl:Pl)(e:Int):qd e (sL p) (fB p pl 0)=fB p pl e:=by
 unfold sL fB uT;cases p.Ty<;>cases p.TI<;>rfl
theorem RY:∀(l:List HI) (i:Nat) (e:Int),i<J l->(l.flatMap HI.cells).set (i*5+4) (.w e)=(l.set i ((l.getD i HI.zero).imm' e)).flatMap HI.cells
 |[],_,_,h=>by simp at h
 |x::l,0,e,_=>rfl
 |x::l,i+1,e,h=>by
  have ih:=RY l i e Do
  grind
theorem wU{p:Pg}(h:p.SX=true):(0<=p.SE/\p.SE<=16)/\(0<=p.SG/\p.SG<=16)/\(0<=p.Tc/\p.Tc<=16)/\(0<=p.Te/\p.Te<=16):=by
 grind [Pg.SX,Pg.Tv,vm]
section
attribute [local irreducible] UL bM
theorem vn(S:VU)(l:List HI)(fix:Li)(X:VB)(hl:J l<=10000)(base word SK high:Int)(o:Nat)(ok:Bool)(hok:(!decide (iZ SK high o<SK))=ok)(hb1:0<=SK/\SK<=100000)(hb2: -100000<=high/\high<=100000)(hb3:o<=100000)(hf:J fix<=100):CI prog 233 [.p S.b,.i base,.w word,.i SK,.i high,.i o] (UC S l fix X) (λr9 cs=>r9= .bool ok/\∃l' f' X',l'=l++(bif ok then p7 0 base word SK (iZ SK high o)else[])/\f'=fix++(bif ok then[((J l+3:Nat):Int),((J l+6:Nat):Int)]else[])/\cs=UC S l' f' X'):=λw hi=>by
 subst hok
 grind [Qa]
end
end Go.Ink
