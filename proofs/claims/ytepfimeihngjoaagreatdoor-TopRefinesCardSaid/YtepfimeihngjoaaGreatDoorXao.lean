/- Lemmas. -/
import Derived.Test.YtepfimeihngjoaaGreatDoorXah
import Derived.Test.YtepfimeihngjoaaGreatDoorXai
import Derived.Test.YtepfimeihngjoaaGreatDoorXaj
set_option linter.all false
set_option maxRecDepth 100000
set_option maxHeartbeats 4000000
namespace Go.Ink
open List renaming length→J, replicate→R9
open IntKind renaming wrap→V9
open Go.RowKit Go.Proofs.Tryz
section
attribute [local irreducible] Ve bN
theorem KH(K:Jp)(X:dz)(R:UG)(l:Li)(x:Int):CI prog 255 [.p K.br] (gU K X (R.wr (l++[x]))) (λv cs=>v= .w x/\cs=gU K X (R.wr l)):=λw hi=>by
 have hrd:=eO (hi.get (.tail _ (.tail _ (.head _ _))));have hcap:J (l++[x])<=X.cr:=hrd.cap;have hmax:=hrd.max;simp only[maxLen]at hmax;have hlen:J (l++[x])=J l+1:=by simp
 obtain⟨Ad,cd,Ar,cr⟩:=X;obtain⟨bd,rfl⟩:=dA (hi.get (.tail _ (.tail _ (.head _ _)))) (show 0<J (l++[x]) by omega);have hcap:J (l++[x])<=cr:=hcap;have hdl:(R.wr (l++[x])).s.r.length=J l+1:=hlen;have hmax:cr<=_:=hmax;refine Vb func255 ntmps255 hi ?_;refine Rx ?_;refine Wq260 ?_;refine UN ?_;refine nX ?_;refine Η ?_;refine tI ?_;exact fx
end
end Go.Ink
namespace Go.Ink
open List renaming length→J
open Go.RowKit
section
open Go.MapKept
open Go.ChangeMaps (setBlock)
open Go.Maps (Keyed)
theorem Fi{α β:Type}(f:α->β)(L:List (Ky×α))(k:Ky)(v:α):dS (L.map λx=>(x.1,f x.2)) k (f v)=(dS L k v).map λx=>(x.1,f x.2):=by
 unfold dS;rw[kB (key:=λx:Ky×α=>x.1) (λx:Ky×α=>(x.1,f x.2)) ir]
 grind [cN,List.map_set]
section
variable{P:Program}{k e:TypeId}{T:TypeId}{w:World}{b:Nat}{L:List (Ky×Value)}{q:Ky}{es:Array MapEntry}{clock:Nat}
theorem put_run(hT:P.underlying T=some (.map k e))(hK:sj P k)(hq:lD q)(h:oc b L w)(v:Value):
  ∃w',(Instr.mapUpdate T (.map (some b)) (VI q) v).run P w= .ok () w'/\dc [b] w w'/\oc b (dS L q v) w':=by
 obtain⟨es,clock,hb,hs,hL,hok⟩:=h;obtain⟨lq,hlq⟩:=hK.at_ q hq;rcases rM hK hs hL hok hq w with⟨h1,h2,h3⟩|⟨j,e0,h1,h2,h3,h4,h5⟩
 .refine⟨setBlock w b (.map (es.push ⟨VI q,v,clock⟩) (clock+1)),?_,gy hb,_,_,(heap_set hb).1,stamped_push hs h3,?_,?_⟩
  .simp[Instr.mapUpdate,run_underlying hT,MapKept.run_getObj_map hb,hK.K.check w false hlq,h2,MapKept.run_setObj_map _ hb,Result.andThen,setBlock]
  .grind [dS]
  grind [dS]
 have hj:es[j]? =some e0:=by simpa using h3
 have hkeyf:∀e',es[j]? =some e'->({e' with key:=VI q,val:=v}:MapEntry).key=e'.key:=λe' he'=>by grind
 refine⟨setBlock w b (.map (es.modify j λe'=>{e' with key:=VI q,val:=v}) clock),?_,gy hb,_,_,(heap_set hb).1,stamped_modify hs _ _ (λ_ _=>I) (λe' _ he'=>hkeyf e' he'),?_,?_⟩
 .simp[Instr.mapUpdate,run_underlying hT,MapKept.run_getObj_map hb,hK.K.check w false hlq,h2,hj,h4,hK.K.stays w hlq,MapKept.run_setObj_map _ hb,Result.andThen,setBlock]
 .simp_all [dS,ChangeMaps.modify_eq_set]
 grind [dS]
end
variable{b:Nat}{L:List (Bool×Ky×Value)}{w:World}
section
variable{C:Cx}{fr:Fr}{cs:List bJ}{d:Option Nat}{T k e:TypeId}{x y z:Operand}{ty:TypeId}{pos:String}{af:Array Edge}{gd:Option (Nat×Bool)}{v:Value}{b:Nat}{L:List (Ky×Value)}{q:Ky}{mk:bJ->List bJ}
theorem t_mput(hx:ev fr x=some (.map (some b)))(hy:ev fr y=some (VI q))(hz:ev fr z=some v)(hq:lD q)(hT:C.P.underlying T=some (.map k e))(hK:sj C.P k)(hu:At cs (V0 b L) mk):
  VU C ⟨d,.mapUpdate T x y z,ty,pos,af,gd⟩ fr cs true (λu cs'=>u=undef/\cs'=mk (V0 b (dS L q v))):=λa w hf hi next Q h=>by
 obtain⟨w',h1,h2,h3⟩:=put_run hT hK hq (hi.get hu.has) v;unfold Oper.wp;have hr:(execOp a.eval ⟨d,.mapUpdate T x y z,ty,pos,af,gd⟩).run C.P w= .ok .skip w':=by simp[execOp,hf.ev hx,hf.ev hy,hf.ev hz,h1]
 exact Wq464
end
end
end Go.Ink
namespace Go.Ink
open List renaming length→J, replicate→R9
open IntKind renaming wrap→V9
open Go.RowKit Go.Proofs.Tryz
theorem St.Ur(s:St)(reg v:Int):(s.set reg v).1.d=s.d/\(s.set reg v).1.r=s.r:=by
 unfold St.set
 repeat (refine bL (λq:St×Bool=>q.1.d=s.d/\q.1.r=s.r) ⟨I,I⟩ ?_)
 grind
section
attribute [local irreducible] Ve bN
theorem Hq(n:Nat)(hn:n<=64)(w:World):UW prog 116 [.i n] w [] (λv cs=>∃K,v= .p K.bm/\cs=nD K n (R9 (n*64) 0) (R9 n false)):=by
 refine UV func116 ntmps116 ?_;refine UU ?_;refine jf ?_;refine ZE 0 ?_;refine UY 1 I (fT (Zv I) (Zv I) (show _=((n*64:Nat):Int)from aQ _ ⟨by omega,by omega⟩|>.trans (by omega))) ?_;refine ZE 3 ?_;refine pS 2 4 Zk ?_ ?_
 .refine jm I I (j9 (bytes:=1) (n:=n*64) I I I I I I I (by omega) gD) ZJ rfl ?_;rintro _ _ ⟨bB,rfl,rfl⟩;refine cP 4 Zk (jm I I (j9 (bytes:=1) (n:=n) I I I I I I I (by omega) gD) ZJ rfl ?_);rintro _ _ ⟨bT,rfl,rfl⟩;exact Wx99_
 refine jm I I (j9 (bytes:=1) (n:=n) I I I I I I I (by omega) gD) ZJ rfl ?_;rintro _ _ ⟨bT,rfl,rfl⟩;refine cP 2 Zk (jm I I (j9 (bytes:=1) (n:=n*64) I I I I I I I (by omega) gD) ZJ rfl ?_);rintro _ _ ⟨bB,rfl,rfl⟩;exact Wx99_
theorem DH(bm:Nat)(A:Oa)(c:Nat)(l:Li)(hl:J l<=1024)(w:World)(h:Rd w .u8 A (J l) c l):UW prog 69 [.p bm,.slice A (J l) c] w []
  (λv cs=>∃b bd,v= .p b/\cs=eI b bm bd ⟨none,0,none,0⟩ (UF.init l)):=by
 refine UV func69 ntmps69 ?_;refine US ?_;refine gS (j9 (bytes:=1) (n:=1024) I I I I I I I O gD) I ?_;rintro _ _ ⟨bd,rfl,rfl⟩;rw[px];refine US ?_;refine Ra ?_;rintro _ _ ⟨rfl,rfl⟩;have hd:(ints .u8 (R9 1024 0)).take 0++(ints .u8 l).take (min (J l) 1024)++(ints .u8 (R9 1024 0)).drop (0+min (J l) 1024)=ints .u8 (ph l):=by(rw[Nat.min_eq_left hl,i7,i7,nO,List.take_zero,List.take_length,bC,List.drop_replicate];simp[ints,ph])
 rw[hd];refine US ?_;refine ZO λb13=>?_
 refine dB 5 1 (wl_nilr (UK ?_));refine bK (eI b13 bm bd ⟨none,0,none,0⟩ (UF.init l)) Zj (VA ([row _ _ _,slv _ _ _ _ _ _,Wo _ _ _ _,slv _ _ _ _ _ _]) ?_);exact⟨b13,bd,I,I⟩
end
end Go.Ink
namespace Go.Ink
open List renaming length→J
open IntKind renaming wrap→V9
open Go.RowKit
variable{n:Nat}
variable{l:Li}
variable{M:UO}
theorem JA(n:Nat)(M:UO)(root va:Nat)(hva:va<=4294967295)(kind:Int)(SQ:Bool):W9 (dE n M root va kind SQ).1.2:=by
 grind [jn,Mw,dE,W9,Yv,iw,trN]
variable{U:UI}
theorem C8(n:Nat)(U:UI)(s:Sp)(va:Nat)(hva:va<=4294967295)(kind:Int):W9 (SY n U s va kind).1.2:=by
 grind [JA,trN,SY,W9]
theorem ry(n:Nat)(U:UI)(s:Sp)(va:Nat)(hva:va<=4294967295)(kind:Int):W9 (SR n U s va kind).1.2:=by
 grind [C8,W9,Yv,jn,SR]
variable{op:Int}{s:St}{m:Li}
theorem Ht{nn:Int}{R:UG}(hw:R.s.wf)(hf:R.s.flags<=15)(h1:(bV op).1.1<=J R.s.d)(h2:(bV op).2.1<=J R.s.r)(h:(bW op nn R).1=true):Wi op R.s (bW op nn R).2.s/\((bW op nn R).2.S3=R.S3\/(bW op nn R).2.S3=⟨5,0⟩)/\(bW op nn R).2.device=R.device/\(bW op nn R).2.count=R.count:=by
 cases ha:(decide (16<=op)&&decide (op<=25))with
 |true=>
  have h3:=zl ha;rw[h3]at h1;obtain⟨R,l,x,y,rfl⟩:=UG.TF h1;have hd:∀z,z∈(l++[x])++[y]->u32 z:=hw.d;obtain⟨hv,hf0,hf1⟩:=arDo_ok op (b:=y) (yd (tA hd));obtain⟨⟨v,fl,ok⟩,hq⟩:=Do (hI op x y);rw[hq]at hv hf0 hf1;have hv:u32 v:=hv;have hf0:0<=fl:=hf0;have hf1:fl<=15:=hf1;have hst:bW op nn (R.wd ((l++[x])++[y]))=(true,bif op !=25 then((bif ok then R.wd l else(R.wd l).wt ⟨5,0⟩).wfl fl).push [v]else(bif ok then R.wd l else(R.wd l).wt ⟨5,0⟩).wfl fl):=by
   simp only[bW,ha,ah,UG.top_wd,UG.pop_wd,hq]
  simp only[ay,ai]at ha;have hwl:(R.wd l).s.wf:=xf hw (tA (tA hd));rw[hst];have hfu:u32 fl:=⟨hf0,by omega⟩;by_cases e:op=25
  .subst e;cases ok
   .exact⟨Wi.of (l:=l) (m:=R.s.r) [x,y] [] [] [] I (N9 hwl hfu) hf1 I cJ cJ cJ cJ,.inr I,I,I⟩
   exact⟨Wi.of (l:=l) (m:=R.s.r) [x,y] [] [] [] I (N9 hwl hfu) hf1 I cJ cJ cJ cJ,.inl I,I,I⟩
  have e':(op !=25)=true:=by simpa using e
  have hn:=La (op:=op) O O;simp only[e',ah];cases ok
  .exact⟨Wi.of (l:=l) (m:=R.s.r) [x,y] [v] [] [] hn (xf (N9 hwl hfu) (QR (tA (tA hd)) hv)) hf1 I cJ I cJ (by simp[UG.push]),.inr rfl,rfl,rfl⟩
  exact⟨Wi.of (l:=l) (m:=R.s.r) [x,y] [v] [] [] hn (xf (N9 hwl hfu) (QR (tA (tA hd)) hv)) hf1 I cJ I cJ (by simp[UG.push]),.inl rfl,rfl,rfl⟩
 |false=>
  have hth:u32 (gq R nn):=wrap_u32 _;by_cases e:op=38
  .subst e;exact⟨Wi.of (l:=R.s.d) (m:=R.s.r) [] [] [] [R.s.pc] I (GO (wf_r hw (QR hw.r hw.pc)) hth) hf I cJ (aD _).symm cJ I,.inl I,I,I⟩
  have e1:(op==38)=false:=by simpa using e
  by_cases e:op=32
  .subst e;exact⟨Wi.of (l:=R.s.d) (m:=R.s.r) [] [] [] [] I (GO hw hth) hf I cJ (aD _).symm cJ (aD _).symm,.inl I,I,I⟩
  have e2:(op==32)=false:=by simpa using e
  by_cases e:op=39
  .subst e;obtain⟨R,l,x,rfl⟩:=UG.Ue (show 1<=J R.s.r from h2);have hst:bW 39 nn (R.wr (l++[x]))=(true,(R.wr l).wpc x):=by show(_,_)=_;rw[UG.popR_wr,UG.topR_wr]
   rw[hst];have hd:∀z,z∈l++[x]->u32 z:=hw.r;exact⟨Wi.of (l:=R.s.d) (m:=l) [] [] [x] [] I (GO (wf_r hw (tA hd)) (yd hd)) hf I cJ cJ I cJ,.inl I,I,I⟩
  have e3:(op==39)=false:=by simpa using e
  by_cases e:op=40
  .subst e;obtain⟨R,l,x,rfl⟩:=UG.snoc (show 1<=J R.s.d from h1);have hst:bW 40 nn (R.wd (l++[x]))=(true,(R.wd l).wpc x):=by show(_,_)=_;rw[UG.pop_wd,UG.top_wd]
   rw[hst];have hd:∀z,z∈l++[x]->u32 z:=hw.d;exact⟨Wi.of (l:=l) (m:=R.s.r) [x] [] [] [] I (GO (xf hw (tA hd)) (yd hd)) hf I I cJ cJ cJ,.inl I,I,I⟩
  have e4:(op==40)=false:=by simpa using e
  have hst:bW op nn R=((df op R.s.flags).2,bif(df op R.s.flags).1 then R.wpc (gq R nn)else R):=by simp only[bW, *,ah,ac]
  rw[hst]at h|-;have hn:bV op=((0,0),(0,0)):=by
   have h:(df op R.s.flags).2=true:=h;by_cases e:op=33
   .subst e;rfl
   by_cases e':op=34
   .subst e';rfl
   by_cases e'':op=35
   .subst e'';rfl
   by_cases e5:op=36
   .subst e5;rfl
   by_cases e6:op=37
   .subst e6;rfl
   have b1:(op==33)=false:=by simpa using e
   have b2:(op==34)=false:=by simpa using e'
   have b3:(op==35)=false:=by simpa using e''
   have b4:(op==36)=false:=by simpa using e5
   have b5:(op==37)=false:=by simpa using e6
   unfold df at h;rw[b1,b2,b3,b4,b5]at h;cases h
  cases(df op R.s.flags).1
  .exact⟨Wi.of (l:=R.s.d) (m:=R.s.r) [] [] [] [] hn hw hf I cJ (aD _).symm cJ (aD _).symm,.inl I,I,I⟩
  exact⟨Wi.of (l:=R.s.d) (m:=R.s.r) [] [] [] [] hn (GO hw hth) hf I cJ (aD _).symm cJ (aD _).symm,.inl I,I,I⟩
end Go.Ink
namespace Go.Ink
open List renaming length→J, replicate→R9
open IntKind renaming wrap→V9
open Go.RowKit Go.Proofs.Tryz
variable{i:Nat}
section
attribute [local irreducible] Ve bN
variable{x:Value}{T:List TE}
theorem Qx{e:TE}(h:T[i]? =some e):(x::dG T)[1+i*4+1]? =some (.w e.vpn):=by
 have h1:=gK h;have h2:(((dG T).drop (i*4)).take 4)[1]? =some (.w e.vpn):=by rw[h1];rfl
 rw[List.getElem?_take,if_pos O,List.getElem?_drop]at h2;rw[show 1+i*4+1=(i*4+1)+1 by omega,List.getElem?_cons_succ];exact h2
end
end Go.Ink
namespace Go.Ink
open List renaming length→J
open IntKind renaming wrap→V9
open Go.RowKit Go.Proofs.Tryz
set_option maxHeartbeats 1000000
variable{x:Int}
theorem SB(v:BitVec 32):VH (V9 .u32 (v.toNat:Int))=v.msb:=by
 rw[BitVec.msb_eq_decide,u32_wrap_id _ O (by have:=v.isLt;omega)];exact decide_eq_decide.2 O
variable{a b:Int}
theorem zy(ha:u32 a)(hb:u32 b):VH (bits .xor .u32 a b)=(VH a^^VH b):=by
 rw[<-FS ha,<-FS hb,<-BitVec.msb_xor];exact SB _
theorem Ma(ha:u32 a)(hb:u32 b):VH (bits .and .u32 a b)=(VH a&&VH b):=by
 rw[<-FS ha,<-FS hb,<-BitVec.msb_and];exact SB _
variable{r:Int}
theorem ovMore(ha:u32 a)(hb:u32 b)(hr:u32 r):(bits .and .u32 (bits .and .u32 (bits .xor .u32 a r) (bits .xor .u32 b r)) 2147483648 !=0)=((VH a==VH b)&&(VH r !=VH a)):=by
 rw[Gy (dY _ _ _),Ma (dY _ _ _) (dY _ _ _),zy ha hr,zy hb hr];cases VH a<;>cases VH b<;>cases VH r<;>rfl
theorem ovLess(ha:u32 a)(hb:u32 b)(hr:u32 r):(bits .and .u32 (bits .and .u32 (bits .xor .u32 a b) (bits .xor .u32 a r)) 2147483648 !=0)=((VH a !=VH b)&&(VH r !=VH a)):=by
 rw[Gy (dY _ _ _),Ma (dY _ _ _) (dY _ _ _),zy ha hb,zy ha hr];cases VH a<;>cases VH b<;>cases VH r<;>rfl
theorem Pp(ha:u32 a)(hb:u32 b):nR a b=zI (decide (4294967296<=a+b)) ((VH a==VH b)&&(VH (V9 .u32 (a+b)) !=VH a)) (V9 .u32 (a+b)):=by
 have e:decide (V9 .u32 (a+b)<a)=decide (4294967296<=a+b):=decide_eq_decide.2 (by
  have:=ha.1;have:=ha.2;have:=hb.1;have:=hb.2;rw[au];omega)
 unfold nR;rw[e];exact xS (wrap_u32 _) (ovMore ha hb (wrap_u32 _))
theorem FE(ha:u32 a)(hb:u32 b):kb a b=zI (decide (a<b)) ((VH a !=VH b)&&(VH (V9 .u32 (a - b)) !=VH a)) (V9 .u32 (a - b)):=by
 unfold kb;exact xS (wrap_u32 _) (ovLess ha hb (wrap_u32 _))
theorem QM{op:Int}(ha:u32 a)(hb:u32 b):hI op a b=bif !(gL op a b).2.2 then(0,0,false)else(bif op==25 then 0 else(gL op a b).1,zI (gL op a b).2.1.1 (gL op a b).2.1.2 (gL op a b).1,true):=by
 have hP:∀{r:Int},u32 r->Aa r=(r,zI false false r,true):=λh=>by unfold Aa;rw[Iz h]
 have hmv:∀up,u32 (di a b up):=λup=>by unfold di;exact bL u32 u0 (bL u32 (wrap_u32 _) (F1 ha _))
 by_cases e:op=16
 .subst e;show(_,nR a b,true)=_;rw[Pp ha hb];rfl
 have e16:(op==16)=false:=by simpa using e
 by_cases e:op=17
 .subst e;show(_,kb a b,true)=_;rw[FE ha hb];rfl
 have e17:(op==17)=false:=by simpa using e
 by_cases e:op=25
 .subst e;show(_,kb a b,true)=_;rw[FE ha hb];rfl
 have e25:(op==25)=false:=by simpa using e
 by_cases e:op=18
 .exact XL
 have e18:(op==18)=false:=by simpa using e
 by_cases e:op=19
 .exact XL
 have e19:(op==19)=false:=by simpa using e
 by_cases e:op=20
 .exact XL
 have e20:(op==20)=false:=by simpa using e
 by_cases e:op=21
 .subst e;show Aa _=_;rw[hP (hmv true)];rfl
 have e21:(op==21)=false:=by simpa using e
 by_cases e:op=22
 .subst e;show Aa _=_;rw[hP (hmv false)];rfl
 have e22:(op==22)=false:=by simpa using e
 by_cases e:op=23
 .subst e;show Aa _=_;rw[hP (wrap_u32 _)];rfl
 have e23:(op==23)=false:=by simpa using e
 by_cases e:op=24
 .subst e;show(bif b==0 then _ else Aa _)=_;unfold gL;cases hz:(b==0)with
  |true=>simp[hz,bne]
  |false=>rw[hP (wrap_u32 _)];simp[hz,bne]
 have e24:(op==24)=false:=by simpa using e
 unfold hI gL;simp only[e16,e17,e25,e18,e19,e20,e21,e22,e23,e24,ac,bo,Bool.or_false,Bool.not_false,ah]
variable{n:Int}
theorem Kj{s:St}(h:0<=n)(v:Int):(s.set n v).2=(decide (n<=10)&&(n !=9)):=by
 by_cases hn:n<=10
 .obtain rfl|rfl|rfl|rfl|rfl|rfl|rfl|rfl|rfl|rfl|rfl:n=0\/n=1\/n=2\/n=3\/n=4\/n=5\/n=6\/n=7\/n=8\/n=9\/n=10:=by omega
  all_goals rfl
 have e:∀k:Int,k<=10->(n==k)=false:=λk hk=>by simp only[bF,ne_eq];omega
 rw[ao hn];unfold St.set;simp[e]
theorem MZ{s:St}{op:Int}(h:0<=n):dQ s op n=bif !eJ op n then 1 else bif lC op&& !s.SQ then 2 else bif((op==66)||(op==67))&&(decide (10<n)||((op==67)&&(n==9)))then 1 else qo s (bV op):=by
 unfold dQ;rw[Mk h,Kj h];have e:(!decide (n<=10))=decide (10<n):=by
  by_cases hn:n<=10
  .rw[ap hn,ao O];rfl
  rw[ao hn,ap O];rfl
 by_cases e6:op=66
 .subst e6;cases hr:eJ 66 n<;>cases hs:(lC 66&& !s.SQ)<;>simp[e]
 by_cases e7:op=67
 .subst e7;cases hr:eJ 67 n<;>cases hs:(lC 67&& !s.SQ)<;>simp[e,bne]
 have a6:(op==66)=false:=by simpa using e6
 have a7:(op==67)=false:=by simpa using e7
 rw[a6,a7];simp
section
attribute [local irreducible] Ve bN
theorem DD(s:St)(Ad Ar:Oa)(cd cr:Nat)(op n:Int)(hu:u32 n)(w:World)(h:iL w s Ad Ar cd cr):
  CW prog 166 [sv s Ad cd Ar cr,.agg #[.i op,.w n]] w (.i (dQ s op n)):=by
 have hD:=h.hd;have hR:=h.hr;rw[MZ hu.1];have HR:=Bh op n hu;have HS:=Dp op;have HN:=Dv op;obtain⟨q1,hq1⟩:=Do (eJ op n);obtain⟨q2,hq2⟩:=Do (lC op);have hle:=Fx op;rw[hq1]at HR|-;rw[hq2]at HS|-;obtain⟨⟨⟨a,b⟩,⟨c,d⟩⟩,hq5⟩:=Do (bV op);rw[hq5]at HN hle|-;obtain⟨ha,hb,hc,hd⟩:=hle;have ha:a<=3:=ha;have hb:b<=3:=hb;have hc:c<=3:=hc;have hd:d<=3:=hd;refine UV func166 ntmps166 ?_;refine An ?_;refine ZO λb2=>?_;refine ZO λb3=>?_
 refine US ?_;refine UZ (λw hi=>HN w) ?_;refine ZN λb5=>?_
 refine ZM ?_;refine US ?_;refine UZ (λw hi=>HR w) ?_;refine WK ?_ ?_<;>intro hc2
 .exact Wu
 refine UK ?_;refine UZ (λw hi=>HS w) ?_;refine Wp ?_ ?_<;>intro hc4
 .exact Wu
 refine jS ?_;refine Wp ?_ ?_<;>intro hc6
 .exact Wu
 refine UQ ?_;refine Zy (dj (j:=0) (sz:=1) (r:=0) I ir (Zv I) (Zv I) UL UL O) ?_;refine UU ?_;refine WV I I (dj (j:=2) (sz:=1) (r:=2) I ir (Zv I) (Zv I) UL UL O) ?_;refine UH ?_ ?_<;>intro hc8
 .exact Wu
 refine UQ ?_;refine Zy (dj (j:=0) (sz:=1) (r:=0) I ir (Zv I) (Zv I) UL UL O) ?_;refine ZC ?_;refine sb ?_;refine Zy (dj (j:=1) (sz:=1) (r:=1) I ir (Zv I) (Zv I) UL UL O) ?_;refine ZC ?_;refine mT ?_;refine UQ ?_;refine WV I I (dj (j:=2) (sz:=1) (r:=2) I ir (Zv I) (Zv I) UL UL O) ?_;refine ZD ?_;refine WV I I (ez (cO I) (cO I) Zl) ?_;refine WV I I (dj (j:=3) (sz:=1) (r:=3) I ir (Zv I) (Zv I) UL UL O) ?_;refine ZD ?_;refine WV I I (dy (cO I) (cO I) Zl) ?_;refine Wh ?_ ?_<;>intro hc10
 .exact Wu
 refine jP ?_;refine⟨?_,I⟩;exact sf
theorem Kx(op a b:Int)(ha:u32 a)(hb:u32 b)(w:World):CW prog 213 [.i op,.w a,.w b] w (.tuple #[.w (hI op a b).1,.w (hI op a b).2.1,.bool (hI op a b).2.2]):=by
 rw[QM ha hb];have HW:=raw_ok op a b ha hb;obtain⟨⟨r,⟨c,o⟩,k⟩,hq⟩:=Do (gL op a b);rw[hq]at HW|-;dsimp only at HW|-;refine UV func213 ntmps213 ?_;refine fR ?_;refine wV ?_;refine oO ?_;refine ZW ?_ ?_<;>intro hc2
 .have hk:k=false:=(by simpa using hc2);refine U8 ?_;refine pm ?_;exact Xm
 have hk:k=true:=(by simpa using hc2);refine Wc ?_ ?_<;>intro hc4
 .refine eL ?_;refine Zy (CU (Zv I) (Zv I) (show _=VH r from I)) ?_;refine An ?_;refine ZW ?_ ?_<;>intro hc6
  .refine Ab ?_ ?_<;>intro hc8
   .refine wR ?_;exact Xm
   exact XV
  refine Wc ?_ ?_<;>intro hc8
  .refine wR ?_;exact Xm
  exact XV
 refine UU ?_;refine Zy (CU (Zv I) (Zv I) (show _=VH r from I)) ?_;refine An ?_;refine ZW ?_ ?_<;>intro hc6
 .refine Ab ?_ ?_<;>intro hc8
  .refine wR ?_;exact Xm
  exact XV
 refine Wc ?_ ?_<;>intro hc8
 .refine wR ?_;exact Xm
 exact XV
theorem Bg(br:Nat)(X:dz)(R:UG)(dv:Bool)(op n:Int)(h0:0<=op)(h8:op<=8)(hd:J R.s.d<=100000)(hr:J R.s.r<=100000)(hn:(bV op).1.1<=J R.s.d)(hnr:(bV op).2.1<=J R.s.r):CI prog 212 [.p br,.agg #[.i op,.w n]] (VY br X R.s dv) (λv cs=>∃X',v= .tuple #[]/\cs=VY br X' ((cV op n R).getD R).s dv):=λw hi=>by
 obtain⟨Ad,cd,Ar,cr⟩:=X;refine Vb func212 ntmps212 hi ?_;refine An ?_;refine ZO λb3=>?_;refine UN ?_;refine jf ?_;refine wx ?_;refine wP ?_;refine ZE 6 ?_;refine UE 7 2 ?_;refine ZG 8 ?_;refine qS ?_;refine fh ?_;refine nW ?_;refine ZW ?_ ?_<;>intro hc3
 .obtain rfl:=hH hc3;have hst:cV 1 n R=some (R.push [n]):=rfl;refine An ?_;refine bY I (hc3) (bQ (Vg [8,11]) Zk (zX ?_));exact Wx16_
 refine Wh ?_ ?_<;>intro hc4
 .obtain rfl:=hH hc4;have hst:cV 2 n R=some (R.push [n]):=rfl;refine bQ (Vg [8,11]) Zk (zX ?_);exact Wx16_
 refine UH ?_ ?_<;>intro hc6
 .obtain rfl:=hH hc6;obtain⟨R,l,x,rfl⟩:=UG.snoc (show 1<=J R.s.d from hn);have hst:=mF n R l x;have hlen:J (l++[x])=J l+1:=cJ;have hdl:(R.wd (l++[x])).s.d.length=J l+1:=hlen;refine eC (λw hi=>dA (hi.get (UJ (Vf (R.wd (l++[x])).s Ad cd))) (show 0<J (l++[x]) by omega)) (λhA=>?_);obtain⟨bd,rfl⟩:=hA;refine bQ (Vg [14,17]) Zk (zX ?_);refine qM ?_;refine UE 7 1 ?_;refine SL ?_;refine gg ?_;refine m4 ?_;refine Μ ?_;rintro _ _ ⟨b47,rfl,rfl⟩;refine ku ?_;refine jm I I (cC (e:=32) (sz:=1) (bytes:=4) I I Za I I (λw hi=>hi.rd (UJ (slv 32 1 (sA b47) 1 1 (ints .u32 [x])))) cR gD O) ZJ I ?_;rintro _ _ ⟨A',c',rfl,rfl⟩;refine ZE 15 ?_;refine UE 16 1 ?_;refine cP 17 Zk (iT ?_);refine Zo (io (cs':=[row _ _ _,slv _ _ _ _ _ _,slv _ _ _ _ _ _]) (.inr I) Zu I ?_);rw[hst];refine⟨⟨A',c',Ar,cr⟩,I,?_⟩;show _=VY br ⟨A',c',Ar,cr⟩ (R.wd (l++[x,x])).s dv;rw[show l++[x,x]=(l++[x])++[x] by simp];exact Jg
 refine UH ?_ ?_<;>intro hc8
 .obtain rfl:=hH hc8;obtain⟨R,l,x,rfl⟩:=UG.snoc (show 1<=J R.s.d from hn);have hst:=lm n R l x;have hlen:J (l++[x])=J l+1:=cJ;have hdl:(R.wd (l++[x])).s.d.length=J l+1:=hlen;refine eC (λw hi=>dA (hi.get (UJ (Vf (R.wd (l++[x])).s Ad cd))) (show 0<J (l++[x]) by omega)) (λhA=>?_);obtain⟨bd,rfl⟩:=hA;refine eC (λw hi=>(eO (hi.get (UJ (Vf (R.wd (l++[x])).s (sA bd) cd)))).cap) (λhcap=>?_);have hcap:J (l++[x])<=cd:=hcap;have hcap2:J (l++[x])<=(dz.mk (some ⟨bd,0,none⟩) cd Ar cr).cd:=hcap;refine US ?_;refine SK ?_;refine SJ ?_;refine An ?_;refine Ru ?_;refine NJ ?_;rw[hst];exact⟨⟨some ⟨bd,0,none⟩,cd,Ar,cr⟩,I,I⟩
 refine UH ?_ ?_<;>intro hc10
 .obtain rfl:=hH hc10;obtain⟨R,l,x,y,rfl⟩:=UG.TF (show 2<=J R.s.d from hn);have hst:=lh n R l x y;have hlen:J ((l++[x])++[y])=J l+2:=cJ;have hdl:(R.wd ((l++[x])++[y])).s.d.length=J l+2:=hlen;refine eC (λw hi=>dA (hi.get (UJ (Vf (R.wd ((l++[x])++[y])).s Ad cd))) (show 0<J ((l++[x])++[y]) by omega)) (λhA=>?_);obtain⟨bd,rfl⟩:=hA;refine bQ (Vg [29,31]) Zk (wx ?_);refine ZG 3 ?_;refine ZE 4 ?_;refine UY 5 I (ez (Zv I) (Zv I) (show _=((J l+1:Nat):Int)from by rw[hdl];exact aQ _ ⟨by omega,by omega⟩|>.trans O)) ?_;refine wU ?_;refine UE 8 1 ?_;refine ZG 9 ?_;refine Wq429 ?_;refine r8 ?_;refine UE 14 1 ?_;refine ZG 15 ?_;refine ZE 16 ?_;refine UY 17 I (ez (Zv I) (Zv I) (show _=(J l:Int)from by rw[hdl];exact aQ _ ⟨by omega,by omega⟩|>.trans O)) ?_;refine UY 18 I (cn (j:=J l) (sz:=1) (r:=J l) I ir (Zv I) (Zv I) UL UL O) ?_;refine Vn 19 I (bO ir py) (da Zh (cw (lX l x y))) ?_;refine ZE 20 ?_;refine ZE 21 ?_;refine UE 22 1 ?_;refine ZG 23 ?_;refine ZE 24 ?_;refine UY 25 I (ez (Zv I) (Zv I) (show _=((J l+1:Nat):Int)from by rw[hdl];exact aQ _ ⟨by omega,by omega⟩|>.trans O)) ?_;refine UY 26 I (cn (j:=(J l+1)) (sz:=1) (r:=(J l+1)) I ir (Zv I) (Zv I) UL UL O) ?_;refine Vn 27 I (bO ir py) (da Zh (cw (lW l x y))) ?_;refine UY 28 I (cn (j:=(J l+1)) (sz:=1) (r:=(J l+1)) I ir (Zv I) (Zv I) UL UL O) ?_;refine cP 29 Zk (Nz ?_);refine UR ?_;refine UY 30 I (cn (j:=J l) (sz:=1) (r:=J l) I ir (Zv I) (Zv I) UL UL O) ?_;refine cP 31 Zk (Nz ?_);refine UR ?_;rw[eK,eK,show((R.wd ((l++[x])++[y])).s.d.set (J l+1) x).set (J l) y=l++[y,x]from OD l x y];refine fh ?_;refine Zo (io (cs':=[row _ _ _,slv _ _ _ _ _ _,slv _ _ _ _ _ _]) (.inr I) Zu I ?_);rw[hst];refine⟨⟨some ⟨bd,0,none⟩,cd,Ar,cr⟩,I,?_⟩;show _=VY br ⟨some ⟨bd,0,none⟩,cd,Ar,cr⟩ (R.wd (l++[y,x])).s dv;simp only[VY,AY,Vf,Vj,ar,aE,bD,bC,Nat.add_assoc,Nat.reduceAdd]
 refine UH ?_ ?_<;>intro hc12
 .obtain rfl:=hH hc12;obtain⟨R,l,x,y,rfl⟩:=UG.TF (show 2<=J R.s.d from hn);have hst:=lj n R l x y;have hlen:J ((l++[x])++[y])=J l+2:=cJ;have hdl:(R.wd ((l++[x])++[y])).s.d.length=J l+2:=hlen;refine eC (λw hi=>dA (hi.get (UJ (Vf (R.wd ((l++[x])++[y])).s Ad cd))) (show 0<J ((l++[x])++[y]) by omega)) (λhA=>?_);obtain⟨bd,rfl⟩:=hA;refine bQ (Vg [14,17]) Zk (zX ?_);refine qM ?_;refine UE 7 1 ?_;refine SL ?_;refine gg ?_;refine m4 ?_;refine NQ ?_;refine cP 12 Zk (un I (bO ir py) (da Zh (cw (lX l x y))) I (cP 13 Zk (wW ?_)));rintro _ _ ⟨b110,rfl,rfl⟩;refine ku ?_;refine jm I I (cC (e:=32) (sz:=1) (bytes:=4) I I Za I I (λw hi=>hi.rd (UJ (slv 32 1 (sA b110) 1 1 (ints .u32 [x])))) cR gD O) ZJ I ?_;rintro _ _ ⟨A',c',rfl,rfl⟩;refine ZE 15 ?_;refine UE 16 1 ?_;refine cP 17 Zk (iT ?_);refine Zo (io (cs':=[row _ _ _,slv _ _ _ _ _ _,slv _ _ _ _ _ _]) (.inr I) Zu I ?_);rw[hst];refine⟨⟨A',c',Ar,cr⟩,I,?_⟩;show _=VY br ⟨A',c',Ar,cr⟩ (R.wd (l++[x,y,x])).s dv;rw[show l++[x,y,x]=((l++[x])++[y])++[x] by simp];exact Jg
 refine UH ?_ ?_<;>intro hc14
 .obtain rfl:=hH hc14;obtain⟨R,l,x,rfl⟩:=UG.snoc (show 1<=J R.s.d from hn);have hst:=mE n R l x;have hlen:J (l++[x])=J l+1:=cJ;have hdl:(R.wd (l++[x])).s.d.length=J l+1:=hlen;have hrr:J R.s.r<=100000:=hr;have hrr2:(R.wd (l++[x])).s.r.length<=100000:=hr;refine eC (λw hi=>dA (hi.get (UJ (Vf (R.wd (l++[x])).s Ad cd))) (show 0<J (l++[x]) by omega)) (λhA=>?_);obtain⟨bd,rfl⟩:=hA;refine eC (λw hi=>(eO (hi.get (UJ (Vf (R.wd (l++[x])).s (sA bd) cd)))).cap) (λhcap=>?_);have hcap:J (l++[x])<=cd:=hcap;have hcap2:J (l++[x])<=(dz.mk (some ⟨bd,0,none⟩) cd Ar cr).cd:=hcap;refine Zs (bQ (Vg [14,17]) Zk ?_);refine NA ?_;refine UE 7 1 ?_;refine SL ?_;refine gg ?_;refine m4 ?_;refine Μ ?_;rintro _ _ ⟨b129,rfl,rfl⟩;refine ku ?_;refine jm I I (cC (e:=32) (sz:=1) (bytes:=4) I I Za I I (λw hi=>hi.rd (UJ (slv 32 1 (sA b129) 1 1 (ints .u32 [x])))) cR gD O) ZJ I ?_;rintro _ _ ⟨A',c',rfl,rfl⟩;refine ZE 15 ?_;refine UE 16 2 ?_;refine cP 17 Zk (iT ?_);refine Va ?_;refine SK ?_;refine SJ ?_;refine An ?_;refine Ru ?_;refine NJ ?_;rw[hst];refine⟨⟨some ⟨bd,0,none⟩,cd,A',c'⟩,I,?_⟩;show _=VY br ⟨some ⟨bd,0,none⟩,cd,A',c'⟩ ((R.wd l).wr (R.s.r++[x])).s dv;exact Jg
 refine UH ?_ ?_<;>intro hc17
 .obtain rfl:=hH hc17;obtain⟨R,l,x,rfl⟩:=UG.Ue (show 1<=J R.s.r from hnr);have hst:=ki n R l x;have hlen:J (l++[x])=J l+1:=cJ;have hdl:(R.wr (l++[x])).s.r.length=J l+1:=hlen;have hdd:J R.s.d<=100000:=hd;have hdd2:(R.wr (l++[x])).s.d.length<=100000:=hd;refine eC (λw hi=>dA (hi.get (UJ (Vj (R.wr (l++[x])).s Ar cr))) (show 0<J (l++[x]) by omega)) (λhA=>?_);obtain⟨bd,rfl⟩:=hA;refine eC (λw hi=>(eO (hi.get (UJ (Vj (R.wr (l++[x])).s (sA bd) cr)))).cap) (λhcap=>?_);have hcap:J (l++[x])<=cr:=hcap;have hcap2:J (l++[x])<=(dz.mk Ad cd (some ⟨bd,0,none⟩) cr).cr:=hcap;refine Zs (bQ (Vg [14,17]) Zk ?_);refine zX ?_;refine qM ?_;refine UE 7 2 ?_;refine SL ?_;refine gg ?_;refine m4 ?_;refine Μ ?_;rintro _ _ ⟨b158,rfl,rfl⟩;refine ku ?_;refine jm I I (cC (e:=32) (sz:=1) (bytes:=4) I I Za I I (λw hi=>hi.rd (UJ (slv 32 1 (sA b158) 1 1 (ints .u32 [x])))) cR gD O) ZJ I ?_;rintro _ _ ⟨A',c',rfl,rfl⟩;refine ZE 15 ?_;refine UE 16 1 ?_;refine cP 17 Zk (iT ?_);refine Va ?_;refine SK ?_;refine SJ ?_;refine An ?_;refine Η ?_;refine NJ ?_;rw[hst];refine⟨⟨A',c',some ⟨bd,0,none⟩,cr⟩,I,?_⟩;show _=VY br ⟨A',c',some ⟨bd,0,none⟩,cr⟩ ((R.wr l).wd (R.s.d++[x])).s dv;exact Jg
 simp only[bF,ne_eq]at hc3 hc4 hc6 hc8 hc10 hc12 hc14 hc17;obtain rfl:op=0:=O;have hst:cV 0 n R=some R:=rfl;refine An ?_;refine NJ ?_;rw[hst];exact⟨⟨Ad,cd,Ar,cr⟩,I,I⟩
end
end Go.Ink
namespace Go.Ink
open List renaming length→J, replicate→R9
open IntKind renaming wrap→V9
open Go.RowKit Go.Proofs.Tryz
section
attribute [local irreducible] Ve bN
variable{cs:List bJ}{b:Nat}
variable{w:World}
theorem due_ok(b:Nat)(t count:Int):CI prog 179 [.p b,.int .u64 count] [On b t] (λv cs=>v= .bool (!((t==0)||decide (V9 .u32 count<t)))/\cs=[On b (bif(t==0)||decide (V9 .u32 count<t)then t else 0)]):=λw hi=>by
 refine Vb func179 ntmps179 hi ?_;refine nW ?_;refine WV I I (cz I I (cO I) I) ?_;refine Wp ?_ ?_<;>intro hc1
 .rw[hc1];refine US ?_;exact Ew
 rw[hc1];refine US ?_;refine ZL ?_;refine Va ?_;exact Ew
theorem PW(A:Oa)(c:Nat)(l:Li)(x:Int)(w:World)(h:Rd w .i64 A (J l) c l):UW prog 218 [.slice A (J l) c,.i x] w [] (λv cs=>(∃z,v= .i z/\decide (0<=z)=l.contains x)/\cs=[]):=by
 have hlm:J l<=maxLen:=aN h.cap h.max;simp only[maxLen]at hlm;refine UV func218 ntmps218 ?_;refine kF ?_;refine Vs (λk:Nat=>[(0,.slice A (J l) c),(1,.i x),(7,.i (J l:Int)),(8,.i (k:Int))]) (λ_=>[]) (λk=>k<=J l/\∀j,j<k->l[j]? ≠some x) (λk=>J l - k) (0) ⟨ax _,λj hj=>by omega⟩ ?_;rintro k ⟨hk,hno⟩;refine UH ?_ ?_<;>intro hc2
 .simp only[ai]at hc2;have hkl:k<J l:=O;obtain⟨ad,rfl⟩:=h.some_ O;have hy:l[k]? =some (l[k]'hkl):=ak hkl;obtain⟨y,hyy⟩:=Do (l[k]'hkl);rw[hyy]at hy;refine nW ?_;refine GA ?_;refine dZ (bO ir py) (dK h (cw hy)) I (VP ?_ ?_)<;>intro hc4
  .have e:=hH hc4;refine fR ?_;refine Wl ?_;exact⟨⟨_,I,by rw[ap (show(0:Int)<=(k:Int) by omega),List.contains_eq_mem,ap (e▸aG hy)]⟩,rfl⟩
  refine ii ?_;refine VM (k+1) ⟨⟨by omega,λj hj=>by rcases Nat.lt_or_ge j k with h1|h1;exact hno j h1;obtain rfl:j=k:=O;rw[hy];intro e;exact ne_of_beq_false hc4 (aF e).symm⟩,by omega⟩
 simp only[aa]at hc2;have hnm:l.contains x=false:=(by rw[List.contains_eq_mem,aa];intro hm;obtain⟨j,hj,e⟩:=List.getElem_of_mem hm;exact hno j O (by rw[ak hj,e]));refine nY ?_;exact⟨⟨_,I,by rw[hnm];rfl⟩,rfl⟩
theorem vX(A:Oa)(c:Nat)(l:Li)(x:Int)(w:World)(h:Rd w .i64 A (J l) c l):CW prog 173 [.slice A (J l) c,.i x] w (.bool (l.contains x)):=by
 refine UV func173 ntmps173 ?_;refine U8 ?_;refine Vl (λw hi=>PW A c l x w (U5.Tb h hi)) ?_;exact Wx80_
abbrev insV(o:Option ((Int×Int)×Nat)):List Value:=[.i ((o.map (·.1.1)).getD 0),.w ((o.map (·.1.2)).getD 0)]
abbrev insN(o:Option ((Int×Int)×Nat)):Nat:=(o.map (·.2)).getD 0
variable{op:Int}
theorem K6(op nn:Int)(r:WP)(X:dz)(Ap:Oa)(cp:Nat)(Tc was:Int)(hpc:u32 r.s.pc)(hw:u32 was)(w:World)(h:Rd w .i64 Ap (J r.SV) cp r.SV):
  CW prog 150 [.agg #[.i op,.w nn],.agg (iz r X Ap cp).toArray,.i Tc,.w was] w (.bool (jh op r Tc was)):=by
 have HC:=vX Ap cp r.SV Tc;have hq:∀x:Int,u32 x->V9 .u32 (x.tdiv 64)=x/64:=λx hx=>by obtain⟨h1,h2⟩:=hx;rw[bl h1,u32_wrap_id _ O O]
 refine UV func150 ntmps150 ?_;refine An ?_;refine ZO λb4=>?_;refine ZO λb5=>?_
 refine Va ?_;refine UZ (λw hi=>zE op w) ?_;refine wD ?_;refine dC (bR I I) (.cons (cO I) (.cons (cO I) .nil)) (λ_ _=>I) (λhg w hi=>HC w (U5.Tb h hi)) I (VP ?_ ?_)<;>intro hc1
 .refine wv ?_;exact⟨by unfold jh;rw[hc1];rfl,rfl⟩
 refine US ?_;refine Zy (kf (Zv I) (Zv I) O (hq _ hpc)) ?_;refine ZA ?_;refine Zy (kf (Zv I) (Zv I) O (hq _ hw)) ?_;refine UQ ?_;refine Wl ?_;exact⟨by unfold jh;rw[hc1];rfl,rfl⟩
end
end Go.Ink
