/- Lemmas. -/
import Derived.Test.YtepfimeihngjoaaGreatDoorXal
import Derived.Test.YtepfimeihngjoaaGreatDoorXam
import Derived.Test.YtepfimeihngjoaaGreatDoorXan
set_option linter.all false
set_option maxRecDepth 100000
set_option maxHeartbeats 4000000
namespace Go.Ink
open List renaming length→J
open IntKind renaming wrap→V9
open Go.RowKit
variable{U:UI}
theorem uL(a b:Int)(va k:Nat)(t:Tr)(U:UI):(dr a b va k t U).2=U:=by
 grind [dr]
end Go.Ink
namespace Go.Ink
open List renaming length→J, replicate→R9
open IntKind renaming wrap→V9
open Go.RowKit Go.Proofs.Tryz
variable{i:Nat}{b:Bool}
variable{n:Nat}
section
attribute [local irreducible] Ve bN
variable{k:Int}
variable{d:Li}{root va:Nat}
theorem Hk(K:gi)(n:Nat)(M:UO)(hM:Vc n M)(root va:Nat)(hroot:root<=4294967295)(hva:va<=4294967295)(w:World)(h:(AZ K n).ok w)(h2:(rmB K n M).ok w):
  CW prog 271 [.p K.bm,.w root,.w va] w (Yz (iw n M.data root va)):=by
 have hn:=hM.n64;have hdb:=hM.m.db;have hat1:Xw root va=root/64*64+4*(va/1024%16):=rfl;obtain⟨a1,ha1⟩:=Do (Xw root va);have hno1:=PH (n:=n) (d:=M.data) (root:=root) (va:=va);have hye1:=Lt (n:=n) (d:=M.data) (root:=root) (va:=va);rw[ha1]at hat1 hno1 hye1;obtain⟨lk,hlk⟩:=Do (iw n M.data root va);rw[hlk]at hno1 hye1|-;refine UV func271 ntmps271 ?_;refine eL ?_;refine Zy (kf (Zv I) (Zv I) O (show _=((root/64:Nat):Int)from by rw[bl O,u32_wrap_id _ O O];omega)) ?_;refine Zy (fT (Zv I) (Zv I) (show _=((root/64*64:Nat):Int)from(u32_wrap_id _ O O).trans O)) ?_;refine IS ?_;refine Wq86 ?_;refine IS ?_;refine Zy (dy (Zv I) (Zv I) (show _=((a1:Nat):Int)from(u64_wrap_id _ O O).trans O)) ?_;refine gP ?_;refine dC (bR I I) (.cons (cO I) (.cons (cO I) (.cons (Zv I) .nil))) (λ_ _=>I) (λhg w hi=>mb K n hn a1 4 O ne w (bJ.old h hi)) I (WK ?_ ?_)<;>intro hc2
 .rw[hno1 hc2];exact I2
 obtain⟨hv1,hl1,hlk2⟩:=hye1 hc2;rw[hlk2];have heu:=qY hdb a1;have HW:=pz K n M hM a1 hl1;obtain⟨e,he⟩:=Do (lc M.data a1);rw[he]at heu HW|-;obtain⟨eu0,eu1⟩:=heu;have hat2:Xt e va=(e/256).toNat*64+4*(va/64%16):=rfl;have hno2:=PG (n:=n) (d:=M.data) (va:=va) (e:=e);have hye2:=Ls (n:=n) (d:=M.data) (va:=va) (e:=e);obtain⟨a2,ha2⟩:=Do (Xt e va);rw[ha2]at hat2 hno2 hye2;obtain⟨l2,hl2⟩:=Do (rD n M.data va e);rw[hl2]at hno2 hye2|-;refine UU ?_;refine UZ (λw hi=>HW w (bJ.old h hi) (bJ.old h2 hi)) ?_;refine UU ?_;refine Zy (jT (Zv I) (Zv I) O (show _=e/256 from XH _ 8)) ?_;refine IS ?_;refine Wq164 ?_;refine IS ?_;refine Zy (dy (Zv I) (Zv I) (show _=((a2:Nat):Int)from(u64_wrap_id _ O O).trans O)) ?_;refine US ?_;refine Zy (oX py py (and1 ⟨eu0,eu1⟩)) ?_;refine UK ?_;refine dC (bR I I) (.cons (cO I) (.cons (cO I) (.cons (Zv I) .nil))) (λ_ _=>I) (λhg w hi=>mb K n hn a2 4 O ne w (bJ.old h hi)) I (WK ?_ ?_)<;>intro hc6
 .rw[hno2 hc6];exact I2
 obtain⟨hv2,hlk3⟩:=hye2 hc6;rw[hlk3];refine US ?_;refine UZ (λw hi=>pz K n M hM a2 hv2 w (bJ.old h hi) (bJ.old h2 hi)) ?_;refine UU ?_;refine pm ?_;exact fx
theorem _root_.Go.Ink.Vc.walk{M:UO}(hM:Vc n M)(root va:Nat)(kind:Int)(SQ:Bool):Vc n (dE n M root va kind SQ).2:=by
 unfold dE;refine bL (λq:(TE×Tr)×UO=>Vc n q.2) hM ?_;cases hl:iw n M.data root va with
 |none=>exact hM
 |some q=>
  obtain⟨a,l⟩:=q;have hin:=(vj hM.m.db hl).2;refine bL (λq:(TE×Tr)×UO=>Vc n q.2) hM ?_;exact bL (λq:UO=>Vc n q) (hM.Tj _ 4 hin) hM
theorem Kw(K:gi)(n:Nat)(M:UO)(hM:Vc n M)(root va:Nat)(hroot:root<=4294967295)(hva:va<=4294967295)(kind:Int)(SQ:Bool):CI prog 208 [.p K.bm,.w root,.w va,.i kind,.bool SQ] (V6 K n M) (λv cs=>v= .tuple #[(dE n M root va kind SQ).1.1.v,(dE n M root va kind SQ).1.2.v]/\cs=V6 K n (dE n M root va kind SQ).2):=λw hi=>by
 have hn:=hM.n64;have hdb:=hM.m.db;obtain⟨fk,hfk⟩:=Do (Vo kind);obtain⟨wb,hwb⟩:=Do (oP kind SQ);obtain⟨lk,hlk⟩:=Do (iw n M.data root va);have HF:=DA kind;have HB:=xz kind SQ;have HL:=Hk K n M hM root va hroot hva;unfold dE;rw[hfk]at HF|-;rw[hwb]at HB|-;rw[hlk]at HL|-;refine Vb func208 ntmps208 hi ?_;refine An ?_;refine ZN λb10=>?_;refine ZN λb11=>?_
 refine UU ?_;refine UZ (λw hi=>HF w) ?_;refine VP ?_ ?_<;>intro hc1
 .have hc:(fk==0)=true:=hc1;rw[hc];refine ix ?_;refine UQ ?_;refine ZM ?_;refine ij ?_;exact Wq72
 have hc:(fk==0)=false:=hc1;rw[hc];refine fE ?_;refine UN ?_;revert HL hlk;refine Option.rec (λhlk HL=>?_) (λal hlk HL=>?_) lk
 .refine UK ?_;refine UZ (λw hi=>HL w (hi.get Zh) (hi.get Zh)) ?_;simp only[Yz];refine mv ?_;refine UZ (λw hi=>HB w) ?_;refine wD ?_;refine iS ?_;exact Wx77_
 obtain⟨a,l⟩:=al;have hin:=vj hdb hlk;obtain⟨lu,ain⟩:=hin;have hmd:=Ic lu kind;obtain⟨lu0,lu1⟩:=lu;have mu:=rB l kind;simp only;refine UK ?_;refine UZ (λw hi=>HL w (hi.get Zh) (hi.get Zh)) ?_;simp only[Yz];refine mv ?_;refine UZ (λw hi=>HB w) ?_;refine wD ?_;refine ZW ?_ ?_<;>intro hc5
 .have hc6':(bits .and .u32 l wb !=wb)=true:=hc5;rw[hc6'];refine ix ?_;exact Wx77_
 have hc6':(bits .and .u32 l wb !=wb)=false:=hc5;rw[hc6'];refine fE ?_;refine oO ?_;refine ZW ?_ ?_<;>intro hc8
 .have hm:jj l kind=bits .or .u32 (bits .or .u32 l 32) 64:=by(unfold jj;rw[hc8];rfl)
  rw[hm]at mu hmd|-;obtain⟨m,hmm⟩:=Do (bits .or .u32 (bits .or .u32 l 32) 64);refine U8 ?_;rw[hmm]at mu hmd|-;refine Wh ?_ ?_<;>intro hc10
  .refine Wq132 ?_;rintro k hk;refine VJ ?_ ?_<;>intro hc12
   .exact Wx36_
   exact YW
  rw[hc10];refine fE ?_;refine UQ ?_;refine Jn ?_;exact RC
 have hm:jj l kind=bits .or .u32 l 32:=by(unfold jj;rw[hc8];rfl)
 rw[hm]at mu hmd|-;obtain⟨m,hmm⟩:=Do (bits .or .u32 l 32);refine UQ ?_;rw[hmm]at mu hmd|-;refine Wh ?_ ?_<;>intro hc10
 .refine Wq132 ?_;rintro k hk;refine VJ ?_ ?_<;>intro hc12
  .exact Wx36_
  exact YW
 rw[hc10];refine fE ?_;refine UQ ?_;refine Jn ?_;exact RC
variable{x:Value}{T:List TE}
theorem kK(K:gi)(bx n:Nat)(U:UI)(hM:Vc n U.m)(hT:J U.t=16)(pg su:Bool)(root va:Nat)(hr:root<=4294967295)(hva:va<=4294967295)(kind:Int):CI prog 161 [.p bx,.bool pg,.bool su,.w root,.w va,.i kind] (VD K bx n U) (λv cs=>v= .tuple #[.w (SR n U ⟨pg,su,root⟩ va kind).1.1,(SR n U ⟨pg,su,root⟩ va kind).1.2.v]/\cs=VD K bx n (SR n U ⟨pg,su,root⟩ va kind).2):=λw hi=>by
 have hn:=hM.n64;obtain⟨fk,hfk⟩:=Do (Vo kind);obtain⟨td,htd⟩:=Do (SY n U ⟨pg,su,root⟩ va kind);obtain⟨fd,hfd⟩:=Do (pu U.t va kind su);obtain⟨wd,hwd⟩:=Do (dE n U.m root va kind su);have hwf:=AB n U.m root va hva kind su;have hwt:=uu n U.m root va kind su;have hwm:=hM.walk root va kind su;have htu:=(qa n U ⟨pg,su,root⟩ va hva kind).1;have HFD:=λhk=>Hn bx K.bm U.t hT va hva kind hk su
 have HWD:=Kw K n U.m hM root va hr hva kind su;have htd2:td=bif !pg then(((va:Int),Tr.none),U)else bif fd.2 then((fd.1,Tr.none),U)else bif wd.1.2.SU !=0 then((0,wd.1.2),⟨wd.2,U.t⟩)else((o9 wd.1.1.pfn va,wd.1.2),⟨wd.2,AJ U.t wd.1.1⟩):=by rw[<-htd,<-hfd,<-hwd];rfl
 rw[hfd]at HFD;rw[hwd]at HWD hwf hwt hwm;rw[htd]at htu;unfold SR;rw[htd];obtain⟨⟨te,tr⟩,M'⟩:=wd;obtain⟨fp,fb⟩:=fd;simp only at HWD hwf hwt hwm htd2 HFD;refine Vb func161 ntmps161 hi ?_;refine UN ?_;refine ZN λb13=>?_
 refine UU ?_;refine ZN λb14=>?_
 refine ZM ?_;refine Ab ?_ ?_<;>intro hc2
 .simp only[Bool.or_eq_true,ai]at hc2;rw[Ce O];simp only[beq_self_eq_true,ah];refine Zs (bQ (Vg [2]) Zk ?_);refine Nr ?_;refine UN ?_;exact NN
 simp only[aZ,aa]at hc2;have hk:1<=kind/\kind<=3:=O;rw[show(Vo kind==0)=false by(rw[F6 hk];simp;omega)];refine fE ?_;refine Va ?_;refine cj (λq:Nat×UI=>[(0,.p bx),(5,.i kind),(13,.p b13),(14,.p b14),(15,.w (q.1:Int))]) (λq=>VD K bx n q.2++[row b13 Tr.none.cells 254,row b14 [.i 10,.w (va:Int)] 254]) (λq=>td=(((q.1:Int),Tr.none),q.2)/\q.1<=4294967295) ?_ ?_
 .refine Wh ?_ ?_<;>intro hc5
  .subst hc5;simp only[Bool.not_true,ac]at htd2;refine UU ?_;refine UZ (λw hi=>HFD hk w (hi.get Zh)) ?_;refine uf ?_ ?_<;>intro hc7
   .have hb:fb=false:=(by simpa using hc7);subst hb;simp only[ac]at htd2;refine eL ?_;refine Vq (V6 K n U.m) (λw hi hin=>HWD w hin) ?_;refine UN ?_;refine ZN λb18=>?_
    refine ZN λb19=>?_
    refine eA (cL (vs:=te.cells) ir I I (jR I) Za mS) ?_;refine UR ?_;refine eA (cL (vs:=tr.cells) ir I I (jR I) Za mS) ?_;refine UR ?_;refine oU ?_ ?_<;>intro hc9
    .rw[hc9]at htd2;simp only[ah]at htd2;rw[htd2];simp only[hc9,ah];refine Zs (bQ (Vg [2]) Zk ?_);refine Nr ?_;refine UQ ?_;exact bK (VD K bx n ⟨M',U.t⟩++[row b13 tr.cells 254]) Zj NN
    rw[hc9]at htd2;simp only[ac]at htd2;obtain⟨e1,e2,e3⟩:=hwt (by simpa using hc9);rw[e1]at htd2;have hlt:va/64%16<J U.t:=O;have hfl:AJ U.t te=U.t.set (va/64%16) te:=(by unfold AJ;rw[e2,e3];rfl);rw[hfl]at htd2;rw[htd2]at htu;obtain⟨pp,hpp⟩:∃m:Nat,o9 te.pfn va=m:=aj htu.1;rw[hpp]at htd2 htu;dsimp only at htu;refine UN ?_;refine bQ (Vg [8]) Zk (IZ ?_);have e3':te.vpn=((va/64:Nat):Int):=e3;refine UY 3 I (fG (Zv I) (Zv I) O (show _=((va/64%16:Nat):Int)from by rw[e3',aq O];omega)) ?_;refine ZI 4 ?_;refine ZE 5 ?_;refine UE 6 1 ?_;refine UY 7 I (dj (j:=(va/64%16)) (sz:=4) (r:=1+(va/64%16)*4) I ir (Zv I) (Zv I) UL UL O) ?_;refine gg ?_;refine fq I I (gb (n:=4) (vs:=te.cells) ir I I (jR I) Za I (by rw[aE,eG];simp only[TE.cells,aE,bD];omega)) ZJ ?_;refine UR ?_;rw[show J te.cells=4 from I,Gj (T:=U.t) te hlt];refine fh ?_;refine UK ?_;refine RA ?_;refine Zy (dy (Zv I) (Zv I) (show _=(pp:Int)from hpp)) ?_;refine US ?_;refine Vd ((pp,⟨M',U.t.set (va/64%16) te⟩)) ⟨htd2,by have:=htu.2;omega⟩
   have hb:fb=true:=(by simpa using hc7);subst hb;simp only[ah]at htd2;rw[htd2]at htu;obtain⟨fp,rfl⟩:∃m:Nat,fp=m:=aj htu.1;refine UU ?_;refine Vd ((fp,U)) ⟨htd2,by have:(fp:Int)<=_:=htu.2;omega⟩
  subst hc5;simp only[Bool.not_false,ah]at htd2;refine Zc (Vd ((va,U)) ⟨htd2,hva⟩)
 rintro⟨p,U'⟩ ⟨hq,hp⟩;dsimp only at hq hp|-;rw[hq];have hcz:(Tr.none.SU !=0)=false:=rfl;simp only[hcz,ac];have hpc:=Hy n p kind;refine Va ?_;refine Z4 ?_;refine uf ?_ ?_<;>intro hc14
 .rw[hpc.symm.trans hc14];refine ix ?_;refine UQ ?_;refine ij ?_;exact NN
 rw[hpc.symm.trans hc14];refine fE ?_;refine UN ?_;refine bQ (Vg [2]) Zk (Nr ?_);refine An ?_;exact NN
theorem Vc.S4{n:Nat}{U:UI}(h:Vc n U.m)(s:Sp)(va k:Nat)(kind:Int)(hw:∀{V:UI},Vc n V.m->∀va,Vc n (dE n V.m s.root va kind s.SQ).2:=λ{V} h va=>h.walk s.root va kind s.SQ):Vc n (S4 n U s va k kind).2.m:=by
 have h1:=h.SR s va kind (hw h va);have h2:=h1.SR s (cU va) kind (hw h1 _);unfold Go.Ink.S4 yG;refine bL (λq:(List Int×Tr)×UI=>Vc n q.2.m) h1 ?_;refine bL (λq:(List Int×Tr)×UI=>Vc n q.2.m) ?_ (by rw[uL];exact h1);unfold yF;exact bL (λq:(List Int×Tr)×UI=>Vc n q.2.m) h2 (by rw[uL];exact h2)
variable{a:Int}
theorem yE(h:iG a=true)(b:Int)(va k:Nat)(t:Tr)(U:UI):dr a b va k t U=(([],⟨10,va⟩),U):=by unfold dr;rw[h];rfl
theorem wJ{b:Int}(h:iG a=false)(h2:iG b=true){va k:Nat}(hk:((64 - va%64:Nat):Int)<(k:Int))(t:Tr)(U:UI):dr a b va k t U=(([],⟨10,cU va⟩),U):=by
 unfold dr;rw[h,h2,ap hk]
 rfl
theorem Df{b:Int}(h:iG a=false){va k:Nat}(h2:((64 - va%64:Nat):Int)<(k:Int)->iG b=false)(t:Tr)(U:UI):dr a b va k t U=((jd a b va k,t),U):=by
 have e:(decide (((64 - va%64:Nat):Int)<(k:Int))&&iG b)=false:=by
  by_cases hk:((64 - va%64:Nat):Int)<(k:Int)
  .rw[h2 hk,bH]
  rw[ao hk];rfl
 unfold dr;rw[h,e]
 rfl
theorem sy(K:gi)(bx n:Nat)(U:UI)(hM:Vc n U.m)(hT:J U.t=16)(pg su:Bool)(root va k:Nat)(hr:root<=4294967295)(hva:va<=4294967295)(hk1:1<=k)(hk4:k<=4)(kind:Int):CI prog 332 [.p bx,.bool pg,.bool su,.w root,.w va,.i k,.i kind] (VD K bx n U) (λv cs=>∃A c,v= .tuple #[.slice A (S4 n U ⟨pg,su,root⟩ va k kind).1.1.length c,(S4 n U ⟨pg,su,root⟩ va k kind).1.2.v]/\cs=VD K bx n (S4 n U ⟨pg,su,root⟩ va k kind).2++[sl .u32 32 A (S4 n U ⟨pg,su,root⟩ va k kind).1.1.length c (S4 n U ⟨pg,su,root⟩ va k kind).1.1]):=λw hi=>by
 have hn:=hM.n64;have HP1:=kK K bx n U hM hT pg su root va hr hva kind;have hl1:=pE n U ⟨pg,su,root⟩ va kind;have hM1:=hM.SR ⟨pg,su,root⟩ va kind (hM.walk _ _ _ _);have hf1:=fj n U ⟨pg,su,root⟩ va hva kind;have ht1:=gM n U ⟨pg,su,root⟩ va kind;obtain⟨p1,hp1⟩:=Do (SR n U ⟨pg,su,root⟩ va kind);unfold S4;rw[hp1]at HP1 hl1 hM1 hf1 ht1|-;rw[hT]at hl1;have HP2:=kK K bx n p1.2 hM1 hl1 pg su root (cU va) hr (jt va) kind;have hM2:=hM1.SR ⟨pg,su,root⟩ (cU va) kind (hM1.walk _ _ _ _);have hf2:=fj n p1.2 ⟨pg,su,root⟩ (cU va) (jt va) kind;have ht2:=gM n p1.2 ⟨pg,su,root⟩ (cU va) kind;obtain⟨p2,hp2⟩:=Do (SR n p1.2 ⟨pg,su,root⟩ (cU va) kind);unfold yG yF;rw[hp2]at HP2 hM2 hf2 ht2|-;obtain⟨⟨a1,tr1⟩,U1⟩:=p1;obtain⟨⟨a2,tr2⟩,U2⟩:=p2;simp only at HP1 HP2 hM1 hM2 hf1 hf2 ht1 ht2|-;obtain⟨a1,rfl⟩:∃m:Nat,a1=m:=aj hf1.1.1;obtain⟨a2,rfl⟩:∃m:Nat,a2=m:=aj hf2.1.1;have hu1:(a1:Int)<=4294967295:=hf1.1.2;have hu2:(a2:Int)<=4294967295:=hf2.1.2;refine Vb func332 ntmps332 hi ?_;refine UN ?_;refine ZN λb15=>?_
 refine mv ?_;refine cK I ((by rw[ao (show¬(k:Int)<1 by omega),ao (show¬(4:Int)<k by omega)];rfl)) (eL ?_);refine Vq (VD K bx n U) (λw hi hin=>HP1 w hin) ?_;refine UN ?_;refine ZN λb17=>?_
 refine ZA ?_;refine eA (cL (vs:=tr1.cells) ir I I (jR I) Za mS) ?_;refine UR ?_;refine oU ?_ ?_<;>intro hc4
 .rw[hc4];refine ix ?_;refine Zs (bQ (Vg [2]) Zk ?_);refine yu 32 1 (Nr ?_);refine UN ?_;exact bK (VD K bx n U1++[Ww b15 tr1,slv 32 1 none 0 0 []]) Zj RB
 rw[hc4];refine fE ?_;have hz1:tr1.SU=0:=(by simpa using hc4);obtain rfl:=ht1 hz1;have hP1:=hf1.2 I;refine UQ ?_;refine Jn ?_;refine Zy (dy (Zv I) (Zv I) (show _=((va/64+1:Nat):Int)from(u32_wrap_id _ O O).trans O)) ?_;refine Zy (fT (Zv I) (Zv I) (show _=((cU va:Nat):Int)from by rw[au];unfold cU;omega)) ?_;refine UU ?_;refine Zy (fG (Zv I) (Zv I) O (show _=((va%64:Nat):Int)from by rw[aq O];omega)) ?_;refine Zy (ez (Zv I) (Zv I) (show _=((64 - va%64:Nat):Int)from(u32_wrap_id _ O O).trans O)) ?_;refine wo ?_;refine Va ?_;refine cj (λq:Nat×UI=>[(0,.p bx),(4,.w (va:Int)),(5,.i (k:Int)),(15,.p b15),(16,.w (a1:Int)),(18,.w (cU va:Nat)),(19,.i ((64 - va%64:Nat):Int)),(20,.w (q.1:Int))]) (λq=>VD K bx n q.2++[Ww b15 Tr.none]) (λq=>(bif decide (((64 - va%64:Nat):Int)<(k:Int))then bif tr2.SU !=0 then((([]:Li),tr2),U2)else dr a1 a2 va k tr2 U2 else dr a1 0 va k Tr.none U1)=dr a1 q.1 va k Tr.none q.2/\q.1<=4294967295/\(((64 - va%64:Nat):Int)<(k:Int)->oa n (cU va) (q.1:Int))) ?_ ?_
 .refine VJ ?_ ?_<;>intro hc9
  .have hsm:(bif decide (((64 - va%64:Nat):Int)<(k:Int))then bif tr2.SU !=0 then((([]:Li),tr2),U2)else dr a1 a2 va k tr2 U2 else dr a1 0 va k Tr.none U1)=bif tr2.SU !=0 then((([]:Li),tr2),U2)else dr a1 a2 va k tr2 U2:=by rw[hc9];rfl
   refine Va ?_;refine Vq (VD K bx n U1) (λw hi hin=>HP2 w hin) ?_;refine UK ?_;refine eA (cL (vs:=tr2.cells) ir I I (jR I) Za mS) ?_;refine UR ?_;refine Wc ?_ ?_<;>intro hc11
   .rw[hsm,hc11];refine ix ?_;refine Zs (bQ (Vg [2]) Zk ?_);refine yu 32 1 (Nr ?_);refine UN ?_;exact bK (VD K bx n U2++[Ww b15 tr2,slv 32 1 none 0 0 []]) Zj RB
   have hz2:tr2.SU=0:=(by simpa using hc11);obtain rfl:=ht2 hz2;have hP2:=hf2.2 I;refine Zc (Vd ((a2,U2)) ⟨hsm.trans (by rw[hc11];rfl),by omega,λ_=>hP2⟩)
  have hsm:(bif decide (((64 - va%64:Nat):Int)<(k:Int))then bif tr2.SU !=0 then((([]:Li),tr2),U2)else dr a1 a2 va k tr2 U2 else dr a1 0 va k Tr.none U1)=dr a1 0 va k Tr.none U1:=by rw[hc9];rfl
  refine Zc (Vd ((0,U1)) ⟨hsm,ax _,λh=>by rw[ap h]at hc9;cases hc9⟩)
 rintro⟨b2,U'⟩ ⟨hq,hb2,hP2⟩;dsimp only at hq hb2 hP2;rw[hq];dsimp only;refine An ?_;refine dB 32 1 (eL ?_);refine Vs (λq:Nat×Option Addr×Nat=>[(0,.p bx),(4,.w (va:Int)),(5,.i (k:Int)),(15,.p b15),(16,.w (a1:Int)),(18,.w (cU va:Nat)),(19,.i ((64 - va%64:Nat):Int)),(20,.w (b2:Int)),(21,.slice q.2.1 (J (jd a1 b2 va q.1)) q.2.2),(22,.i (q.1:Int))]) (λq=>VD K bx n U'++[Ww b15 Tr.none,sl .u32 32 q.2.1 (J (jd a1 b2 va q.1)) q.2.2 (jd a1 b2 va q.1)]) (λq=>q.1<=k/\(0<q.1->iG (a1:Int)=false)/\(((64 - va%64:Nat):Int)<(q.1:Int)->iG (b2:Int)=false)) (λq=>k - q.1) ((0,none,0)) ⟨ax _,λh=>absurd h ne,λh=>absurd h (show¬(((64 - va%64:Nat):Int)<0) by omega)⟩ ?_;rintro⟨j,A1,c1⟩ ⟨hj,hd1,hd2⟩;dsimp only at hj hd1 hd2|-;refine Wp ?_ ?_<;>intro hc15
 .simp only[ai]at hc15;have hle:=uK a1 b2 va j;have hjk:j<k:=O;refine Va ?_;refine CE ?_;refine kZ ?_;refine US ?_;refine cj (λr:Nat×Nat=>[(0,.p bx),(4,.w (va:Int)),(5,.i (k:Int)),(15,.p b15),(16,.w (a1:Int)),(18,.w (cU va:Nat)),(19,.i ((64 - va%64:Nat):Int)),(20,.w (b2:Int)),(21,.slice A1 (J (jd a1 b2 va j)) c1),(22,.i (j:Int)),(23,.w (iN a1 b2 va j)),(24,.w (r.1:Int)),(25,.w (r.2:Int))]) (λr=>VD K bx n U'++[Ww b15 Tr.none,sl .u32 32 A1 (J (jd a1 b2 va j)) c1 (jd a1 b2 va j)]) (λr=>r.2<=4294967295/\((j<64 - va%64/\r.1=va/\r.2=a1/\oa n va (r.2:Int))\/(64 - va%64<=j/\r.1=cU va/\r.2=b2/\oa n (cU va) (r.2:Int)))) ?_ ?_
  .refine VJ ?_ ?_<;>intro hc18
   .simp only[ai]at hc18;have hge:64 - va%64<=j:=O;have he:iN a1 b2 va j=V9 .u32 ((b2:Int)+((j - (64 - va%64):Nat):Int)):=by(unfold iN;rw[ao O];rfl)
    refine UK ?_;refine Zy (ez (Zv I) (Zv I) (show _=((j - (64 - va%64):Nat):Int)from(aQ _ ⟨by omega,by omega⟩).trans O)) ?_;refine CE ?_;refine Zy (dy (Zv I) (Zv I) (show _=iN a1 b2 va j from he.symm)) ?_;refine UU ?_;refine Vd ((cU va,b2)) ⟨hb2,.inr ⟨hge,I,I,hP2 O⟩⟩
   simp only[aa]at hc18;have hlt:j<64 - va%64:=O;have he:iN a1 b2 va j=V9 .u32 ((a1:Int)+(j:Int)):=by(unfold iN;rw[ap O];rfl)
   rw[<-he];refine Zc (Vd ((va,a1)) ⟨by omega,.inl ⟨hlt,rfl,rfl,hP1⟩⟩)
  rintro⟨wa,at_⟩ ⟨hat,hor⟩;dsimp only at hat hor|-;have hdc:(decide ((32768:Int)<=(at_:Int))&& !decide (at_+1<=n*64))=iG (at_:Int):=(by rcases hor with⟨_,_,_,h⟩|⟨_,_,_,h⟩;exact Gh h hn;exact Gh h hn);refine gP ?_;refine V3 I I (cz I I (cO I) (u64_wrap_id _ O O)) ?_;refine dC (bS I I) (.cons (cO I) (.cons (cO I) (.cons (Zv I) .nil))) (λ_ _=>I) (λhg w hi=>mb K n hn at_ 1 O ne w (hi.get Zh)) I (WK ?_ ?_)<;>intro hc20
  .have hdv:=hdc.symm.trans hc20;have hse:dr a1 b2 va k Tr.none U'=(([],⟨10,wa⟩),U'):=(by rcases hor with⟨h1,rfl,rfl,_⟩|⟨h1,rfl,rfl,_⟩;exact yE hdv _ _ _ _ _;exact wJ (hd1 O) hdv O _ _);rw[hse];refine An ?_;refine dB 32 1 (UN ?_);refine ZM ?_;refine U8 ?_;exact bK (VD K bx n U'++[Ww b15 ⟨10,wa⟩,slv 32 1 none 0 0 []]) Zj RB
  have hdv:=hdc.symm.trans hc20;refine UQ ?_;refine jQ ?_;rintro _ _ ⟨b111,rfl,rfl⟩;refine gS (cC (e:=32) (sz:=1) (bytes:=4) I I Za I I (λw hi=>hi.rd (UJ (slv 32 1 (sA b111) 1 1 [.w (iN a1 b2 va j)]))) (jR I) gD O) I ?_;rintro _ _ ⟨A2,c2,rfl,rfl⟩;rw[show(jd a1 b2 va j).length+1=J (jd a1 b2 va (j+1)) by(rw[oo];simp),show ints .u32 (jd a1 b2 va j)++[Value.w (iN a1 b2 va j)]=ints .u32 (jd a1 b2 va (j+1)) by(rw[oo];exact cy _ [_])];refine UU ?_;refine W8 ?_;refine Vd ((j+1,A2,c2)) ⟨⟨by show j+1<=k;omega,λ_=>(by rcases hor with⟨h1,rfl,rfl,_⟩|⟨h1,rfl,rfl,_⟩;exact hdv;exact hd1 O),λh=>(by rcases hor with⟨h1,rfl,rfl,_⟩|⟨h1,rfl,rfl,_⟩;(exfalso;dsimp only at h;omega);exact hdv)⟩,by show k - (j+1)<k - j;omega⟩
 simp only[aa]at hc15;obtain rfl:j=k:=O;rw[Df (hd1 O) hd2];refine eL ?_;refine oV ?_;exact bK (VD K bx n U'++[Ww b15 Tr.none,sl .u32 32 A1 (J (jd a1 b2 va j)) c1 (jd a1 b2 va j)]) Zj RB
theorem DC(b bd:Nat)(K:gi)(n:Nat)(M:UO)(hM:Vc n M)(Z:dJ)(pe ma ti:Int)(ou inp dk:Li)(hk:J dk=1024)(hkb:Vh dk)(se pl:Nat)(st:Int)(SS a cmd:Nat)(hs:SS<=4294967295)(ha:a<=4294967295):CI prog 353 [.p b,.w SS,.w a,.w cmd] (eI b K.bm bd Z ⟨pe,ma,ti,ou,inp,dk,se,pl,st⟩++V6 K n M) (λv cs=>v= .bool (dP n M dk SS a cmd).1/\cs=eI b K.bm bd Z ⟨pe,ma,ti,ou,inp,(dP n M dk SS a cmd).2.2,se,pl,st⟩++V6 K n (dP n M dk SS a cmd).2.1):=λw hi=>by
 have hn:=hM.n64;have hdl:=hM.m.dl;have hdc:=Cl n SS a cmd;have hdb:=hM.m.db;refine Vb func353 ntmps353 hi ?_;refine fR ?_;refine WV I I (fG (cO I) (Zv I) O (show _=((a%64:Nat):Int)from by rw[aq O];omega)) ?_;refine Va ?_;refine WV I I (cz I I (cO I) (u64_wrap_id _ O O)) ?_;refine dC (bR I I) (.cons (cO I) (.cons (cO I) (.cons (Zv I) .nil))) (λ_ _=>I) (λhg w hi=>mb K n hn a 1 O ne w (hi.get (UJ (AZ K n)))) I (fR ?_);refine ZW ?_ ?_<;>intro hc1
 .have hno:=hdc.symm.trans hc1;have Wr:dP n M dk SS a cmd=(false,M,dk):=(by unfold dP;cases h1:iI n SS a with|false=>rfl|true=>(rw[h1]at hno;simp only[Bool.not_true,bj,ay,Bool.not_eq_true']at hno;rw[hno.1,hno.2];rfl));rw[Wr];refine US ?_;refine CR ?_;exact fx
 have hyes:=hdc.symm.trans hc1;simp only[aZ,Bool.not_eq_false',Bool.and_eq_false_iff]at hyes;obtain⟨hok,hcm⟩:=hyes;have hf:SS<16/\a%64=0/\a<n*64:=(by have h2:=hok;unfold iI at h2;simp only[Bool.not_eq_true',aZ,aa,bne_eq_false_iff_eq]at h2;omega);obtain⟨s16,am,an⟩:=hf;have a64:a/64*64=a:=O;refine UK ?_;rcases hcm with hcm|hcm
 .have hcm:cmd=1:=(by simpa using hcm);subst hcm;have Wr:dP n M dk SS a 1=(true,M.fill a ((dk.drop (SS*64)).take 64) 64,dk):=(by unfold dP;rw[hok,a64];rfl);rw[Wr];have hlb:Vh ((dk.drop (SS*64)).take 64):=(λx hx=>hkb x (bE (aM hx)));refine UQ ?_;refine Vs (λk:Nat=>[(0,.p b),(1,.w (SS:Int)),(2,.w (a:Int)),(3,.w ((1:Nat):Int)),(9,.w (k:Int))]) (λk=>eI b K.bm bd Z ⟨pe,ma,ti,ou,inp,dk,se,pl,st⟩++V6 K n (M.fill a ((dk.drop (SS*64)).take 64) k)) (λk=>k<=64) (λk=>64 - k) (0) (ax _) ?_;rintro k hk64;refine VJ ?_ ?_<;>intro hc4
  .simp only[ai]at hc4;have hk4:k<64:=O;refine eL ?_;refine iS ?_;refine bQ (Vg [17]) Zk (nZ ?_);refine wP ?_;refine UY 6 I (dy (Zv I) (Zv I) (show _=((a+k:Nat):Int)from(u32_wrap_id _ O O).trans O)) ?_;refine ZE 7 ?_;refine ZE 8 ?_;refine UE 9 6 ?_;refine ZE 11 ?_;refine UY 12 I (fT (Zv I) (Zv I) (show _=((SS*64:Nat):Int)from(u32_wrap_id _ O O).trans O)) ?_;refine ZE 13 ?_;refine UY 14 I (dy (Zv I) (Zv I) (show _=((SS*64+k:Nat):Int)from(u32_wrap_id _ O O).trans O)) ?_;refine cP 10 Zk (m4 ?_);refine UY 15 I (cn (j:=(SS*64+k)) (sz:=1) (r:=(SS*64+k)) I ir (Zv I) (Zv I) UL UL O) ?_;refine Vn 16 I (bO ir (Zv I)) (da Zh (cw (tf (show SS*64+k<J dk by omega)))) ?_;refine cP 17 Zk (jm I I (dh (V6 K n (M.fill a ((dk.drop (SS*64)).take 64) k)) I (λ_ _=>I) Zi (λw hi hin=>i4 K n (M.fill a ((dk.drop (SS*64)).take 64) k) (hM.fill hlb k O) (a+k) O (gB dk (SS*64+k)) w hin)) ZJ I ?_);refine Vz ?_;refine Ε ?_;refine sC (k+1) ?_ ?_ ?_
   .exact⟨by show k+1<=64;omega,by show 64 - (k+1)<64 - k;omega⟩
   .exact Xq
   exact(show z9 _ _ from by rw[UO.fill,gB_drop hk4];exact Zj)
  exact YU
 have hcm:cmd=2:=(by simpa using hcm);subst hcm;have Wr:dP n M dk SS a 2=(true,M,sr dk M.data (SS*64) a 64):=(by unfold dP sr;rw[hok,a64];rfl);rw[Wr];refine UQ ?_;refine mB (λk:Nat=>[(0,.p b),(1,.w (SS:Int)),(2,.w (a:Int)),(3,.w ((2:Nat):Int)),(9,.w (k:Int))]) (λk=>eI b K.bm bd Z ⟨pe,ma,ti,ou,inp,sr dk M.data (SS*64) a k,se,pl,st⟩++V6 K n M) (λk=>k<=64) (λk=>64 - k) (0) ?_ ?_ ?_ ?_
 .exact ax _
 .exact Xq
 ·(rw[Di];((repeat (first|exact List.Sublist.slnil|refine List.Sublist.cons_cons _ ?_|refine List.Sublist.cons _ ?_))))
 rintro k hk64;refine VJ ?_ ?_<;>intro hc4
 .simp only[ai]at hc4;have hk4:k<64:=O;refine eL ?_;refine lN ?_;refine bQ (Vg [21]) Zk (lO ?_);refine UE 2 6 ?_;refine ZG 3 ?_;refine ZE 4 ?_;refine UY 5 I (fT (Zv I) (Zv I) (show _=((SS*64:Nat):Int)from(u32_wrap_id _ O O).trans O)) ?_;refine ZE 6 ?_;refine UY 7 I (dy (Zv I) (Zv I) (show _=((SS*64+k:Nat):Int)from(u32_wrap_id _ O O).trans O)) ?_;refine ZE 8 ?_;refine ZE 9 ?_;refine UE 10 0 ?_;refine ZG 11 ?_;refine ZE 12 ?_;refine UE 13 0 ?_;refine ZG 14 ?_;refine ZE 15 ?_;refine ZE 16 ?_;refine UY 17 I (dy (Zv I) (Zv I) (show _=((a+k:Nat):Int)from(u32_wrap_id _ O O).trans O)) ?_;refine UY 18 I (cn (j:=(a+k)) (sz:=1) (r:=(a+k)) I ir (Zv I) (Zv I) UL UL O) ?_;refine Vn 19 I (bO ir (Zv I)) (da Zh (cw (tf (show a+k<J M.data by omega)))) ?_;refine UY 20 I (cn (j:=(SS*64+k)) (sz:=1) (r:=(SS*64+k)) I ir (Zv I) (Zv I) UL UL O) ?_;refine cP 21 Zk (Nz ?_);refine UR ?_;rw[eK,Dj O O];refine Ε ?_;refine Vd (k+1) ⟨by show k+1<=64;omega,by show 64 - (k+1)<64 - k;omega⟩
 exact YU
end
end Go.Ink
namespace Go.Ink
open List renaming length→J
open IntKind renaming wrap→V9
open Go.RowKit Go.Proofs.Tryz
set_option maxHeartbeats 1000000
variable{x:Int}
variable{b:Int}
variable{r:Int}
variable{n:Int}
section
attribute [local irreducible] Ve bN
theorem jC{w:World}{S:List Nat}{cs:List bJ}{n c j:Nat}{ad:Addr}{xs:List Value}{v:Value}(h:∀w',dc S w w'->U5 w' 1 (some ad) n c xs)(hv:xs[j]? =some v):∀w',Inv w S cs w'->cells [(ad.add (j*1),v)] w':=λw' hi z hz=>by
 rw[aX]at hz;subst hz;rw[Nat.mul_one];exact(h w' hi.To).at_ ad I j v hv
abbrev Vv(br:Nat)(X:dz)(x:St)(dv:Bool)(K:gi)(bx n:Nat)(U:UI)(b bd:Nat)(Z:dJ)(d:UF):List bJ:=VY br X x dv++(VD K bx n U++eI b K.bm bd Z d)
def Ji(br:Nat)(K:gi)(bx n b bd:Nat)(m:eu)(v:Value)(cs:List bJ):Prop:=
 ∃X' x' Z',v= .tuple #[.i m.r.S3.SU,.w m.r.S3.addr]/\cs=Vv br X' x' m.r.device K bx n m.u b bd Z' m.d/\(m.r.S3.SU=0->x'=m.r.s)
end
end Go.Ink
namespace Go.Ink
open List renaming length→J
open IntKind renaming wrap→V9
open Go.RowKit
variable{a:Nat}
variable{b:Nat}
section
variable{C l:List HI}{k:Nat}{R W:Li}{M:HM}{pl:Pl}
variable{n:Int}{into:Nat}
structure II.ok(x:II)(SW SZ:Int)(n:Nat):Prop where
  imm:0<=x.imm/\x.imm<=4294967295
  op:(x.op=0)\/(x.op=1/\x.imm<SW)\/(x.op=2/\x.imm<SZ)\/(x.op=3/\16<=x.imm/\x.imm<=23)\/(x.op=4/\((16<=x.imm/\x.imm<=23)\/x.imm=25))
  ab:x.op=3\/x.op=4->(0<=x.a/\x.a<n)/\(0<=x.b/\x.b<n)
theorem UP.one{D Rr V:Li}{SW SZ:Int}{n:Nat}{x:II}(h:UP C k (rA SW SZ pl n x++l) R W M)(hx:x.ok SW SZ n)(hb:RO D Rr SW SZ R W)(hD:We D)(hR:We Rr)(hV:We V)
    (hn:pl.has n) (hab:x.op=3\/x.op=4->(pl.has x.a/\Lo pl R W x.a (V.getD x.a.toNat 0))/\(pl.has x.b/\Lo pl R W x.b (V.getD x.b.toNat 0))):
    ∃k' R' W',UP C k' l R' W' M/\Lo pl R' W' n (lz D Rr V x)/\RO D Rr SW SZ R' W'/\(∀j,j<7->(pl.inR n=true->j≠(pl.r n).toNat)->R'.getD j 0=R.getD j 0)/\(∀j,(pl.inR n=true\/j≠64+(pl.s n).toNat)->W'.getD j 0=W.getD j 0):=by
  obtain⟨rd,hrd,hrd2⟩:=mO hn (into:=9) O;have hrd:eQ pl n 9=(rd:Int):=hrd;have hrd10:rd<10:=by rcases hrd2 with⟨h1, -⟩|⟨h1, -⟩<;>omega
  have fin:∀(k1:Nat) (R1:Li) (v:Int),UP C k1 (jv pl n (eQ pl n 9)++l) R1 W M->R1.getD rd 0=v->(0<=v/\v<=4294967295)->(∀j,j≠rd->(j<7\/13<=j)->R1.getD j 0=R.getD j 0)->
      ∃k' R' W',UP C k' l R' W' M/\Lo pl R' W' n v/\RO D Rr SW SZ R' W'/\(∀j,j<7->(pl.inR n=true->j≠(pl.r n).toNat)->R'.getD j 0=R.getD j 0)/\(∀j,(pl.inR n=true\/j≠64+(pl.s n).toNat)->W'.getD j 0=W.getD j 0):=λk1 R1 v g hv hv2 hs=>by
    obtain⟨k2,W2,g1,g2,g3⟩:=UP.To g hn hrd (by grind [hb.z]) hv hv2;have hw:∀j,j<64->W2.getD j 0=W.getD j 0:=λj hj=>g3 j (by
      omega)
    refine⟨k2,R1,W2,g1,g2,hb.mono (λj hj=>hs j O O) hw,λj hj hne=>?_,g3⟩
    grind
  have hap:∀m:List HI,UP C k (m++(jv pl n (eQ pl n 9)++l)) R W M<->UP C k ((m++jv pl n (eQ pl n 9))++l) R W M:=λm=>by grind
  have two:∀m:List HI,(x.op=3\/x.op=4)->UP C k (kr pl x.a 7++(kr pl x.b 8++m)) R W M->∃(k1:Nat) (R1:Li) (ra rb a b:Nat),UP C k1 m R1 W M/\eQ pl x.a 7=ra/\eQ pl x.b 8=rb/\ra<9/\rb<9/\R1.getD ra 0=(a:Int)/\R1.getD rb 0=(b:Int)/\
      V.getD x.a.toNat 0=(a:Int)/\V.getD x.b.toNat 0=(b:Int)/\a<4294967296/\b<4294967296/\la [7,8] R R1:=λm ho g=>by
    obtain⟨⟨h1,h2⟩,h3,h4⟩:=hab ho;obtain⟨ra,e1,e2⟩:=mO h1 (into:=7) O;obtain⟨rb,e3,e4⟩:=mO h3 (into:=8) O;have e1:eQ pl x.a 7=(ra:Int):=e1;have e3:eQ pl x.b 8=(rb:Int):=e3;obtain⟨a,a1,a2⟩:=nj hV x.a.toNat;obtain⟨b,b1,b2⟩:=nj hV x.b.toNat;rw[a1]at h2;rw[b1]at h4;obtain⟨k1,R1,g1,g2,g3⟩:=UP.get (into:=7) g h1 O e1 hb.z h2;have h4':Lo pl R1 W x.b b:=by
      refine⟨λhi=>?_,h4.2⟩;rcases h3 with⟨q1,q2⟩|⟨q1, -⟩
      . rw[g3 _ ?_]
        . exact h4.1 hi
        grind
      grind
    obtain⟨k2,R2,p1,p2,p3⟩:=UP.get (into:=8) g1 h3 O e3 (by rw[g3 15 ne,hb.z]) h4';refine⟨k2,R2,ra,rb,a,b,p1,e1,e3,?_,?_,?_,p2,a1,b1,a2,b2,g3.trans p3 bZ⟩
    . omega
    . omega
    rw[p3 ra bZ,g2]
  obtain⟨op,dst,xa,xb,imm⟩:=x;obtain⟨hi1,hi2⟩:=hx.imm;have hop:=hx.op;dsimp only at hop hi1 hi2 two hab;rcases hop with rfl|⟨rfl,h1⟩|⟨rfl,h1⟩|⟨rfl,h1⟩|⟨rfl,h1⟩
  . have g:UP C k (⟨1,(rd:Int),0,0,imm⟩::(jv pl n (eQ pl n 9)++l)) R W M:=by rw[<-hrd];exact(hap [⟨1,eQ pl n 9,0,0,imm⟩]).2 h
    exact fin _ _ imm g.li (de (by rw[h.rl];omega)) ⟨hi1,hi2⟩ (λj h1 _=>cM (λe=>h1 e.symm))
  . have g:UP C k (⟨14,(rd:Int),14,0,V9 .u32 (4+SW - 1 - imm)⟩::(jv pl n (eQ pl n 9)++l)) R W M:=by rw[<-hrd];exact(hap [_]).2 h
    obtain⟨n1,n2⟩:=hb.nd;have hd:=hb.d16;have g1:=UP.ld (rd:=rd) (ra:=14) (p:=4+(J D - 1 - imm.toNat)) g (by rw[hb.bd,au,aP];omega) O;have hv:W.getD (4+(J D - 1 - imm.toNat)) 0=D.getD (J D - 1 - imm.toNat) 0:=hb.d _ O;rw[hv]at g1;exact fin _ _ _ g1 (de (by rw[h.rl];omega)) (iY hD _) (λj h1 _=>cM (λe=>h1 e.symm))
  . have g:UP C k (⟨14,(rd:Int),13,0,V9 .u32 (20+SZ - 1 - imm)⟩::(jv pl n (eQ pl n 9)++l)) R W M:=by rw[<-hrd];exact(hap [_]).2 h
    obtain⟨n1,n2⟩:=hb.nr;have hd:=hb.r16;have g1:=UP.ld (rd:=rd) (ra:=13) (p:=20+(J Rr - 1 - imm.toNat)) g (by rw[hb.br,au,aP];omega) O;have hv:W.getD (20+(J Rr - 1 - imm.toNat)) 0=Rr.getD (J Rr - 1 - imm.toNat) 0:=hb.r _ O;rw[hv]at g1;exact fin _ _ _ g1 (de (by rw[h.rl];omega)) (iY hR _) (λj h1 _=>cM (λe=>h1 e.symm))
  . have g:UP C k (kr pl xa 7++(kr pl xb 8++(yc imm (eQ pl n 9) (eQ pl xa 7) (eQ pl xb 8)++(jv pl n (eQ pl n 9)++l)))) R W M:=by
      have e:rA SW SZ pl n ⟨3,dst,xa,xb,imm⟩++l=kr pl xa 7++(kr pl xb 8++(yc imm (eQ pl n 9) (eQ pl xa 7) (eQ pl xb 8)++(jv pl n (eQ pl n 9)++l))):=by
        show((kr pl xa 7++(kr pl xb 8++yc imm (eQ pl n 9) (eQ pl xa 7) (eQ pl xb 8)))++jv pl n (eQ pl n 9))++l=_;simp only[aw]
      rwa[e]at h
    obtain⟨k1,R1,ra,rb,a,b,g1,e1,e2,ha,hbb,ea,eb,va,vb,a2,b2,hs⟩:=two _ (Or.inl I) g;rw[e1,e2,hrd]at g1;obtain⟨k2,R2,p1,p2,p3⟩:=UP.alu (rd:=rd) (Or.inl h1) g1 O ea eb a2 b2;obtain⟨q,q1,q2⟩:=uc (Or.inl h1) a2 b2;have hv:lz D Rr V ⟨3,dst,xa,xb,imm⟩=wC imm a b:=by
      show(hI imm (V.getD xa.toNat 0) (V.getD xb.toNat 0)).1=_;rw[va,vb];unfold wC;rw[show(imm==25)=false by simp;omega];rfl
    rw[hv];exact fin _ _ _ (by rw[hrd];exact p1) p2 O (λj h1 h2=>by rw[p3 j ig,hs j ig])
  have g:UP C k (kr pl xa 7++(kr pl xb 8++(mP imm (eQ pl xa 7) (eQ pl xb 8)++(⟨2,eQ pl n 9,10,0,0⟩::(jv pl n (eQ pl n 9)++l))))) R W M:=by
    have e:rA SW SZ pl n ⟨4,dst,xa,xb,imm⟩++l=kr pl xa 7++(kr pl xb 8++(mP imm (eQ pl xa 7) (eQ pl xb 8)++(⟨2,eQ pl n 9,10,0,0⟩::(jv pl n (eQ pl n 9)++l)))):=by
      show((kr pl xa 7++(kr pl xb 8++(mP imm (eQ pl xa 7) (eQ pl xb 8)++[⟨2,eQ pl n 9,10,0,0⟩])))++jv pl n (eQ pl n 9))++l=_;simp only[aw,aU,aR]
    rwa[e]at h
  obtain⟨k1,R1,ra,rb,a,b,g1,e1,e2,ha,hbb,ea,eb,va,vb,a2,b2,hs⟩:=two _ (Or.inr I) g;rw[e1,e2]at g1;obtain⟨k2,R2,p1,p2,p3⟩:=UP.flag h1 g1 ha hbb (by rw[hs 15 ne,hb.z]) ea eb a2 b2;have hfl:=Ms a2 b2 h1;have hv:lz D Rr V ⟨4,dst,xa,xb,imm⟩=(hI imm a b).2.1:=by
    show(hI imm (V.getD xa.toNat 0) (V.getD xb.toNat 0)).2.1=_;rw[va,vb]
  rw[hv];rw[hrd]at p1;have p4:=UP.mov (rd:=rd) (ra:=10) p1;rw[p2]at p4;exact fin _ _ _ (by rw[hrd];exact p4) (de (by rw[p1.rl];omega)) O (λj h1 h2=>by rw[cM (λe=>h1 e.symm),p3 j ig,hs j ig])
end
section
variable{C l:List HI}{k:Nat}{R W:Li}{M:HM}{pl:Pl}{D Rr:Li}{SW SZ:Int}{T:Li}
variable{x:II}{n:Nat}
def Yp(SW SZ:Int)(code:List II):Prop:=∀(n:Nat) (x:II),code[n]? =some x->x.ok SW SZ n
variable{pre suf:List II}
theorem Yp.last(h:Yp SW SZ (pre++[x])):x.ok SW SZ (J pre):=h (J pre) x cJ
theorem UP.all{V:Li}{N:Nat}(hp:NU pl T N)(hD:We D)(hR:We Rr)(hV:We V):∀(suf:List II) (n:Nat) (k:Nat) (R W:Li),UP C k (ko SW SZ pl suf n++l) R W M->n+J suf=N->
  (∀i x,suf[i]? =some x->x.ok SW SZ (n+i)/\V.getD (n+i) 0=lz D Rr V x/\(x.op=3\/x.op=4->((n+i:Nat):Int)<=T.getD x.a.toNat 0/\((n+i:Nat):Int)<=T.getD x.b.toNat 0))->
  RO D Rr SW SZ R W->GD pl T V n R W->∃k' R' W',UP C k' l R' W' M/\RO D Rr SW SZ R' W'/\GD pl T V N R' W'/\∀j,j<64->W'.getD j 0=W.getD j 0
 |[],n,k,R,W,h,hN,hx,hb,hh=>⟨k,R,W,h,hb,bZ,λ_ _=>I⟩
 |x::suf,n,k,R,W,h,hN,hx,hb,hh=>by
  have hN':n+1+J suf=N:=by rw[<-hN];simp;omega
  obtain⟨x1,x2,x3⟩:=hx 0 x I;rw[Nat.add_zero]at x1 x2 x3;have h:UP C k (rA SW SZ pl n x++(ko SW SZ pl suf (n+1)++l)) R W M:=by
   have e:ko SW SZ pl (x::suf) n++l=rA SW SZ pl n x++(ko SW SZ pl suf (n+1)++l):=by show(rA SW SZ pl n x++ko SW SZ pl suf (n+1))++l=_;rw[aw]
   rwa[e]at h
  have hn:=hp.has n O;have hab:x.op=3\/x.op=4->(pl.has x.a/\Lo pl R W x.a (V.getD x.a.toNat 0))/\(pl.has x.b/\Lo pl R W x.b (V.getD x.b.toNat 0)):=λho=>by
   obtain⟨⟨a1,a2⟩,b1,b2⟩:=x1.ab ho;obtain⟨t1,t2⟩:=x3 ho;have ea:((x.a.toNat:Nat):Int)=x.a:=by omega
   have eb:((x.b.toNat:Nat):Int)=x.b:=by omega
   have ha:=hh x.a.toNat O t1;have hb:=hh x.b.toNat O t2;have pa:=hp.has x.a.toNat O;have pb:=hp.has x.b.toNat O
   grind
  obtain⟨k1,R1,W1,g1,g2,g3,g4,g5⟩:=UP.one h x1 hb hD hR hV hn hab;have hold:GD pl T V (n+1) R1 W1:=λa ha ht=>by
   by_cases e:a=n
   .grind
   have h1:=hh a O O;have hlt:a<n:=by omega
   refine⟨λhi=>?_,λhi=>?_⟩
   .rw[g4 _ ?_ ?_];exact h1.1 hi
    .rcases hp.has a (by omega)with⟨-,q⟩|⟨q, -⟩
     .omega
     grind
    intro hin e2;have:=hp.reg a n hlt O hi hin (by
     grind [Pl.inR])
    omega
   rw[g5 _ ?_];exact h1.2 hi;cases hin:pl.inR n with
   |true=>grind
   |false=>
    refine Or.inr λe2=>?_
    have s1:0<=pl.s a:=by rcases hp.has a (by omega)with⟨q, -⟩|⟨-,q, -⟩;rw[hi]at q;cases q;exact q
    have s2:0<=pl.s n:=by rcases hn with⟨q, -⟩|⟨-,q, -⟩;rw[hin]at q;cases q;exact q
    have:=hp.slot a n hlt O hi hin O;omega
  obtain⟨k2,R2,W2,q1,q2,q3,q4⟩:=UP.all hp hD hR hV suf (n+1) k1 R1 W1 g1 hN' (λi y hy=>by
   have:=hx (i+1) y bZ
   grind) g3 hold
  grind
end
end Go.Ink
namespace Go.Ink
open List renaming length→J, replicate→R9
open IntKind renaming wrap→V9
open Go.RowKit
variable{code:List II}
variable{n:Int}
theorem m6.TH{w:Lw}(h:m6 w)(l:Li)(hl:∀n,n∈l->II.in_ n w.code):m6 (w.TH l):=⟨λn hn=>by rcases aJ.1 hn with q|q;exact h.d n q;exact hl n q,h.r,h.wf,h.ops,h.flags,h.target,h.imm⟩
theorem m6.Uk{w:Lw}(h:m6 w)(l:Li)(hl:∀n,n∈l->II.in_ n w.code):m6 (w.Uk l):=⟨h.d,λn hn=>by rcases aJ.1 hn with q|q;exact h.r n q;exact hl n q,h.wf,h.ops,h.flags,h.target,h.imm⟩
theorem m6.add{w:Lw}(h:m6 w)(op a b imm:Int)(him:0<=imm/\imm<=4294967295)(ho:op=0\/((op=3\/op=4)/\II.in_ a w.code/\II.in_ b w.code)):m6 (w.add op a b imm)/\II.in_ w.here (w.add op a b imm).code:=by
 have he:∃e,(w.add op a b imm).code=w.code++e:=⟨_,I⟩;refine⟨⟨λn hn=>Iq (h.d n hn) he,λn hn=>Iq (h.r n hn) he,h.wf.snoc (λhab=>?_),h.ops.snoc ?_,HJ h.flags he,HJ h.target he,h.imm.snoc him⟩,pf _ _⟩
 .rcases ho with rfl|⟨-,⟨a1,a2⟩,b1,b2⟩
  .cases hab
  grind
 rcases ho with rfl|⟨rfl|rfl, -⟩
 .grind
 .exact Or.inr I
 exact Or.inr I
theorem m6.S5{w:Lw}(h:m6 w):m6 w.S5:=⟨h.d,h.r,h.wf,h.ops,h.flags,h.target,h.imm⟩
def nI(pc:Int)(w:Lw):List (Int×Int)->Option (Int×Lw)
 |[]=>some (pc,w)
 |i::l=>bif(!eJ i.1 i.2|| !dD i.1)||(gz i.1&& !l.isEmpty)then none else nI (V9 .u32 (pc+V9 .u32 (cB i.1))) (w.one i.1 i.2 (V9 .u32 (pc+V9 .u32 (cB i.1)))) l
def fK(pc:Int)(l:List (Int×Int)):Option Pg:=
 bif decide ((J l:Int)<1)||decide (8<(J l:Int))then none else
 match nI pc Lw.init l with
 |none=>none
 |some (nx,w)=>some (cG (y8 nx w (l.getLastD (0,0)) (J l)))
def vU(l:Li):Bool:=l.all λn=>decide (0<=n)&&decide (n<=16)
def Pg.TJ(p:Pg):Bool:=vU [p.SW,p.SZ,p.Tw,p.Tx]&&(!decide (p.count<1)&& !decide (8<p.count))
def Pg.Tf(p:Pg):Bool:=p.TJ&&(jA p.SW p.SZ p.code 0&&((p.S9.all λn=>sS n (J p.code))&&((p.Ta.all λn=>sS n (J p.code))&&p.TI)))
end Go.Ink
namespace Go.Ink
open List renaming length→J, replicate→R9
open IntKind renaming wrap→V9
open Go.RowKit Go.Proofs.Tryz
abbrev HI.cells(i:HI):List Value:=[.i i.op,.i i.rd,.i i.ra,.i i.rb,.w i.imm]
abbrev XE(i:HI):Value:= .agg i.cells.toArray
variable{i:HI}{l:List HI}
section
attribute [local irreducible] Ve bN
theorem QK(i:HI)(w:World):CW prog 344 [XE i] w (.tuple #[XE (xL i).1,.bool (xL i).2]):=by
 refine UV func344 ntmps344 ?_;refine An ?_;refine ZO λb1=>?_;refine ZN λb2=>?_
 refine Va ?_;refine ZN λb4=>?_
 refine ZM ?_;refine fR ?_;refine ZW ?_ ?_<;>intro hc3
 .refine UU ?_;refine ij ?_;refine N2 ?_;refine⟨?_,I⟩;exact zY
  try exact rfl
 refine Wp ?_ ?_<;>intro hc4
 .refine ς ?_;refine UE 0 1 ?_;refine ZG 1 ?_;refine UE 2 4 ?_;refine Jc ?_;refine UE 4 1 ?_;refine cP 5 Zk (Ex ?_);refine UR ?_;refine UE 6 4 ?_;refine iK ?_;refine Ex ?_;refine UR ?_;refine I5 ?_;refine⟨?_,I⟩;exact zY
  try exact rfl
 refine Wp ?_ ?_<;>intro hc6
 .refine ς ?_;refine UE 0 1 ?_;refine ZG 1 ?_;refine UE 2 2 ?_;refine Jc ?_;refine UE 4 1 ?_;refine cP 5 Zk (Ex ?_);refine UR ?_;refine UE 6 2 ?_;refine iK ?_;refine Ex ?_;refine UR ?_;refine I5 ?_;refine⟨?_,I⟩;exact zY
  try exact rfl
 refine Ab ?_ ?_<;>intro hc8
 .refine χ ?_;refine UE 0 1 ?_;refine ZG 1 ?_;refine UE 2 2 ?_;refine Jc ?_;refine UE 4 3 ?_;refine δ ?_;refine UE 6 1 ?_;refine iK ?_;refine Ex ?_;refine UR ?_;refine UE 8 2 ?_;refine kt ?_;refine Ex ?_;refine UR ?_;refine UE 10 3 ?_;refine cP 11 Zk (Ex ?_);refine UR ?_;refine I5 ?_;refine⟨?_,I⟩;exact zY
  try exact rfl
 refine Wp ?_ ?_<;>intro hc10
 .refine χ ?_;refine UE 0 1 ?_;refine ZG 1 ?_;refine UE 2 2 ?_;refine Jc ?_;refine UE 4 4 ?_;refine δ ?_;refine UE 6 1 ?_;refine iK ?_;refine Ex ?_;refine UR ?_;refine UE 8 2 ?_;refine kt ?_;refine Ex ?_;refine UR ?_;refine UE 10 4 ?_;refine cP 11 Zk (Ex ?_);refine UR ?_;refine I5 ?_;refine⟨?_,I⟩;exact zY
  try exact rfl
 refine Wp ?_ ?_<;>intro hc12
 .refine χ ?_;refine UE 0 2 ?_;refine ZG 1 ?_;refine UE 2 3 ?_;refine Jc ?_;refine UE 4 4 ?_;refine δ ?_;refine UE 6 2 ?_;refine iK ?_;refine Ex ?_;refine UR ?_;refine UE 8 3 ?_;refine kt ?_;refine Ex ?_;refine UR ?_;refine UE 10 4 ?_;refine cP 11 Zk (Ex ?_);refine UR ?_;refine I5 ?_;refine⟨?_,I⟩;exact zY
  try exact rfl
 refine Ab ?_ ?_<;>intro hc14
 .refine ς ?_;refine UE 0 2 ?_;refine ZG 1 ?_;refine UE 2 4 ?_;refine Jc ?_;refine UE 4 2 ?_;refine cP 5 Zk (Ex ?_);refine UR ?_;refine UE 6 4 ?_;refine iK ?_;refine Ex ?_;refine UR ?_;refine I5 ?_;refine⟨?_,I⟩;exact zY
  try exact rfl
 refine Ab ?_ ?_<;>intro hc16
 .refine UK ?_;refine ZL ?_;refine UU ?_;refine ij ?_;refine N2 ?_;refine⟨?_,I⟩;exact zY
  try exact rfl
 refine UN ?_;refine jb ?_;refine N2 ?_;refine⟨?_,I⟩;exact zY
 try exact rfl
abbrev W7(A:Oa)(c:Nat)(l:List HI):bJ:=slv 370 5 A (J l) c (l.flatMap HI.cells)
structure HM.ok(m:HM):Prop where
 rl:J m.Tu=16
 wl:J m.words=256
 r:r64 m.Tu
 w:We m.words
 pc:0<=m.pc
end
end Go.Ink
namespace Go.Ink
open List renaming length→J, replicate→R9
open IntKind renaming wrap→V9
open Go.RowKit Go.Proofs.Tryz
variable{l:List (Int×Int)}{i:Int×Int}
section
attribute [local irreducible] Ve bN
variable{n:Nat}
def w7.cells(a:w7):List Value:=[.i a.kd,.i a.n,.w a.v,.w a.at_,.slice a.B (J a.bs) a.cb]
structure w7.ok(W:World)(a:w7):Prop where
 v:u32 a.v
 at_:u32 a.at_
 rd:Rd W .u8 a.B (J a.bs) a.cb a.bs
 bs:Vh a.bs
structure VB where
 room:Int
 l:List WR
 runs:List (Ky×Rn)
 last:Ky
 Ti:Int
 Tk:Int
 begun:Bool
def YI(E:VB)(t:WR)(r:Rn):VB:=
 let l':=uZ WR.key E.room E.l t
 let L:=dS E.runs t.key r
 {E with l:=l',runs:=bif decide (J l'<J L)then wK l' L else L}
def ML(E:VB)(SV:Li):VB:=
 let l':=E.l.filter λt=> !SV.contains (t.key.2/64)
 {E with l:=l',runs:=bif decide (J l'<J E.l)then wK l' E.runs else E.runs}
variable{α:Type}{key:α->Ky}{t:α}
def Good(t:WR)(r:Rn):Prop:=∃p il,fK t.key.1 il=some p/\p.Tf=true/\t.code=gC p (dU p)/\t.count=(J il:Int)/\lJ r.bytes 0 il (J r.bytes)/\(∀i,i∈il->u32 i.2)/\r.ends=gz (il.getLastD (0,0)).1
end
end Go.Ink
