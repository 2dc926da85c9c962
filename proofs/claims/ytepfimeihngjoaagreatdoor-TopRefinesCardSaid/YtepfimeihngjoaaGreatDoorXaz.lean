/- Lemmas. -/
import Derived.Test.YtepfimeihngjoaaGreatDoorXat
import Derived.Test.YtepfimeihngjoaaGreatDoorXau
import Derived.Test.YtepfimeihngjoaaGreatDoorXav
set_option linter.all false
set_option maxRecDepth 100000
set_option maxHeartbeats 4000000
namespace Go.Ink
open List renaming length→J, replicate→R9
open IntKind renaming wrap→V9
open Go.RowKit Go.Proofs.Tryz
section
attribute [local irreducible] Ve bN
variable{n b:Nat}
def dR(n:Nat)(Tc:Nat):Nat->St->Nat->UI->UF->St×UI×UF
 |0,s,_,U,d=>(s,U,d)
 |k+1,s,p,U,d=>match dL n U.m p with
  |none=>(s.next.S3 1 0,U,d)
  |some ((op,nn),sz)=>
   let q:=ls n s op nn U d
   bif jh op q.1 Tc s.pc then dR n Tc k q.1.s ((p+sz)%4294967296) q.2.1 q.2.2 else(q.1.s,q.2.1,q.2.2)
def cS(n:Nat)(s:St)(U:UI)(d:UF):St×UI×UF:=
 let b:=cI n s U d
 bif b.runs then dR n (b.place.toNat/64) 8 b.s b.place.toNat b.u b.d else(b.s,b.u,b.d)
def kJ(n:Nat)(m:Int)(from_:Int):Nat->St×UI×UF->St×UI×UF
 |0,q=>q
 |k+1,q=>bif decide (0<m)&& !q.1.halted&&decide (V9 .u64 (q.1.count - from_)<m)then kJ n m from_ k (cS n q.1 q.2.1 q.2.2)else q
variable{w:World}
variable{op:Int}
variable{p:Nat}
theorem Bj(br:Nat)(X:dz)(R:UG)(K:gi)(bx n:Nat)(U:UI)(b bd:Nat)(Z:dJ)(d:UF)(hM:Vc n U.m)(hT:J U.t=16)(hd:d.wf)(ho:J d.out<=1000000000)(pc nn:Int)(l:Li)(v va:Nat)(hv:v<=4294967295)(hva:va<=4294967295)(hl:J l<=100000)(hroot:u32 R.s.root)(hdv:R.device=false)
  (Ad Ar:Oa) (cd cr:Nat) (w:World) (hi:Inv w (bM (Vv br X (R.wd ((l++[(v:Int)])++[(va:Int)])).s false K bx n U b bd Z d)) (Vv br X (R.wd ((l++[(v:Int)])++[(va:Int)])).s false K bx n U b bd Z d) w)
  (h:∀w',dc (bM (Vv br X (R.wd ((l++[(v:Int)])++[(va:Int)])).s false K bx n U b bd Z d)) w w'->iL w' ((R.wd ((l++[(v:Int)])++[(va:Int)])).s.wpc pc) Ad Ar cd cr):
  UW prog 215 [sv ((R.wd ((l++[(v:Int)])++[(va:Int)])).s.wpc pc) Ad cd Ar cr,.agg #[.i 49,.w nn],.p bx,.p b,.p br] w (Vv br X (R.wd ((l++[(v:Int)])++[(va:Int)])).s false K bx n U b bd Z d)
   (Ji br K bx n b bd (eZ n (R.wd l) U d va v)):=by
 have hlen:J ((l++[(v:Int)])++[(va:Int)])=J l+2:=by simp
 have hdl:((R.wd ((l++[(v:Int)])++[(va:Int)])).s.wpc pc).d.length=J l+2:=hlen;obtain⟨ad,rfl⟩:=(h w (dc.refl _ _)).d.some_ (by rw[hdl];omega);have HW:=Be br X R K bx n U b bd Z d hM hT hd ho pc nn l v va hv hva hl hroot hdv (some ad) Ar cd cr;refine QU ?_;refine ZO λb5=>?_;refine ZO λb6=>?_
 refine Wq133 ?_;refine dZ (bO ir py) (jC (λw' hk=>(h w' hk).d) (cw (lW l (v:Int) (va:Int)))) I (r7 ?_);refine jS ?_;refine lN ?_;refine nW ?_;refine iS ?_;refine US ?_;refine gS (dh (Vv br X (R.wd ((l++[(v:Int)])++[(va:Int)])).s false K bx n U b bd Z d) I (λ_ _=>I) Zi (λw hi hin=>HW w hin (λw' hk=>h w' (oI hi.To hk)))) I ?_;rintro _ _ ⟨_,⟨X',x',Z',rfl,rfl,hz⟩,rfl⟩;refine Va ?_;refine bK (Vv br X' x' (eZ n (R.wd l) U d va v).r.device K bx n (eZ n (R.wd l) U d va v).u b bd Z' (eZ n (R.wd l) U d va v).d) Zj (Xo ?_);exact⟨X',x',Z',I,I,hz⟩
theorem sx(br:Nat)(X:dz)(R:UG)(K:gi)(bx n:Nat)(U:UI)(b bd:Nat)(Z:dJ)(d:UF)(hM:Vc n U.m)(hT:J U.t=16)(op:Int)(k:Nat)(hop:(op=50/\k=4)\/(op=52/\k=1))(pc nn:Int)(l:Li)(va:Nat)(hva:va<=4294967295)(hl:J l<=100000)(hroot:u32 R.s.root)(hdv:R.device=false)
  (Ad Ar:Oa) (cd cr:Nat) (w:World) (hi:Inv w (bM (Vv br X (R.wd (l++[(va:Int)])).s false K bx n U b bd Z d)) (Vv br X (R.wd (l++[(va:Int)])).s false K bx n U b bd Z d) w)
  (h:∀w',dc (bM (Vv br X (R.wd (l++[(va:Int)])).s false K bx n U b bd Z d)) w w'->iL w' ((R.wd (l++[(va:Int)])).s.wpc pc) Ad Ar cd cr):
  UW prog 215 [sv ((R.wd (l++[(va:Int)])).s.wpc pc) Ad cd Ar cr,.agg #[.i op,.w nn],.p bx,.p b,.p br] w (Vv br X (R.wd (l++[(va:Int)])).s false K bx n U b bd Z d)
   (Ji br K bx n b bd (eu.of (kj n (R.wd l) U va k) d)):=by
 have hk:1<=k/\k<=4:=by omega
 obtain⟨rt,hrt⟩:∃m:Nat,R.s.root=m:=aj hroot.1;have hrt2:(rt:Int)<=4294967295:=by rw[<-hrt];exact hroot.2
 have hlen:J (l++[(va:Int)])=J l+1:=by simp
 have hdl:((R.wd (l++[(va:Int)])).s.wpc pc).d.length=J l+1:=hlen;have hdl3:(⟨R.s.pc,l++[(va:Int)],R.s.r,R.s.flags,R.s.SQ,R.s.S1,R.s.ie,R.s.root,R.s.vec,R.s.epc,R.s.SU,R.s.addr,R.s.S6,R.s.eie,R.s.count,R.s.halted⟩:St).d.length=J l+1:=hlen;have hdl2:(R.wd (l++[(va:Int)])).s.d.length=J l+1:=hlen;obtain⟨ad,rfl⟩:=(h w (dc.refl _ _)).d.some_ (by rw[hdl];omega);have hsp:(R.wd l).sp=⟨R.s.S1,R.s.SQ,rt⟩:=by unfold UG.sp;exact Q0
 have HL:=Hl K bx n U hM hT R.s.S1 R.s.SQ rt va k O hva hk.1 hk.2;have hto:=De n U ⟨R.s.S1,R.s.SQ,rt⟩ va k 2;have hto2:(i6 n U ⟨R.s.S1,R.s.SQ,rt⟩ va k).1.2.SU=0->(i6 n U ⟨R.s.S1,R.s.SQ,rt⟩ va k).1.2=Tr.none:=hto;have hsm:kj n (R.wd l) U va k=(((R.wd l).wt (i6 n U ⟨R.s.S1,R.s.SQ,rt⟩ va k).1.2).push [(i6 n U ⟨R.s.S1,R.s.SQ,rt⟩ va k).1.1],(i6 n U ⟨R.s.S1,R.s.SQ,rt⟩ va k).2):=by unfold kj;rw[hsp]
 obtain⟨⟨⟨v1,tr⟩,U'⟩,hq⟩:=Do (i6 n U ⟨R.s.S1,R.s.SQ,rt⟩ va k);rw[hq]at HL hto2 hsm;rw[<-hrt]at HL;unfold Ji;rw[hsm];dsimp only at HL hto2;refine QU ?_;refine ZO λb5=>?_;refine ZO λb6=>?_
 refine jS ?_;refine UQ ?_;refine SK ?_;refine RD ?_;refine r7 ?_;refine US ?_;refine cj (λ_:Unit=>[(2,.p bx),(5,.p b5),(6,.p b6),(12,.p br),(13,.i ((R.wd (l++[(va:Int)])).s.wpc pc).d.length),(14,.w (va:Int)),(15,.i (k:Int))]) (λ_=>Vv br X (R.wd (l++[(va:Int)])).s false K bx n U b bd Z d++[row b5 (((R.wd (l++[(va:Int)])).s.wpc pc).cells (.slice (some ad) ((R.wd (l++[(va:Int)])).s.wpc pc).d.length cd) (.slice Ar (J R.s.r) cr)) 36,row b6 [.i op,.w nn] 51]) (λ_=>True) ?_ ?_
 .refine fR ?_;refine ZW ?_ ?_<;>intro hc7
  .exact Wx52_
  exact Wx60_
 rintro - -;refine mv ?_;refine cK I Q6 (nW ?_);refine bY I Q6 (gP ?_);refine Vq (VD K bx n U) (λw hi hin=>HL w hin) ?_;refine UN ?_;refine ZN λb17=>?_
 refine CG ?_;refine UR ?_;refine oU ?_ ?_<;>intro hc13
 .refine Zs (bQ (Vg []) Zk ?_);refine Q3 ?_;refine fh ?_;refine UK ?_;refine bK (Vv br X (R.wd (l++[(va:Int)])).s false K bx n U' b bd Z d) Zj (Xo ?_);refine⟨X,(R.wd (l++[(va:Int)])).s,Z,I,?_,λe=>by(have e:tr.SU=0:=e;rw[e]at hc13;cases hc13)⟩;show _=Vv br X (R.wd (l++[(va:Int)])).s R.device K bx n U' b bd Z d;rw[hdv]
  rfl
 obtain rfl:=hto2 (by simpa using hc13);obtain⟨XA,Xc,XB,Xd⟩:=X;refine eC (λw hi=>dA (hi.get (UJ (Vf (R.wd (l++[(va:Int)])).s XA Xc))) (show 0<J (l++[(va:Int)]) by omega)) (λhA=>?_);obtain⟨bd2,rfl⟩:=hA;refine U8 ?_;refine SK ?_;refine ZA ?_;refine Zy (cn (j:=J l) (sz:=1) (r:=J l) I ir (Zv I) (Zv I) UL UL O) ?_;refine z4 ?_;refine UR ?_;rw[eK,show(R.wd (l++[(va:Int)])).s.d.set (J l) v1=l++[v1]from yM l va v1];refine eL ?_;refine bK ([AY br ⟨some ⟨bd2,0,none⟩,Xc,XB,Xd⟩ (R.wd (l++[(va:Int)])).s false false,sl .u32 32 (sA bd2) (R.wd (l++[(va:Int)])).s.d.length Xc (l++[v1]),Vj R.s XB Xd]++(VD K bx n U'++eI b K.bm bd Z d)) Zj (Xo ?_);refine⟨⟨some ⟨bd2,0,none⟩,Xc,XB,Xd⟩,(R.wd (l++[v1])).s,Z,I,?_,λ_=>I⟩;show _=Vv br ⟨some ⟨bd2,0,none⟩,Xc,XB,Xd⟩ (R.wd (l++[v1])).s R.device K bx n U' b bd Z d;rw[hdv];exact Wq504
theorem y5(br:Nat)(X:dz)(R:UG)(K:gi)(bx n:Nat)(U:UI)(d:UF)(hT:J U.t=16)(op nn pc:Int)(h64:64<=op)(h69:op<=69)(hnu:u32 nn)(hw:∀x,x∈R.s.d->u32 x)(hdl:J R.s.d<=100000)(hrl:J R.s.r<=100000)(hn:(bV op).1.1<=J R.s.d)(ht:R.S3=Tr.none)(hdv:R.device=false)(hcn:R.count=R.s.count)
  (Ad Ar:Oa) (cd cr:Nat) (w:World) (hi:Inv w (bM (VY br X R.s false++VD K bx n U)) (VY br X R.s false++VD K bx n U) w)
  (h:∀w',dc (bM (VY br X R.s false++VD K bx n U)) w w'->iL w' (R.s.wpc pc) Ad Ar cd cr):
  UW prog 216 [sv (R.s.wpc pc) Ad cd Ar cr,.agg #[.i op,.w nn],.p bx,.p br] w (VY br X R.s false++VD K bx n U)
   (ReU br K bx n (cF n op nn ⟨R,U,d⟩)):=by
 have hnu1:=hnu.1;have hnu2:=hnu.2;unfold ReU;refine Vb func216 ntmps216 hi ?_;refine An ?_;refine ZO λb4=>?_;refine ZO λb5=>?_
 refine jS ?_;refine UH ?_ ?_<;>intro hc3
 .obtain rfl:=hH hc3;refine U8 ?_;refine XM ?_;refine⟨X,R.s,I,?_,λe=>by cases e⟩;show _=VY br X R.s R.device++VD K bx n U;rw[hdv]
  rfl
 refine UH ?_ ?_<;>intro hc5
 .obtain rfl:=hH hc5;have hm:cF n 65 nn ⟨R,U,d⟩=⟨R.ws R.s.back,U,d⟩:=rfl;rw[hm];refine UN ?_;refine Vl (λw hi=>Bi (R.s.wpc pc) Ad Ar cd cr w (h w hi.To)) ?_;rintro _ _ ⟨A1,c1,A2,c2,rfl,rfl⟩;refine ZA ?_;refine eA (gb (n:=16) (vs:=((R.s.wpc pc).back).cells (.slice A1 (J R.s.d) c1) (.slice A2 (J R.s.r) c2)) ir I I (jR I) Za I (by simp only[St.cells,aE,bD];omega)) ?_;refine UR ?_;refine eL ?_;refine bK (VY br ⟨A1,c1,A2,c2⟩ R.s.back false++VD K bx n U) Zj (XM ?_);refine⟨⟨A1,c1,A2,c2⟩,R.s.back,?_,?_,λ_=>I⟩
  .exact ζ
  show _=VY br ⟨A1,c1,A2,c2⟩ R.s.back R.device++VD K bx n U;rw[hdv];rfl
 refine UH ?_ ?_<;>intro hc7
 .obtain rfl:=hH hc7;have hm:cF n 66 nn ⟨R,U,d⟩=⟨R.push [((R.s.Ts R.count).get nn).1],U,d⟩:=rfl;rw[hm,hcn];have hgv:((R.s.wpc pc).get nn).1=((R.s.Ts R.s.count).get nn).1:=rfl;have HG:=Kv (R.s.wpc pc) (.slice Ad (J R.s.d) cd) (.slice Ar (J R.s.r) cr) nn;rw[hgv]at HG;obtain⟨gv,hgv2⟩:=Do (((R.s.Ts R.s.count).get nn).1);rw[hgv2]at HG|-;refine UQ ?_;refine Zy (cz I I (Zv I) (aQ _ ⟨by omega,by omega⟩)) ?_;refine UZ (λw hi=>HG w) ?_;refine kF ?_;refine jQ ?_;rintro _ _ ⟨b44,rfl,rfl⟩;refine gS (cC (e:=32) (sz:=1) (bytes:=4) I I Za I I (λw hi=>hi.rd (UJ (slv 32 1 (sA b44) 1 1 (ints .u32 [gv])))) cR gD O) I ?_;rintro _ _ ⟨A',c',rfl,rfl⟩;refine jO ?_;refine eL ?_;refine bK ([row br [.w R.s.pc,.slice A' (J R.s.d+1) c',.slice X.Ar (J R.s.r) X.cr,.w R.s.flags,.bool R.s.SQ,.bool R.s.S1,.bool R.s.ie,.w R.s.root,.w R.s.vec,.w R.s.epc,.w R.s.SU,.w R.s.addr,.bool R.s.S6,.bool R.s.eie,.int .u64 R.s.count,.bool R.s.halted,.bool false,.bool false,.slice none 0 0] 231,slv 32 1 A' (J R.s.d+1) c' (ints .u32 R.s.d++ints .u32 [gv]),Vj R.s X.Ar X.cr]++VD K bx n U) Zj (XM ?_);refine⟨⟨A',c',X.Ar,X.cr⟩,(R.push [gv]).s,?_,?_,λ_=>I⟩
  .exact ζ
  show _=VY br ⟨A',c',X.Ar,X.cr⟩ (R.wd (R.s.d++[gv])).s R.device++VD K bx n U;rw[hdv];simp only[VY,AY,Vf,Vj,ar,cy,aE,bD,bC,aU,aR]
 refine UH ?_ ?_<;>intro hc10
 .obtain rfl:=hH hc10;obtain⟨R,l,x,rfl⟩:=UG.snoc (show 1<=J R.s.d from hn);have hx:=yd (l:=l) hw;have hlen:J (l++[x])=J l+1:=cJ;have hdl1:((R.wd (l++[x])).s.wpc pc).d.length=J l+1:=hlen;have hdl2:(R.wd (l++[x])).s.d.length=J l+1:=hlen;have hm:cF n 67 nn ⟨R.wd (l++[x]),U,d⟩=⟨(R.wd l).ws ((R.wd l).s.set nn x).1,bif nn==1||nn==2 then⟨U.m,cX⟩else U,d⟩:=(by show eu.mk _ _ _=_;rw[UG.pop_wd,UG.top_wd]);rw[hm];obtain⟨ad,rfl⟩:=(h w (dc.refl _ _)).d.some_ (by rw[hdl1];omega);have hrr:(R.wd (l++[x])).s.r.length<=100000:=hrl;have HS:=λXA XB Xc Xd w h=>Ku (R.wd (l++[x])).s XA XB Xc Xd nn x hx w h
  obtain⟨q1,q2⟩:=St.Ur (R.wd (l++[x])).s nn x;have hts:(((R.wd (l++[x])).s.set nn x).1).wd l=((R.wd l).s.set nn x).1:=set_wd R.s l (l++[x]) nn x;obtain⟨⟨t,tb⟩,hq⟩:=Do ((R.wd (l++[x])).s.set nn x);rw[hq]at HS q1 q2 hts;obtain⟨tpc,td,trr,tfl,tsu,tpg,tie,trt,tve,tep,tca,tad,tes,tei,tco,tha⟩:=t;obtain rfl:td=l++[x]:=q1;obtain rfl:trr=R.s.r:=q2;refine cj (λq:(Option Addr×Nat×Option Addr×Nat)×Nat=>[(2,.p bx),(3,.p br),(5,.p b5),(10,.i ((R.wd (l++[x])).s.wpc pc).d.length),(13,.p q.2)]) (λq=>VY br X (R.wd (l++[x])).s false++VD K bx n U++[row b5 [.i 67,.w nn] 51,row q.2 (St.cells ⟨tpc,l++[x],R.s.r,tfl,tsu,tpg,tie,trt,tve,tep,tca,tad,tes,tei,tco,tha⟩ (.slice q.1.1 (J (l++[x])) q.1.2.1) (.slice q.1.2.2.1 (J R.s.r) q.1.2.2.2)) 36,sl .u32 32 q.1.1 (J (l++[x])) q.1.2.1 (l++[x]),sl .u32 32 q.1.2.2.1 (J R.s.r) q.1.2.2.2 R.s.r]) (λ_=>True) ?_ ?_
  .refine bQ (Vg [17]) Zk (lO ?_);refine Vn 2 I (bX (vs:=St.cells (R.wd (l++[x])).s (.slice X.Ad (R.wd (l++[x])).s.d.length X.cd) (.slice X.Ar (R.wd (l++[x])).s.r.length X.cr)) ir ir py) (cq Zh I) ?_;refine UE 3 1 ?_;refine ZG 4 ?_;refine UY 5 I (cz I I (Zv I) (aQ _ ⟨by omega,by omega⟩)) ?_;refine UE 6 1 ?_;refine ZG 7 ?_;refine ZE 8 ?_;refine UY 9 I (ez (Zv I) (Zv I) (show _=(J l:Int)from by rw[hdl1];exact aQ _ ⟨by omega,by omega⟩|>.trans O)) ?_;refine UY 10 I (cZ (j:=J l) I ir (Zv I) (Zv I) UL UL) ?_;refine Vn 11 I (bO ir py) (jC (λw' hk=>(h w' hk).d) (cw (i3 l x))) ?_;refine pS 12 16 Zk ?_ ?_
   .refine Wq466 ?_;rintro _ _ ⟨_,⟨A1,c1,A2,c2,rfl,rfl⟩,rfl⟩;refine ZE 13 ?_;refine ZE 14 ?_;refine ZE 15 ?_;refine cP 16 Zk ?_;refine ZP λb13=>?_
    exact Wx40_
   refine ZP λb13=>?_
   refine cP 12 Zk (Wq466 ?_);rintro _ _ ⟨_,⟨A1,c1,A2,c2,rfl,rfl⟩,rfl⟩;refine ZE 13 ?_;refine ZE 14 ?_;refine ZE 15 ?_;exact Wx40_
  rintro⟨⟨A1,c1,A2,c2⟩,b13⟩ -;dsimp only;refine eC (λw hi=>dA (hi.get (UJ (sl .u32 32 A1 (J (l++[x])) c1 (l++[x])))) (show 0<J (l++[x]) by omega)) (λhA=>?_);obtain⟨bd2,rfl⟩:=hA;refine eC (λw hi=>(cY (hi.get (UJ (sl .u32 32 (sA bd2) (J (l++[x])) c1 (l++[x]))))).cap) (λhcap=>?_);refine UQ ?_;refine eA (gb (n:=16) (vs:=St.cells ⟨tpc,l++[x],R.s.r,tfl,tsu,tpg,tie,trt,tve,tep,tca,tad,tes,tei,tco,tha⟩ (.slice (sA bd2) (J (l++[x])) c1) (.slice A2 (J R.s.r) c2)) ir I I (jR I) Za I (by simp only[St.cells,aE,bD];omega)) ?_;refine UR ?_;refine eL ?_;refine Rq ?_;refine SJ ?_;refine wn ?_;refine ZW ?_ ?_<;>intro hc14
  .have hf:(nn==1||nn==2)=true:=(by simpa using hc14);rw[hf];refine ix ?_;refine An ?_;refine Vq ([fv bx K.bm U.t]) (λw hi hin=>Dy bx K.bm U.t hT w hin) ?_;refine Wq418 ?_;refine bK (VY br ⟨some ⟨bd2,0,none⟩,c1,A2,c2⟩ ⟨tpc,l,R.s.r,tfl,tsu,tpg,tie,trt,tve,tep,tca,tad,tes,tei,tco,tha⟩ false++VD K bx n ⟨U.m,cX⟩) Zj (XM ?_);refine⟨⟨some ⟨bd2,0,none⟩,c1,A2,c2⟩,⟨tpc,l,R.s.r,tfl,tsu,tpg,tie,trt,tve,tep,tca,tad,tes,tei,tco,tha⟩,?_,?_,λ_=>hts⟩
   .exact NM
   show _=VY br _ _ R.device++VD K bx n ⟨U.m,cX⟩;exact XU
  have hf:(nn==1||nn==2)=false:=(by simpa using hc14);rw[hf];refine fE ?_;refine Wq418 ?_;refine bK (VY br ⟨some ⟨bd2,0,none⟩,c1,A2,c2⟩ ⟨tpc,l,R.s.r,tfl,tsu,tpg,tie,trt,tve,tep,tca,tad,tes,tei,tco,tha⟩ false++VD K bx n U) Zj (XM ?_);refine⟨⟨some ⟨bd2,0,none⟩,c1,A2,c2⟩,⟨tpc,l,R.s.r,tfl,tsu,tpg,tie,trt,tve,tep,tca,tad,tes,tei,tco,tha⟩,?_,?_,λ_=>hts⟩
  .exact NM
  show _=VY br _ _ R.device++VD K bx n U;exact XU
 refine UH ?_ ?_<;>intro hc16
 .obtain rfl:=hH hc16;obtain⟨R,l,x,rfl⟩:=UG.snoc (show 1<=J R.s.d from hn);have hx:=yd (l:=l) hw;obtain⟨va,rfl⟩:∃va:Nat,x=va:=aj hx.1;have hva:va<=4294967295:=(by have:(va:Int)<=_:=hx.2;omega);have hlen:J (l++[(va:Int)])=J l+1:=cJ;have hdl1:((R.wd (l++[(va:Int)])).s.wpc pc).d.length=J l+1:=hlen;have hdl2:(R.wd (l++[(va:Int)])).s.d.length=J l+1:=hlen;have hm:cF n 68 nn ⟨R.wd (l++[(va:Int)]),U,d⟩=⟨R.wd l,⟨U.m,pv U.t va⟩,d⟩:=(by show eu.mk _ _ _=_;rw[UG.pop_wd,UG.top_wd,aV]);rw[hm];obtain⟨ad,rfl⟩:=(h w (dc.refl _ _)).d.some_ (by rw[hdl1];omega);obtain⟨XA,Xc,XB,Xd⟩:=X;refine US ?_;refine iS ?_;refine UQ ?_;refine Rq ?_;refine RD ?_;refine Vq ([fv bx K.bm U.t]) (λw hi hin=>Ho bx K.bm U.t hT va hva w hin) ?_;refine UN ?_;refine eU (λw hi=>dA (hi.get (UJ (Vf (R.wd (l++[(va:Int)])).s XA Xc))) (show 0<J (l++[(va:Int)]) by omega)) (λhA=>?_);obtain⟨bd2,rfl⟩:=hA;refine eU (λw hi=>(eO (hi.get (UJ (Vf (R.wd (l++[(va:Int)])).s (sA bd2) Xc)))).cap) (λhcap=>?_);have hcap:J (l++[(va:Int)])<=Xc:=hcap;have hcap2:J (l++[(va:Int)])<=(dz.mk (some ⟨bd2,0,none⟩) Xc XB Xd).cd:=hcap;refine UU ?_;refine Rq ?_;refine SJ ?_;refine eL ?_;refine iA (c:=Vf (R.wd (l++[(va:Int)])).s (sA bd2) Xc) (c':=Vf (R.wd l).s (sA bd2) Xc) Za I (λw h=>mV h) (bK (VY br ⟨some ⟨bd2,0,none⟩,Xc,XB,Xd⟩ (R.wd l).s false++VD K bx n ⟨U.m,pv U.t va⟩) Zj (XM ?_));refine⟨⟨some ⟨bd2,0,none⟩,Xc,XB,Xd⟩,(R.wd l).s,?_,?_,λ_=>I⟩
  .exact NM
  show _=VY br _ _ R.device++VD K bx n ⟨U.m,pv U.t va⟩;exact XU
 refine UH ?_ ?_<;>intro hc20
 .obtain rfl:=hH hc20;have hm:cF n 69 nn ⟨R,U,d⟩=⟨R.ws R.s.halt,U,d⟩:=rfl;rw[hm];refine UK ?_;refine ZL ?_;refine eL ?_;refine XM ?_;refine⟨X,R.s.halt,?_,?_,λ_=>I⟩
  .exact ζ
  show _=VY br X R.s.halt R.device++VD K bx n U;rw[hdv];rfl
 (simp only[bF,ne_eq]at hc3 hc5 hc7 hc10 hc16 hc20;omega)
def oT(n:Nat)(op nn:Int)(R:UG)(U:UI)(d:UF):eu:=
 match cV op nn R with
 |some R=>⟨R,U,d⟩
 |none=>bif(bW op nn R).1 then⟨(bW op nn R).2,U,d⟩else cF n op nn ⟨(bW op nn R).2,U,d⟩
theorem mid_act(n:Nat)(s:St)(op nn:Int)(U:UI)(d:UF):nF n s op nn U d=oT n op nn (fm s op) U d:=rfl
variable{nn:Int}
variable{R:UG}{U:UI}{d:UF}
theorem Nm{R':UG}(h:cV op nn R=some R'):oT n op nn R U d=⟨R',U,d⟩:=by unfold oT;rw[h]
theorem yg(h:9<=op)(h1:(bW op nn R).1=true):oT n op nn R U d=⟨(bW op nn R).2,U,d⟩:=by
 unfold oT;rw[AO h];simp only[h1,ah]
theorem Nn(h:41<=op):oT n op nn R U d=cF n op nn ⟨R,U,d⟩:=by
 unfold oT;rw[AO O,Hs h]
 rfl
theorem KZ(h:64<=op/\op<=69)(R:UG)(U:UI)(d:UF):(cF n op nn ⟨R,U,d⟩).d=d:=by
 obtain rfl|rfl|rfl|rfl|rfl|rfl:op=64\/op=65\/op=66\/op=67\/op=68\/op=69:=by omega
 all_goals rfl
theorem Dt(br:Nat)(X:dz)(R:UG)(K:gi)(bx n:Nat)(U:UI)(b bd:Nat)(Z:dJ)(d:UF)(hM:Vc n U.m)(hT:J U.t=16)(hd:d.wf)(ho:J d.out<=1000000000)(op nn pc:Int)(hop:48<=op/\op<=53)(hw:∀x,x∈R.s.d->u32 x)(hdl:J R.s.d<=100000)(hn:(bV op).1.1<=J R.s.d)(hroot:u32 R.s.root)(hdv:R.device=false)(hcn:R.count=R.s.count)
  (Ad Ar:Oa) (cd cr:Nat) (w:World) (hi:Inv w (bM (Vv br X R.s false K bx n U b bd Z d)) (Vv br X R.s false K bx n U b bd Z d) w)
  (h:∀w',dc (bM (Vv br X R.s false K bx n U b bd Z d)) w w'->iL w' (R.s.wpc pc) Ad Ar cd cr):
  UW prog 215 [sv (R.s.wpc pc) Ad cd Ar cr,.agg #[.i op,.w nn],.p bx,.p b,.p br] w (Vv br X R.s false K bx n U b bd Z d)
   (Ji br K bx n b bd (cF n op nn ⟨R,U,d⟩)):=by
 have one:(bV op).1.1=1->∃R0 l va,va<=4294967295/\J l<=100000/\R=UG.wd R0 (l++[((va:Nat):Int)]):=λe=>by
  obtain⟨R0,l,x,rfl⟩:=UG.snoc (show 1<=J R.s.d by omega);have hx:=yd (l:=l) hw;obtain⟨va,rfl⟩:∃va:Nat,x=va:=aj hx.1;have h2:(va:Int)<=_:=hx.2;have h3:J (l++[(va:Int)])<=100000:=hdl;exact⟨R0,l,va,by omega,by simp at h3;omega,rfl⟩
 have two:(bV op).1.1=2->∃R0 l v va,v<=4294967295/\va<=4294967295/\J l<=100000/\R=UG.wd R0 ((l++[((v:Nat):Int)])++[((va:Nat):Int)]):=λe=>by
  obtain⟨R0,l,y,x,rfl⟩:=UG.TF (show 2<=J R.s.d by omega);have hx:=yd (l:=l++[y]) hw;have hy:=yd (l:=l) (tA (l:=l++[y]) hw);obtain⟨va,rfl⟩:∃va:Nat,x=va:=aj hx.1;obtain⟨v,rfl⟩:∃v:Nat,y=v:=aj hy.1;have h2:(va:Int)<=_:=hx.2;have h4:(v:Int)<=_:=hy.2;have h3:J ((l++[(v:Int)])++[(va:Int)])<=100000:=hdl;exact⟨R0,l,v,va,by omega,by omega,by simp at h3;omega,rfl⟩
 obtain rfl|rfl|rfl|rfl|rfl|rfl:op=48\/op=49\/op=50\/op=51\/op=52\/op=53:=by omega
 .obtain⟨R,l,va,hva,hl,rfl⟩:=one I;have he:cF n 48 nn ⟨R.wd (l++[(va:Int)]),U,d⟩=eP n (R.wd l) U d va:=by show eP _ _ _ _ _=_;rw[UG.pop_wd,UG.top_wd];rfl
  rw[he];exact Bk br X R K bx n U b bd Z d hM hT hd pc nn l va hva hl hroot hdv hcn Ad Ar cd cr w hi h
 .obtain⟨R,l,v,va,hv,hva,hl,rfl⟩:=two I;have he:cF n 49 nn ⟨R.wd ((l++[(v:Int)])++[(va:Int)]),U,d⟩=eZ n (R.wd l) U d va v:=by show eZ _ _ _ _ _ _=_;exact I7
  rw[he];exact Bj br X R K bx n U b bd Z d hM hT hd ho pc nn l v va hv hva hl hroot hdv Ad Ar cd cr w hi h
 .obtain⟨R,l,va,hva,hl,rfl⟩:=one I;have he:cF n 50 nn ⟨R.wd (l++[(va:Int)]),U,d⟩=eu.of (kj n (R.wd l) U va 4) d:=by show eu.of (kj _ _ _ _ _) _=_;rw[UG.pop_wd,UG.top_wd];rfl
  rw[he];exact sx br X R K bx n U b bd Z d hM hT 50 4 (.inl ⟨I,I⟩) pc nn l va hva hl hroot hdv Ad Ar cd cr w hi h
 .obtain⟨R,l,v,va,hv,hva,hl,rfl⟩:=two I;have he:cF n 51 nn ⟨R.wd ((l++[(v:Int)])++[(va:Int)]),U,d⟩=eu.of (jX n (R.wd l) U va 4 v) d:=by show eu.of (jX _ _ _ _ _ _) _=_;exact I7
  rw[he];exact sw br X R K bx n U b bd Z d hM hT 51 4 (.inl ⟨I,I⟩) pc nn l v va hva hl hroot hdv Ad Ar cd cr w hi h
 .obtain⟨R,l,va,hva,hl,rfl⟩:=one I;have he:cF n 52 nn ⟨R.wd (l++[(va:Int)]),U,d⟩=eu.of (kj n (R.wd l) U va 1) d:=by show eu.of (kj _ _ _ _ _) _=_;rw[UG.pop_wd,UG.top_wd];rfl
  rw[he];exact sx br X R K bx n U b bd Z d hM hT 52 1 (.inr ⟨I,I⟩) pc nn l va hva hl hroot hdv Ad Ar cd cr w hi h
 obtain⟨R,l,v,va,hv,hva,hl,rfl⟩:=two I;have he:cF n 53 nn ⟨R.wd ((l++[(v:Int)])++[(va:Int)]),U,d⟩=eu.of (jX n (R.wd l) U va 1 v) d:=by show eu.of (jX _ _ _ _ _ _) _=_;exact I7
 rw[he];exact sw br X R K bx n U b bd Z d hM hT 53 1 (.inr ⟨I,I⟩) pc nn l v va hva hl hroot hdv Ad Ar cd cr w hi h
theorem Kz(br:Nat)(X:dz)(R:UG)(K:gi)(bx n:Nat)(U:UI)(b bd:Nat)(Z:dJ)(d:UF)(hM:Vc n U.m)(hT:J U.t=16)(hd:d.wf)(ho:J d.out<=1000000000)(op nn pc:Int)(hop:Sc op)(hnu:u32 nn)(hw:∀x,x∈R.s.d->u32 x)(hdl:J R.s.d<=100000)(hrl:J R.s.r<=100000)(hn:(bV op).1.1<=J R.s.d)(hnr:(bV op).2.1<=J R.s.r)(hroot:u32 R.s.root)(ht:R.S3=Tr.none)(hdv:R.device=false)(hcn:R.count=R.s.count)
  (Ad Ar:Oa) (cd cr:Nat) (w:World) (hi:Inv w (bM (Vv br X R.s false K bx n U b bd Z d)) (Vv br X R.s false K bx n U b bd Z d) w)
  (h:∀w',dc (bM (Vv br X R.s false K bx n U b bd Z d)) w w'->iL w' (R.s.wpc pc) Ad Ar cd cr):
  UW prog 167 [sv (R.s.wpc pc) Ad cd Ar cr,.agg #[.i op,.w nn],.p bx,.p b,.p br] w (Vv br X R.s false K bx n U b bd Z d)
   (Ji br K bx n b bd (oT n op nn R U d)):=by
 unfold Ji;refine Vb func167 ntmps167 hi ?_;refine An ?_;refine ZO λb5=>?_;refine ZO λb6=>?_
 refine jS ?_;refine oU ?_ ?_<;>intro hc4
 .have h8:0<=op/\op<=8:=(by simp only[ai]at hc4;unfold Sc at hop;omega);obtain⟨R',hst,htr,hde⟩:=G5 h8 nn R;rw[Nm hst];refine UN ?_;refine dH (VY br X R.s false) (λw hi hin=>Bg br X R false op nn h8.1 h8.2 hdl hrl hn hnr w hin) ?_;rintro _ _ ⟨X',rfl,rfl⟩;rw[show(cV op nn R).getD R=R' by rw[hst];rfl];refine eL ?_;refine bK (Vv br X' R'.s false K bx n U b bd Z d) Zj (Xo ?_);refine⟨X',R'.s,Z,?_,?_,λ_=>I⟩
  .show _=Value.tuple #[.i R'.S3.SU,.w R'.S3.addr];rw[htr,ht];rfl
  show _=Vv br X' R'.s R'.device K bx n U b bd Z d;rw[hde,hdv];rfl
 refine Wp ?_ ?_<;>intro hc6
 .simp only[ai]at hc6;simp only[aa]at hc4;have h25:16<=op/\op<=25:=(by unfold Sc at hop;omega);have hn2:=zl (op:=op) (by rw[ap h25.1,ap h25.2];rfl);rw[hn2]at hn;obtain⟨R,l,x,y,rfl⟩:=UG.TF hn;have hr1:=KC h25 nn R l x y;rw[yg O (by rw[hr1]),hr1];have hy:=yd (l:=l++[x]) hw;have hx:=yd (l:=l) (tA (l:=l++[x]) hw);have HA:=Kx op x y hx hy;obtain⟨⟨v1,fl1,ok1⟩,hq⟩:=Do (hI op x y);rw[hq]at HA|-;dsimp only at HA|-;have hlen:J ((l++[x])++[y])=J l+2:=cJ;have hdl1:((R.wd ((l++[x])++[y])).s.wpc pc).d.length=J l+2:=hlen;have hdl2:(R.wd ((l++[x])++[y])).s.d.length=J l+2:=hlen;obtain⟨ad,rfl⟩:=(h w (dc.refl _ _)).d.some_ (by rw[hdl1];omega);obtain⟨XA,Xc,XB,Xd⟩:=X;refine Zs (bQ (Vg []) Zk ?_);refine UE 0 0 ?_;refine ZG 1 ?_;refine UE 2 1 ?_;refine ZG 3 ?_;refine ZE 4 ?_;refine UY 5 I (ez (Zv I) (Zv I) (show _=(J l:Int)from by rw[hdl1];exact aQ _ ⟨by omega,by omega⟩|>.trans O)) ?_;refine UY 6 I (cZ (j:=J l) I ir (Zv I) (Zv I) UL UL) ?_;refine Vn 7 I (bO ir py) (jC (λw' hk=>(h w' hk).d) (cw (lX l x y))) ?_;refine UE 8 1 ?_;refine ZG 9 ?_;refine ZE 10 ?_;refine UY 11 I (ez (Zv I) (Zv I) (show _=((J l+1:Nat):Int)from by rw[hdl1];exact aQ _ ⟨by omega,by omega⟩|>.trans O)) ?_;refine UY 12 I (cZ (j:=(J l+1)) I ir (Zv I) (Zv I) UL UL) ?_;refine Vn 13 I (bO ir py) (jC (λw' hk=>(h w' hk).d) (cw (lW l x y))) ?_;refine ku ?_;refine V1 (λw hi=>HA w) ?_;refine UR ?_;refine ZE 15 ?_;refine ZE 16 ?_;refine ZE 17 ?_;refine ZE 18 ?_;refine ZE 19 ?_;refine ZE 20 ?_;refine ZE 21 ?_;refine fh ?_;refine Wp ?_ ?_<;>intro hc8
  .have hk:ok1=false:=(by simpa using hc8);subst hk;refine eL ?_;refine Xo ?_;refine⟨⟨XA,Xc,XB,Xd⟩,(R.wd ((l++[x])++[y])).s,Z,?_,?_,?_⟩
   .cases hb:(op !=25)<;>rfl
   .cases hb:(op !=25)<;>(show _=Vv br _ _ R.device K bx n U b bd Z d)<;>rw[show R.device=false from hdv]<;>rfl
   cases hb:(op !=25)<;>exact λe=>by cases e
  have hk:ok1=true:=(by simpa using hc8);subst hk;refine ix ?_;refine eC (λw hi=>dA (hi.get (UJ (Vf (R.wd ((l++[x])++[y])).s XA Xc))) (show 0<J ((l++[x])++[y]) by omega)) (λhA=>?_);obtain⟨bd2,rfl⟩:=hA;refine eC (λw hi=>(eO (hi.get (UJ (Vf (R.wd ((l++[x])++[y])).s (sA bd2) Xc)))).cap) (λhcap=>?_);have hcap:J ((l++[x])++[y])<=Xc:=hcap;have hcap2:J ((l++[x])++[y])<=(dz.mk (some ⟨bd2,0,none⟩) Xc XB Xd).cd:=hcap;refine Va ?_;refine ZL ?_;refine eL ?_;refine Rq ?_;refine SJ ?_;refine UK ?_;refine pt (c:=Vf (R.wd ((l++[x])++[y])).s (sA bd2) Xc) (c':=sl .u32 32 (sA bd2) (J l) Xc l) Za I (λw h=>mV (mV h)) (Wh ?_ ?_)<;>intro hc12
  .rw[hc12];refine ix ?_;refine US ?_;refine jQ ?_;rintro _ _ ⟨b85,rfl,rfl⟩;refine gS (cC (e:=32) (sz:=1) (bytes:=4) I I Za I I (λw hi=>hi.rd (UJ (slv 32 1 (sA b85) 1 1 (ints .u32 [v1])))) cR gD O) I ?_;rintro _ _ ⟨A',c',rfl,rfl⟩;refine jO ?_;refine eL ?_;refine bK ([row br [.w R.s.pc,.slice A' (J l+1) c',.slice XB (J R.s.r) Xd,.w fl1,.bool R.s.SQ,.bool R.s.S1,.bool R.s.ie,.w R.s.root,.w R.s.vec,.w R.s.epc,.w R.s.SU,.w R.s.addr,.bool R.s.S6,.bool R.s.eie,.int .u64 R.s.count,.bool R.s.halted,.bool false,.bool false,.slice none 0 0] 231,slv 32 1 A' (J l+1) c' (ints .u32 l++ints .u32 [v1]),Vj R.s XB Xd]++(VD K bx n U++eI b K.bm bd Z d)) Zj (Xo ?_);refine⟨⟨A',c',XB,Xd⟩,(((R.wd l).wfl fl1).push [v1]).s,Z,?_,?_,λ_=>I⟩
   .exact NM
   show _=Vv br ⟨A',c',XB,Xd⟩ ((R.wfl fl1).wd (l++[v1])).s R.device K bx n U b bd Z d;rw[show R.device=false from hdv];simp only[Vv,VY,AY,Vf,Vj,ar,cy,aE,bD,bC,aU,aR]
  rw[hc12];refine fE ?_;refine eL ?_;refine bK (Vv br ⟨some ⟨bd2,0,none⟩,Xc,XB,Xd⟩ ((R.wfl fl1).wd l).s false K bx n U b bd Z d) Zj (Xo ?_);refine⟨⟨some ⟨bd2,0,none⟩,Xc,XB,Xd⟩,((R.wfl fl1).wd l).s,Z,?_,?_,λ_=>I⟩
  .exact NM
  show _=Vv br _ _ R.device K bx n U b bd Z d;exact XU
 refine Wp ?_ ?_<;>intro hc14
 .simp only[ai]at hc14;simp only[aa]at hc4 hc6;have h40:32<=op/\op<=40:=(by unfold Sc at hop;omega);obtain⟨j1,j2,j3⟩:=PR h40 nn R;rw[yg O j1];refine UN ?_;refine dH (VY br X R.s false) (λw hi hin=>Hm br X R false op nn hnu h40.1 h40.2 hdl hrl hn hnr w hin) ?_;rintro _ _ ⟨X',rfl,rfl⟩;refine eL ?_;refine bK (Vv br X' (bW op nn R).2.s false K bx n U b bd Z d) Zj (Xo ?_);refine⟨X',(bW op nn R).2.s,Z,?_,?_,λ_=>I⟩
  .show _=Value.tuple #[.i (bW op nn R).2.S3.SU,.w (bW op nn R).2.S3.addr];rw[j2,ht];rfl
  show _=Vv br X' (bW op nn R).2.s (bW op nn R).2.device K bx n U b bd Z d;rw[j3,hdv];rfl
 simp only[aa]at hc4 hc6 hc14;rw[Nn O];refine Wp ?_ ?_<;>intro hc16
 .simp only[ai]at hc16;have h53:48<=op/\op<=53:=(by unfold Sc at hop;omega);refine US ?_;refine dH (Vv br X R.s false K bx n U b bd Z d) (λw hi hin=>Dt br X R K bx n U b bd Z d hM hT hd ho op nn pc h53 hw hdl hn hroot hdv hcn Ad Ar cd cr w hin (λw' hk=>h w' (oI hi.To hk))) ?_;rintro _ _ ⟨X',x',Z',rfl,rfl,hz⟩;refine U8 ?_;refine bK (Vv br X' x' (cF n op nn ⟨R,U,d⟩).r.device K bx n (cF n op nn ⟨R,U,d⟩).u b bd Z' (cF n op nn ⟨R,U,d⟩).d) Zj (Xo ?_);exact⟨X',x',Z',I,I,hz⟩
 simp only[aa]at hc16;have h69:64<=op/\op<=69:=(by unfold Sc at hop;omega);have hmd:(cF n op nn ⟨R,U,d⟩).d=d:=KZ h69 R U d;refine UU ?_;refine dH (VY br X R.s false++VD K bx n U) (λw hi hin=>y5 br X R K bx n U d hT op nn pc h69.1 h69.2 hnu hw hdl hrl hn ht hdv hcn Ad Ar cd cr w hin (λw' hk=>h w' (oI hi.To (LL hk (λb hb=>by simp only[Vv,fg,aJ]at hb|-;rcases hb with hb|hb;exact .inl hb;exact .inr (.inl hb)))))) ?_;rintro _ _ ⟨X',x',rfl,rfl,hz⟩;refine U8 ?_;refine bK (Vv br X' x' (cF n op nn ⟨R,U,d⟩).r.device K bx n (cF n op nn ⟨R,U,d⟩).u b bd Z d) Zj (Xo ?_);exact⟨X',x',Z,I,by rw[hmd];rfl,hz⟩
section
variable{n:Nat}{op nn:Int}{R:UG}{U:UI}{d:UF}{c:Int}
theorem Pc:cF n op nn ⟨R.wc c,U,d⟩=(cF n op nn ⟨R,U,d⟩).wc c:=by
 have key:∀b (x y x' y':eu),x=x'.wc c->y=y'.wc c->(bif b then x else y)=(bif b then x' else y').wc c:=λb x y x' y' h1 h2=>by cases b<;>assumption
 unfold cF;refine key _ _ _ _ _ (lode_wc (R:=R.pop) _) (key _ _ _ _ _ (stow_wc (R:=R.pop.pop) _ _) (SM ?_));refine key _ _ _ _ _ I (key _ _ _ _ _ I (key _ _ _ _ _ I (key _ _ _ _ _ ?_ ?_)))
 .show eu.mk ((R.pop.wc c).ws ((R.pop.s.Ts c).set nn R.top).1) _ _=_;rw[set_wc]
 exact key _ _ _ _ _ I (key _ _ _ _ _ I I)
end
end
end Go.Ink
