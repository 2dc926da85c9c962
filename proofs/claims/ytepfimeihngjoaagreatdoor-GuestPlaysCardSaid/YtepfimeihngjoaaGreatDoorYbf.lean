/- Lemmas. -/
import Derived.Test.YtepfimeihngjoaaGreatDoorYbd
set_option linter.all false
set_option maxRecDepth 100000
set_option maxHeartbeats 4000000
namespace Go.Ink
open List renaming length→J
open IntKind renaming wrap→V9
open Go.RowKit Go.Proofs.Tryz
variable{i:Nat}
section
attribute [local irreducible] UL bM
variable{n v p:Nat}
theorem z7(br:Nat)(X:eN)(R:Um)(K:gb)(bx n:Nat)(U:Uo)(b bd:Nat)(Z:fv)(d:Un)(hM:UI n U.m)(hT:J U.t=16)(hd:d.wf)(ho:J d.out<=1000000000)(pc nn:Int)(l:Li)(v va:Nat)(hv:v<=4294967295)(hva:va<=4294967295)(hl:J l<=100000)(hroot:u32 R.s.root)(hdv:R.device=false)
  (Ad Ar:Oa) (cd cr:Nat) (w:World) (hi:Inv w (bK (U8 br X (R.wd ((l++[(v:Int)])++[(va:Int)])).s false K bx n U b bd Z d)) (U8 br X (R.wd ((l++[(v:Int)])++[(va:Int)])).s false K bx n U b bd Z d) w)
  (h:∀w',cX (bK (U8 br X (R.wd ((l++[(v:Int)])++[(va:Int)])).s false K bx n U b bd Z d)) w w'->kS w' ((R.wd ((l++[(v:Int)])++[(va:Int)])).s.wpc pc) Ad Ar cd cr):
  Uz prog 275 [sv ((R.wd ((l++[(v:Int)])++[(va:Int)])).s.wpc pc) Ad cd Ar cr,.agg #[.i 49,.w nn],.p bx,.p b,.p br] w (U8 br X (R.wd ((l++[(v:Int)])++[(va:Int)])).s false K bx n U b bd Z d)
   (IE br K bx n b bd (eM n (R.wd l) U d va v)):=by
 have hn:=hM.n64;obtain⟨rt,hrt⟩:∃m:Nat,R.s.root=m:=ai hroot.1;have hrt2:(rt:Int)<=4294967295:=by rw[<-hrt];exact hroot.2
 have hlen:J ((l++[(v:Int)])++[(va:Int)])=J l+2:=by simp
 have hdl:((R.wd ((l++[(v:Int)])++[(va:Int)])).s.wpc pc).d.length=J l+2:=hlen;have hdl2:(R.wd ((l++[(v:Int)])++[(va:Int)])).s.d.length=J l+2:=hlen;have hdl3:(⟨R.s.pc,(l++[(v:Int)])++[(va:Int)],R.s.r,R.s.flags,R.s.Sy,R.s.SJ,R.s.ie,R.s.root,R.s.vec,R.s.epc,R.s.SB,R.s.addr,R.s.SO,R.s.eie,R.s.count,R.s.halted⟩:St).d.length=J l+2:=hlen;obtain⟨ad,rfl⟩:=(h w (cX.refl _ _)).d.some_ (by rw[hdl];omega);have HP:=ky K bx n U hM hT R.s.SJ R.s.Sy rt va O hva 3;have hsp:(R.wd l).sp=⟨R.s.SJ,R.s.Sy,rt⟩:=by unfold Um.sp;exact QK
 have hpo:=eU n U ⟨R.s.SJ,R.s.Sy,rt⟩ va hva 3;have hto:=gq n U ⟨R.s.SJ,R.s.Sy,rt⟩ va 3;have hMo:=hM.Sz ⟨R.s.SJ,R.s.Sy,rt⟩ va 3 (hM.walk _ _ _ _);unfold IE;obtain⟨⟨⟨p,tr⟩,U'⟩,hp⟩:=Uk (Sz n U ⟨R.s.SJ,R.s.Sy,rt⟩ va 3);rw[hp]at HP hpo hto hMo;rw[<-hsp]at hp;rw[<-hrt]at HP;dsimp only at HP hpo hto hMo;obtain⟨p,rfl⟩:∃m:Nat,p=m:=ai hpo.1.1;have hpu:(p:Int)<=4294967295:=hpo.1.2;refine UH func275 ntmps275 hi ?_;refine py ?_;refine ZO λb5=>?_;refine ZO λb6=>?_
 refine η ?_;refine dW (bL ir ne) (jo (λw' hk=>(h w' hk).d) (bX (lQ l (v:Int) (va:Int)))) I (mU ?_);refine mV ?_;refine UG ?_;refine YX ?_;refine Vs ?_ ?_<;>intro hc7
 .rw[wA hc7];refine UE ?_;refine WT ?_;refine⟨X,(R.wd ((l++[(v:Int)])++[(va:Int)])).s,Z,I,?_,λe=>by cases e⟩;show _=U8 br X (R.wd ((l++[(v:Int)])++[(va:Int)])).s R.device K bx n U b bd Z d;rw[hdv]
  rfl
 refine iR ?_;refine U5 (Vc K bx n U) (λw hi hin=>HP w hin) ?_;refine Us ?_;refine ZN λb17=>?_
 refine BY ?_;refine Uw ?_;refine oI ?_ ?_<;>intro hc10
 .rw[tW hc7 hp hc10];refine Zs (bN (UK []) Zk ?_);refine vH ?_;refine Ld 2 1 ?_;refine sP ?_;refine fe ?_;refine Us ?_;refine bI (U8 br X (R.wd ((l++[(v:Int)])++[(va:Int)])).s false K bx n U' b bd Z d) Zj (WT ?_);exact⟨X,(R.wd ((l++[(v:Int)])++[(va:Int)])).s,Z,I,I,λe=>by(have e:tr.SB=0:=e;rw[e]at hc10;cases hc10)⟩
 obtain rfl:=hto (by simpa using hc10);have hP:=hpo.2 I;have hin4:p%64=va%64:=(by have:=hP.m;omega);have hva4:va%4=0:=(by have h1:((va%4:Nat):Int)=0:=(by simpa using hc7);omega);rw[zL hc7 hp];have hdn:=Sf hP hn;have hbig:¬(32768:Int)<=(p:Int)->p+4<=n*64:=(λhx=>by have:=pz (by unfold iv;rw[ao hx];rfl) hP;omega);refine UE ?_;refine YL ?_;refine ZA ?_;rw[hdn];obtain⟨dv,hdv2⟩:=Uk (decide ((32768:Int)<=(p:Int)));rw[hdv2];refine UE ?_;refine nQ ?_;refine jn ?_;refine cq (λq:fv×Uo×Un=>[(12,.p br),(13,.i ((J l+2:Nat):Int))]) (λq=>U8 br X (R.wd ((l++[(v:Int)])++[(va:Int)])).s dv K bx n q.2.1 b bd q.1 q.2.2) (λq=>(bif dv then(⟨bif !(bQ n U'.m d (iV p) v).1 then((R.wd l).wdv Tr.none true).wt ⟨10,va⟩else(R.wd l).wdv Tr.none true,⟨(bQ n U'.m d (iV p) v).2.1,U'.t⟩,(bQ n U'.m d (iV p) v).2.2⟩:ek)else⟨(R.wd l).wdv Tr.none false,⟨U'.m.Tm p v,U'.t⟩,d⟩)=⟨(R.wd l).wdv Tr.none dv,q.2.1,q.2.2⟩) ?_ ?_
 .refine VQ ?_ ?_<;>intro hc22
  .obtain rfl:dv=true:=hc22;refine gV ?_;have HB:=Aw b bd K n U'.m hMo Z d hd ho p v hv;obtain⟨⟨ok1,M1,d1⟩,hq1⟩:=Uk (bQ n U'.m d (iV p) v);rw[hq1]at HB|-;refine Ux ?_;refine Zy (eA (Zv I) (Zv I) (show _=(J l:Int)from by first|exact aN _ ⟨by omega,by omega⟩|>.trans O|(rw[hdl];exact aN _ ⟨by omega,by omega⟩|>.trans O))) ?_;refine Zy (cW (j:=J l) I ir (Zv I) (Zv I) Uq Uq) ?_;refine dW (bL ir ne) (jo (λw' hk=>(h w' hk).d) (bX (lR l (v:Int) (va:Int)))) I (dE (eW b K.bm bd Z d++VT K n U'.m) (λw hi hin=>HB w hin) ?_);rintro _ _ ⟨Z',rfl,rfl⟩;refine Vs ?_ ?_<;>intro hc23
   .have hk:ok1=false:=(by simpa using hc23);subst hk;refine eK ?_;refine bI (U8 br X (R.wd ((l++[(v:Int)])++[(va:Int)])).s true K bx n ⟨M1,U'.t⟩ b bd Z' d1) Zj (WT ?_);exact⟨X,(R.wd ((l++[(v:Int)])++[(va:Int)])).s,Z',I,I,λe=>by cases e⟩
   have hk:ok1=true:=(by simpa using hc23);subst hk;refine Zc (UN ((⟨Z',⟨M1,U'.t⟩,d1⟩:fv×Uo×Un)) I)
  obtain rfl:dv=false:=hc22;refine fy ?_;have hp4:=hbig (by simpa using hdv2);refine py ?_;refine iH (U8 br X (R.wd ((l++[(v:Int)])++[(va:Int)])).s false K bx n U' b bd Z d++[row b5 (((R.wd ((l++[(v:Int)])++[(va:Int)])).s.wpc pc).cells (.slice (some ad) ((R.wd ((l++[(v:Int)])++[(va:Int)])).s.wpc pc).d.length cd) (.slice Ar (J R.s.r) cr)) 36]) Zj (Ut ?_);refine UX (λk:Nat=>[(2,.p bx),(5,.p b5),(12,.p br),(13,.i ((J l+2:Nat):Int)),(16,.w (p:Int)),(21,.w (k:Int))]) (λk=>U8 br X (R.wd ((l++[(v:Int)])++[(va:Int)])).s false K bx n ⟨U'.m.SY p v k,U'.t⟩ b bd Z d++[row b5 (((R.wd ((l++[(v:Int)])++[(va:Int)])).s.wpc pc).cells (.slice (some ad) ((R.wd ((l++[(v:Int)])++[(va:Int)])).s.wpc pc).d.length cd) (.slice Ar (J R.s.r) cr)) 36]) (λk=>k<=4) (λk=>4 - k) (0) (ay _) ?_;rintro k hk;refine Vl ?_ ?_<;>intro hc26
  .simp only[ah]at hc26;have hk4:k<4:=O;refine Ut ?_;refine bN (UK [17]) Zk (rK ?_);refine sP ?_;refine UF 6 I (dr (Zv I) (Zv I) (show _=((p+k:Nat):Int)from(u32_wrap_id _ O O).trans O)) ?_;refine Ld 7 1 ?_;refine ZE 9 ?_;refine UF 10 I (eA (Zv I) (Zv I) (show _=(J l:Int)from aN _ ⟨by omega,by omega⟩|>.trans O)) ?_;refine ZE 13 ?_;refine UF 14 I (fL (Zv I) (Zv I) (show _=((8*k:Nat):Int)from(u32_wrap_id _ O O).trans O)) ?_;refine fS ?_;refine pE ?_;refine UF 11 I (cW (j:=J l) I ir (Zv I) (Zv I) Uq Uq) ?_;refine cQ 12 Zk (vQ I (bL ir ne) (jo (λw' hk=>(h w' hk).d) (bX (lR l (v:Int) (va:Int)))) I (UF 15 I (jH (Zv I) (Zv I) O I) ?_));refine UF 16 I (cA I I ne (ki (v:Int) hk4)) ?_;refine cQ 17 Zk (rH (VT K n (U'.m.SY p v k)) (λw hi hin=>jw K n (U'.m.SY p v k) (hMo.SY (v:Int) k O) (p+k) O (mj v k) w hin) ?_);refine Uw ?_;refine Zm ?_;refine UN (k+1) ⟨by show k+1<=4;omega,by show 4 - (k+1)<4 - k;omega⟩
  simp only[aa]at hc26;obtain rfl:k=4:=O;refine Ut ?_;refine UN ((⟨Z,⟨U'.m.SY p v 4,U'.t⟩,d⟩:fv×Uo×Un)) I
 rintro⟨Z',U2,d'⟩ hq;dsimp only at hq|-;rw[hq];obtain⟨XA,Xc,XB,Xd⟩:=X;refine eo (λw hi=>dp (hi.get (Ur (UP (R.wd ((l++[(v:Int)])++[(va:Int)])).s XA Xc))) (show 0<J ((l++[(v:Int)])++[(va:Int)]) by omega)) (λhA=>?_);obtain⟨bd2,rfl⟩:=hA;refine eo (λw hi=>(ee (hi.get (Ur (UP (R.wd ((l++[(v:Int)])++[(va:Int)])).s (sA bd2) Xc)))).cap) (λhcap=>?_);have hcap:J ((l++[(v:Int)])++[(va:Int)])<=Xc:=hcap;have hcap2:J ((l++[(v:Int)])++[(va:Int)])<=(eN.mk (some ⟨bd2,0,none⟩) Xc XB Xd).cd:=hcap;refine Ux ?_;refine Zy (eA (Zv I) (Zv I) (show _=(J l:Int)from aN _ ⟨by omega,by omega⟩|>.trans O)) ?_;refine Sq ?_;refine UE ?_;refine ig (c:=UP (R.wd ((l++[(v:Int)])++[(va:Int)])).s (sA bd2) Xc) (c':=UP (R.wd l).s (sA bd2) Xc) Za I (λw h=>mM (mM h)) (WT ?_);exact⟨⟨some ⟨bd2,0,none⟩,Xc,XB,Xd⟩,(R.wd l).s,Z',I,I,λ_=>I⟩
end
end Go.Ink
namespace Go.Ink
open List renaming length→J
open IntKind renaming wrap→V9
open Go.RowKit Go.Proofs.Tryz
theorem oD{S:List Nat}{w0 w w':World}(h:cX S w0 w)(h2:cX S w w'):cX S w0 w':=
 ⟨h2.os.trans h.os,h2.tape.trans h.tape,h2.output.trans h.output,aR h.size h2.size,λb hb hS=>(h2.block b (Nat.lt_of_lt_of_le hb h.size) hS).trans (h.block b hb hS)⟩
section
attribute [local irreducible] UL bM
theorem Aj(br:Nat)(X:eN)(R:Um)(K:gb)(bx n:Nat)(U:Uo)(b bd:Nat)(Z:fv)(d:Un)(hM:UI n U.m)(hT:J U.t=16)(hd:d.wf)(pc nn:Int)(l:Li)(va:Nat)(hva:va<=4294967295)(hl:J l<=100000)(hroot:u32 R.s.root)(hdv:R.device=false)(hcn:R.count=R.s.count)
  (Ad Ar:Oa) (cd cr:Nat) (w:World) (hi:Inv w (bK (U8 br X (R.wd (l++[(va:Int)])).s false K bx n U b bd Z d)) (U8 br X (R.wd (l++[(va:Int)])).s false K bx n U b bd Z d) w)
  (h:∀w',cX (bK (U8 br X (R.wd (l++[(va:Int)])).s false K bx n U b bd Z d)) w w'->kS w' ((R.wd (l++[(va:Int)])).s.wpc pc) Ad Ar cd cr):
  Uz prog 215 [sv ((R.wd (l++[(va:Int)])).s.wpc pc) Ad cd Ar cr,.agg #[.i 48,.w nn],.p bx,.p b,.p br] w (U8 br X (R.wd (l++[(va:Int)])).s false K bx n U b bd Z d)
   (IE br K bx n b bd (eI n (R.wd l) U d va)):=by
 have hlen:J (l++[(va:Int)])=J l+1:=by simp
 have hdl:((R.wd (l++[(va:Int)])).s.wpc pc).d.length=J l+1:=hlen;obtain⟨ad,rfl⟩:=(h w (cX.refl _ _)).d.some_ (by rw[hdl];omega);have HW:=z8 br X R K bx n U b bd Z d hM hT hd pc nn l va hva hl hroot hdv hcn (some ad) Ar cd cr;refine QC ?_;refine ZO λb5=>?_;refine ZO λb6=>?_
 refine jF ?_;refine Uu ?_;refine Sr ?_;refine Rt ?_;refine qB ?_;refine jF ?_;refine jn ?_;refine oQ ?_;refine mV ?_;refine Ux ?_;refine dE (U8 br X (R.wd (l++[(va:Int)])).s false K bx n U b bd Z d) (λw hi hin=>HW w hin (λw' hk=>h w' (oD hi.S1 hk))) ?_;rintro _ _ ⟨X',x',Z',rfl,rfl,hz⟩;refine UG ?_;refine bI (U8 br X' x' (eI n (R.wd l) U d va).r.device K bx n (eI n (R.wd l) U d va).u b bd Z' (eI n (R.wd l) U d va).d) Zj (WT ?_);exact⟨X',x',Z',I,I,hz⟩
theorem Ah(br:Nat)(X:eN)(R:Um)(K:gb)(bx n:Nat)(U:Uo)(b bd:Nat)(Z:fv)(d:Un)(hM:UI n U.m)(hT:J U.t=16)(hd:d.wf)(ho:J d.out<=1000000000)(pc nn:Int)(l:Li)(v va:Nat)(hv:v<=4294967295)(hva:va<=4294967295)(hl:J l<=100000)(hroot:u32 R.s.root)(hdv:R.device=false)
  (Ad Ar:Oa) (cd cr:Nat) (w:World) (hi:Inv w (bK (U8 br X (R.wd ((l++[(v:Int)])++[(va:Int)])).s false K bx n U b bd Z d)) (U8 br X (R.wd ((l++[(v:Int)])++[(va:Int)])).s false K bx n U b bd Z d) w)
  (h:∀w',cX (bK (U8 br X (R.wd ((l++[(v:Int)])++[(va:Int)])).s false K bx n U b bd Z d)) w w'->kS w' ((R.wd ((l++[(v:Int)])++[(va:Int)])).s.wpc pc) Ad Ar cd cr):
  Uz prog 215 [sv ((R.wd ((l++[(v:Int)])++[(va:Int)])).s.wpc pc) Ad cd Ar cr,.agg #[.i 49,.w nn],.p bx,.p b,.p br] w (U8 br X (R.wd ((l++[(v:Int)])++[(va:Int)])).s false K bx n U b bd Z d)
   (IE br K bx n b bd (eM n (R.wd l) U d va v)):=by
 have hlen:J ((l++[(v:Int)])++[(va:Int)])=J l+2:=by simp
 have hdl:((R.wd ((l++[(v:Int)])++[(va:Int)])).s.wpc pc).d.length=J l+2:=hlen;obtain⟨ad,rfl⟩:=(h w (cX.refl _ _)).d.some_ (by rw[hdl];omega);have HW:=z7 br X R K bx n U b bd Z d hM hT hd ho pc nn l v va hv hva hl hroot hdv (some ad) Ar cd cr;refine QC ?_;refine ZO λb5=>?_;refine ZO λb6=>?_
 refine η ?_;refine dW (bL ir ne) (jo (λw' hk=>(h w' hk).d) (bX (lQ l (v:Int) (va:Int)))) I (qB ?_);refine jF ?_;refine jn ?_;refine oQ ?_;refine mV ?_;refine Ux ?_;refine gJ (eE (U8 br X (R.wd ((l++[(v:Int)])++[(va:Int)])).s false K bx n U b bd Z d) I (λ_ _=>I) Zi (λw hi hin=>HW w hin (λw' hk=>h w' (oD hi.S1 hk)))) I ?_;rintro _ _ ⟨_,⟨X',x',Z',rfl,rfl,hz⟩,rfl⟩;refine UG ?_;refine bI (U8 br X' x' (eM n (R.wd l) U d va v).r.device K bx n (eM n (R.wd l) U d va v).u b bd Z' (eM n (R.wd l) U d va v).d) Zj (WT ?_);exact⟨X',x',Z',I,I,hz⟩
theorem rZ(br:Nat)(X:eN)(R:Um)(K:gb)(bx n:Nat)(U:Uo)(b bd:Nat)(Z:fv)(d:Un)(hM:UI n U.m)(hT:J U.t=16)(op:Int)(k:Nat)(hop:(op=50/\k=4)\/(op=52/\k=1))(pc nn:Int)(l:Li)(va:Nat)(hva:va<=4294967295)(hl:J l<=100000)(hroot:u32 R.s.root)(hdv:R.device=false)
  (Ad Ar:Oa) (cd cr:Nat) (w:World) (hi:Inv w (bK (U8 br X (R.wd (l++[(va:Int)])).s false K bx n U b bd Z d)) (U8 br X (R.wd (l++[(va:Int)])).s false K bx n U b bd Z d) w)
  (h:∀w',cX (bK (U8 br X (R.wd (l++[(va:Int)])).s false K bx n U b bd Z d)) w w'->kS w' ((R.wd (l++[(va:Int)])).s.wpc pc) Ad Ar cd cr):
  Uz prog 215 [sv ((R.wd (l++[(va:Int)])).s.wpc pc) Ad cd Ar cr,.agg #[.i op,.w nn],.p bx,.p b,.p br] w (U8 br X (R.wd (l++[(va:Int)])).s false K bx n U b bd Z d)
   (IE br K bx n b bd (ek.of (j0 n (R.wd l) U va k) d)):=by
 have hk:1<=k/\k<=4:=by omega
 obtain⟨rt,hrt⟩:∃m:Nat,R.s.root=m:=ai hroot.1;have hrt2:(rt:Int)<=4294967295:=by rw[<-hrt];exact hroot.2
 have hlen:J (l++[(va:Int)])=J l+1:=by simp
 have hdl:((R.wd (l++[(va:Int)])).s.wpc pc).d.length=J l+1:=hlen;have hdl3:(⟨R.s.pc,l++[(va:Int)],R.s.r,R.s.flags,R.s.Sy,R.s.SJ,R.s.ie,R.s.root,R.s.vec,R.s.epc,R.s.SB,R.s.addr,R.s.SO,R.s.eie,R.s.count,R.s.halted⟩:St).d.length=J l+1:=hlen;have hdl2:(R.wd (l++[(va:Int)])).s.d.length=J l+1:=hlen;obtain⟨ad,rfl⟩:=(h w (cX.refl _ _)).d.some_ (by rw[hdl];omega);have hsp:(R.wd l).sp=⟨R.s.SJ,R.s.Sy,rt⟩:=by unfold Um.sp;exact QK
 have HL:=GN K bx n U hM hT R.s.SJ R.s.Sy rt va k O hva hk.1 hk.2;have hto:=Cr n U ⟨R.s.SJ,R.s.Sy,rt⟩ va k 2;have hto2:(iN n U ⟨R.s.SJ,R.s.Sy,rt⟩ va k).1.2.SB=0->(iN n U ⟨R.s.SJ,R.s.Sy,rt⟩ va k).1.2=Tr.none:=hto;have hsm:j0 n (R.wd l) U va k=(((R.wd l).wt (iN n U ⟨R.s.SJ,R.s.Sy,rt⟩ va k).1.2).push [(iN n U ⟨R.s.SJ,R.s.Sy,rt⟩ va k).1.1],(iN n U ⟨R.s.SJ,R.s.Sy,rt⟩ va k).2):=by unfold j0;rw[hsp]
 obtain⟨⟨⟨v1,tr⟩,U'⟩,hq⟩:=Uk (iN n U ⟨R.s.SJ,R.s.Sy,rt⟩ va k);rw[hq]at HL hto2 hsm;rw[<-hrt]at HL;unfold IE;rw[hsm];dsimp only at HL hto2;refine QC ?_;refine ZO λb5=>?_;refine ZO λb6=>?_
 refine jF ?_;refine Uu ?_;refine Sr ?_;refine Rt ?_;refine qB ?_;refine Ux ?_;refine cq (λ_:Unit=>[(2,.p bx),(5,.p b5),(6,.p b6),(12,.p br),(13,.i ((R.wd (l++[(va:Int)])).s.wpc pc).d.length),(14,.w (va:Int)),(15,.i (k:Int))]) (λ_=>U8 br X (R.wd (l++[(va:Int)])).s false K bx n U b bd Z d++[row b5 (((R.wd (l++[(va:Int)])).s.wpc pc).cells (.slice (some ad) ((R.wd (l++[(va:Int)])).s.wpc pc).d.length cd) (.slice Ar (J R.s.r) cr)) 36,row b6 [.i op,.w nn] 51]) (λ_=>True) ?_ ?_
 .refine fo ?_;refine ZW ?_ ?_<;>intro hc7
  .exact Wx51_
  exact Wx59_
 rintro - -;refine iR ?_;refine cG I QT (oQ ?_);refine bV I QT (gX ?_);refine U5 (Vc K bx n U) (λw hi hin=>HL w hin) ?_;refine Us ?_;refine ZN λb17=>?_
 refine BY ?_;refine Uw ?_;refine oI ?_ ?_<;>intro hc13
 .refine Zs (bN (UK []) Zk ?_);refine vH ?_;refine Ld 2 1 ?_;refine sP ?_;refine fe ?_;refine Ut ?_;refine bI (U8 br X (R.wd (l++[(va:Int)])).s false K bx n U' b bd Z d) Zj (WT ?_);refine⟨X,(R.wd (l++[(va:Int)])).s,Z,I,?_,λe=>by(have e:tr.SB=0:=e;rw[e]at hc13;cases hc13)⟩;show _=U8 br X (R.wd (l++[(va:Int)])).s R.device K bx n U' b bd Z d;rw[hdv]
  rfl
 obtain rfl:=hto2 (by simpa using hc13);obtain⟨XA,Xc,XB,Xd⟩:=X;refine eo (λw hi=>dp (hi.get (Ur (UP (R.wd (l++[(va:Int)])).s XA Xc))) (show 0<J (l++[(va:Int)]) by omega)) (λhA=>?_);obtain⟨bd2,rfl⟩:=hA;refine UE ?_;refine Sr ?_;refine ZA ?_;refine Zy (bW (j:=J l) (sz:=1) (r:=J l) I ir (Zv I) (Zv I) Uq Uq O) ?_;refine zc ?_;refine Uw ?_;rw[eh,show(R.wd (l++[(va:Int)])).s.d.set (J l) v1=l++[v1]from xU l va v1];refine eK ?_;refine bI ([zW br ⟨some ⟨bd2,0,none⟩,Xc,XB,Xd⟩ (R.wd (l++[(va:Int)])).s false false,sl .u32 32 (sA bd2) (R.wd (l++[(va:Int)])).s.d.length Xc (l++[v1]),UU R.s XB Xd]++(Vc K bx n U'++eW b K.bm bd Z d)) Zj (WT ?_);refine⟨⟨some ⟨bd2,0,none⟩,Xc,XB,Xd⟩,(R.wd (l++[v1])).s,Z,I,?_,λ_=>I⟩;show _=U8 br ⟨some ⟨bd2,0,none⟩,Xc,XB,Xd⟩ (R.wd (l++[v1])).s R.device K bx n U' b bd Z d;rw[hdv];exact Wq474
theorem rY(br:Nat)(X:eN)(R:Um)(K:gb)(bx n:Nat)(U:Uo)(b bd:Nat)(Z:fv)(d:Un)(hM:UI n U.m)(hT:J U.t=16)(op:Int)(k:Nat)(hop:(op=51/\k=4)\/(op=53/\k=1))(pc nn:Int)(l:Li)(v:Int)(va:Nat)(hva:va<=4294967295)(hl:J l<=100000)(hroot:u32 R.s.root)(hdv:R.device=false)
  (Ad Ar:Oa) (cd cr:Nat) (w:World) (hi:Inv w (bK (U8 br X (R.wd ((l++[v])++[(va:Int)])).s false K bx n U b bd Z d)) (U8 br X (R.wd ((l++[v])++[(va:Int)])).s false K bx n U b bd Z d) w)
  (h:∀w',cX (bK (U8 br X (R.wd ((l++[v])++[(va:Int)])).s false K bx n U b bd Z d)) w w'->kS w' ((R.wd ((l++[v])++[(va:Int)])).s.wpc pc) Ad Ar cd cr):
  Uz prog 215 [sv ((R.wd ((l++[v])++[(va:Int)])).s.wpc pc) Ad cd Ar cr,.agg #[.i op,.w nn],.p bx,.p b,.p br] w (U8 br X (R.wd ((l++[v])++[(va:Int)])).s false K bx n U b bd Z d)
   (IE br K bx n b bd (ek.of (jJ n (R.wd l) U va k v) d)):=by
 have hk:1<=k/\k<=4:=by omega
 obtain⟨rt,hrt⟩:∃m:Nat,R.s.root=m:=ai hroot.1;have hrt2:(rt:Int)<=4294967295:=by rw[<-hrt];exact hroot.2
 have hlen:J ((l++[v])++[(va:Int)])=J l+2:=by simp
 have hdl:((R.wd ((l++[v])++[(va:Int)])).s.wpc pc).d.length=J l+2:=hlen;have hdl2:(R.wd ((l++[v])++[(va:Int)])).s.d.length=J l+2:=hlen;have hdl3:(⟨R.s.pc,(l++[v])++[(va:Int)],R.s.r,R.s.flags,R.s.Sy,R.s.SJ,R.s.ie,R.s.root,R.s.vec,R.s.epc,R.s.SB,R.s.addr,R.s.SO,R.s.eie,R.s.count,R.s.halted⟩:St).d.length=J l+2:=hlen;obtain⟨ad,rfl⟩:=(h w (cX.refl _ _)).d.some_ (by rw[hdl];omega);have hsp:(R.wd l).sp=⟨R.s.SJ,R.s.Sy,rt⟩:=by unfold Um.sp;exact QK
 have HL:=CC K bx n U hM hT R.s.SJ R.s.Sy rt va k v O hva hk.1 hk.2;have hsm:jJ n (R.wd l) U va k v=((R.wd l).wt (ja n U ⟨R.s.SJ,R.s.Sy,rt⟩ va k v).1,(ja n U ⟨R.s.SJ,R.s.Sy,rt⟩ va k v).2):=by unfold jJ;rw[hsp]
 obtain⟨⟨tr,U'⟩,hq⟩:=Uk (ja n U ⟨R.s.SJ,R.s.Sy,rt⟩ va k v);rw[hq]at HL hsm;rw[<-hrt]at HL;unfold IE;rw[hsm];dsimp only at HL;refine QC ?_;refine ZO λb5=>?_;refine ZO λb6=>?_
 refine η ?_;refine dW (bL ir ne) (jo (λw' hk=>(h w' hk).d) (bX (lQ l v (va:Int)))) I (qB ?_);refine Ux ?_;refine cq (λ_:Unit=>[(2,.p bx),(5,.p b5),(6,.p b6),(12,.p br),(13,.i ((R.wd ((l++[v])++[(va:Int)])).s.wpc pc).d.length),(14,.w (va:Int)),(15,.i (k:Int))]) (λ_=>U8 br X (R.wd ((l++[v])++[(va:Int)])).s false K bx n U b bd Z d++[row b5 (((R.wd ((l++[v])++[(va:Int)])).s.wpc pc).cells (.slice (some ad) ((R.wd ((l++[v])++[(va:Int)])).s.wpc pc).d.length cd) (.slice Ar (J R.s.r) cr)) 36,row b6 [.i op,.w nn] 51]) (λ_=>True) ?_ ?_
 .refine fo ?_;refine ZW ?_ ?_<;>intro hc7
  .exact Wx51_
  exact Wx59_
 rintro - -;refine iR ?_;refine cG I QT (oQ ?_);refine cG I QT (py ?_);refine cq (λb18:Nat=>[(12,.p br),(13,.i ((R.wd ((l++[v])++[(va:Int)])).s.wpc pc).d.length),(18,.p b18)]) (λb18=>U8 br X (R.wd ((l++[v])++[(va:Int)])).s false K bx n U' b bd Z d++[V8 b18 tr]) (λ_=>True) ?_ ?_
 .refine bN (Wz [15,17] (pk b5 (((R.wd ((l++[v])++[(va:Int)])).s.wpc pc).cells (.slice (some ad) ((R.wd ((l++[v])++[(va:Int)])).s.wpc pc).d.length cd) (.slice Ar (J R.s.r) cr)))) Zk (ZE 0 ?_);refine Ld 1 5 ?_;refine fD 2 I Zk Zk Zk (bL ir (Zv I)) XO (bO Zh) I (Ld 3 4 ?_);refine fD 4 I Zk Zk Zk (bL ir (Zv I)) XO (bO Zh) I (Ld 5 7 ?_);refine fD 6 I Zk Zk Zk (bL ir (Zv I)) XO (bO Zh) I (ZE 7 ?_);refine Ld 8 1 ?_;refine fD 9 I Zk Zk Zk (bL ir (Zv I)) XO (bO Zh) I (Wq402 ?_);refine UF 12 I (cW (j:=J l) I ir (Zv I) (Zv I) Uq Uq) ?_;refine US 13 I (bL ir ne) (jo (λw' hk=>(h w' hk).d) (bX (lR l v (va:Int)))) ?_;refine ZE 14 ?_;refine rU 15 16 Zk ?_ ?_
  .refine Wq423 ?_;refine Vb ?_;refine cQ 16 Zk (jX I I (tV ir I) (λ_=>by rintro _ _ ⟨b18,rfl,rfl⟩;exact bO Zh) I ?_);rintro _ _ ⟨b18,rfl,rfl⟩;refine Wq446 ?_;refine Uw ?_;refine fe ?_;refine UN (b18) iF
  refine jX I I (tV ir I) (λ_=>by rintro _ _ ⟨b18,rfl,rfl⟩;exact bO Zh) I ?_;rintro _ _ ⟨b18,rfl,rfl⟩;refine cQ 15 Zk (Wq423 ?_);refine Vb ?_;refine Wq446 ?_;refine Uw ?_;refine fe ?_;refine UN (b18) iF
 rintro b18 -;obtain⟨XA,Xc,XB,Xd⟩:=X;refine eo (λw hi=>dp (hi.get (Ur (UP (R.wd ((l++[v])++[(va:Int)])).s XA Xc))) (show 0<J ((l++[v])++[(va:Int)]) by omega)) (λhA=>?_);obtain⟨bd2,rfl⟩:=hA;refine eo (λw hi=>(ee (hi.get (Ur (UP (R.wd ((l++[v])++[(va:Int)])).s (sA bd2) Xc)))).cap) (λhcap=>?_);have hcap:J ((l++[v])++[(va:Int)])<=Xc:=hcap;have hcap2:J ((l++[v])++[(va:Int)])<=(eN.mk (some ⟨bd2,0,none⟩) Xc XB Xd).cd:=hcap;refine UG ?_;refine Sr ?_;refine Sq ?_;refine Us ?_;refine sS ?_;refine vH ?_;refine Ld 2 1 ?_;refine sP ?_;refine pI ?_;refine ig (c:=UP (R.wd ((l++[v])++[(va:Int)])).s (sA bd2) Xc) (c':=UP (R.wd l).s (sA bd2) Xc) Za I (λw h=>mM (mM h)) (WT ?_);refine⟨⟨some ⟨bd2,0,none⟩,Xc,XB,Xd⟩,(R.wd l).s,Z,I,?_,λ_=>I⟩;show _=U8 br ⟨some ⟨bd2,0,none⟩,Xc,XB,Xd⟩ (R.wd l).s R.device K bx n U' b bd Z d;rw[hdv]
 rfl
theorem set_wd(s:St)(l1 l2:Li)(nn v:Int):(((s.wd l2).set nn v).1).wd l1=((s.wd l1).set nn v).1:=by
 have key:∀c (a b a' b':St×Bool),a.1.wd l1=a'.1->b.1.wd l1=b'.1->(bif c then a else b:St×Bool).1.wd l1=(bif c then a' else b':St×Bool).1:=λc a b a' b' h1 h2=>by cases c<;>assumption
 exact Wx89_
def ReU(br:Nat)(K:gb)(bx n:Nat)(m:ek)(v:Value)(cs:List bH):Prop:=
 ∃X' x',v= .tuple #[.i m.r.SL.SB,.w m.r.SL.addr]/\cs=VC br X' x' m.r.device++Vc K bx n m.u/\(m.r.SL.SB=0->x'=m.r.s)
theorem yi(br:Nat)(X:eN)(R:Um)(K:gb)(bx n:Nat)(U:Uo)(d:Un)(hT:J U.t=16)(op nn pc:Int)(h64:64<=op)(h69:op<=69)(hnu:u32 nn)(hw:∀x,x∈R.s.d->u32 x)(hdl:J R.s.d<=100000)(hrl:J R.s.r<=100000)(hn:(bR op).1.1<=J R.s.d)(ht:R.SL=Tr.none)(hdv:R.device=false)(hcn:R.count=R.s.count)
  (Ad Ar:Oa) (cd cr:Nat) (w:World) (hi:Inv w (bK (VC br X R.s false++Vc K bx n U)) (VC br X R.s false++Vc K bx n U) w)
  (h:∀w',cX (bK (VC br X R.s false++Vc K bx n U)) w w'->kS w' (R.s.wpc pc) Ad Ar cd cr):
  Uz prog 216 [sv (R.s.wpc pc) Ad cd Ar cr,.agg #[.i op,.w nn],.p bx,.p br] w (VC br X R.s false++Vc K bx n U)
   (ReU br K bx n (cB n op nn ⟨R,U,d⟩)):=by
 have hnu1:=hnu.1;have hnu2:=hnu.2;unfold ReU;refine UH func216 ntmps216 hi ?_;refine py ?_;refine ZO λb4=>?_;refine ZO λb5=>?_
 refine jF ?_;refine Ul ?_ ?_<;>intro hc3
 .obtain rfl:=gO hc3;refine UE ?_;refine Xm ?_;refine⟨X,R.s,I,?_,λe=>by cases e⟩;show _=VC br X R.s R.device++Vc K bx n U;rw[hdv]
  rfl
 refine Ul ?_ ?_<;>intro hc5
 .obtain rfl:=gO hc5;have hm:cB n 65 nn ⟨R,U,d⟩=⟨R.ws R.s.back,U,d⟩:=rfl;rw[hm];refine Us ?_;refine UW (λw hi=>Ae (R.s.wpc pc) Ad Ar cd cr w (h w hi.S1)) ?_;rintro _ _ ⟨A1,c1,A2,c2,rfl,rfl⟩;refine ZA ?_;refine et (fN (n:=16) (vs:=((R.s.wpc pc).back).cells (.slice A1 (J R.s.d) c1) (.slice A2 (J R.s.r) c2)) ir I I (ka I) Za I (by simp only[St.cells,aE,bC];omega)) ?_;refine Uw ?_;refine eK ?_;refine bI (VC br ⟨A1,c1,A2,c2⟩ R.s.back false++Vc K bx n U) Zj (Xm ?_);refine⟨⟨A1,c1,A2,c2⟩,R.s.back,?_,?_,λ_=>I⟩
  .exact YQ
  show _=VC br ⟨A1,c1,A2,c2⟩ R.s.back R.device++Vc K bx n U;rw[hdv];rfl
 refine Ul ?_ ?_<;>intro hc7
 .obtain rfl:=gO hc7;have hm:cB n 66 nn ⟨R,U,d⟩=⟨R.push [((R.s.S5 R.count).get nn).1],U,d⟩:=rfl;rw[hm,hcn];have hgv:((R.s.wpc pc).get nn).1=((R.s.S5 R.s.count).get nn).1:=rfl;have HG:=JP (R.s.wpc pc) (.slice Ad (J R.s.d) cd) (.slice Ar (J R.s.r) cr) nn;rw[hgv]at HG;obtain⟨gv,hgv2⟩:=Uk (((R.s.S5 R.s.count).get nn).1);rw[hgv2]at HG|-;refine Uu ?_;refine Zy (cA I I (Zv I) (aN _ ⟨by omega,by omega⟩)) ?_;refine UD (λw hi=>HG w) ?_;refine jG ?_;refine jP ?_;rintro _ _ ⟨b44,rfl,rfl⟩;refine gJ (cu (e:=32) (sz:=1) (bytes:=4) I I Za I I (λw hi=>hi.rd (Ur (slv 32 1 (sA b44) 1 1 (ints .u32 [gv])))) cP gI O) I ?_;rintro _ _ ⟨A',c',rfl,rfl⟩;refine jD ?_;refine eK ?_;refine bI ([row br [.w R.s.pc,.slice A' (J R.s.d+1) c',.slice X.Ar (J R.s.r) X.cr,.w R.s.flags,.bool R.s.Sy,.bool R.s.SJ,.bool R.s.ie,.w R.s.root,.w R.s.vec,.w R.s.epc,.w R.s.SB,.w R.s.addr,.bool R.s.SO,.bool R.s.eie,.int .u64 R.s.count,.bool R.s.halted,.bool false,.bool false,.slice none 0 0] 231,slv 32 1 A' (J R.s.d+1) c' (ints .u32 R.s.d++ints .u32 [gv]),UU R.s X.Ar X.cr]++Vc K bx n U) Zj (Xm ?_);refine⟨⟨A',c',X.Ar,X.cr⟩,(R.push [gv]).s,?_,?_,λ_=>I⟩
  .exact YQ
  show _=VC br ⟨A',c',X.Ar,X.cr⟩ (R.wd (R.s.d++[gv])).s R.device++Vc K bx n U;rw[hdv];simp only[VC,zW,UP,UU,ar,bY,aE,bC,bA,aF,aJ]
 refine Ul ?_ ?_<;>intro hc10
 .obtain rfl:=gO hc10;obtain⟨R,l,x,rfl⟩:=Um.snoc (show 1<=J R.s.d from hn);have hx:=xn (l:=l) hw;have hlen:J (l++[x])=J l+1:=cE;have hdl1:((R.wd (l++[x])).s.wpc pc).d.length=J l+1:=hlen;have hdl2:(R.wd (l++[x])).s.d.length=J l+1:=hlen;have hm:cB n 67 nn ⟨R.wd (l++[x]),U,d⟩=⟨(R.wd l).ws ((R.wd l).s.set nn x).1,bif nn==1||nn==2 then⟨U.m,dA⟩else U,d⟩:=(by show ek.mk _ _ _=_;rw[Um.pop_wd,Um.top_wd]);rw[hm];obtain⟨ad,rfl⟩:=(h w (cX.refl _ _)).d.some_ (by rw[hdl1];omega);have hrr:(R.wd (l++[x])).s.r.length<=100000:=hrl;have HS:=λXA XB Xc Xd w h=>JO (R.wd (l++[x])).s XA XB Xc Xd nn x hx w h
  obtain⟨q1,q2⟩:=St.T5 (R.wd (l++[x])).s nn x;have hts:(((R.wd (l++[x])).s.set nn x).1).wd l=((R.wd l).s.set nn x).1:=set_wd R.s l (l++[x]) nn x;obtain⟨⟨t,tb⟩,hq⟩:=Uk ((R.wd (l++[x])).s.set nn x);rw[hq]at HS q1 q2 hts;obtain⟨tpc,td,trr,tfl,tsu,tpg,tie,trt,tve,tep,tca,tad,tes,tei,tco,tha⟩:=t;obtain rfl:td=l++[x]:=q1;obtain rfl:trr=R.s.r:=q2;refine cq (λq:(Option Addr×Nat×Option Addr×Nat)×Nat=>[(2,.p bx),(3,.p br),(5,.p b5),(10,.i ((R.wd (l++[x])).s.wpc pc).d.length),(13,.p q.2)]) (λq=>VC br X (R.wd (l++[x])).s false++Vc K bx n U++[row b5 [.i 67,.w nn] 51,row q.2 (St.cells ⟨tpc,l++[x],R.s.r,tfl,tsu,tpg,tie,trt,tve,tep,tca,tad,tes,tei,tco,tha⟩ (.slice q.1.1 (J (l++[x])) q.1.2.1) (.slice q.1.2.2.1 (J R.s.r) q.1.2.2.2)) 36,sl .u32 32 q.1.1 (J (l++[x])) q.1.2.1 (l++[x]),sl .u32 32 q.1.2.2.1 (J R.s.r) q.1.2.2.2 R.s.r]) (λ_=>True) ?_ ?_
  .refine bN (UK [17]) Zk (mW ?_);refine US 2 I (cj (vs:=St.cells (R.wd (l++[x])).s (.slice X.Ad (R.wd (l++[x])).s.d.length X.cd) (.slice X.Ar (R.wd (l++[x])).s.r.length X.cr)) ir ir ne) (cI Zh I) ?_;refine Ld 3 1 ?_;refine ZG 4 ?_;refine UF 5 I (cA I I (Zv I) (aN _ ⟨by omega,by omega⟩)) ?_;refine Ld 6 1 ?_;refine ZG 7 ?_;refine ZE 8 ?_;refine UF 9 I (eA (Zv I) (Zv I) (show _=(J l:Int)from by rw[hdl1];exact aN _ ⟨by omega,by omega⟩|>.trans O)) ?_;refine UF 10 I (cW (j:=J l) I ir (Zv I) (Zv I) Uq Uq) ?_;refine US 11 I (bL ir ne) (jo (λw' hk=>(h w' hk).d) (bX (gD l x))) ?_;refine rU 12 16 Zk ?_ ?_
   .refine Wq438 ?_;rintro _ _ ⟨_,⟨A1,c1,A2,c2,rfl,rfl⟩,rfl⟩;refine ZE 13 ?_;refine ZE 14 ?_;refine ZE 15 ?_;refine cQ 16 Zk ?_;refine ZP λb13=>?_
    exact Wx41_
   refine ZP λb13=>?_
   refine cQ 12 Zk (Wq438 ?_);rintro _ _ ⟨_,⟨A1,c1,A2,c2,rfl,rfl⟩,rfl⟩;refine ZE 13 ?_;refine ZE 14 ?_;refine ZE 15 ?_;exact Wx41_
  rintro⟨⟨A1,c1,A2,c2⟩,b13⟩ -;dsimp only;refine eo (λw hi=>dp (hi.get (Ur (sl .u32 32 A1 (J (l++[x])) c1 (l++[x])))) (show 0<J (l++[x]) by omega)) (λhA=>?_);obtain⟨bd2,rfl⟩:=hA;refine eo (λw hi=>(de (hi.get (Ur (sl .u32 32 (sA bd2) (J (l++[x])) c1 (l++[x]))))).cap) (λhcap=>?_);refine Uu ?_;refine et (fN (n:=16) (vs:=St.cells ⟨tpc,l++[x],R.s.r,tfl,tsu,tpg,tie,trt,tve,tep,tca,tad,tes,tei,tco,tha⟩ (.slice (sA bd2) (J (l++[x])) c1) (.slice A2 (J R.s.r) c2)) ir I I (ka I) Za I (by simp only[St.cells,aE,bC];omega)) ?_;refine Uw ?_;refine eK ?_;refine Rj ?_;refine Sq ?_;refine xt ?_;refine ZW ?_ ?_<;>intro hc14
  .have hf:(nn==1||nn==2)=true:=(by simpa using hc14);rw[hf];refine gV ?_;refine py ?_;refine U5 ([fw bx K.bm U.t]) (λw hi hin=>CL bx K.bm U.t hT w hin) ?_;refine Wq392 ?_;refine bI (VC br ⟨some ⟨bd2,0,none⟩,c1,A2,c2⟩ ⟨tpc,l,R.s.r,tfl,tsu,tpg,tie,trt,tve,tep,tca,tad,tes,tei,tco,tha⟩ false++Vc K bx n ⟨U.m,dA⟩) Zj (Xm ?_);refine⟨⟨some ⟨bd2,0,none⟩,c1,A2,c2⟩,⟨tpc,l,R.s.r,tfl,tsu,tpg,tie,trt,tve,tep,tca,tad,tes,tei,tco,tha⟩,?_,?_,λ_=>hts⟩
   .exact Nf
   show _=VC br _ _ R.device++Vc K bx n ⟨U.m,dA⟩;exact Xv
  have hf:(nn==1||nn==2)=false:=(by simpa using hc14);rw[hf];refine fy ?_;refine Wq392 ?_;refine bI (VC br ⟨some ⟨bd2,0,none⟩,c1,A2,c2⟩ ⟨tpc,l,R.s.r,tfl,tsu,tpg,tie,trt,tve,tep,tca,tad,tes,tei,tco,tha⟩ false++Vc K bx n U) Zj (Xm ?_);refine⟨⟨some ⟨bd2,0,none⟩,c1,A2,c2⟩,⟨tpc,l,R.s.r,tfl,tsu,tpg,tie,trt,tve,tep,tca,tad,tes,tei,tco,tha⟩,?_,?_,λ_=>hts⟩
  .exact Nf
  show _=VC br _ _ R.device++Vc K bx n U;exact Xv
 refine Ul ?_ ?_<;>intro hc16
 .obtain rfl:=gO hc16;obtain⟨R,l,x,rfl⟩:=Um.snoc (show 1<=J R.s.d from hn);have hx:=xn (l:=l) hw;obtain⟨va,rfl⟩:∃va:Nat,x=va:=ai hx.1;have hva:va<=4294967295:=(by have:(va:Int)<=_:=hx.2;omega);have hlen:J (l++[(va:Int)])=J l+1:=cE;have hdl1:((R.wd (l++[(va:Int)])).s.wpc pc).d.length=J l+1:=hlen;have hdl2:(R.wd (l++[(va:Int)])).s.d.length=J l+1:=hlen;have hm:cB n 68 nn ⟨R.wd (l++[(va:Int)]),U,d⟩=⟨R.wd l,⟨U.m,ph U.t va⟩,d⟩:=(by show ek.mk _ _ _=_;rw[Um.pop_wd,Um.top_wd,aP]);rw[hm];obtain⟨ad,rfl⟩:=(h w (cX.refl _ _)).d.some_ (by rw[hdl1];omega);obtain⟨XA,Xc,XB,Xd⟩:=X;refine Ux ?_;refine mV ?_;refine Uu ?_;refine Rj ?_;refine Rt ?_;refine U5 ([fw bx K.bm U.t]) (λw hi hin=>GQ bx K.bm U.t hT va hva w hin) ?_;refine Us ?_;refine eZ (λw hi=>dp (hi.get (Ur (UP (R.wd (l++[(va:Int)])).s XA Xc))) (show 0<J (l++[(va:Int)]) by omega)) (λhA=>?_);obtain⟨bd2,rfl⟩:=hA;refine eZ (λw hi=>(ee (hi.get (Ur (UP (R.wd (l++[(va:Int)])).s (sA bd2) Xc)))).cap) (λhcap=>?_);have hcap:J (l++[(va:Int)])<=Xc:=hcap;have hcap2:J (l++[(va:Int)])<=(eN.mk (some ⟨bd2,0,none⟩) Xc XB Xd).cd:=hcap;refine UA ?_;refine Rj ?_;refine Sq ?_;refine eK ?_;refine ig (c:=UP (R.wd (l++[(va:Int)])).s (sA bd2) Xc) (c':=UP (R.wd l).s (sA bd2) Xc) Za I (λw h=>mM h) (bI (VC br ⟨some ⟨bd2,0,none⟩,Xc,XB,Xd⟩ (R.wd l).s false++Vc K bx n ⟨U.m,ph U.t va⟩) Zj (Xm ?_));refine⟨⟨some ⟨bd2,0,none⟩,Xc,XB,Xd⟩,(R.wd l).s,?_,?_,λ_=>I⟩
  .exact Nf
  show _=VC br _ _ R.device++Vc K bx n ⟨U.m,ph U.t va⟩;exact Xv
 refine Ul ?_ ?_<;>intro hc20
 .obtain rfl:=gO hc20;have hm:cB n 69 nn ⟨R,U,d⟩=⟨R.ws R.s.halt,U,d⟩:=rfl;rw[hm];refine Ut ?_;refine ZL ?_;refine eK ?_;refine Xm ?_;refine⟨X,R.s.halt,?_,?_,λ_=>I⟩
  .exact YQ
  show _=VC br X R.s.halt R.device++Vc K bx n U;rw[hdv];rfl
 (simp only[bE,ne_eq]at hc3 hc5 hc7 hc10 hc16 hc20;omega)
variable{op nn:Int}
variable{n:Nat}{R:Um}{U:Uo}{d:Un}
theorem CE(br:Nat)(X:eN)(R:Um)(K:gb)(bx n:Nat)(U:Uo)(b bd:Nat)(Z:fv)(d:Un)(hM:UI n U.m)(hT:J U.t=16)(hd:d.wf)(ho:J d.out<=1000000000)(op nn pc:Int)(hop:48<=op/\op<=53)(hw:∀x,x∈R.s.d->u32 x)(hdl:J R.s.d<=100000)(hn:(bR op).1.1<=J R.s.d)(hroot:u32 R.s.root)(hdv:R.device=false)(hcn:R.count=R.s.count)
  (Ad Ar:Oa) (cd cr:Nat) (w:World) (hi:Inv w (bK (U8 br X R.s false K bx n U b bd Z d)) (U8 br X R.s false K bx n U b bd Z d) w)
  (h:∀w',cX (bK (U8 br X R.s false K bx n U b bd Z d)) w w'->kS w' (R.s.wpc pc) Ad Ar cd cr):
  Uz prog 215 [sv (R.s.wpc pc) Ad cd Ar cr,.agg #[.i op,.w nn],.p bx,.p b,.p br] w (U8 br X R.s false K bx n U b bd Z d)
   (IE br K bx n b bd (cB n op nn ⟨R,U,d⟩)):=by
 have one:(bR op).1.1=1->∃R0 l va,va<=4294967295/\J l<=100000/\R=Um.wd R0 (l++[((va:Nat):Int)]):=λe=>by
  obtain⟨R0,l,x,rfl⟩:=Um.snoc (show 1<=J R.s.d by omega);have hx:=xn (l:=l) hw;obtain⟨va,rfl⟩:∃va:Nat,x=va:=ai hx.1;have h2:(va:Int)<=_:=hx.2;have h3:J (l++[(va:Int)])<=100000:=hdl;exact⟨R0,l,va,by omega,by simp at h3;omega,rfl⟩
 have two:(bR op).1.1=2->∃R0 l v va,v<=4294967295/\va<=4294967295/\J l<=100000/\R=Um.wd R0 ((l++[((v:Nat):Int)])++[((va:Nat):Int)]):=λe=>by
  obtain⟨R0,l,y,x,rfl⟩:=Um.Tp (show 2<=J R.s.d by omega);have hx:=xn (l:=l++[y]) hw;have hy:=xn (l:=l) (sN (l:=l++[y]) hw);obtain⟨va,rfl⟩:∃va:Nat,x=va:=ai hx.1;obtain⟨v,rfl⟩:∃v:Nat,y=v:=ai hy.1;have h2:(va:Int)<=_:=hx.2;have h4:(v:Int)<=_:=hy.2;have h3:J ((l++[(v:Int)])++[(va:Int)])<=100000:=hdl;exact⟨R0,l,v,va,by omega,by omega,by simp at h3;omega,rfl⟩
 obtain rfl|rfl|rfl|rfl|rfl|rfl:op=48\/op=49\/op=50\/op=51\/op=52\/op=53:=by omega
 .obtain⟨R,l,va,hva,hl,rfl⟩:=one I;have he:cB n 48 nn ⟨R.wd (l++[(va:Int)]),U,d⟩=eI n (R.wd l) U d va:=by show eI _ _ _ _ _=_;rw[Um.pop_wd,Um.top_wd];rfl
  rw[he];exact Aj br X R K bx n U b bd Z d hM hT hd pc nn l va hva hl hroot hdv hcn Ad Ar cd cr w hi h
 .obtain⟨R,l,v,va,hv,hva,hl,rfl⟩:=two I;have he:cB n 49 nn ⟨R.wd ((l++[(v:Int)])++[(va:Int)]),U,d⟩=eM n (R.wd l) U d va v:=by show eM _ _ _ _ _ _=_;exact Ir
  rw[he];exact Ah br X R K bx n U b bd Z d hM hT hd ho pc nn l v va hv hva hl hroot hdv Ad Ar cd cr w hi h
 .obtain⟨R,l,va,hva,hl,rfl⟩:=one I;have he:cB n 50 nn ⟨R.wd (l++[(va:Int)]),U,d⟩=ek.of (j0 n (R.wd l) U va 4) d:=by show ek.of (j0 _ _ _ _ _) _=_;rw[Um.pop_wd,Um.top_wd];rfl
  rw[he];exact rZ br X R K bx n U b bd Z d hM hT 50 4 (.inl ⟨I,I⟩) pc nn l va hva hl hroot hdv Ad Ar cd cr w hi h
 .obtain⟨R,l,v,va,hv,hva,hl,rfl⟩:=two I;have he:cB n 51 nn ⟨R.wd ((l++[(v:Int)])++[(va:Int)]),U,d⟩=ek.of (jJ n (R.wd l) U va 4 v) d:=by show ek.of (jJ _ _ _ _ _ _) _=_;exact Ir
  rw[he];exact rY br X R K bx n U b bd Z d hM hT 51 4 (.inl ⟨I,I⟩) pc nn l v va hva hl hroot hdv Ad Ar cd cr w hi h
 .obtain⟨R,l,va,hva,hl,rfl⟩:=one I;have he:cB n 52 nn ⟨R.wd (l++[(va:Int)]),U,d⟩=ek.of (j0 n (R.wd l) U va 1) d:=by show ek.of (j0 _ _ _ _ _) _=_;rw[Um.pop_wd,Um.top_wd];rfl
  rw[he];exact rZ br X R K bx n U b bd Z d hM hT 52 1 (.inr ⟨I,I⟩) pc nn l va hva hl hroot hdv Ad Ar cd cr w hi h
 obtain⟨R,l,v,va,hv,hva,hl,rfl⟩:=two I;have he:cB n 53 nn ⟨R.wd ((l++[(v:Int)])++[(va:Int)]),U,d⟩=ek.of (jJ n (R.wd l) U va 1 v) d:=by show ek.of (jJ _ _ _ _ _ _) _=_;exact Ir
 rw[he];exact rY br X R K bx n U b bd Z d hM hT 53 1 (.inr ⟨I,I⟩) pc nn l v va hva hl hroot hdv Ad Ar cd cr w hi h
theorem JS(br:Nat)(X:eN)(R:Um)(K:gb)(bx n:Nat)(U:Uo)(b bd:Nat)(Z:fv)(d:Un)(hM:UI n U.m)(hT:J U.t=16)(hd:d.wf)(ho:J d.out<=1000000000)(op nn pc:Int)(hop:RN op)(hnu:u32 nn)(hw:∀x,x∈R.s.d->u32 x)(hdl:J R.s.d<=100000)(hrl:J R.s.r<=100000)(hn:(bR op).1.1<=J R.s.d)(hnr:(bR op).2.1<=J R.s.r)(hroot:u32 R.s.root)(ht:R.SL=Tr.none)(hdv:R.device=false)(hcn:R.count=R.s.count)
  (Ad Ar:Oa) (cd cr:Nat) (w:World) (hi:Inv w (bK (U8 br X R.s false K bx n U b bd Z d)) (U8 br X R.s false K bx n U b bd Z d) w)
  (h:∀w',cX (bK (U8 br X R.s false K bx n U b bd Z d)) w w'->kS w' (R.s.wpc pc) Ad Ar cd cr):
  Uz prog 167 [sv (R.s.wpc pc) Ad cd Ar cr,.agg #[.i op,.w nn],.p bx,.p b,.p br] w (U8 br X R.s false K bx n U b bd Z d)
   (IE br K bx n b bd (oP n op nn R U d)):=by
 unfold IE;refine UH func167 ntmps167 hi ?_;refine py ?_;refine ZO λb5=>?_;refine ZO λb6=>?_
 refine jF ?_;refine oI ?_ ?_<;>intro hc4
 .have h8:0<=op/\op<=8:=(by simp only[ah]at hc4;unfold RN at hop;omega);obtain⟨R',hst,htr,hde⟩:=Gz h8 nn R;rw[MP hst];refine Us ?_;refine dE (VC br X R.s false) (λw hi hin=>z9 br X R false op nn h8.1 h8.2 hdl hrl hn hnr w hin) ?_;rintro _ _ ⟨X',rfl,rfl⟩;rw[show(cV op nn R).getD R=R' by rw[hst];rfl];refine eK ?_;refine bI (U8 br X' R'.s false K bx n U b bd Z d) Zj (WT ?_);refine⟨X',R'.s,Z,?_,?_,λ_=>I⟩
  .show _=Value.tuple #[.i R'.SL.SB,.w R'.SL.addr];rw[htr,ht];rfl
  show _=U8 br X' R'.s R'.device K bx n U b bd Z d;rw[hde,hdv];rfl
 refine V1 ?_ ?_<;>intro hc6
 .simp only[ah]at hc6;simp only[aa]at hc4;have h25:16<=op/\op<=25:=(by unfold RN at hop;omega);have hn2:=yv (op:=op) (by rw[ak h25.1,ak h25.2];rfl);rw[hn2]at hn;obtain⟨R,l,x,y,rfl⟩:=Um.Tp hn;have hr1:=JV h25 nn R l x y;rw[xq O (by rw[hr1]),hr1];have hy:=xn (l:=l++[x]) hw;have hx:=xn (l:=l) (sN (l:=l++[x]) hw);have HA:=JR op x y hx hy;obtain⟨⟨v1,fl1,ok1⟩,hq⟩:=Uk (gP op x y);rw[hq]at HA|-;dsimp only at HA|-;have hlen:J ((l++[x])++[y])=J l+2:=cE;have hdl1:((R.wd ((l++[x])++[y])).s.wpc pc).d.length=J l+2:=hlen;have hdl2:(R.wd ((l++[x])++[y])).s.d.length=J l+2:=hlen;obtain⟨ad,rfl⟩:=(h w (cX.refl _ _)).d.some_ (by rw[hdl1];omega);obtain⟨XA,Xc,XB,Xd⟩:=X;refine Zs (bN (UK []) Zk ?_);refine vH ?_;refine Ld 2 1 ?_;refine ZG 3 ?_;refine ZE 4 ?_;refine UF 5 I (eA (Zv I) (Zv I) (show _=(J l:Int)from by rw[hdl1];exact aN _ ⟨by omega,by omega⟩|>.trans O)) ?_;refine UF 6 I (cW (j:=J l) I ir (Zv I) (Zv I) Uq Uq) ?_;refine US 7 I (bL ir ne) (jo (λw' hk=>(h w' hk).d) (bX (lR l x y))) ?_;refine Ld 8 1 ?_;refine ZG 9 ?_;refine ZE 10 ?_;refine UF 11 I (eA (Zv I) (Zv I) (show _=((J l+1:Nat):Int)from by rw[hdl1];exact aN _ ⟨by omega,by omega⟩|>.trans O)) ?_;refine UF 12 I (cW (j:=(J l+1)) I ir (Zv I) (Zv I) Uq Uq) ?_;refine US 13 I (bL ir ne) (jo (λw' hk=>(h w' hk).d) (bX (lQ l x y))) ?_;refine cQ 14 Zk (VF (λw hi=>HA w) ?_);refine Uw ?_;refine ZE 15 ?_;refine ZE 16 ?_;refine ZE 17 ?_;refine ZE 18 ?_;refine ZE 19 ?_;refine ZE 20 ?_;refine ZE 21 ?_;refine fe ?_;refine V1 ?_ ?_<;>intro hc8
  .have hk:ok1=false:=(by simpa using hc8);subst hk;refine eK ?_;refine WT ?_;refine⟨⟨XA,Xc,XB,Xd⟩,(R.wd ((l++[x])++[y])).s,Z,?_,?_,?_⟩
   .cases hb:(op !=25)<;>rfl
   .cases hb:(op !=25)<;>(show _=U8 br _ _ R.device K bx n U b bd Z d)<;>rw[show R.device=false from hdv]<;>rfl
   cases hb:(op !=25)<;>exact λe=>by cases e
  have hk:ok1=true:=(by simpa using hc8);subst hk;refine gV ?_;refine eo (λw hi=>dp (hi.get (Ur (UP (R.wd ((l++[x])++[y])).s XA Xc))) (show 0<J ((l++[x])++[y]) by omega)) (λhA=>?_);obtain⟨bd2,rfl⟩:=hA;refine eo (λw hi=>(ee (hi.get (Ur (UP (R.wd ((l++[x])++[y])).s (sA bd2) Xc)))).cap) (λhcap=>?_);have hcap:J ((l++[x])++[y])<=Xc:=hcap;have hcap2:J ((l++[x])++[y])<=(eN.mk (some ⟨bd2,0,none⟩) Xc XB Xd).cd:=hcap;refine UG ?_;refine ZL ?_;refine eK ?_;refine Rj ?_;refine Sq ?_;refine Ut ?_;refine Ci (c:=UP (R.wd ((l++[x])++[y])).s (sA bd2) Xc) (c':=sl .u32 32 (sA bd2) (J l) Xc l) Za I (λw h=>mM (mM h)) (VQ ?_ ?_)<;>intro hc12
  .rw[hc12];refine gV ?_;refine Ux ?_;refine jP ?_;rintro _ _ ⟨b85,rfl,rfl⟩;refine gJ (cu (e:=32) (sz:=1) (bytes:=4) I I Za I I (λw hi=>hi.rd (Ur (slv 32 1 (sA b85) 1 1 (ints .u32 [v1])))) cP gI O) I ?_;rintro _ _ ⟨A',c',rfl,rfl⟩;refine jD ?_;refine eK ?_;refine bI ([row br [.w R.s.pc,.slice A' (J l+1) c',.slice XB (J R.s.r) Xd,.w fl1,.bool R.s.Sy,.bool R.s.SJ,.bool R.s.ie,.w R.s.root,.w R.s.vec,.w R.s.epc,.w R.s.SB,.w R.s.addr,.bool R.s.SO,.bool R.s.eie,.int .u64 R.s.count,.bool R.s.halted,.bool false,.bool false,.slice none 0 0] 231,slv 32 1 A' (J l+1) c' (ints .u32 l++ints .u32 [v1]),UU R.s XB Xd]++(Vc K bx n U++eW b K.bm bd Z d)) Zj (WT ?_);refine⟨⟨A',c',XB,Xd⟩,(((R.wd l).wfl fl1).push [v1]).s,Z,?_,?_,λ_=>I⟩
   .exact Nf
   show _=U8 br ⟨A',c',XB,Xd⟩ ((R.wfl fl1).wd (l++[v1])).s R.device K bx n U b bd Z d;rw[show R.device=false from hdv];simp only[U8,VC,zW,UP,UU,ar,bY,aE,bC,bA,aF,aJ]
  rw[hc12];refine fy ?_;refine eK ?_;refine bI (U8 br ⟨some ⟨bd2,0,none⟩,Xc,XB,Xd⟩ ((R.wfl fl1).wd l).s false K bx n U b bd Z d) Zj (WT ?_);refine⟨⟨some ⟨bd2,0,none⟩,Xc,XB,Xd⟩,((R.wfl fl1).wd l).s,Z,?_,?_,λ_=>I⟩
  .exact Nf
  show _=U8 br _ _ R.device K bx n U b bd Z d;exact Xv
 refine V1 ?_ ?_<;>intro hc14
 .simp only[ah]at hc14;simp only[aa]at hc4 hc6;have h40:32<=op/\op<=40:=(by unfold RN at hop;omega);obtain⟨j1,j2,j3⟩:=Ps h40 nn R;rw[xq O j1];refine Us ?_;refine dE (VC br X R.s false) (λw hi hin=>GO br X R false op nn hnu h40.1 h40.2 hdl hrl hn hnr w hin) ?_;rintro _ _ ⟨X',rfl,rfl⟩;refine eK ?_;refine bI (U8 br X' (bS op nn R).2.s false K bx n U b bd Z d) Zj (WT ?_);refine⟨X',(bS op nn R).2.s,Z,?_,?_,λ_=>I⟩
  .show _=Value.tuple #[.i (bS op nn R).2.SL.SB,.w (bS op nn R).2.SL.addr];rw[j2,ht];rfl
  show _=U8 br X' (bS op nn R).2.s (bS op nn R).2.device K bx n U b bd Z d;rw[j3,hdv];rfl
 simp only[aa]at hc4 hc6 hc14;rw[MQ O];refine V1 ?_ ?_<;>intro hc16
 .simp only[ah]at hc16;have h53:48<=op/\op<=53:=(by unfold RN at hop;omega);refine Ux ?_;refine dE (U8 br X R.s false K bx n U b bd Z d) (λw hi hin=>CE br X R K bx n U b bd Z d hM hT hd ho op nn pc h53 hw hdl hn hroot hdv hcn Ad Ar cd cr w hin (λw' hk=>h w' (oD hi.S1 hk))) ?_;rintro _ _ ⟨X',x',Z',rfl,rfl,hz⟩;refine UE ?_;refine bI (U8 br X' x' (cB n op nn ⟨R,U,d⟩).r.device K bx n (cB n op nn ⟨R,U,d⟩).u b bd Z' (cB n op nn ⟨R,U,d⟩).d) Zj (WT ?_);exact⟨X',x',Z',I,I,hz⟩
 simp only[aa]at hc16;have h69:64<=op/\op<=69:=(by unfold RN at hop;omega);have hmd:(cB n op nn ⟨R,U,d⟩).d=d:=Km h69 R U d;refine UA ?_;refine dE (VC br X R.s false++Vc K bx n U) (λw hi hin=>yi br X R K bx n U d hT op nn pc h69.1 h69.2 hnu hw hdl hrl hn ht hdv hcn Ad Ar cd cr w hin (λw' hk=>h w' (oD hi.S1 (K6 hk (λb hb=>by simp only[U8,eT,aK]at hb|-;rcases hb with hb|hb;exact .inl hb;exact .inr (.inl hb)))))) ?_;rintro _ _ ⟨X',x',rfl,rfl,hz⟩;refine UE ?_;refine bI (U8 br X' x' (cB n op nn ⟨R,U,d⟩).r.device K bx n (cB n op nn ⟨R,U,d⟩).u b bd Z d) Zj (WT ?_);exact⟨X',x',Z,I,by rw[hmd];rfl,hz⟩
end
end Go.Ink
