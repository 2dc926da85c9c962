/- Lemmas. -/
import Derived.Test.YtepfimeihngjoaaGreatDoorXap
import Derived.Test.YtepfimeihngjoaaGreatDoorXaq
set_option linter.all false
set_option maxRecDepth 100000
set_option maxHeartbeats 4000000
namespace Go.Ink
open List renaming length→J, replicate→R9
open IntKind renaming wrap→V9
open Go.RowKit Go.Proofs.Tryz
variable{b:Bool}
variable{n:Nat}
section
attribute [local irreducible] Ve bN
variable{k:Int}
variable{d:Li}
variable{x:Value}
variable{a:Int}
theorem Bn(b bd:Nat)(K:gi)(n:Nat)(M:UO)(hM:Vc n M)(Z:dJ)(d:UF)(hd:d.wf)(ho:J d.out<=1000000000)(a v:Nat)(hv:v<=4294967295):CI prog 331 [.p b,.w a,.w v] (eI b K.bm bd Z d++V6 K n M) (λx cs=>∃Z',x= .bool (bU n M d (je a) v).1/\cs=eI b K.bm bd Z' (bU n M d (je a) v).2.2++V6 K n (bU n M d (je a) v).2.1):=λw hi=>by
 obtain⟨k,hk⟩:=Do (je a);rw[hk];unfold je at hk;have hdk:=hd.S8;have hdkb:=hd.TP;have hds:=hd.SS;have hdp:=hd.place;have hvu:u32 (v:Int):=jn hv;have hmask:bits .and .u32 (v:Int) 255=(v:Int)%256:=and255r hvu;have hl2:=lines2;obtain⟨pe,ma,ti,ou,inp,dk,se,pl,st⟩:=d;obtain⟨Ao,co,Ai,ci⟩:=Z;dsimp only at hdk hdkb hds hdp;have ho2:J ou<=1000000000:=ho;have HD:=DC b bd K n M hM ⟨Ao,co,Ai,ci⟩ pe ma ti ou inp dk hdk hdkb se pl 1 se pl v hds hdp;obtain⟨⟨dok,dM,ddk⟩,hdd⟩:=Do (dP n M dk se pl v);rw[hdd]at HD;refine Vb func331 ntmps331 hi ?_;refine U8 ?_;refine Zy (ez py py hk) ?_;refine Wc ?_ ?_<;>intro hc3
 .refine US ?_;refine Zy (tM py py I) ?_;refine jO ?_;refine U8 ?_;refine CR ?_;refine⟨⟨Ao,co,Ai,ci⟩,?_,?_⟩
  .exact Vm
  exact Vm
 refine UH ?_ ?_<;>intro hc5
 .refine UN ?_;refine Zy (fG (Zv I) (Zv I) O (show _=bits .and .u32 (v:Int) 255 from by rw[hmask,aq O])) ?_;refine jO ?_;refine U8 ?_;refine CR ?_;refine⟨⟨Ao,co,Ai,ci⟩,?_,?_⟩
  .exact Vm
  exact Vm
 refine UH ?_ ?_<;>intro hc7
 .refine UQ ?_;refine nX ?_;refine CR ?_;refine⟨⟨Ao,co,Ai,ci⟩,?_,?_⟩
  .exact Vm
  exact Vm
 refine UH ?_ ?_<;>intro hc9
 .refine An ?_;refine jQ ?_;rintro _ _ ⟨b36,rfl,rfl⟩;refine UK ?_;refine gS (cC (e:=5) (sz:=1) (bytes:=1) I I Za I I (λw hi=>hi.rd (UJ (b8 Ao co ou))) cR gD O) I ?_;rintro _ _ ⟨A2,c2,rfl,rfl⟩;simp only[bC,aR];refine ZA ?_;refine Jf ?_;refine jQ ?_;rintro _ _ ⟨b44,rfl,rfl⟩;refine gS (cC (e:=5) (sz:=1) (bytes:=1) I I Za I I (λw hi=>hi.rd (UJ (slv 5 1 (sA b44) 1 1 [.int .u8 (V9 .u8 v)]))) (jR I) gD O) I ?_;rintro _ _ ⟨A3,c3,rfl,rfl⟩;rw[show J ou+1=J (ou++[V9 .u8 v]) by simp,show ints .u8 ou++[Value.int .u8 (V9 .u8 v)]=ints .u8 (ou++[V9 .u8 v])from cy ou [V9 .u8 v]];refine jO ?_;refine U8 ?_;refine bK (eI b K.bm bd ⟨A3,c3,Ai,ci⟩ ⟨pe,ma,ti,ou++[V9 .u8 v],inp,dk,se,pl,st⟩++V6 K n M) Zj (CR ?_);refine⟨⟨A3,c3,Ai,ci⟩,?_,?_⟩
  .exact XT
  exact XT
 refine UH ?_ ?_<;>intro hc11
 .refine UQ ?_;refine nX ?_;refine CR ?_;refine⟨⟨Ao,co,Ai,ci⟩,?_,?_⟩
  .exact Vm
  exact Vm
 refine UH ?_ ?_<;>intro hc13
 .refine UQ ?_;refine nX ?_;refine CR ?_;refine⟨⟨Ao,co,Ai,ci⟩,?_,?_⟩
  .exact Vm
  exact Vm
 refine UH ?_ ?_<;>intro hc15
 .refine UQ ?_;refine ZL ?_;refine UK ?_;refine bQ (Vg [10]) Zk (CA ?_);refine UE 3 7 ?_;refine ZG 4 ?_;refine qM ?_;refine UE 7 8 ?_;refine wT ?_;refine cP 10 Zk (rX (eI b K.bm bd ⟨Ao,co,Ai,ci⟩ ⟨pe,ma,ti,ou,inp,dk,se,pl,1⟩++V6 K n M) (λw hi hin=>HD w hin) ?_);refine UR ?_;refine tC ?_;refine ZW ?_ ?_<;>intro hc17
  .have hdt:dok=true:=hc17;subst hdt;refine UK ?_;refine ZL ?_;refine gP ?_;refine nX ?_;refine CR ?_;refine⟨⟨Ao,co,Ai,ci⟩,?_,?_⟩
   .exact Vm
   exact Vm
  have hdt:dok=false:=hc17;subst hdt;refine gP ?_;refine nX ?_;refine CR ?_;refine⟨⟨Ao,co,Ai,ci⟩,?_,?_⟩
  .exact Vm
  exact Vm
 refine VJ ?_ ?_<;>intro hc20
 .refine An ?_;refine bY I (hc20) (U8 ?_);refine CR ?_;refine⟨⟨Ao,co,Ai,ci⟩,?_,?_⟩
  .exact Vm
  exact Vm
 refine UH ?_ ?_<;>intro hc21
 .refine An ?_;refine bY I (hc21) (U8 ?_);refine CR ?_;refine⟨⟨Ao,co,Ai,ci⟩,?_,?_⟩
  .exact Vm
  exact Vm
 refine UH ?_ ?_<;>intro hc22
 .refine An ?_;refine bY I (hc22) (U8 ?_);refine CR ?_;refine⟨⟨Ao,co,Ai,ci⟩,?_,?_⟩
  .exact Vm
  exact Vm
 refine Wh ?_ ?_<;>intro hc23
 .refine U8 ?_;refine CR ?_;refine⟨⟨Ao,co,Ai,ci⟩,?_,?_⟩
  .exact Vm
  exact Vm
 refine Va ?_;refine CR ?_;refine⟨⟨Ao,co,Ai,ci⟩,?_,?_⟩
 .exact Vm
 exact Vm
end
end Go.Ink
namespace Go.Ink
open List renaming length→J
open IntKind renaming wrap→V9
open Go.RowKit Go.Proofs.Tryz
set_option maxHeartbeats 1000000
variable{b:Int}
variable{r:Int}
variable{n:Int}
section
attribute [local irreducible] Ve bN
section
variable{n:Nat}{R:UG}{U U':UI}{d:UF}{va v:Nat}{p:Nat}{tr:Tr}
theorem xo(h:(((va%4:Nat):Int) !=0)=true):eZ n R U d va v=⟨R.wt ⟨6,va⟩,U,d⟩:=by
 unfold eZ cu;rw[h]
 rfl
theorem uJ(h:(((va%4:Nat):Int) !=0)=false)(hp:SR n U R.sp va 3=(((p:Int),tr),U'))(hc:(tr.SU !=0)=true):eZ n R U d va v=⟨R.wdv tr false,U',d⟩:=by
 have e:(tr.SU==0)=false:=by simpa using hc
 unfold eZ cu;rw[h,hp];simp only[ac,e,Bool.not_false,ah,bo]
theorem AN(h:(((va%4:Nat):Int) !=0)=false)(hp:SR n U R.sp va 3=(((p:Int),Tr.none),U')):eZ n R U d va v=bif decide ((32768:Int)<=(p:Int))then⟨bif !(bU n U'.m d (je p) v).1 then(R.wdv Tr.none true).wt ⟨10,va⟩else R.wdv Tr.none true,⟨(bU n U'.m d (je p) v).2.1,U'.t⟩,(bU n U'.m d (je p) v).2.2⟩else⟨R.wdv Tr.none false,⟨U'.m.TB p v,U'.t⟩,d⟩:=by
 have e:(Tr.none.SU==0)=true:=rfl;unfold eZ cu;exact Wx86_
end
theorem Be(br:Nat)(X:dz)(R:UG)(K:gi)(bx n:Nat)(U:UI)(b bd:Nat)(Z:dJ)(d:UF)(hM:Vc n U.m)(hT:J U.t=16)(hd:d.wf)(ho:J d.out<=1000000000)(pc nn:Int)(l:Li)(v va:Nat)(hv:v<=4294967295)(hva:va<=4294967295)(hl:J l<=100000)(hroot:u32 R.s.root)(hdv:R.device=false)
  (Ad Ar:Oa) (cd cr:Nat) (w:World) (hi:Inv w (bM (Vv br X (R.wd ((l++[(v:Int)])++[(va:Int)])).s false K bx n U b bd Z d)) (Vv br X (R.wd ((l++[(v:Int)])++[(va:Int)])).s false K bx n U b bd Z d) w)
  (h:∀w',dc (bM (Vv br X (R.wd ((l++[(v:Int)])++[(va:Int)])).s false K bx n U b bd Z d)) w w'->iL w' ((R.wd ((l++[(v:Int)])++[(va:Int)])).s.wpc pc) Ad Ar cd cr):
  UW prog 275 [sv ((R.wd ((l++[(v:Int)])++[(va:Int)])).s.wpc pc) Ad cd Ar cr,.agg #[.i 49,.w nn],.p bx,.p b,.p br] w (Vv br X (R.wd ((l++[(v:Int)])++[(va:Int)])).s false K bx n U b bd Z d)
   (Ji br K bx n b bd (eZ n (R.wd l) U d va v)):=by
 have hn:=hM.n64;obtain⟨rt,hrt⟩:∃m:Nat,R.s.root=m:=aj hroot.1;have hrt2:(rt:Int)<=4294967295:=by rw[<-hrt];exact hroot.2
 have hlen:J ((l++[(v:Int)])++[(va:Int)])=J l+2:=by simp
 have hdl:((R.wd ((l++[(v:Int)])++[(va:Int)])).s.wpc pc).d.length=J l+2:=hlen;have hdl2:(R.wd ((l++[(v:Int)])++[(va:Int)])).s.d.length=J l+2:=hlen;have hdl3:(⟨R.s.pc,(l++[(v:Int)])++[(va:Int)],R.s.r,R.s.flags,R.s.SQ,R.s.S1,R.s.ie,R.s.root,R.s.vec,R.s.epc,R.s.SU,R.s.addr,R.s.S6,R.s.eie,R.s.count,R.s.halted⟩:St).d.length=J l+2:=hlen;obtain⟨ad,rfl⟩:=(h w (dc.refl _ _)).d.some_ (by rw[hdl];omega);have HP:=kK K bx n U hM hT R.s.S1 R.s.SQ rt va O hva 3;have hsp:(R.wd l).sp=⟨R.s.S1,R.s.SQ,rt⟩:=by unfold UG.sp;exact Q0
 have hpo:=fj n U ⟨R.s.S1,R.s.SQ,rt⟩ va hva 3;have hto:=gM n U ⟨R.s.S1,R.s.SQ,rt⟩ va 3;have hMo:=hM.SR ⟨R.s.S1,R.s.SQ,rt⟩ va 3 (hM.walk _ _ _ _);unfold Ji;obtain⟨⟨⟨p,tr⟩,U'⟩,hp⟩:=Do (SR n U ⟨R.s.S1,R.s.SQ,rt⟩ va 3);rw[hp]at HP hpo hto hMo;rw[<-hsp]at hp;rw[<-hrt]at HP;dsimp only at HP hpo hto hMo;obtain⟨p,rfl⟩:∃m:Nat,p=m:=aj hpo.1.1;have hpu:(p:Int)<=4294967295:=hpo.1.2;refine Vb func275 ntmps275 hi ?_;refine An ?_;refine ZO λb5=>?_;refine ZO λb6=>?_
 refine Wq133 ?_;refine dZ (bO ir py) (jC (λw' hk=>(h w' hk).d) (cw (lW l (v:Int) (va:Int)))) I (oO ?_);refine iS ?_;refine Va ?_;refine ο ?_;refine VP ?_ ?_<;>intro hc7
 .rw[xo hc7];refine U8 ?_;refine Xo ?_;refine⟨X,(R.wd ((l++[(v:Int)])++[(va:Int)])).s,Z,I,?_,λe=>by cases e⟩;show _=Vv br X (R.wd ((l++[(v:Int)])++[(va:Int)])).s R.device K bx n U b bd Z d;rw[hdv]
  rfl
 refine mv ?_;refine Vq (VD K bx n U) (λw hi hin=>HP w hin) ?_;refine UN ?_;refine ZN λb17=>?_
 refine CG ?_;refine UR ?_;refine oU ?_ ?_<;>intro hc10
 .rw[uJ hc7 hp hc10];refine Zs (bQ (Vg []) Zk ?_);refine Q3 ?_;refine fh ?_;refine UN ?_;refine bK (Vv br X (R.wd ((l++[(v:Int)])++[(va:Int)])).s false K bx n U' b bd Z d) Zj (Xo ?_);exact⟨X,(R.wd ((l++[(v:Int)])++[(va:Int)])).s,Z,I,I,λe=>by(have e:tr.SU=0:=e;rw[e]at hc10;cases hc10)⟩
 obtain rfl:=hto (by simpa using hc10);have hP:=hpo.2 I;have hin4:p%64=va%64:=(by have:=hP.m;omega);have hva4:va%4=0:=(by have h1:((va%4:Nat):Int)=0:=(by simpa using hc7);omega);rw[AN hc7 hp];have hdn:=Sz hP hn;have hbig:¬(32768:Int)<=(p:Int)->p+4<=n*64:=(λhx=>by have:=pJ (by unfold iG;rw[ao hx];rfl) hP;omega);refine U8 ?_;refine Z4 ?_;refine ZA ?_;rw[hdn];obtain⟨dv,hdv2⟩:=Do (decide ((32768:Int)<=(p:Int)));rw[hdv2];refine U8 ?_;refine nX ?_;refine lN ?_;refine cj (λq:dJ×UI×UF=>[(12,.p br),(13,.i ((J l+2:Nat):Int))]) (λq=>Vv br X (R.wd ((l++[(v:Int)])++[(va:Int)])).s dv K bx n q.2.1 b bd q.1 q.2.2) (λq=>(bif dv then(⟨bif !(bU n U'.m d (je p) v).1 then((R.wd l).wdv Tr.none true).wt ⟨10,va⟩else(R.wd l).wdv Tr.none true,⟨(bU n U'.m d (je p) v).2.1,U'.t⟩,(bU n U'.m d (je p) v).2.2⟩:eu)else⟨(R.wd l).wdv Tr.none false,⟨U'.m.TB p v,U'.t⟩,d⟩)=⟨(R.wd l).wdv Tr.none dv,q.2.1,q.2.2⟩) ?_ ?_
 .refine Wh ?_ ?_<;>intro hc22
  .obtain rfl:dv=true:=hc22;refine ix ?_;have HB:=Bn b bd K n U'.m hMo Z d hd ho p v hv;obtain⟨⟨ok1,M1,d1⟩,hq1⟩:=Do (bU n U'.m d (je p) v);rw[hq1]at HB|-;refine US ?_;refine Zy (ez (Zv I) (Zv I) (show _=(J l:Int)from by first|exact aQ _ ⟨by omega,by omega⟩|>.trans O|(rw[hdl];exact aQ _ ⟨by omega,by omega⟩|>.trans O))) ?_;refine Zy (cZ (j:=J l) I ir (Zv I) (Zv I) UL UL) ?_;refine dZ (bO ir py) (jC (λw' hk=>(h w' hk).d) (cw (lX l (v:Int) (va:Int)))) I (dH (eI b K.bm bd Z d++V6 K n U'.m) (λw hi hin=>HB w hin) ?_);rintro _ _ ⟨Z',rfl,rfl⟩;refine VP ?_ ?_<;>intro hc23
   .have hk:ok1=false:=(by simpa using hc23);subst hk;refine eL ?_;refine bK (Vv br X (R.wd ((l++[(v:Int)])++[(va:Int)])).s true K bx n ⟨M1,U'.t⟩ b bd Z' d1) Zj (Xo ?_);exact⟨X,(R.wd ((l++[(v:Int)])++[(va:Int)])).s,Z',I,I,λe=>by cases e⟩
   have hk:ok1=true:=(by simpa using hc23);subst hk;refine Zc (Vd ((⟨Z',⟨M1,U'.t⟩,d1⟩:dJ×UI×UF)) I)
  obtain rfl:dv=false:=hc22;refine fE ?_;have hp4:=hbig (by simpa using hdv2);refine An ?_;refine gE (Vv br X (R.wd ((l++[(v:Int)])++[(va:Int)])).s false K bx n U' b bd Z d++[row b5 (((R.wd ((l++[(v:Int)])++[(va:Int)])).s.wpc pc).cells (.slice (some ad) ((R.wd ((l++[(v:Int)])++[(va:Int)])).s.wpc pc).d.length cd) (.slice Ar (J R.s.r) cr)) 36]) Zj (UK ?_);refine Vs (λk:Nat=>[(2,.p bx),(5,.p b5),(12,.p br),(13,.i ((J l+2:Nat):Int)),(16,.w (p:Int)),(21,.w (k:Int))]) (λk=>Vv br X (R.wd ((l++[(v:Int)])++[(va:Int)])).s false K bx n ⟨U'.m.Tj p v k,U'.t⟩ b bd Z d++[row b5 (((R.wd ((l++[(v:Int)])++[(va:Int)])).s.wpc pc).cells (.slice (some ad) ((R.wd ((l++[(v:Int)])++[(va:Int)])).s.wpc pc).d.length cd) (.slice Ar (J R.s.r) cr)) 36]) (λk=>k<=4) (λk=>4 - k) (0) (ax _) ?_;rintro k hk;refine VJ ?_ ?_<;>intro hc26
  .simp only[ai]at hc26;have hk4:k<4:=O;refine UK ?_;refine bQ (Vg [17]) Zk (nZ ?_);refine wP ?_;refine UY 6 I (dy (Zv I) (Zv I) (show _=((p+k:Nat):Int)from(u32_wrap_id _ O O).trans O)) ?_;refine UE 7 1 ?_;refine ZE 9 ?_;refine UY 10 I (ez (Zv I) (Zv I) (show _=(J l:Int)from aQ _ ⟨by omega,by omega⟩|>.trans O)) ?_;refine ZE 13 ?_;refine UY 14 I (fT (Zv I) (Zv I) (show _=((8*k:Nat):Int)from(u32_wrap_id _ O O).trans O)) ?_;refine gg ?_;refine m4 ?_;refine UY 11 I (cZ (j:=J l) I ir (Zv I) (Zv I) UL UL) ?_;refine cP 12 Zk (un I (bO ir py) (jC (λw' hk=>(h w' hk).d) (cw (lX l (v:Int) (va:Int)))) I (UY 15 I (jT (Zv I) (Zv I) O I) ?_));refine UY 16 I (cz I I py (kw (v:Int) hk4)) ?_;refine cP 17 Zk (rX (V6 K n (U'.m.Tj p v k)) (λw hi hin=>i4 K n (U'.m.Tj p v k) (hMo.Tj (v:Int) k O) (p+k) O (mC v k) w hin) ?_);refine UR ?_;refine Ε ?_;refine Vd (k+1) ⟨by show k+1<=4;omega,by show 4 - (k+1)<4 - k;omega⟩
  simp only[aa]at hc26;obtain rfl:k=4:=O;refine UK ?_;refine Vd ((⟨Z,⟨U'.m.Tj p v 4,U'.t⟩,d⟩:dJ×UI×UF)) I
 rintro⟨Z',U2,d'⟩ hq;dsimp only at hq|-;rw[hq];obtain⟨XA,Xc,XB,Xd⟩:=X;refine eC (λw hi=>dA (hi.get (UJ (Vf (R.wd ((l++[(v:Int)])++[(va:Int)])).s XA Xc))) (show 0<J ((l++[(v:Int)])++[(va:Int)]) by omega)) (λhA=>?_);obtain⟨bd2,rfl⟩:=hA;refine eC (λw hi=>(eO (hi.get (UJ (Vf (R.wd ((l++[(v:Int)])++[(va:Int)])).s (sA bd2) Xc)))).cap) (λhcap=>?_);have hcap:J ((l++[(v:Int)])++[(va:Int)])<=Xc:=hcap;have hcap2:J ((l++[(v:Int)])++[(va:Int)])<=(dz.mk (some ⟨bd2,0,none⟩) Xc XB Xd).cd:=hcap;refine US ?_;refine Zy (ez (Zv I) (Zv I) (show _=(J l:Int)from aQ _ ⟨by omega,by omega⟩|>.trans O)) ?_;refine SJ ?_;refine U8 ?_;refine iA (c:=Vf (R.wd ((l++[(v:Int)])++[(va:Int)])).s (sA bd2) Xc) (c':=Vf (R.wd l).s (sA bd2) Xc) Za I (λw h=>mV (mV h)) (Xo ?_);exact⟨⟨some ⟨bd2,0,none⟩,Xc,XB,Xd⟩,(R.wd l).s,Z',I,I,λ_=>I⟩
end
end Go.Ink
namespace Go.Ink
open List renaming length→J, replicate→R9
open IntKind renaming wrap→V9
open Go.RowKit Go.Proofs.Tryz
variable{l:List (Int×Int)}
section
attribute [local irreducible] Ve bN
variable{b:Li}
variable{α:Type}{key:α->Ky}{room:Int}{l:List α}{t:α}
structure gR(E:VB):Prop where
 room:1<=E.room/\E.room<=1024
 len:(J E.l:Int)<=E.room
 keys:(E.l.map WR.key).Nodup
 Ui:(E.runs.map (·.1)).Nodup
 TV:∀t,t∈E.l->∃r,(t.key,r)∈E.runs/\Good t r
variable{E:VB}
theorem gR.drop(h:gR E)(SV:Li):gR (ML E SV):=by
 refine⟨h.room,?_,j0 _ h.keys,?_,λt ht=>?_⟩
 .have:(J (E.l.filter λt=> !SV.contains (t.key.2/64)))<=J E.l:=List.length_filter_le _ _;have:=h.len;show((J (E.l.filter λt=> !SV.contains (t.key.2/64)):Nat):Int)<=E.room;omega
 .show((bif _ then wK _ E.runs else E.runs).map (·.1)).Nodup;cases decide (J (E.l.filter λt=> !SV.contains (t.key.2/64))<J E.l)with
  |true=>exact j0 _ h.Ui
  |false=>exact h.Ui
 have ht:t∈E.l.filter λt=> !SV.contains (t.key.2/64):=ht
 obtain⟨r,h1,h2⟩:=h.TV t (List.mem_filter.1 ht).1;refine⟨r,?_,h2⟩;show(t.key,r)∈(bif _ then wK _ E.runs else E.runs)
 grind [BH]
theorem gR.add(h:gR E){t:WR}{r:Rn}(hg:Good t r):gR (YI E t r):=by
 have hl:(t.key,r)∈dS E.runs t.key r:=by rw[yS];exact KF
 have hn:((dS E.runs t.key r).map (·.1)).Nodup:=by rw[yS];exact ru h.Ui
 have hgo:∀x,x∈uZ WR.key E.room E.l t->∃r',(x.key,r')∈dS E.runs t.key r/\Good x r':=λx hx=>by
  rcases Ps hx with rfl|⟨h1,h2⟩
  .grind
  obtain⟨r',h3,h4⟩:=h.TV x h1;refine⟨r',?_,h4⟩;have hne:=h2 x h1 h.keys
  grind [dS,cN,fJ,List.mem_append_left,List.getElem_of_mem,List.mem_iff_getElem]
 refine⟨h.room,O5 h.room.1 h.len,ru h.keys,?_,λx hx=>?_⟩
 .show((bif _ then wK _ _ else _).map (·.1)).Nodup;cases decide (J (uZ WR.key E.room E.l t)<J (dS E.runs t.key r))with
  |true=>exact j0 _ hn
  |false=>exact hn
 obtain⟨r',h1,h2⟩:=hgo x hx;refine⟨r',?_,h2⟩;show(x.key,r')∈(bif _ then wK _ _ else _);cases decide (J (uZ WR.key E.room E.l t)<J (dS E.runs t.key r))with
 |true=>exact BH hx h1
 |false=>exact h1
structure GB(E E':VB)(c:Nat):Prop where
 Ti:0<=E.Ti->0<=E.Tk->E.Ti+E.Tk+c<=1000000000->0<=E'.Ti/\0<=E'.Tk/\E'.Ti+E'.Tk=E.Ti+E.Tk+c/\E.Ti<=E'.Ti
 room:E'.room=E.room
theorem GB.trans{E E1 E2:VB}{c1 c2:Nat}(h1:GB E E1 c1)(h2:GB E1 E2 c2):GB E E2 (c1+c2):=⟨λa b c=>by
 obtain⟨x1,x2,x3,x4⟩:=h1.Ti a b O;obtain⟨y1,y2,y3,y4⟩:=h2.Ti x1 x2 O;exact⟨y1,y2,by omega,by omega⟩,h2.room.trans h1.room⟩
theorem GB.zero(E:VB):GB E E 0:=⟨λa b _=>⟨a,b,by omega,Int.le_refl _⟩,rfl⟩
end
end Go.Ink
namespace Go.Ink
open List renaming length→J, replicate→R9
open IntKind renaming wrap→V9
open Go.RowKit Go.Proofs.Tryz
variable{α:Type}{x:α}
def BA.cells(x:BA):List Value:=[.w x.b.key.1,.w x.b.key.2,.slice x.A (J (cH x.b.code)) x.c,.i x.b.count]
variable{a:Int}
variable{P:Program}
def SP(P:Program)(k:Nat)(T:TypeId)(a b:Value)(r:Bool):Prop:=∀w:World,(Op.equalIn k T a b).run P w= .ok r w
def RM(P:Program)(k:Nat)(xs ys:Array Value)(fs:List Field)(r:Bool):Prop:=∀w:World,(Op.eqFields k xs ys fs).run P w= .ok r w
section
variable{P:Program}{k:Nat}{T:TypeId}
theorem RM.nil{xs ys:Array Value}:RM P k xs ys [] true:=λw=>I
theorem RM.cons{xs ys:Array Value}{f:Field}{fs:List Field}{a b:Value}{r1 r2:Bool}(hn:f.name≠ "_")(ha:∀w,(part f.type xs f.offset).run P w= .ok a w)(hb:∀w,(part f.type ys f.offset).run P w= .ok b w)(he:SP P k f.type a b r1)(h:RM P k xs ys fs r2):RM P k xs ys (f::fs) (r1&&r2):=λw=>by
 cases r1 with
 |true=>
  simp only[Op.eqFields,if_pos hn,Sem.run_bind,ha w,hb w,Result.andThen_ok,he w,Bool.not_true,Bool.false_eq_true,if_false];exact h w
 |false=>simp[Op.eqFields,if_pos hn,Sem.run_bind,ha w,hb w,Result.andThen_ok,he w]
theorem SP.int{kd kd':IntKind}{a b:Int}(h:P.underlying T=some (.int kd')):SP P (k+1) T (.int kd a) (.int kd b) (a==b):=λw=>by
 rw[run_equalIn_int w k T kd kd' a b h]
end
def LS.zero:LS:=⟨none,0,[]⟩
end Go.Ink
namespace Go.Ink
open List renaming length→J
open IntKind renaming wrap→V9
open Go.RowKit Go.Proofs.Tryz
section
attribute [local irreducible] Ve bN
abbrev II.cells(x:II):List Value:=[.i x.op,.i x.dst,.i x.a,.i x.b,.w x.imm]
theorem hi_one(l:List HI):∀u∈l.flatMap HI.cells,u.oneCell'=true:=λu hu=>by
 obtain⟨i, -,h⟩:=List.mem_flatMap.1 hu;simp only[HI.cells,aI,aY,or_false]at h;rcases h with rfl|rfl|rfl|rfl|rfl<;>rfl
theorem hi_flat(a b:List HI):a.flatMap HI.cells++b.flatMap HI.cells=(a++b).flatMap HI.cells:=by simp
abbrev UX(S:Wj)(l:List HI)(fix:Li)(X:VX):List bJ:=[row S.b (rR S (J l) (J fix) X) 362,W7 X.Al X.cl l,sl .i64 3 X.Af (J fix) X.cf fix]
structure NX(S:Wj)(w:World):Prop where
 reg:Rd w .i64 S.Ag (J S.pl.reg) S.cg S.pl.reg
 slot:Rd w .i64 S.As (J S.pl.slot) S.cs S.pl.slot
 S9:Rd w .i64 S.Q.Ad (J S.p.S9) S.Q.cd S.p.S9
 Ta:Rd w .i64 S.Q.Ar (J S.p.Ta) S.Q.cr S.p.Ta
 code:U5 w 5 S.Q.Ac (J S.p.code) S.Q.cc (S.p.code.flatMap II.cells)
section
variable (S:Wj) (l:List HI) (fix:Li) (X:VX) (hl:J l<=50000)
include hl in
theorem lG(xs:List HI)(A:Oa)(c:Nat)(hx:J xs<=50000)(w:World)(hi:Inv w (bM (UX S l fix X)) (UX S l fix X) w)(h:∀w',dc (bM (UX S l fix X)) w w'->U5 w' 5 A (J xs) c (xs.flatMap HI.cells)):
  UW prog 237 [.p S.b,.slice A (J xs) c] w (UX S l fix X) (λr9 cs=>∃l' X',l'=l++xs/\cs=UX S l' fix X'):=by
 refine Vb func237 ntmps237 hi ?_;refine US ?_;refine gS (cC (e:=370) (sz:=5) (bytes:=40) I I Za I I (λw hi=>(h w hi.To)) (hi_one xs) gD O) I ?_;rintro _ _ ⟨A2,c2,rfl,rfl⟩;rw[hi_flat,<-ar];refine jO ?_;refine Zn (io (cs':=UX S (l++xs) fix ⟨A2,c2,X.Af,X.cf⟩) (.inr I) Zu I ?_);exact pP
include hl in
theorem mn(rd v:Int):CI prog 232 [.p S.b,.i rd,.w v] (UX S l fix X) (λr9 cs=>∃l' X',l'=l++[⟨1,rd,0,0,v⟩]/\cs=UX S l' fix X'):=λw hi=>by
 refine Vb func232 ntmps232 hi ?_;refine UQ ?_;refine wF ?_;rintro _ _ ⟨b10,rfl,rfl⟩;refine dH (UX S l fix X) (λw hi hin=>lG S l fix X hl [⟨1,rd,0,0,v⟩] (sA b10) 1 cJ w hin (λw' hk=>cY (hi.TM Zi (UJ (slv 370 5 (sA b10) 1 1 ([⟨1,rd,0,0,v⟩].flatMap HI.cells))) hk))) ?_;rintro _ _ ⟨_,X2,rfl,rfl⟩;refine Zn (io (cs':=UX S (l++[⟨1,rd,0,0,v⟩]) fix X2) (.inr I) Zu I ?_);exact pP
include hl in
theorem gZ(o rd ra rb:Int):CI prog 303 [.p S.b,.i o,.i rd,.i ra,.i rb] (UX S l fix X) (λr9 cs=>∃l' X',l'=l++[⟨o,rd,ra,rb,0⟩]/\cs=UX S l' fix X'):=λw hi=>by
 refine Vb func303 ntmps303 hi ?_;refine US ?_;refine wF ?_;rintro _ _ ⟨b16,rfl,rfl⟩;refine dH (UX S l fix X) (λw hi hin=>lG S l fix X hl [⟨o,rd,ra,rb,0⟩] (sA b16) 1 cJ w hin (λw' hk=>cY (hi.TM Zi (UJ (slv 370 5 (sA b16) 1 1 ([⟨o,rd,ra,rb,0⟩].flatMap HI.cells))) hk))) ?_;rintro _ _ ⟨_,X2,rfl,rfl⟩;refine Zn (io (cs':=UX S (l++[⟨o,rd,ra,rb,0⟩]) fix X2) (.inr I) Zu I ?_);exact pP
include hl in
theorem Ct(rd ra v:Int):CI prog 302 [.p S.b,.i rd,.i ra,.w v] (UX S l fix X) (λr9 cs=>∃l' X',l'=l++[⟨14,rd,ra,0,v⟩]/\cs=UX S l' fix X'):=λw hi=>by
 refine Vb func302 ntmps302 hi ?_;refine UU ?_;refine wF ?_;rintro _ _ ⟨b13,rfl,rfl⟩;refine dH (UX S l fix X) (λw hi hin=>lG S l fix X hl [⟨14,rd,ra,0,v⟩] (sA b13) 1 cJ w hin (λw' hk=>cY (hi.TM Zi (UJ (slv 370 5 (sA b13) 1 1 ([⟨14,rd,ra,0,v⟩].flatMap HI.cells))) hk))) ?_;rintro _ _ ⟨_,X2,rfl,rfl⟩;refine Zn (io (cs':=UX S (l++[⟨14,rd,ra,0,v⟩]) fix X2) (.inr I) Zu I ?_);exact pP
include hl in
theorem x0(ra v rb:Int):CI prog 310 [.p S.b,.i ra,.w v,.i rb] (UX S l fix X) (λr9 cs=>∃l' X',l'=l++[⟨15,0,ra,rb,v⟩]/\cs=UX S l' fix X'):=λw hi=>by
 refine Vb func310 ntmps310 hi ?_;refine UU ?_;refine wF ?_;rintro _ _ ⟨b13,rfl,rfl⟩;refine dH (UX S l fix X) (λw hi hin=>lG S l fix X hl [⟨15,0,ra,rb,v⟩] (sA b13) 1 cJ w hin (λw' hk=>cY (hi.TM Zi (UJ (slv 370 5 (sA b13) 1 1 ([⟨15,0,ra,rb,v⟩].flatMap HI.cells))) hk))) ?_;rintro _ _ ⟨_,X2,rfl,rfl⟩;refine Zn (io (cs':=UX S (l++[⟨15,0,ra,rb,v⟩]) fix X2) (.inr I) Zu I ?_);exact pP
include hl in
end
end
variable{w:World}
theorem jK{k:IntKind}{l:Li}{n:Nat}(h:n<J l):(ints k l)[n]? =some (.int k (l.getD n 0)):=by grind [cw]
section
variable{C:Cx}{fr:Fr}{x y:Operand}{d:Option Nat}{T:TypeId}{ty:TypeId}{pos:String}{af:Array Edge}{gd:Option (Nat×Bool)}{g:Bool}{k:IntKind}
theorem iy{A:Oa}{ad:Addr}(hA:A=some ad){n c j:Nat}{i:Int}{e sz:Nat}(hT:C.P.underlying T=some (.slice e))(hs:∀w,(sizeOf e).run C.P w= .ok sz w)(hx:Ev fr g x (.slice A n c))(hy:Ev fr g y (.int k i))(hj:g=true->i=(j:Int))(h1:g=true->j<n):
  Ve C ⟨d,.indexAddr T x y,ty,pos,af,gd⟩ fr g Vr (.pointer (some (ad.add (j*sz)))):=by grind [cZ]
end
section
attribute [local irreducible] Ve bN
theorem host_ok(op:Int)(w:World):CW prog 340 [.w op] w (.i (sI op)):=by
 refine UV func340 ntmps340 ?_;refine wn ?_;refine ZW ?_ ?_<;>intro hc2
 .exact EA
 refine UH ?_ ?_<;>intro hc4
 .exact EA
 refine UH ?_ ?_<;>intro hc6
 .exact EA
 refine UH ?_ ?_<;>intro hc8
 .exact EA
 refine UH ?_ ?_<;>intro hc10
 .exact EA
 refine UH ?_ ?_<;>intro hc12
 .exact EA
 refine UH ?_ ?_<;>intro hc14
 .exact EA
 refine jP ?_;exact⟨by unfold sI;grind,rfl⟩
theorem PQ(op:Int)(w:World):CW prog 311 [.i op] w (.tuple #[.w (ib op),.bool (j4 op)]):=by
 refine UV func311 ntmps311 ?_;refine Jm ?_;refine ZW ?_ ?_<;>intro hc2
 .refine U8 ?_;exact NF
 refine UH ?_ ?_<;>intro hc4
 .refine U8 ?_;exact NF
 refine UH ?_ ?_<;>intro hc6
 .refine U8 ?_;exact NF
 refine UH ?_ ?_<;>intro hc8
 .refine U8 ?_;exact NF
 refine eL ?_;exact NF
section
variable(S:Wj)(l:List HI)(fix:Li)(X:VX)
theorem cto_ok(hl:J l<=20000)(n:Nat)(hn:n<J S.pl.reg)(w:World)(hi:Inv w (bM (UX S l fix X)) (UX S l fix X) w)(hK:∀w',dc (bM (UX S l fix X)) w w'->NX S w'):
  UW prog 305 [.p S.b,.i n] w (UX S l fix X) (λr9 cs=>r9= .i (eQ S.pl n 9)/\∃l' X',l'=l++[]/\cs=UX S l' (fix) X'):=by
 have hreg0:=(hK w (dc.refl _ _)).reg;obtain⟨ag,hag⟩:∃ag,S.Ag=some ag:=Option.ne_none_iff_exists'.1 (λe=>by have:=(hreg0.nil e).1;omega);have hreg:∀w',dc (bM (UX S l fix X)) w w'->U5 w' 1 (some ag) (J S.pl.reg) S.cg (ints .i64 S.pl.reg):=λw' hk=>hag▸(hK w' hk).reg
 refine Vb func305 ntmps305 hi ?_;refine kF ?_;refine Ρ ?_;refine Wc ?_ ?_<;>intro hc2
 .have hr:S.pl.inR n=true:=hc2;exact Wq339
 have hr:S.pl.inR n=false:=hc2;exact Wq339
theorem zR(hl:J l<=20000)(n:Nat)(into:Int)(hn:n<J S.pl.reg)(hn2:n<J S.pl.slot)(w:World)(hi:Inv w (bM (UX S l fix X)) (UX S l fix X) w)(hK:∀w',dc (bM (UX S l fix X)) w w'->NX S w'):
  UW prog 306 [.p S.b,.i n,.i into] w (UX S l fix X) (λr9 cs=>r9= .i (eQ S.pl n into)/\∃l' X',l'=l++kr S.pl n into/\cs=UX S l' (fix) X'):=by
 have hreg0:=(hK w (dc.refl _ _)).reg;obtain⟨ag,hag⟩:∃ag,S.Ag=some ag:=Option.ne_none_iff_exists'.1 (λe=>by have:=(hreg0.nil e).1;omega);have hreg:∀w',dc (bM (UX S l fix X)) w w'->U5 w' 1 (some ag) (J S.pl.reg) S.cg (ints .i64 S.pl.reg):=λw' hk=>hag▸(hK w' hk).reg
 have hslot0:=(hK w (dc.refl _ _)).slot;obtain⟨asl,has⟩:∃ag,S.As=some ag:=Option.ne_none_iff_exists'.1 (λe=>by have:=(hslot0.nil e).1;omega);have hslot:∀w',dc (bM (UX S l fix X)) w w'->U5 w' 1 (some asl) (J S.pl.slot) S.cs (ints .i64 S.pl.slot):=λw' hk=>has▸(hK w' hk).slot
 refine Vb func306 ntmps306 hi ?_;refine kF ?_;refine Ρ ?_;refine Wc ?_ ?_<;>intro hc2
 .have hr:S.pl.inR n=true:=hc2;have e1:kr S.pl n into=[]:=by unfold kr;rw[hr];rfl
  refine Va ?_;refine VA (UX S l fix X) ?_;exact⟨by unfold eQ;rw[hr];rfl,l,X,bZ,rfl⟩
 have hr:S.pl.inR n=false:=hc2;have e1:kr S.pl n into=[⟨14,into,15,0,V9 .u32 (64+S.pl.s n)⟩]:=by unfold kr;rw[hr];rfl
 refine fR ?_;refine Wq325 ?_;refine dH (UX S l fix X) (λw hi hin=>Ct S l fix X O into 15 (V9 .u32 (64+S.pl.s n)) w hin) ?_;rintro _ _ ⟨l1,X1,hl1,rfl⟩;refine U8 ?_;refine VA (UX S l1 fix X1) ?_;exact⟨by unfold eQ;rw[hr];rfl,l1,X1,bZ,rfl⟩
theorem QB(hl:J l<=20000)(n:Nat)(r:Int)(hn:n<J S.pl.reg)(hn2:n<J S.pl.slot)(w:World)(hi:Inv w (bM (UX S l fix X)) (UX S l fix X) w)(hK:∀w',dc (bM (UX S l fix X)) w w'->NX S w'):
  UW prog 309 [.p S.b,.i n,.i r] w (UX S l fix X) (λr9 cs=>∃l' X',l'=l++jv S.pl n r/\cs=UX S l' (fix) X'):=by
 have hreg0:=(hK w (dc.refl _ _)).reg;obtain⟨ag,hag⟩:∃ag,S.Ag=some ag:=Option.ne_none_iff_exists'.1 (λe=>by have:=(hreg0.nil e).1;omega);have hreg:∀w',dc (bM (UX S l fix X)) w w'->U5 w' 1 (some ag) (J S.pl.reg) S.cg (ints .i64 S.pl.reg):=λw' hk=>hag▸(hK w' hk).reg
 have hslot0:=(hK w (dc.refl _ _)).slot;obtain⟨asl,has⟩:∃ag,S.As=some ag:=Option.ne_none_iff_exists'.1 (λe=>by have:=(hslot0.nil e).1;omega);have hslot:∀w',dc (bM (UX S l fix X)) w w'->U5 w' 1 (some asl) (J S.pl.slot) S.cs (ints .i64 S.pl.slot):=λw' hk=>has▸(hK w' hk).slot
 refine Vb func309 ntmps309 hi ?_;refine Va ?_;refine Ρ ?_;refine VP ?_ ?_<;>intro hc0
 .have hr:S.pl.inR n=false:=by unfold Pl.inR;rw[ai]at hc0;rw[aa];omega
  have e1:jv S.pl n r=[⟨15,0,15,r,V9 .u32 (64+S.pl.s n)⟩]:=by unfold jv;rw[hr];rfl
  refine Va ?_;refine Wq325 ?_;refine ZA ?_;refine dH (UX S l fix X) (λw hi hin=>x0 S l fix X O 15 (V9 .u32 (64+S.pl.s n)) r w hin) ?_;rintro _ _ ⟨l1,X1,hl1,rfl⟩;refine Zn (io (cs':=UX S l1 fix X1) (.inr I) Zu I ?_);exact⟨l1,X1,bZ,I⟩
 have hr:S.pl.inR n=true:=by unfold Pl.inR;rw[aa]at hc0;rw[ai];omega
 have e1:jv S.pl n r=[]:=by unfold jv;rw[hr];rfl
 refine Zc (io (cs':=UX S l fix X) (.inr I) Zu I ?_);exact⟨l,X,bZ,I⟩
theorem clow_ok(hl:J l<=40000)(r:Int):CI prog 341 [.p S.b,.i r] (UX S l fix X) (λr9 cs=>∃l' X',l'=l++Si r/\cs=UX S l' (fix) X'):=λw hi=>by
 refine Vb func341 ntmps341 hi ?_;refine UN ?_;refine dH (UX S l fix X) (λw hi hin=>mn S l fix X O 12 4294967295 w hin) ?_;rintro _ _ ⟨l1,X1,hl1,rfl⟩;refine UU ?_;refine dH (UX S l1 fix X1) (λw hi hin=>gZ S l1 fix X1 bZ 5 r r 12 w hin) ?_;rintro _ _ ⟨l2,X2,hl2,rfl⟩;refine Zn (io (cs':=UX S l2 fix X2) (.inr I) Zu I ?_);exact⟨l2,X2,(by simp only[hl1,hl2,Si,ah,ac,aw,aU,aR,aD]),rfl⟩
theorem x5(hl:J l<=40000)(rd r:Int):CI prog 342 [.p S.b,.i rd,.i r] (UX S l fix X) (λr9 cs=>∃l' X',l'=l++iD rd r/\cs=UX S l' (fix) X'):=λw hi=>by
 refine Vb func342 ntmps342 hi ?_;refine UN ?_;refine dH (UX S l fix X) (λw hi hin=>mn S l fix X O 12 31 w hin) ?_;rintro _ _ ⟨l1,X1,hl1,rfl⟩;refine UU ?_;refine dH (UX S l1 fix X1) (λw hi hin=>gZ S l1 fix X1 bZ 9 rd r 12 w hin) ?_;rintro _ _ ⟨l2,X2,hl2,rfl⟩;refine Zn (io (cs':=UX S l2 fix X2) (.inr I) Zu I ?_);exact⟨l2,X2,(by simp only[hl1,hl2,iD,ah,ac,aw,aU,aR,aD]),rfl⟩
theorem Ep(hl:J l<=40000)(r up:Int):CI prog 343 [.p S.b,.i r,.w up] (UX S l fix X) (λr9 cs=>∃l' X',l'=l++wO r up/\cs=UX S l' (fix) X'):=λw hi=>by
 refine Vb func343 ntmps343 hi ?_;refine UK ?_;refine dH (UX S l fix X) (λw hi hin=>mn S l fix X O 12 up w hin) ?_;rintro _ _ ⟨l1,X1,hl1,rfl⟩;refine US ?_;refine dH (UX S l1 fix X1) (λw hi hin=>gZ S l1 fix X1 bZ 8 r r 12 w hin) ?_;rintro _ _ ⟨l2,X2,hl2,rfl⟩;refine UQ ?_;refine dH (UX S l2 fix X2) (λw hi hin=>gZ S l2 fix X2 bZ 6 10 10 r w hin) ?_;rintro _ _ ⟨l3,X3,hl3,rfl⟩;refine Zn (io (cs':=UX S l3 fix X3) (.inr I) Zu I ?_);exact⟨l3,X3,(by simp only[hl1,hl2,hl3,wO,ah,ac,aw,aU,aR,aD]),rfl⟩
theorem M5(hl:J l<=30000)(op rd a b:Int):CI prog 307 [.p S.b,.w op,.i rd,.i a,.i b] (UX S l fix X) (λr9 cs=>∃l' X',l'=l++yc op rd a b/\cs=UX S l' (fix) X'):=λw hi=>by
 refine Vb func307 ntmps307 hi ?_;refine UK ?_;refine UZ (λw hi=>host_ok op w) ?_;refine UN ?_;refine dH (UX S l fix X) (λw hi hin=>gZ S l fix X O (sI op) rd a b w hin) ?_;rintro _ _ ⟨l1,X1,hl1,rfl⟩;refine nW ?_;refine ZW ?_ ?_<;>intro hc3
 .refine An ?_;refine bY I (hc3) (Q5 ?_);exact⟨l1,X1,(by simp only[hl1,yc,zk,bA,bG,Bool.or_false,bj,hc3,ah,ac,aw,aU,aR,aD]),rfl⟩
 refine UH ?_ ?_<;>intro hc4
 .refine An ?_;refine bY I (hc4) (Q5 ?_);exact⟨l1,X1,(by simp only[hl1,yc,zk,bA,bG,Bool.or_false,bj,hc3,hc4,ah,ac,aw,aU,aR,aD]),rfl⟩
 refine UH ?_ ?_<;>intro hc5
 .refine An ?_;refine bY I (hc5) (Q5 ?_);exact⟨l1,X1,(by simp only[hl1,yc,zk,bA,bG,Bool.or_false,bj,hc3,hc4,hc5,ah,ac,aw,aU,aR,aD]),rfl⟩
 refine Wh ?_ ?_<;>intro hc6
 .refine Q5 ?_;exact⟨l1,X1,(by simp only[hl1,yc,zk,bA,bG,Bool.or_false,bj,hc3,hc4,hc5,hc6,ah,ac,aw,aU,aR,aD]),rfl⟩
 refine UN ?_;refine dH (UX S l1 fix X1) (λw hi hin=>clow_ok S l1 fix X1 bZ rd w hin) ?_;rintro _ _ ⟨l2,X2,hl2,rfl⟩;refine An ?_;exact io (cs':=UX S l2 fix X2) (.inr I) Zu I ⟨l2,X2,(by simp only[hl1,hl2,yc,zk,bA,bG,Bool.or_false,bj,hc3,hc4,hc5,hc6,ah,ac,aw,aU,aR,aD]),rfl⟩
theorem QF(hl:J l<=20000)(op a b:Int):CI prog 308 [.p S.b,.w op,.i a,.i b] (UX S l fix X) (λr9 cs=>∃l' X',l'=l++mP op a b/\cs=UX S l' (fix) X'):=λw hi=>by
 have ha:=ud op 9 a b;have hs:∀x y,J (iD x y)=2:=λ_ _=>I
 have hb:∀x y,J (wO x y)=3:=λ_ _=>I
 refine Vb func308 ntmps308 hi ?_;refine UU ?_;refine dH (UX S l fix X) (λw hi hin=>M5 S l fix X O op 9 a b w hin) ?_;rintro _ _ ⟨l1,X1,hl1,rfl⟩;refine UQ ?_;refine dH (UX S l1 fix X1) (λw hi hin=>gZ S l1 fix X1 bZ 13 10 9 15 w hin) ?_;rintro _ _ ⟨l2,X2,hl2,rfl⟩;refine UQ ?_;refine dH (UX S l2 fix X2) (λw hi hin=>x5 S l2 fix X2 bZ 11 9 w hin) ?_;rintro _ _ ⟨l3,X3,hl3,rfl⟩;refine UQ ?_;refine dH (UX S l3 fix X3) (λw hi hin=>Ep S l3 fix X3 bZ 11 1 w hin) ?_;rintro _ _ ⟨l4,X4,hl4,rfl⟩;refine An ?_;refine cj (λq:List HI×VX=>[(0,.p S.b)]) (λq=>UX S q.1 fix q.2) (λq=>J q.1<=J l+30/\q.1++(⟨5,11,11,12,0⟩::(iD 11 11++wO 11 3))=l++mP op a b) ?_ ?_
 .refine fR ?_;refine ZW ?_ ?_<;>intro hc5
  .refine UK ?_;refine dH (UX S l4 fix X4) (λw hi hin=>gZ S l4 fix X4 Α 12 11 9 a w hin) ?_;rintro _ _ ⟨l5,X5,hl5,rfl⟩;refine Ω ?_;rintro _ _ ⟨_,⟨l6,X6,hl6,rfl⟩,rfl⟩;refine UU ?_;refine dH (UX S l6 fix X6) (λw hi hin=>gZ S l6 fix X6 Ζ 7 11 a 9 w hin) ?_;rintro _ _ ⟨l7,X7,hl7,rfl⟩;refine UQ ?_;refine dH (UX S l7 fix X7) (λw hi hin=>gZ S l7 fix X7 Λ 7 12 b 9 w hin) ?_;rintro _ _ ⟨l8,X8,hl8,rfl⟩;refine An ?_;refine VM (((l8,X8):List HI×VX)) ⟨by grind,by simp only[hl1,hl2,hl3,hl4,hl5,hl6,hl7,hl8,mP,gf,kX,kW,ic,ah,ac,bG,bA,aw,aU,aR,hc5]⟩
  refine VJ ?_ ?_<;>intro hc10
  .refine Eu ?_;refine UQ ?_;refine dH (UX S l4 fix X4) (λw hi hin=>gZ S l4 fix X4 Α 12 11 a b w hin) ?_;rintro _ _ ⟨l5,X5,hl5,rfl⟩;refine Ω ?_;rintro _ _ ⟨_,⟨l6,X6,hl6,rfl⟩,rfl⟩;refine US ?_;refine dH (UX S l6 fix X6) (λw hi hin=>gZ S l6 fix X6 Ζ 7 11 a b w hin) ?_;rintro _ _ ⟨l7,X7,hl7,rfl⟩;refine UQ ?_;refine dH (UX S l7 fix X7) (λw hi hin=>gZ S l7 fix X7 Λ 7 12 a 9 w hin) ?_;rintro _ _ ⟨l8,X8,hl8,rfl⟩;refine An ?_;refine VM (((l8,X8):List HI×VX)) ⟨by grind,by simp only[hl1,hl2,hl3,hl4,hl5,hl6,hl7,hl8,mP,gf,kX,kW,ic,ah,ac,bG,bA,aw,aU,aR,hc5,hc10]⟩
  refine Wh ?_ ?_<;>intro hc11
  .refine UQ ?_;refine dH (UX S l4 fix X4) (λw hi hin=>gZ S l4 fix X4 Α 12 11 a b w hin) ?_;rintro _ _ ⟨l5,X5,hl5,rfl⟩;refine Ω ?_;rintro _ _ ⟨_,⟨l6,X6,hl6,rfl⟩,rfl⟩;refine US ?_;refine dH (UX S l6 fix X6) (λw hi hin=>gZ S l6 fix X6 Ζ 7 11 a b w hin) ?_;rintro _ _ ⟨l7,X7,hl7,rfl⟩;refine UQ ?_;refine dH (UX S l7 fix X7) (λw hi hin=>gZ S l7 fix X7 Λ 7 12 a 9 w hin) ?_;rintro _ _ ⟨l8,X8,hl8,rfl⟩;refine An ?_;refine VM (((l8,X8):List HI×VX)) ⟨by grind,by simp only[hl1,hl2,hl3,hl4,hl5,hl6,hl7,hl8,mP,gf,kX,kW,ic,ah,ac,bG,bA,aw,aU,aR,hc5,hc10,hc11]⟩
  refine UN ?_;exact io (cs':=UX S l4 fix X4) (.inl I) Zu I ⟨l4,X4,(by simp only[hl1,hl2,hl3,hl4,mP,gf,hc5,hc10,hc11,Bool.or_false,ah,ac,aw,aU,aR,aD]),rfl⟩
 rintro⟨m9,s9⟩ ⟨hs8,hs9⟩;dsimp only at hs8 hs9|-;refine UN ?_;refine dH (UX S m9 fix s9) (λw hi hin=>gZ S m9 fix s9 O 5 11 11 12 w hin) ?_;rintro _ _ ⟨l21,X21,hl21,rfl⟩;refine UQ ?_;refine dH (UX S l21 fix X21) (λw hi hin=>x5 S l21 fix X21 bZ 11 11 w hin) ?_;rintro _ _ ⟨l22,X22,hl22,rfl⟩;refine UK ?_;refine dH (UX S l22 fix X22) (λw hi hin=>Ep S l22 fix X22 bZ 11 3 w hin) ?_;rintro _ _ ⟨l23,X23,hl23,rfl⟩;refine Zn (io (cs':=UX S l23 fix X23) (.inr I) Zu I ?_);exact⟨l23,X23,bZ,I⟩
end
end
end Go.Ink
namespace Go.Ink
open List renaming length→J, replicate→R9
open IntKind renaming wrap→V9
open Go.RowKit Go.Proofs.Tryz
section
attribute [local irreducible] Ve bN
section
variable(S:Wj)(l:List HI)(fix:Li)(X:VX)
theorem Gp(hl:J l<=20000)(j into:Int)(hj:∃n:Nat,j=n/\n<J S.pl.reg/\n<J S.pl.slot)(w:World)(hi:Inv w (bM (UX S l fix X)) (UX S l fix X) w)(hK:∀w',dc (bM (UX S l fix X)) w w'->NX S w'):
  UW prog 306 [.p S.b,.i j,.i into] w (UX S l fix X) (λr9 cs=>r9= .i (eQ S.pl j into)/\∃l' X',l'=l++kr S.pl j into/\cs=UX S l' (fix) X'):=by
 grind [zR]
end
variable{α:Type}{f:α->Bool}{l:List α}{k:Nat}{x:α}
theorem Gz(hx:l[k]? =some x)(h:(l.take k).all f=true)(hf:f x=true):(l.take (k+1)).all f=true:=by
 grind [List.take_add_one]
theorem SF(hx:l[k]? =some x)(hf:f x=false):l.all f=false:=by
 grind
structure GC(p:Pg)(Q:Xu)(w:World):Prop where
 code:U5 w 5 Q.Ac (J p.code) Q.cc (p.code.flatMap II.cells)
 S9:Rd w .i64 Q.Ad (J p.S9) Q.cd p.S9
 Ta:Rd w .i64 Q.Ar (J p.Ta) Q.cr p.Ta
end
end Go.Ink
