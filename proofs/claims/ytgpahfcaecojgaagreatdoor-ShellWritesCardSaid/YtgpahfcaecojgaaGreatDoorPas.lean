/- Lemmas. -/
import Derived.Test.YtgpahfcaecojgaaGreatDoorPzn
import Derived.Test.YtgpahfcaecojgaaGreatDoorPar
set_option linter.all false
set_option maxRecDepth 100000
set_option maxHeartbeats 4000000
namespace Go.Ink
open Go.RowKit Go.Proofs.Tryz
def tV(p:Pg):List Int:=bif p.Xf then(bif p.Xi then[4,7,12,15]else[4,7])else[]
def HI.imm'(i:HI)(e:Int):HI:=⟨i.op,i.rd,i.ra,i.rb,e⟩
def qy(e:Int):List Int->List HI->List HI
 |[],l=>l
 |i::f,l=>qy e f (l.set i.toNat ((l.getD i.toNat HI.zero).imm' e))
theorem yU(p:Pg)(pl:Pl)(e:Int):qy e (tV p) (fG p pl 0)=fG p pl e:=by
 unfold tV fG wD;cases p.Xf<;>cases p.Xi<;>rfl
theorem VO(p:Pg)(pl:Pl):∀i,i∈tV p->∃n:Nat,i=n/\n<(fG p pl 0).length:=λi hi=>by
 have h2:p.Xf=true:=by
  cases h:p.Xf with
  |true=>rfl
  |false=>grind [tV]
 unfold tV at hi;rw[h2,ai]at hi;unfold fG;rw[h2,ai];cases h3:p.Xi<;>rw[h3]at hi<;>simp only[ai,ah,aJ,aY,or_false]at hi|-
 .have hl:(⟨1,15,0,0,0⟩::qq 0 14 2 p.Wc p.Xl:List HI).length=9:=rfl;rcases hi with rfl|rfl
  .exact⟨4,rfl,by omega⟩
  exact⟨7,rfl,by omega⟩
 have hl:(wD p 0).length=17:=rfl;rcases hi with rfl|rfl|rfl|rfl
 .exact⟨4,rfl,by grind⟩
 .exact⟨7,rfl,by grind⟩
 .exact⟨12,rfl,by grind⟩
 exact⟨15,rfl,by grind⟩
theorem end_len(p:Pg)(pl:Pl)(n:Nat):(uN p pl n).length<=20:=by
 grind [zo,wZ,gM,vk,uN]
theorem BS(p:Pg)(pl:Pl)(e:Int)(hc:p.code.length<=64)(hD:p.Wo.length<=100)(hR:p.Wp.length<=100):(fG p pl e).length<=4000:=by
 have h1:=Du p.Wc p.Wd pl p.code 0;have h2:=oC pl 14 4 2 p.Wo;have h3:=oC pl 13 20 3 p.Wp;have h4:=end_len p pl (17+(iY p pl).length);have h5:(wD p e).length=17:=rfl;unfold fG;cases p.Xf<;>cases p.Xi<;>simp only[ai,ah]
 .simp
 .simp
 .show 9<=4000;omega
 grind [iY,ka,iZ]
theorem VL:∀(l:List HI) (i:Nat) (e:Int),i<l.length->(l.flatMap HI.cells).set (i*5+4) (.w e)=(l.set i ((l.getD i HI.zero).imm' e)).flatMap HI.cells
 |[],_,_,h=>by simp at h
 |x::l,0,e,_=>rfl
 |x::l,i+1,e,h=>by
  have ih:=VL l i e bY
  grind
theorem zi{p:Pg}(h:p.Ws=true):(0<=p.Wc/\p.Wc<=16)/\(0<=p.Wd/\p.Wd<=16)/\(0<=p.WH/\p.WH<=16)/\(0<=p.WK/\p.WK<=16):=by
 grind [Pg.Ws,Pg.W9,wQ]
section
attribute [local irreducible] OpY bN
theorem wS(S:CdS)(l:List HI)(fix:Li)(X:CAd)(hl:l.length<=10000)(base word Wi high:Int)(o:Nat)(ok:Bool)(hok:(!decide (i3 Wi high o<Wi))=ok)(hb1:0<=Wi/\Wi<=100000)(hb2: -100000<=high/\high<=100000)(hb3:o<=100000)(hf:fix.length<=100):CI prog 214 [.p S.b,.i base,.w word,.i Wi,.i high,.i o] (cdF S l fix X) (λr9 cs=>r9= .bool ok/\∃l' f' X',l'=l++(bif ok then qq 0 base word Wi (i3 Wi high o)else[])/\f'=fix++(bif ok then[((l.length+3:Nat):Int),((l.length+6:Nat):Int)]else[])/\cs=cdF S l' f' X'):=λw hi=>by
 subst hok
 grind [TL]
theorem Ew(p:Pg)(Q:PAd)(hf:uo p)(hr:p.Ws=true)(pl:Pl)(hpl:dW p=pl)(w:World)(h:Jo p Q w):
  Ctr prog 212 [pgv p Q,.i 7] w [] (λr cs=>∃Ar cr As c2,r= .tuple #[.agg #[.slice Ar pl.reg.length cr,.slice As pl.slot.length c2,.i pl.WG],.i 0]/\cs=[sl .i64 3 Ar pl.reg.length cr pl.reg,sl .i64 3 As pl.slot.length c2 pl.slot]):=by
 grind [Ue,qw,gg,dW]
theorem Pw(p:Pg)(Q:PAd)(hf:uo p)(hr:p.Ws=true)(hg:fZ (gl p (dW p)))(hroom:p.Xf=true)(w:World)(h:Jo p Q w):
  Ctr prog 187 [pgv p Q] w [] (λr cs=>∃A c,r= .tuple #[.slice A (cI (gl p (dW p))).length c,.i 0]/\cs=[sl .u8 5 A (cI (gl p (dW p))).length c (cI (gl p (dW p)))]):=by
 have hm64:=hf.Wz;have hoD:=hf.Wo;have hoR:=hf.Wp;have hrc:=h.code;obtain⟨u1,u2,u3,u4⟩:=rQ hr;obtain⟨hnD,hnR,hhD,hhR⟩:=zi hr;obtain⟨hrl,hsl⟩:(dW p).reg.length=p.code.length/\(dW p).slot.length=p.code.length:=qw (gg p) 7 p.code.length p.code.length;obtain⟨pl,hpl⟩:=Zgn (dW p);rw[hpl]at hg hrl hsl|-;have hAl:=Ew p Q hf hr pl hpl;have hbl:=λe=>BS p pl e hm64 hoD hoR
 have hpb:=yU p pl (IntKind.u32.wrap ((fG p pl 0).length:Nat));have hfx:=VO p pl;have hcode:gl p pl=fG p pl (IntKind.u32.wrap ((fG p pl 0).length:Nat))++[⟨19,0,0,0,2⟩]:=rfl;obtain⟨C9,hC9⟩:=Zgn (gl p pl);rw[hC9]at hg hcode|-;have hC9l:C9.length<=100000:=by have:=hbl (IntKind.u32.wrap ((fG p pl 0).length:Nat));rw[hcode,aj,aO,List.length_nil];omega
 have hJ:=λA c w h=>Iz A c C9 hg hC9l w h
 refine Zfs func187 ntmps187 ?_;refine Z_2 ?_;refine ZO λb1=>?_;refine Z_7 ?_;refine ZSn (λw hi=>hAl w (h.Wh hi)) ?_;rintro _ _ ⟨Ar,cr,As,c2,rfl,rfl⟩;refine Z_3 ?_;refine ZN λb4=>?_
 refine sF ?_;refine kv ?_;refine Z_7 ?_;refine ZO λb21=>?_
 refine Wq273 ?_;rintro _ _ ⟨_,⟨l1,X1,hl1,rfl⟩,rfl⟩;refine Z_2 ?_;refine cL (λq:List HI×List Int×CAd=>[(6,.p b21)]) (λq=>[row b21 (ss (⟨b21,p,Q,pl,Ar,cr,As,c2⟩:CdS) q.1.length q.2.1.length q.2.2) 339,hiC q.2.2.Al q.2.2.cl q.1,sl .i64 3 q.2.2.Af q.2.1.length q.2.2.cf q.2.1]) (λq=>q.1=fG p pl 0/\q.2.1=tV p) ?_ ?_
 .refine fH ?_;refine dy (cdF (⟨b21,p,Q,pl,Ar,cr,As,c2⟩:CdS) l1 [] X1) (λw hi hin=>wS (⟨b21,p,Q,pl,Ar,cr,As,c2⟩:CdS) l1 [] X1 bY 14 2 p.Wc p.WH p.Wo.length true hroom ⟨by omega,by omega⟩ ⟨by omega,by omega⟩ Wq1 cP w hin) ?_;rintro _ _ ⟨rfl,l2,f2,X2,hl2,hf2,rfl⟩;refine ZA ?_;have hl2n:l2.length=9:=(by rw[hl2,hl1];rfl);have hf2n:f2=[4,7]:=bY;obtain⟨rr,hrr⟩:=Zgn (p.Xi);refine Z_8 ?_;refine fF (bS rfl rfl) rfl (dN (cdF (⟨b21,p,Q,pl,Ar,cr,As,c2⟩:CdS) l2 f2 X2) rfl (λ_ _=>rfl) Zi (λw hi hin=>wS (⟨b21,p,Q,pl,Ar,cr,As,c2⟩:CdS) l2 f2 X2 Wq1 13 3 p.Wd p.WK p.Wp.length rr hrr ⟨by omega,by omega⟩ ⟨by omega,by omega⟩ Wq1 bY w hin)) rfl ?_;rintro _ _ ⟨_,⟨rfl,l3,f3,X3,hl3,hf3,rfl⟩,rfl⟩;refine Zw3 ?_ ?_<;>intro hc6
  .obtain rfl:rr=true:=bY;have hl3n:l3.length=17:=(by rw[hl3,aj,hl2n];rfl);have hl3h:l3=wD p 0:=(by rw[hl3,hl2,hl1];rfl);have hf3n:f3=[4,7,12,15]:=bY;refine fH ?_;refine wLo (λq:Nat×List HI×CAd=>[(1,.p b1),(6,.p b21),(45,.slice Q.Ac p.code.length Q.cc),(46,.i p.code.length),(47,.i (q.1:Int))]) (λq=>[row b21 (ss (⟨b21,p,Q,pl,Ar,cr,As,c2⟩:CdS) q.2.1.length f3.length q.2.2) 339,hiC q.2.2.Al q.2.2.cl q.2.1,sl .i64 3 q.2.2.Af f3.length q.2.2.cf f3,row b1 (jL p Q) 297,(sl .i64 3 Ar pl.reg.length cr pl.reg),(sl .i64 3 As pl.slot.length c2 pl.slot)]) (λq=>q.1<=p.code.length/\q.2.1=l3++ka p.Wc p.Wd pl (p.code.take q.1) 0) (λq=>p.code.length - q.1) (⟨0,l3,X3⟩) ⟨ap _,(aw l3).symm⟩ ?_;rintro⟨k,l4,X4⟩ ⟨hk,hl4⟩;dsimp only at hk hl4|-;have hml:=Du p.Wc p.Wd pl (p.code.take k) 0;have hl4n:l4.length<=2000:=bY;refine Zw6 ?_ ?_<;>intro hc8
   .simp only[ac]at hc8;have hkl:k<p.code.length:=Wq1;obtain⟨ad,had⟩:=hrc.some_ Wq1;have hrc2:=hrc;rw[had]at hrc2;obtain⟨x,hx⟩:∃x,p.code[k]? =some x:=⟨_,ae hkl⟩;have hu:=u1 k x hx;have hmk:l3++ka p.Wc p.Wd pl (p.code.take (k+1)) 0=l4++r8 p.Wc p.Wd pl k x:=(by rw[bE,hx,hl4];show l3++ka _ _ _ (p.code.take k++[x]) 0=_;rw[zb,aq,Nat.zero_add,aD,Nat.min_eq_left Wq1]);obtain⟨op,dst,xa,xb,imm⟩:=x;dsimp only at hu;have hab:(op==3)=true\/(op==4)=true->∃na nb:Nat,xa=na/\xb=nb/\(na<pl.reg.length/\na<pl.slot.length)/\(nb<pl.reg.length/\nb<pl.slot.length):=(λho=>by obtain⟨⟨a1,a2⟩,a3,a4⟩:=hu (by unfold lH;grind);exact⟨xa.toNat,xb.toNat,by omega,by omega,⟨by omega,by omega⟩,by omega,by omega⟩);refine Z_7 ?_;refine Ux ?_;refine Wq183 ?_;refine ZN λb8=>?_
    refine ZA ?_;refine jj ?_;refine dy (cdF (⟨b21,p,Q,pl,Ar,cr,As,c2⟩:CdS) l4 f3 X4) (λw hi hin=>cone_ok (⟨b21,p,Q,pl,Ar,cr,As,c2⟩:CdS) l4 f3 X4 Wq1 k op dst xa xb imm bY bY hab w hin (λw' hk=>(⟨dx (hi.Xc Zi (Zhc (sl .i64 3 Ar pl.reg.length cr pl.reg)) hk),dx (hi.Xc Zi (Zhc (sl .i64 3 As pl.slot.length c2 pl.slot)) hk),RdV.Wm h.Wo hi Zi hk,RdV.Wm h.Wp hi Zi hk,RdV.Wm h.code hi Zi hk⟩:QJ (⟨b21,p,Q,pl,Ar,cr,As,c2⟩:CdS) w'))) ?_;rintro _ _ ⟨l5,X5,hl5,rfl⟩;refine jS ?_;refine qMP ((⟨k+1,l5,X5⟩:Nat×List HI×CAd)) bY
   simp only[aa]at hc8;obtain rfl:k=p.code.length:=by omega
   rw[bC]at hl4;refine Z_7 ?_;have hs1:=oC pl 14 4 2 p.Wo;have hs2:=oC pl 13 20 3 p.Wp;have hoj:∀j,j∈p.Wo\/j∈p.Wp->∃n:Nat,j=n/\n<pl.reg.length/\n<pl.slot.length:=(λj hj=>by obtain⟨a1,a2⟩:=u2 j hj;exact⟨j.toNat,by omega,by omega,by omega⟩);refine Z_3 ?_;refine dy (cdF (⟨b21,p,Q,pl,Ar,cr,As,c2⟩:CdS) l4 f3 X4) (λw hi hin=>Eh (⟨b21,p,Q,pl,Ar,cr,As,c2⟩:CdS) l4 f3 X4 Wq1 14 4 2 Q.Ad Q.cd p.Wo Wq1 (λj hj=>hoj j (Or.inl hj)) w hin (λw' hk=>(⟨dx (hi.Xc Zi (Zhc (sl .i64 3 Ar pl.reg.length cr pl.reg)) hk),dx (hi.Xc Zi (Zhc (sl .i64 3 As pl.slot.length c2 pl.slot)) hk),RdV.Wm h.Wo hi Zi hk,RdV.Wm h.Wp hi Zi hk,RdV.Wm h.code hi Zi hk⟩:QJ (⟨b21,p,Q,pl,Ar,cr,As,c2⟩:CdS) w')) (λw' hk=>RdV.Wm h.Wo hi Zi hk)) ?_;rintro _ _ ⟨l6,X6,hl6,rfl⟩;refine Z_4 ?_;have hl6n:l6.length<=4000:=bY;refine Z_3 ?_;refine dy (cdF (⟨b21,p,Q,pl,Ar,cr,As,c2⟩:CdS) l6 f3 X6) (λw hi hin=>Eh (⟨b21,p,Q,pl,Ar,cr,As,c2⟩:CdS) l6 f3 X6 Wq1 13 20 3 Q.Ar Q.cr p.Wp Wq1 (λj hj=>hoj j (Or.inr hj)) w hin (λw' hk=>(⟨dx (hi.Xc Zi (Zhc (sl .i64 3 Ar pl.reg.length cr pl.reg)) hk),dx (hi.Xc Zi (Zhc (sl .i64 3 As pl.slot.length c2 pl.slot)) hk),RdV.Wm h.Wo hi Zi hk,RdV.Wm h.Wp hi Zi hk,RdV.Wm h.code hi Zi hk⟩:QJ (⟨b21,p,Q,pl,Ar,cr,As,c2⟩:CdS) w')) (λw' hk=>RdV.Wm h.Wp hi Zi hk)) ?_;rintro _ _ ⟨l7,X7,hl7,rfl⟩;refine Z_3 ?_;have hl7n:l7.length<=8000:=bY;have hl7e:l7=wD p 0++iY p pl:=(by rw[hl7,hl6,hl4,hl3h];unfold iY;grind);refine ZA ?_;refine dy (cdF (⟨b21,p,Q,pl,Ar,cr,As,c2⟩:CdS) l7 f3 X7) (λw hi hin=>cend_ok (⟨b21,p,Q,pl,Ar,cr,As,c2⟩:CdS) l7 f3 X7 Wq1 (λh0=>⟨p.flags.toNat,by grind,by grind,by grind⟩) (λh0=>⟨p.target.toNat,by grind,by grind,by grind⟩) w hin (λw' hk=>(⟨dx (hi.Xc Zi (Zhc (sl .i64 3 Ar pl.reg.length cr pl.reg)) hk),dx (hi.Xc Zi (Zhc (sl .i64 3 As pl.slot.length c2 pl.slot)) hk),RdV.Wm h.Wo hi Zi hk,RdV.Wm h.Wp hi Zi hk,RdV.Wm h.code hi Zi hk⟩:QJ (⟨b21,p,Q,pl,Ar,cr,As,c2⟩:CdS) w'))) ?_;rintro _ _ ⟨l8,X8,hl8,rfl⟩;refine Zn (qMP (((l8,f3,X8):List HI×List Int×CAd)) ⟨by dsimp only;rw[hl8,show l7.length=17+(iY p pl).length by grind];unfold fG;grind,by dsimp only;rw[hf3n];unfold tV;grind⟩)
  obtain rfl:rr=false:=bY;refine Zc (qMP (((l3,f3,X3):List HI×List Int×CAd)) ⟨by dsimp only;rw[hl3,hl2,hl1];unfold fG;rw[hroom,hrr];rfl,by dsimp only;rw[hf3,hf2n];unfold tV;grind⟩)
 rintro⟨l9,f9,⟨Al,cl,Af,cf⟩⟩ ⟨hb9,hf9⟩;dsimp only at hb9 hf9|-;rw[<-hb9]at hpb hcode hfx;rw[<-hf9]at hpb hfx;have hl9n:=hbl 0;rw[<-hb9]at hl9n;have hf9n:f9.length<=4:=(by rw[hf9];unfold tV;grind);obtain⟨B9,hB9⟩:=Zgn (fG p pl (IntKind.u32.wrap ((l9.length:Nat):Int)));rw[hB9]at hpb hcode;refine Wq100 ?_;rintro⟨k,m⟩ ⟨hk,hml,hP⟩;dsimp only at hk hml hP|-;refine Zw6 ?_ ?_<;>intro hc16
 .simp only[ac]at hc16;have hkl:k<f9.length:=Wq1;obtain⟨i,hx⟩:∃i,f9[k]? =some i:=⟨_,ae hkl⟩;obtain⟨n,rfl,hn⟩:=hfx i (ak hx);rw[jA hx]at hP;have hP:qy (IntKind.u32.wrap (l9.length:Int)) (f9.drop (k+1)) (m.set n ((m.getD n HI.zero).imm' (IntKind.u32.wrap (l9.length:Int))))=B9:=hP;refine Z_6 ?_;refine dU (λw hi=>dV (hi.get (Zhc (hiC Al cl m))) Wq1) (λh1=>?_);refine dU (λw hi=>eM (hi.get (Zhc (sl .i64 3 Af f9.length cf f9))) Wq1) (λh2=>?_);obtain⟨ba,rfl⟩:=h1;obtain⟨bf,rfl⟩:=h2;refine Ex ?_;refine dQ (bM Zrf Zv0) (vx Zh (cK hx)) rfl (Z_3 ?_);refine bU (Zdn [13]) Zk (pP ?_);refine ZFe 2 17 ?_;refine pQ ?_;refine kU ?_;refine ZFe 7 17 ?_;refine ZG 8 ?_;refine ZE 9 ?_;refine Wq175 ?_;rintro _ _ ⟨rfl,rfl⟩;refine Wq437 ?_;refine qMP ((⟨k+1,m.set n ((m.getD n HI.zero).imm' (IntKind.u32.wrap (l9.length:Int)))⟩:Nat×List HI)) bY
 simp only[aa]at hc16;obtain rfl:k=f9.length:=by omega
 rw[List.drop_length]at hP;obtain rfl:m=B9:=hP;refine Z_9 ?_;exact Wq415
theorem Py(p:Pg)(Q:PAd)(hf:uo p)(hr:p.Ws=true)(hg:fZ (gl p (dW p)))(hroom:p.Xf=false)(w:World)(h:Jo p Q w):
  Ctr prog 187 [pgv p Q] w [] (λr cs=>∃A c,r= .tuple #[.slice A (cI (gl p (dW p))).length c,.i 0]/\cs=[sl .u8 5 A (cI (gl p (dW p))).length c (cI (gl p (dW p)))]):=by
 have hm64:=hf.Wz;have hoD:=hf.Wo;have hoR:=hf.Wp;have hrc:=h.code;obtain⟨u1,u2,u3,u4⟩:=rQ hr;obtain⟨hnD,hnR,hhD,hhR⟩:=zi hr;obtain⟨hrl,hsl⟩:(dW p).reg.length=p.code.length/\(dW p).slot.length=p.code.length:=qw (gg p) 7 p.code.length p.code.length;obtain⟨pl,hpl⟩:=Zgn (dW p);rw[hpl]at hg hrl hsl|-;have hAl:=Ew p Q hf hr pl hpl;have hbl:=λe=>BS p pl e hm64 hoD hoR
 have hpb:=yU p pl (IntKind.u32.wrap ((fG p pl 0).length:Nat));have hfx:=VO p pl;have hcode:gl p pl=fG p pl (IntKind.u32.wrap ((fG p pl 0).length:Nat))++[⟨19,0,0,0,2⟩]:=rfl;obtain⟨C9,hC9⟩:=Zgn (gl p pl);rw[hC9]at hg hcode|-;have hC9l:C9.length<=100000:=by have:=hbl (IntKind.u32.wrap ((fG p pl 0).length:Nat));rw[hcode,aj,aO,List.length_nil];omega
 have hJ:=λA c w h=>Iz A c C9 hg hC9l w h
 refine Zfs func187 ntmps187 ?_;refine Z_2 ?_;refine ZO λb1=>?_;refine Z_7 ?_;refine ZSn (λw hi=>hAl w (h.Wh hi)) ?_;rintro _ _ ⟨Ar,cr,As,c2,rfl,rfl⟩;refine Z_3 ?_;refine ZN λb4=>?_
 refine sF ?_;refine kv ?_;refine Z_7 ?_;refine ZO λb21=>?_
 refine Wq273 ?_;rintro _ _ ⟨_,⟨l1,X1,hl1,rfl⟩,rfl⟩;refine Z_2 ?_;refine cL (λq:List HI×List Int×CAd=>[(6,.p b21)]) (λq=>[row b21 (ss (⟨b21,p,Q,pl,Ar,cr,As,c2⟩:CdS) q.1.length q.2.1.length q.2.2) 339,hiC q.2.2.Al q.2.2.cl q.1,sl .i64 3 q.2.2.Af q.2.1.length q.2.2.cf q.2.1]) (λq=>q.1=fG p pl 0/\q.2.1=tV p) ?_ ?_
 .refine fH ?_;refine dy (cdF (⟨b21,p,Q,pl,Ar,cr,As,c2⟩:CdS) l1 [] X1) (λw hi hin=>wS (⟨b21,p,Q,pl,Ar,cr,As,c2⟩:CdS) l1 [] X1 bY 14 2 p.Wc p.WH p.Wo.length false hroom ⟨by omega,by omega⟩ ⟨by omega,by omega⟩ Wq1 cP w hin) ?_;rintro _ _ ⟨rfl,l2,f2,X2,hl2,hf2,rfl⟩;refine ZA ?_;refine Wq22 ?_;refine Wq22 ?_;refine io (bS rfl rfl) rfl rfl (Zy (Ju (q:=false) (Zv rfl) ⟨_,rfl,λ_ e=>by simp at e⟩) ?_);refine pN ?_;refine Zc (qMP (((l2,f2,X2):List HI×List Int×CAd)) ⟨by dsimp only;rw[hl2,hl1];unfold fG;grind,by dsimp only;rw[hf2];unfold tV;grind⟩)
 rintro⟨l9,f9,⟨Al,cl,Af,cf⟩⟩ ⟨hb9,hf9⟩;dsimp only at hb9 hf9|-;rw[<-hb9]at hpb hcode hfx;rw[<-hf9]at hpb hfx;have hl9n:=hbl 0;rw[<-hb9]at hl9n;have hf9n:f9.length<=4:=(by rw[hf9];unfold tV;grind);obtain⟨B9,hB9⟩:=Zgn (fG p pl (IntKind.u32.wrap ((l9.length:Nat):Int)));rw[hB9]at hpb hcode;refine Wq100 ?_;rintro⟨k,m⟩ ⟨hk,hml,hP⟩;dsimp only at hk hml hP|-;refine Zw6 ?_ ?_<;>intro hc16
 .simp only[ac]at hc16;have hkl:k<f9.length:=Wq1;obtain⟨i,hx⟩:∃i,f9[k]? =some i:=⟨_,ae hkl⟩;obtain⟨n,rfl,hn⟩:=hfx i (ak hx);rw[jA hx]at hP;have hP:qy (IntKind.u32.wrap (l9.length:Int)) (f9.drop (k+1)) (m.set n ((m.getD n HI.zero).imm' (IntKind.u32.wrap (l9.length:Int))))=B9:=hP;refine Z_6 ?_;refine dU (λw hi=>dV (hi.get (Zhc (hiC Al cl m))) Wq1) (λh1=>?_);refine dU (λw hi=>eM (hi.get (Zhc (sl .i64 3 Af f9.length cf f9))) Wq1) (λh2=>?_);obtain⟨ba,rfl⟩:=h1;obtain⟨bf,rfl⟩:=h2;refine Ex ?_;refine dQ (bM Zrf Zv0) (vx Zh (cK hx)) rfl (Z_3 ?_);refine bU (Zdn [13]) Zk (pP ?_);refine ZFe 2 17 ?_;refine pQ ?_;refine kU ?_;refine ZFe 7 17 ?_;refine ZG 8 ?_;refine ZE 9 ?_;refine Wq175 ?_;rintro _ _ ⟨rfl,rfl⟩;refine Wq437 ?_;refine qMP ((⟨k+1,m.set n ((m.getD n HI.zero).imm' (IntKind.u32.wrap (l9.length:Int)))⟩:Nat×List HI)) bY
 simp only[aa]at hc16;obtain rfl:k=f9.length:=by omega
 rw[List.drop_length]at hP;obtain rfl:m=B9:=hP;refine Z_9 ?_;exact Wq415
theorem TA(p:Pg)(Q:PAd)(hf:uo p)(hr:p.Ws=true)(hg:fZ (gl p (dW p)))(w:World)(h:Jo p Q w):
  Ctr prog 187 [pgv p Q] w [] (λr cs=>∃A c,r= .tuple #[.slice A (cI (gl p (dW p))).length c,.i 0]/\cs=[sl .u8 5 A (cI (gl p (dW p))).length c (cI (gl p (dW p)))]):=by
 grind [Pw,Py]
structure LAd where
 Ac:Option Addr
 cc:Nat
 Ad:Option Addr
 cd:Nat
 Ar:Option Addr
 cr:Nat
structure Lw.sm(L:Lw)(n:Nat):Prop where
 code:L.code.length<=n
 dl:L.d.l.length<=n
 rl:L.r.l.length<=n
 dn:0<=L.d.Wi/\L.d.Wi<=n
 rn:0<=L.r.Wi/\L.r.Wi<=n
abbrev FT(N:Int)(L:Lw)(X:LAd):List Value:=[.slice X.Ac L.code.length X.cc,.i 0,.i 0,.i 0,.i 0,.slice none 0 0,.slice none 0 0,.i L.flags,.w 0,.i L.target,.i L.branch,.w 0,.i N,.i 0,
 .slice X.Ad L.d.l.length X.cd,.i L.d.Wi,.i L.d.high,.i 1,.slice X.Ar L.r.l.length X.cr,.i L.r.Wi,.i L.r.high,.i 2]
theorem one5(a b c d e:Int):∀u∈([.i a,.i b,.i c,.i d,.w e]:List Value),u.oneCell'=true:=λu h=>by
 simp only[aJ,aY,or_false]at h;rcases h with rfl|rfl|rfl|rfl|rfl<;>rfl
theorem OK(c:List II)(x:II):c.flatMap II.cells++[.i x.op,.i x.dst,.i x.a,.i x.b,.w x.imm]=(c++[x]).flatMap II.cells:=by simp
theorem top_max(h l:Int):(if l>h then l else h)=max h l:=by omega
abbrev lwF(b:Nat)(N:Int)(L:Lw)(X:LAd):List bJ:=[row b (FT N L X) 328,slv 343 5 X.Ac L.code.length X.cc (L.code.flatMap II.cells),sl .i64 3 X.Ad L.d.l.length X.cd L.d.l,sl .i64 3 X.Ar L.r.l.length X.cr L.r.l]
theorem wn(b:Nat)(N:Int)(L:Lw)(X:LAd)(hs:L.sm 1000)(op dst a b2 imm:Int):CI prog 252 [.p b,.agg #[.i op,.i dst,.i a,.i b2,.w imm]] (lwF b N L X) (λv9 cs=>v9= .i L.here/\∃C A c,C=L.code++[⟨op,L.code.length,a,b2,imm⟩]/\cs=lwF b N ⟨C,L.d,L.r,L.flags,L.target,L.branch⟩ ⟨A,c,X.Ad,X.cd,X.Ar,X.cr⟩):=λw hi=>by
 have hc:=hs.code;obtain⟨Ac,cc,Ad,cd,Ar,cr⟩:=X;have hsn:=OK L.code ⟨op,L.code.length,a,b2,imm⟩;dsimp only at hsn;refine Zfn func252 ntmps252 hi ?_;refine Z_2 ?_;refine ZO λb3=>?_;refine fb ?_;refine ZL ?_;refine Z_3 ?_;refine bU (Zdr [8,12] (mU b3 [.i op,.i L.code.length,.i a,.i b2,.w imm])) Zk (yn ?_);refine ZFe 4 0 ?_;refine ZG 5 ?_;refine nl 6 rfl Zk Zk Zk (bW Zrf Zrf Zv0) (λx hx=>dT x hx) (bL (t:=343) Zh) rfl (ic ?_);refine gX rfl rfl (gZ rfl rfl Zrf Zrf rfl rfl rfl) (λ_=>by rintro _ _ ⟨b19,rfl,rfl⟩;exact bL (t:=343) Zh) rfl ?_;rintro _ _ ⟨b19,rfl,rfl⟩;refine ig ?_;refine gX rfl rfl (bV (e:=343) (sz:=5) (bytes:=40) rfl rfl Za rfl rfl (λw hi=>hi.rd (Zhc (slv 343 5 (sA b19) 1 1 [.i op,.i L.code.length,.i a,.i b2,.w imm]))) (one5 _ _ _ _ _) Wq9 Wq1) (λ_=>by rintro _ _ ⟨A2,c2,rfl,rfl⟩;exact bL (t:=343) Zh) rfl ?_;rintro _ _ ⟨A2,c2,rfl,rfl⟩;rw[hsn,show L.code.length+1=(L.code++[(⟨op,L.code.length,a,b2,imm⟩:II)]).length by simp];refine ZE 9 ?_;refine ZFe 10 0 ?_;refine ZFe 11 0 ?_;refine cW 12 Zk (fy rfl rfl (mm Zrf rfl rfl rfl Za Zp) (λ_=>by rintro _ _ ⟨rfl,rfl⟩;exact bL (t:=343) Zh) ?_);rintro _ _ ⟨rfl,rfl⟩;refine dR ?_;refine Z_9 ?_;refine Zrb (lwF b N ⟨L.code++[⟨op,L.code.length,a,b2,imm⟩],L.d,L.r,L.flags,L.target,L.branch⟩ ⟨A2,c2,Ad,cd,Ar,cr⟩) ?_;exact⟨rfl,_,_,_,rfl,rfl⟩
theorem wk(b:Nat)(N:Int)(L:Lw)(X:LAd)(hs:L.sm 1000)(n:Int):CI prog 250 [.p b,.w n] (lwF b N L X) (λv9 cs=>v9= .i L.here/\∃C A c,C=L.code++[⟨0,L.code.length,0,0,n⟩]/\cs=lwF b N ⟨C,L.d,L.r,L.flags,L.target,L.branch⟩ ⟨A,c,X.Ad,X.cd,X.Ar,X.cr⟩):=λw hi=>by
 refine Zfn func250 ntmps250 hi ?_;refine fH ?_;refine dy (lwF b N L X) (λw hi hin=>wn b N L X hs 0 0 0 0 n w hin) ?_;rintro _ _ ⟨rfl,C2,A2,c2,hC2,rfl⟩;refine Z_4 ?_;refine Zrb (lwF b N ⟨C2,L.d,L.r,L.flags,L.target,L.branch⟩ ⟨A2,c2,X.Ad,X.cd,X.Ar,X.cr⟩) ?_;exact⟨rfl,C2,A2,c2,hC2,rfl⟩
theorem Oe(b:Nat)(N:Int)(code:List II)(r:Sd)(l:Li)(x Wi high fl tg br:Int)(Ac:Oa)(cc:Nat)(Ad:Oa)(cd:Nat)(Ar:Oa)(cr:Nat)(hl:l.length<=1000):CI prog 251 [.p b,.pointer (some ⟨b,14,none⟩)] (lwF b N ⟨code,⟨l++[x],Wi,high⟩,r,fl,tg,br⟩ ⟨Ac,cc,Ad,cd,Ar,cr⟩) (λv9 cs=>v9= .i x/\cs=lwF b N ⟨code,⟨l,Wi,high⟩,r,fl,tg,br⟩ ⟨Ac,cc,Ad,cd,Ar,cr⟩):=λw hi=>by
 have hrd:=dx (hi.get (show Has _ (sl .i64 3 Ad (l++[x]).length cd (l++[x]))from(.tail _ (.tail _ (.head _ _)))));have hcap:(l++[x]).length<=cd:=hrd.cap;have hlen:(l++[x]).length=l.length+1:=by simp
 obtain⟨bd,rfl⟩:=eM (hi.get (show Has _ (sl .i64 3 Ad (l++[x]).length cd (l++[x]))from(.tail _ (.tail _ (.head _ _))))) Wq1;refine Zfn func251 ntmps251 hi ?_;refine Va ?_;refine Z_9 ?_;refine cn rfl ((aE Wq1)) (Z_7 ?_);refine Zy (cw (bb:=bd) (o:=0) (n:=(l++[x]).length) (c:=cd) (j:=l.length) (sz:=1) (r:=l.length) rfl Zrf (Zv rfl) (Zv rfl) Zrf Wq2 Wq1) ?_;refine dQ (bM Zrf Zv0) (dG Zh (cK (ux l x))) rfl (gq ?_);refine Zy (eC (A:=some ⟨bd,0,none⟩) (n:=(l++[x]).length) (c:=cd) l.length rfl Zrf (Zv rfl) (Zv rfl) Zrf Wq2) ?_;refine kZ ?_;refine fH ?_;refine lf (c:=sl .i64 3 (sA bd) (l++[x]).length cd (l++[x])) (c':=sl .i64 3 (sA bd) l.length cd l) Za rfl (λw h=>Hb h) (Zrb ([row _ _ _,slv _ _ _ _ _ _,slv _ _ _ _ _ _,slv _ _ _ _ _ _]) ?_);exact gr
theorem Og(b:Nat)(N:Int)(code:List II)(r:Sd)(Wi high fl tg br:Int)(X:LAd)(hs:Lw.sm ⟨code,⟨[],Wi,high⟩,r,fl,tg,br⟩ 999):CI prog 251 [.p b,.pointer (some ⟨b,14,none⟩)] (lwF b N ⟨code,⟨[],Wi,high⟩,r,fl,tg,br⟩ X) (λv9 cs=>v9= .i code.length/\∃C A c,C=code++[⟨1,code.length,0,0,IntKind.u32.wrap Wi⟩]/\cs=lwF b N ⟨C,⟨[],Wi+1,high⟩,r,fl,tg,br⟩ ⟨A,c,X.Ad,X.cd,X.Ar,X.cr⟩):=λw hi=>by
 obtain⟨h1,h2⟩:=hs.dn;dsimp only at h1 h2;have hs2:Lw.sm ⟨code,⟨[],Wi+1,high⟩,r,fl,tg,br⟩ 1000:=⟨by have:=hs.code;grind,by grind,by have:=hs.rl;grind,by grind,by have:=hs.rn;grind⟩;have hwr:IntKind.i64.wrap (Wi+1 - 1)=Wi:=by rw[bI];omega
 have hw1:IntKind.i64.wrap (Wi+1)=Wi+1:=by rw[bI];omega
 refine Zfn func251 ntmps251 hi ?_;refine ng ?_;refine Ey ?_;refine Z_9 ?_;refine kv ?_;refine Z_8 ?_;refine Zy (eK Zv0 Zv0 hw1) ?_;refine kZ ?_;refine Z_3 ?_;refine bU (Zdn [12]) Zk (pS ?_);refine ZFe 3 3 ?_;refine kU ?_;refine ZFe 7 1 ?_;refine kW 4 8 Zk ?_ ?_
 .refine zL ?_;refine ig ?_;refine U7 ?_;refine Gw ?_;exact Wq161
 refine U7 ?_;refine cW 4 Zk (zL ?_);refine Gw ?_;exact Wq161
theorem SF(b:Nat)(N:Int)(code:List II)(r:Sd)(l:Li)(Wi high fl tg br:Int)(X:LAd)(hl:l.length<=1000)(hn:0<=Wi/\Wi<=1000):CI prog 253 [.pointer (some ⟨b,14,none⟩)] (lwF b N ⟨code,⟨l,Wi,high⟩,r,fl,tg,br⟩ X) (λ_ cs=>cs=lwF b N ⟨code,⟨l,Wi,max high ((l.length:Int) - Wi)⟩,r,fl,tg,br⟩ X):=λw hi=>by
 have hwt:IntKind.i64.wrap ((l.length:Int) - Wi)=(l.length:Int) - Wi:=by rw[bI];omega
 refine Zfn func253 ntmps253 hi ?_;refine bU (Zdn [18]) Zk (pS ?_);refine ZFe 3 2 ?_;refine BW ?_;refine ZFe 7 0 ?_;refine ZG 8 ?_;refine un ?_;refine ZFe 12 1 ?_;refine ZG 13 ?_;refine Wq366 ?_;refine Wq326 ?_
 rfl
theorem Oc(b:Nat)(N:Int)(code:List II)(d:Sd)(l:Li)(x Wi high fl tg br:Int)(Ac:Oa)(cc:Nat)(Ad:Oa)(cd:Nat)(Ar:Oa)(cr:Nat)(hl:l.length<=1000):CI prog 251 [.p b,.pointer (some ⟨b,18,none⟩)] (lwF b N ⟨code,d,⟨l++[x],Wi,high⟩,fl,tg,br⟩ ⟨Ac,cc,Ad,cd,Ar,cr⟩) (λv9 cs=>v9= .i x/\cs=lwF b N ⟨code,d,⟨l,Wi,high⟩,fl,tg,br⟩ ⟨Ac,cc,Ad,cd,Ar,cr⟩):=λw hi=>by
 have hrd:=dx (hi.get (show Has _ (sl .i64 3 Ar (l++[x]).length cr (l++[x]))from(.tail _ (.tail _ (.tail _ (.head _ _))))));have hcap:(l++[x]).length<=cr:=hrd.cap;have hlen:(l++[x]).length=l.length+1:=by simp
 obtain⟨bd,rfl⟩:=eM (hi.get (show Has _ (sl .i64 3 Ar (l++[x]).length cr (l++[x]))from(.tail _ (.tail _ (.tail _ (.head _ _)))))) Wq1;refine Zfn func251 ntmps251 hi ?_;refine Va ?_;refine Z_9 ?_;refine cn rfl ((aE Wq1)) (Z_7 ?_);refine Zy (cw (bb:=bd) (o:=0) (n:=(l++[x]).length) (c:=cr) (j:=l.length) (sz:=1) (r:=l.length) rfl Zrf (Zv rfl) (Zv rfl) Zrf Wq2 Wq1) ?_;refine dQ (bM Zrf Zv0) (dG Zh (cK (ux l x))) rfl (gq ?_);refine Zy (eC (A:=some ⟨bd,0,none⟩) (n:=(l++[x]).length) (c:=cr) l.length rfl Zrf (Zv rfl) (Zv rfl) Zrf Wq2) ?_;refine kZ ?_;refine fH ?_;refine lf (c:=sl .i64 3 (sA bd) (l++[x]).length cr (l++[x])) (c':=sl .i64 3 (sA bd) l.length cr l) Za rfl (λw h=>Hb h) (Zrb ([row _ _ _,slv _ _ _ _ _ _,slv _ _ _ _ _ _,slv _ _ _ _ _ _]) ?_);exact gr
theorem Od(b:Nat)(N:Int)(code:List II)(d:Sd)(Wi high fl tg br:Int)(X:LAd)(hs:Lw.sm ⟨code,d,⟨[],Wi,high⟩,fl,tg,br⟩ 999):CI prog 251 [.p b,.pointer (some ⟨b,18,none⟩)] (lwF b N ⟨code,d,⟨[],Wi,high⟩,fl,tg,br⟩ X) (λv9 cs=>v9= .i code.length/\∃C A c,C=code++[⟨2,code.length,0,0,IntKind.u32.wrap Wi⟩]/\cs=lwF b N ⟨C,d,⟨[],Wi+1,high⟩,fl,tg,br⟩ ⟨A,c,X.Ad,X.cd,X.Ar,X.cr⟩):=λw hi=>by
 obtain⟨h1,h2⟩:=hs.rn;dsimp only at h1 h2;have hs2:Lw.sm ⟨code,d,⟨[],Wi+1,high⟩,fl,tg,br⟩ 1000:=⟨by have:=hs.code;grind,by have:=hs.dl;grind,by grind,by have:=hs.dn;grind,by grind⟩;have hwr:IntKind.i64.wrap (Wi+1 - 1)=Wi:=by rw[bI];omega
 have hw1:IntKind.i64.wrap (Wi+1)=Wi+1:=by rw[bI];omega
 refine Zfn func251 ntmps251 hi ?_;refine ng ?_;refine Ey ?_;refine Z_9 ?_;refine kv ?_;refine Z_8 ?_;refine Zy (eK Zv0 Zv0 hw1) ?_;refine kZ ?_;refine Z_3 ?_;refine bU (Zdn [12]) Zk (pS ?_);refine ZFe 3 3 ?_;refine kU ?_;refine ZFe 7 1 ?_;refine kW 4 8 Zk ?_ ?_
 .refine zL ?_;refine ig ?_;refine U7 ?_;refine Gw ?_;exact Wq160
 refine U7 ?_;refine cW 4 Zk (zL ?_);refine Gw ?_;exact Wq160
theorem SE(b:Nat)(N:Int)(code:List II)(d:Sd)(l:Li)(Wi high fl tg br:Int)(X:LAd)(hl:l.length<=1000)(hn:0<=Wi/\Wi<=1000):CI prog 253 [.pointer (some ⟨b,18,none⟩)] (lwF b N ⟨code,d,⟨l,Wi,high⟩,fl,tg,br⟩ X) (λ_ cs=>cs=lwF b N ⟨code,d,⟨l,Wi,max high ((l.length:Int) - Wi)⟩,fl,tg,br⟩ X):=λw hi=>by
 have hwt:IntKind.i64.wrap ((l.length:Int) - Wi)=(l.length:Int) - Wi:=by rw[bI];omega
 refine Zfn func253 ntmps253 hi ?_;refine bU (Zdn [18]) Zk (pS ?_);refine ZFe 3 2 ?_;refine BW ?_;refine ZFe 7 0 ?_;refine ZG 8 ?_;refine un ?_;refine ZFe 12 1 ?_;refine ZG 13 ?_;refine Wq366 ?_;refine Wq326 ?_
 rfl
theorem uI(b:Nat)(N:Int)(L:Lw)(X:LAd)(hs:L.sm 999):CI prog 251 [.p b,.pointer (some ⟨b,14,none⟩)] (lwF b N L X) (λv9 cs=>v9= .i (fD 1 L.code L.d).1/\∃C s A c,C=(fD 1 L.code L.d).2.1/\s=(fD 1 L.code L.d).2.2/\cs=lwF b N ⟨C,s,L.r,L.flags,L.target,L.branch⟩ ⟨A,c,X.Ad,X.cd,X.Ar,X.cr⟩):=λw hi=>by
 have hl:=hs.dl;obtain⟨code,d,r,fl,tg,br⟩:=L;obtain⟨l,Wi,high⟩:=d;obtain⟨Ac,cc,Ad,cd,Ar,cr⟩:=X;dsimp only at hl;rcases Nat.eq_zero_or_pos l.length with h0|h0
 .obtain rfl:l=[]:=List.eq_nil_of_length_eq_zero h0;refine Ctr.mono (Og b N code r Wi high fl tg br ⟨Ac,cc,Ad,cd,Ar,cr⟩ hs w hi) ?_;rintro v cs ⟨rfl,C,A,c,hC,rfl⟩;exact⟨rfl,C,_,A,c,hC,rfl,rfl⟩
 obtain⟨m,x,rfl⟩:=vq h0
 grind [fD,Ctr.mono,Oe]
theorem Bj(b:Nat)(N:Int)(L:Lw)(X:LAd)(hs:L.sm 999):CI prog 251 [.p b,.pointer (some ⟨b,18,none⟩)] (lwF b N L X) (λv9 cs=>v9= .i (fD 2 L.code L.r).1/\∃C s A c,C=(fD 2 L.code L.r).2.1/\s=(fD 2 L.code L.r).2.2/\cs=lwF b N ⟨C,L.d,s,L.flags,L.target,L.branch⟩ ⟨A,c,X.Ad,X.cd,X.Ar,X.cr⟩):=λw hi=>by
 have hl:=hs.rl;obtain⟨code,d,r,fl,tg,br⟩:=L;obtain⟨l,Wi,high⟩:=r;obtain⟨Ac,cc,Ad,cd,Ar,cr⟩:=X;dsimp only at hl;rcases Nat.eq_zero_or_pos l.length with h0|h0
 .obtain rfl:l=[]:=List.eq_nil_of_length_eq_zero h0;refine Ctr.mono (Od b N code d Wi high fl tg br ⟨Ac,cc,Ad,cd,Ar,cr⟩ hs w hi) ?_;rintro v cs ⟨rfl,C,A,c,hC,rfl⟩;exact⟨rfl,C,_,A,c,hC,rfl,rfl⟩
 obtain⟨m,x,rfl⟩:=vq h0
 grind [fD,Ctr.mono,Oc]
variable{L:Lw}{n:Nat}
theorem Lw.sm.mono{m:Nat}(h:L.sm n)(hnm:n<=m):L.sm m:=⟨aK h.code hnm,aK h.dl hnm,aK h.rl hnm,⟨h.dn.1,by have:=h.dn.2;omega⟩,⟨h.rn.1,by have:=h.rn.2;omega⟩⟩
theorem Np{k:Int}{code:List II}{s:Sd}(h1:code.length<=n)(h2:s.l.length<=n)(h3:0<=s.Wi/\s.Wi<=n):(fD k code s).2.1.length<=n+1/\(fD k code s).2.2.l.length<=n+1/\(0<=(fD k code s).2.2.Wi/\(fD k code s).2.2.Wi<=(n+1:Nat)):=by
 grind [fD]
theorem i9(h:L.sm n){C:List II}{s:Sd}(hC:C=(fD 1 L.code L.d).2.1)(hs:s=(fD 1 L.code L.d).2.2)(f t br:Int):Lw.sm ⟨C,s,L.r,f,t,br⟩ (n+1):=by
 subst hC hs;obtain⟨h1,h2,h3⟩:=Np (k:=1) h.code h.dl h.dn;exact⟨h1,h2,aK h.rl Wq1,h3,⟨h.rn.1,by have:=h.rn.2;grind⟩⟩
theorem sm_popR(h:L.sm n){C:List II}{s:Sd}(hC:C=(fD 2 L.code L.r).2.1)(hs:s=(fD 2 L.code L.r).2.2)(f t br:Int):Lw.sm ⟨C,L.d,s,f,t,br⟩ (n+1):=by
 subst hC hs;obtain⟨h1,h2,h3⟩:=Np (k:=2) h.code h.rl h.rn;exact⟨h1,aK h.dl Wq1,h2,⟨h.dn.1,by have:=h.dn.2;grind⟩,h3⟩
theorem yH(h:L.sm n)(op a b i:Int):(L.add op a b i).sm (n+1):=⟨by have:=h.code;show(L.code++[_]).length<=_;simp;omega,aK h.dl Wq1,aK h.rl Wq1,⟨h.dn.1,by have:=h.dn.2;show L.d.Wi<=_;omega⟩,⟨h.rn.1,by have:=h.rn.2;show L.r.Wi<=_;omega⟩⟩
theorem rI(h:L.sm n)(l:Li)(hl:l.length<=3):(L.W7 l).sm (n+3):=⟨aK h.code Wq1,by have:=h.dl;show(L.d.l++l).length<=_;grind,aK h.rl Wq1,⟨h.dn.1,by have:=h.dn.2;show L.d.Wi<=_;omega⟩,⟨h.rn.1,by have:=h.rn.2;show L.r.Wi<=_;omega⟩⟩
theorem MX(h:L.sm n)(l:Li)(hl:l.length<=3):(L.Xu l).sm (n+3):=⟨aK h.code Wq1,aK h.dl Wq1,by have:=h.rl;show(L.r.l++l).length<=_;grind,⟨h.dn.1,by have:=h.dn.2;show L.d.Wi<=_;omega⟩,⟨h.rn.1,by have:=h.rn.2;show L.r.Wi<=_;omega⟩⟩
theorem tJ(h:L.sm n):L.We.2.sm (n+1):=i9 h rfl rfl _ _ _
theorem sm_pR(h:L.sm n):L.WN.2.sm (n+1):=sm_popR h rfl rfl _ _ _
theorem vr(h:L.sm n)(f t br:Int):Lw.sm ⟨L.code,L.d,L.r,f,t,br⟩ n:=⟨h.code,h.dl,h.rl,h.dn,h.rn⟩
theorem sm_go(h:L.sm n)(op i next:Int):(L.go op i next).sm (n+10):=by
 unfold Lw.go Lw.reckon;cases op==1||op==2<;>simp only[ai,ah]
 case true=>exact(rI (yH h _ _ _ _) _ cP).mono Wq1
 cases op==3<;>simp only[ai,ah]
 case true=>exact(rI (tJ h) _ cP).mono Wq1
 cases op==4<;>simp only[ai,ah]
 case true=>exact(tJ h).mono Wq1
 cases op==5<;>simp only[ai,ah]
 case true=>exact(rI (tJ (tJ h)) _ cP).mono Wq1
 cases op==6<;>simp only[ai,ah]
 case true=>exact(rI (tJ (tJ h)) _ cP).mono Wq1
 cases op==7<;>simp only[ai,ah]
 case true=>exact(MX (tJ h) _ cP).mono Wq1
 cases op==8<;>simp only[ai,ah]
 case true=>exact(rI (sm_pR h) _ cP).mono Wq1
 cases decide (16<=op)&&decide (op<=25)<;>simp only[ai,ah]
 case true=>
  cases op !=25<;>simp only[ai,ah]
  .exact(vr (yH (tJ (tJ h)) _ _ _ _) _ _ _).mono Wq1
  exact(rI (yH (vr (yH (tJ (tJ h)) _ _ _ _) _ _ _) _ _ _ _) _ cP).mono Wq1
 cases op==38<;>simp only[ai,ah]
 case true=>exact(MX (yH h _ _ _ _) _ cP).mono Wq1
 cases op==39<;>simp only[ai,ah]
 case true=>exact(vr (sm_pR h) _ _ _).mono Wq1
 cases op==40<;>simp only[ai,ah]
 case true=>exact(vr (tJ h) _ _ _).mono Wq1
 cases decide (33<=op)&&decide (op<=37)<;>simp only[ai,ah]
 .exact h.mono Wq1
 exact(vr h _ _ _).mono Wq1
theorem Ob(b:Nat)(N:Int)(L:Lw)(X:LAd)(hs:L.sm 1000):CI prog 253 [.pointer (some ⟨b,14,none⟩)] (lwF b N L X) (λ_ cs=>cs=lwF b N ⟨L.code,L.d.top,L.r,L.flags,L.target,L.branch⟩ X):=λw hi=>SF b N L.code L.r L.d.l L.d.Wi L.d.high L.flags L.target L.branch X hs.dl hs.dn w hi
theorem N9(b:Nat)(N:Int)(L:Lw)(X:LAd)(hs:L.sm 1000):CI prog 253 [.pointer (some ⟨b,18,none⟩)] (lwF b N L X) (λ_ cs=>cs=lwF b N ⟨L.code,L.d,L.r.top,L.flags,L.target,L.branch⟩ X):=λw hi=>SE b N L.code L.d L.r.l L.r.Wi L.r.high L.flags L.target L.branch X hs.rl hs.rn w hi
theorem lone_ok(b:Nat)(N:Int)(L:Lw)(X:LAd)(hs:L.sm 500)(op n next:Int):CI prog 209 [.p b,.agg #[.i op,.w n],.w next] (lwF b N L X) (λ_ cs=>∃L' X',L'=L.one op n next/\cs=lwF b N L' X'):=λw hi=>by
 have hgo:=sm_go hs op n next
 refine Zfn func209 ntmps209 hi ?_;refine Z_2 ?_;refine ZO λb4=>?_;refine Z_3 ?_;refine uf ?_;refine ZFe 2 14 ?_;refine ZE 3 ?_;refine ZE 4 ?_;refine ZFe 5 18 ?_;refine ZE 6 ?_;refine ZE 7 ?_;refine ug ?_;refine cL (λq:Lw×LAd=>[(0,.p b),(6,.pointer (some ⟨b,14,none⟩)),(7,.pointer (some ⟨b,18,none⟩))]) (λq=>lwF b N q.1 q.2) (λq=>q.1=L.go op n next) ?_ ?_
 .refine Gv ?_;refine ZW ?_ ?_<;>intro hc3
  .refine bU (Zdr [8,10,13] (mU b4 [.i op,.w n])) Zk (yn ?_);refine ZE 5 ?_;refine ZFe 6 1 ?_;refine eu 7 rfl Zk Zk Zk (bM Zrf Zv0) (dg rfl) (bL (t:=128) Zh) rfl (kW 4 8 Zk ?_ ?_)
   .refine zL ?_;refine ig ?_;refine Wq325 ?_;rintro _ _ ⟨_,⟨rfl,C2,A2,c2,hC2,rfl⟩,rfl⟩;refine Wq481 ?_;rintro _ _ ⟨b40,rfl,rfl⟩;refine mb ?_;have hbd:L.d.l.length<=600:=aK hs.dl Wq1;refine Wq248 ?_;rintro _ _ ⟨A9,c9,rfl,rfl⟩;refine Wq290 ?_;rintro _ _ ⟨rfl,rfl⟩;refine dR ?_;exact Zo Wq339
   refine Wq325 ?_;rintro _ _ ⟨_,⟨rfl,C2,A2,c2,hC2,rfl⟩,rfl⟩;refine ZG 4 ?_;refine Wq481 ?_;rintro _ _ ⟨b40,rfl,rfl⟩;refine mb ?_;have hbd:L.d.l.length<=600:=aK hs.dl Wq1;refine Wq248 ?_;rintro _ _ ⟨A9,c9,rfl,rfl⟩;refine Wq290 ?_;rintro _ _ ⟨rfl,rfl⟩;refine dR ?_;exact Zo Wq339
  refine Zw7 ?_ ?_<;>intro hc5
  .refine Z_4 ?_;refine Lv ?_;rintro _ _ ⟨_,⟨rfl,C2,s2,A2,c2,hC2,hs2,rfl⟩,rfl⟩;refine gq ?_;refine jD ?_;rintro _ _ ⟨b57,rfl,rfl⟩;have hbd:s2.l.length<=600:=aK (i9 hs hC2 hs2 0 0 0).dl Wq1;refine fo (bV (n:=s2.l.length) (e:=3) (sz:=1) (bytes:=8) rfl rfl Za rfl rfl (λw hi=>hi.rd (Zhc (slv 3 1 (sA b57) 2 2 (ints .i64 [(fD 1 L.code L.d).1,(fD 1 L.code L.d).1])))) cN Wq9 Wq1) rfl ?_;rintro _ _ ⟨A9,c9,rfl,rfl⟩;rw[cj,show s2.l.length+2=(s2.l++[(fD 1 L.code L.d).1,(fD 1 L.code L.d).1]).length by simp];refine kZ ?_;refine Z_2 ?_;refine qMP (((⟨C2,⟨s2.l++[(fD 1 L.code L.d).1,(fD 1 L.code L.d).1],s2.Wi,s2.high⟩,L.r,L.flags,L.target,L.branch⟩,⟨A2,c2,A9,c9,X.Ar,X.cr⟩):Lw×LAd)) ?_;dsimp only;subst hC2 hs2;unfold Lw.go;rw[hc3,hc5];rfl
  refine Zw7 ?_ ?_<;>intro hc8
  .refine Z_3 ?_;refine Lv ?_;rintro _ _ ⟨_,⟨rfl,C2,s2,A2,c2,hC2,hs2,rfl⟩,rfl⟩;refine Z_2 ?_;refine qMP (((⟨C2,s2,L.r,L.flags,L.target,L.branch⟩,⟨A2,c2,X.Ad,X.cd,X.Ar,X.cr⟩):Lw×LAd)) ?_;dsimp only;subst hC2 hs2;unfold Lw.go;rw[hc3,hc5,hc8];rfl
  refine Zw7 ?_ ?_<;>intro hc10
  .refine Z_4 ?_;refine Lv ?_;rintro _ _ ⟨_,⟨rfl,C2,s2,A2,c2,hC2,hs2,rfl⟩,rfl⟩;refine Wq124 ?_;rintro _ _ ⟨_,⟨rfl,C3,s3,A3,c3,hC3,hs3,rfl⟩,rfl⟩;refine gq ?_;refine jD ?_;rintro _ _ ⟨b83,rfl,rfl⟩;have hbd:s3.l.length<=600:=aK (i9 (i9 hs hC2 hs2 L.flags L.target L.branch) hC3 hs3 0 0 0).dl Wq1;refine fo (bV (n:=s3.l.length) (e:=3) (sz:=1) (bytes:=8) rfl rfl Za rfl rfl (λw hi=>hi.rd (Zhc (slv 3 1 (sA b83) 2 2 (ints .i64 [(fD 1 L.code L.d).1,(fD 1 C2 s2).1])))) cN Wq9 Wq1) rfl ?_;rintro _ _ ⟨A9,c9,rfl,rfl⟩;rw[cj,show s3.l.length+2=(s3.l++[(fD 1 L.code L.d).1,(fD 1 C2 s2).1]).length by simp];refine kZ ?_;refine Z_2 ?_;refine qMP (((⟨C3,⟨s3.l++[(fD 1 L.code L.d).1,(fD 1 C2 s2).1],s3.Wi,s3.high⟩,L.r,L.flags,L.target,L.branch⟩,⟨A3,c3,A9,c9,X.Ar,X.cr⟩):Lw×LAd)) ?_;dsimp only;subst hC3 hs3 hC2 hs2;unfold Lw.go;rw[hc3,hc5,hc8,hc10];rfl
  refine Zw7 ?_ ?_<;>intro hc14
  .refine Z_4 ?_;refine Lv ?_;rintro _ _ ⟨_,⟨rfl,C2,s2,A2,c2,hC2,hs2,rfl⟩,rfl⟩;refine Wq124 ?_;rintro _ _ ⟨_,⟨rfl,C3,s3,A3,c3,hC3,hs3,rfl⟩,rfl⟩;refine fb ?_;refine jD ?_;rintro _ _ ⟨b104,rfl,rfl⟩;have hbd:s3.l.length<=600:=aK (i9 (i9 hs hC2 hs2 L.flags L.target L.branch) hC3 hs3 0 0 0).dl Wq1;refine fo (bV (n:=s3.l.length) (e:=3) (sz:=1) (bytes:=8) rfl rfl Za rfl rfl (λw hi=>hi.rd (Zhc (slv 3 1 (sA b104) 3 3 (ints .i64 [(fD 1 C2 s2).1,(fD 1 L.code L.d).1,(fD 1 C2 s2).1])))) cN Wq9 Wq1) rfl ?_;rintro _ _ ⟨A9,c9,rfl,rfl⟩;rw[cj,show s3.l.length+3=(s3.l++[(fD 1 C2 s2).1,(fD 1 L.code L.d).1,(fD 1 C2 s2).1]).length by simp];refine kZ ?_;refine Z_2 ?_;refine qMP (((⟨C3,⟨s3.l++[(fD 1 C2 s2).1,(fD 1 L.code L.d).1,(fD 1 C2 s2).1],s3.Wi,s3.high⟩,L.r,L.flags,L.target,L.branch⟩,⟨A3,c3,A9,c9,X.Ar,X.cr⟩):Lw×LAd)) ?_;dsimp only;subst hC3 hs3 hC2 hs2;unfold Lw.go;rw[hc3,hc5,hc8,hc10,hc14];rfl
  refine Zw7 ?_ ?_<;>intro hc18
  .refine bU (Zdn [7,9,12]) Zk (yn ?_);refine kU ?_;refine kW 4 7 Zk ?_ ?_
   .refine zL ?_;refine ic ?_;refine tD (lwF b N L X) (λw hi hin=>uI b N L X (hs.mono Wq1) w hin) ?_;rintro _ _ ⟨rfl,C2,s2,A2,c2,hC2,hs2,rfl⟩;refine ig ?_;refine EA ?_;rintro _ _ ⟨b119,rfl,rfl⟩;refine kR ?_;have hbd:L.r.l.length<=600:=aK hs.rl Wq1;refine Wq324 ?_;rintro _ _ ⟨A9,c9,rfl,rfl⟩;refine Wq250 ?_;subst hC2 hs2;unfold Lw.go;rw[hc3,hc5,hc8,hc10,hc14,hc18];rfl
   refine tD (lwF b N L X) (λw hi hin=>uI b N L X (hs.mono Wq1) w hin) ?_;rintro _ _ ⟨rfl,C2,s2,A2,c2,hC2,hs2,rfl⟩;refine ZG 4 ?_;refine ig ?_;refine EA ?_;rintro _ _ ⟨b119,rfl,rfl⟩;refine kR ?_;have hbd:L.r.l.length<=600:=aK hs.rl Wq1;refine Wq324 ?_;rintro _ _ ⟨A9,c9,rfl,rfl⟩;refine Wq250 ?_;subst hC2 hs2;unfold Lw.go;rw[hc3,hc5,hc8,hc10,hc14,hc18];rfl
  refine Zw7 ?_ ?_<;>intro hc20
  .refine bU (Zdn [7,9,12]) Zk (yn ?_);refine kU ?_;refine kW 4 7 Zk ?_ ?_
   .refine zL ?_;refine ic ?_;refine tD (lwF b N L X) (λw hi hin=>Bj b N L X (hs.mono Wq1) w hin) ?_;rintro _ _ ⟨rfl,C2,s2,A2,c2,hC2,hs2,rfl⟩;refine ig ?_;exact Wq505
   refine tD (lwF b N L X) (λw hi hin=>Bj b N L X (hs.mono Wq1) w hin) ?_;rintro _ _ ⟨rfl,C2,s2,A2,c2,hC2,hs2,rfl⟩;refine ZG 4 ?_;refine ig ?_;exact Wq505
  refine xL ?_ ?_<;>intro hc22
  .have hop:16<=op/\op<=25:=bY;have hwop:IntKind.u32.wrap op=op:=(by rw[aG];omega);refine Z_4 ?_;refine Lv ?_;rintro _ _ ⟨_,⟨rfl,C2,s2,A2,c2,hC2,hs2,rfl⟩,rfl⟩;refine Wq124 ?_;rintro _ _ ⟨_,⟨rfl,C3,s3,A3,c3,hC3,hs3,rfl⟩,rfl⟩;refine fH ?_;refine Zy (cU rfl rfl Zv0 hwop) ?_;refine ZA ?_;refine dy (lwF b N ⟨C3,s3,L.r,L.flags,L.target,L.branch⟩ ⟨A3,c3,X.Ad,X.cd,X.Ar,X.cr⟩) (λw hi hin=>wn b N ⟨C3,s3,L.r,L.flags,L.target,L.branch⟩ ⟨A3,c3,X.Ad,X.cd,X.Ar,X.cr⟩ ((i9 (i9 hs hC2 hs2 L.flags L.target L.branch) hC3 hs3 _ _ _).mono Wq1) 4 0 (fD 1 C2 s2).1 (fD 1 L.code L.d).1 op w hin) ?_;rintro _ _ ⟨rfl,C4,A4,c4,hC4,rfl⟩;have h3:=i9 (i9 hs hC2 hs2 L.flags L.target L.branch) hC3 hs3 L.flags L.target L.branch;have h4:=yH h3 4 (fD 1 C2 s2).1 (fD 1 L.code L.d).1 op;have hs4:Lw.sm ⟨C4,s3,L.r,(C3.length:Int),L.target,L.branch⟩ 1000:=(by refine⟨?_,(h3.mono (by omega:_<=1000)).dl,(h3.mono (by omega:_<=1000)).rl,(h3.mono (by omega:_<=1000)).dn,(h3.mono (by omega:_<=1000)).rn⟩;rw[hC4];exact aK h4.code Wq1);refine Z_3 ?_;refine ZL ?_;refine Zw8 ?_ ?_<;>intro hc26
   .refine bU (Zdn [11,13,16]) Zk (yn ?_);refine kU ?_;refine ZE 7 ?_;refine ZE 8 ?_;refine Zy4 9 rfl (cU rfl rfl Zv0 hwop) ?_;refine ZE 10 ?_;refine kW 4 11 Zk ?_ ?_
    .refine zL ?_;refine cW 11 Zk (Wq251 ?_);rintro _ _ ⟨_,⟨rfl,C5,A5,c5,hC5,rfl⟩,rfl⟩;refine cW 12 Zk (EA ?_);exact Wq406
    refine Wq251 ?_;rintro _ _ ⟨_,⟨rfl,C5,A5,c5,hC5,rfl⟩,rfl⟩;refine ZG 4 ?_;refine cW 12 Zk (EA ?_);exact Wq406
   refine Z_2 ?_;refine qMP (((⟨C4,s3,L.r,(C3.length:Int),L.target,L.branch⟩,⟨A4,c4,X.Ad,X.cd,X.Ar,X.cr⟩):Lw×LAd)) ?_;dsimp only;subst hC4 hC3 hs3 hC2 hs2;exact Wq346
  refine Zw7 ?_ ?_<;>intro hc28
  .refine bU (Zdn [7,9,12]) Zk (yn ?_);refine kU ?_;refine kW 4 7 Zk ?_ ?_
   .refine zL ?_;refine ic ?_;refine tD (lwF b N L X) (λw hi hin=>wk b N L X (hs.mono Wq1) next w hin) ?_;rintro _ _ ⟨rfl,C2,A2,c2,hC2,rfl⟩;exact Wq410
   refine tD (lwF b N L X) (λw hi hin=>wk b N L X (hs.mono Wq1) next w hin) ?_;rintro _ _ ⟨rfl,C2,A2,c2,hC2,rfl⟩;refine ZG 4 ?_;exact Wq410
  refine Zw7 ?_ ?_<;>intro hc30
  .refine Z_4 ?_;refine dy (lwF b N L X) (λw hi hin=>Bj b N L X (hs.mono Wq1) w hin) ?_;rintro _ _ ⟨rfl,C2,s2,A2,c2,hC2,hs2,rfl⟩;refine Z_3 ?_;refine ZL ?_;refine Z_2 ?_;refine qMP (((⟨C2,L.d,s2,L.flags,(fD 2 L.code L.r).1,L.branch⟩,⟨A2,c2,X.Ad,X.cd,X.Ar,X.cr⟩):Lw×LAd)) ?_;dsimp only;subst hC2 hs2;unfold Lw.go;rw[hc3,hc5,hc8,hc10,hc14,hc18,hc20,hc22,hc28,hc30];rfl
  refine Zw7 ?_ ?_<;>intro hc32
  .refine Z_4 ?_;refine Lv ?_;rintro _ _ ⟨_,⟨rfl,C2,s2,A2,c2,hC2,hs2,rfl⟩,rfl⟩;refine Z_3 ?_;refine ZL ?_;refine Z_2 ?_;refine qMP (((⟨C2,s2,L.r,L.flags,(fD 1 L.code L.d).1,L.branch⟩,⟨A2,c2,X.Ad,X.cd,X.Ar,X.cr⟩):Lw×LAd)) ?_;dsimp only;subst hC2 hs2;unfold Lw.go;rw[hc3,hc5,hc8,hc10,hc14,hc18,hc20,hc22,hc28,hc30,hc32];rfl
  refine xL ?_ ?_<;>intro hc34
  .refine Z_6 ?_;refine ZL ?_;refine Z_2 ?_;refine qMP (((⟨L.code,L.d,L.r,L.flags,L.target,op⟩,X):Lw×LAd)) ?_;dsimp only;unfold Lw.go;rw[hc3,hc5,hc8,hc10,hc14,hc18,hc20,hc22,hc28,hc30,hc32,hc34];rfl
  refine Z_2 ?_;refine qMP (((L,X):Lw×LAd)) ?_;dsimp only;unfold Lw.go;grind
 rintro⟨L9,X9⟩ hL9;dsimp only at hL9|-;rw[<-hL9]at hgo;refine Z_3 ?_;refine ZcL (lwF b N L9 X9) (λw hi hin=>Ob b N L9 X9 (hgo.mono Wq1) w hin) ?_;rintro _ _ ⟨_,rfl,rfl⟩;refine Z_4 ?_;refine ZcL (lwF b N ⟨L9.code,L9.d.top,L9.r,L9.flags,L9.target,L9.branch⟩ X9) (λw hi hin=>N9 b N ⟨L9.code,L9.d.top,L9.r,L9.flags,L9.target,L9.branch⟩ X9 ⟨(hgo.mono Wq1).code,(hgo.mono Wq1).dl,(hgo.mono Wq1).rl,(hgo.mono Wq1).dn,(hgo.mono Wq1).rn⟩ w hin) ?_;rintro _ _ ⟨_,rfl,rfl⟩;refine Zn (jE (cs':=lwF b N L9.Wl X9) (.inr rfl) Zu rfl ?_);exact⟨L9.Wl,X9,by unfold Lw.one;rw[hL9],rfl⟩
end
end Go.Ink
