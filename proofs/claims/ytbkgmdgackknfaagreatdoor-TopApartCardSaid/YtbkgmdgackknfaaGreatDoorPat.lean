/- Lemmas. -/
import Derived.Test.YtbkgmdgackknfaaGreatDoorPas
set_option linter.unusedSimpArgs false
set_option linter.unusedVariables false
set_option maxRecDepth 100000
set_option maxHeartbeats 4000000
namespace Go.Ink
open Go.RowKit Go.Proofs.Tryz
def tE(p:Pg):List Int:=bif p.SK then(bif p.SP then[4,7,12,15]else[4,7])else[]
def HI.imm'(i:HI)(e:Int):HI:=⟨i.op,i.rd,i.ra,i.rb,e⟩
def oq(e:Int):List Int->List HI->List HI
 |[],l=>l
 |i::f,l=>oq e f (l.set i.toNat ((l.getD i.toNat HI.zero).imm' e))
theorem xN(p:Pg)(pl:Pl)(e:Int):oq e (tE p) (fm p pl 0)=fm p pl e:=by
 unfold tE fm tC;cases p.SK<;>cases p.SP<;>rfl
theorem Ro(p:Pg)(pl:Pl):∀i,i∈tE p->∃n:Nat,i=n/\n<(fm p pl 0).length:=λi hi=>by
 have h2:p.SK=true:=by
  cases h:p.SK with
  |true=>rfl
  |false=>grind [tE]
 unfold tE at hi;rw[h2,ai]at hi;unfold fm;rw[h2,ai];cases h3:p.SP<;>rw[h3]at hi<;>simp only[ai,ah,aG,aS,or_false]at hi|-
 .have hl:(⟨1,15,0,0,0⟩::pf 0 14 2 p.RI p.SZ:List HI).length=9:=rfl;rcases hi with rfl|rfl
  .exact⟨4,rfl,by omega⟩
  exact⟨7,rfl,by omega⟩
 have hl:(tC p 0).length=17:=rfl;rcases hi with rfl|rfl|rfl|rfl
 .exact⟨4,rfl,by grind⟩
 .exact⟨7,rfl,by grind⟩
 .exact⟨12,rfl,by grind⟩
 exact⟨15,rfl,by grind⟩
theorem end_len(p:Pg)(pl:Pl)(n:Nat):(ul p pl n).length<=20:=by
 grind [yi,wz,gR,uT,ul]
theorem AD(p:Pg)(pl:Pl)(e:Int)(hc:p.code.length<=64)(hD:p.RV.length<=100)(hR:p.RX.length<=100):(fm p pl e).length<=4000:=by
 have h1:=B1 p.RI p.RJ pl p.code 0;have h2:=nY pl 14 4 2 p.RV;have h3:=nY pl 13 20 3 p.RX;have h4:=end_len p pl (17+(iV p pl).length);have h5:(tC p e).length=17:=rfl;unfold fm;cases p.SK<;>cases p.SP<;>simp only[ai,ah]
 .simp
 .simp
 .show 9<=4000;omega
 grind [iV,jV,iX]
theorem LC:∀(l:List HI) (i:Nat) (e:Int),i<l.length->(l.flatMap HI.cells).set (i*5+4) (.w e)=(l.set i ((l.getD i HI.zero).imm' e)).flatMap HI.cells
 |[],_,_,h=>by simp at h
 |x::l,0,e,_=>rfl
 |x::l,i+1,e,h=>by
  have ih:=LC l i e bR
  grind
theorem xZ{p:Pg}(h:p.R7=true):(0<=p.RI/\p.RI<=16)/\(0<=p.RJ/\p.RJ<=16)/\(0<=p.Sn/\p.Sn<=16)/\(0<=p.Sq/\p.Sq<=16):=by
 grind [Pg.R7,Pg.SH,wm]
section
attribute [local irreducible] OpY bH
theorem wq(S:CdS)(l:List HI)(fix:List Int)(X:CAd)(hl:l.length<=10000)(base word RL high:Int)(o:Nat)(ok:Bool)(hok:(!decide (iZ RL high o<RL))=ok)(hb1:0<=RL/\RL<=100000)(hb2: -100000<=high/\high<=100000)(hb3:o<=100000)(hf:fix.length<=100)(w:World)(hi:Inv w (bD (cdF S l fix X)) (cdF S l fix X) w):
  Ctr prog 185 [.p S.b,.i base,.w word,.i RL,.i high,.i o] w (cdF S l fix X) (λr9 cs=>r9= .bool ok/\∃l' f' X',l'=l++(bif ok then pf 0 base word RL (iZ RL high o)else[])/\f'=fix++(bif ok then[((l.length+3:Nat):Int),((l.length+6:Nat):Int)]else[])/\cs=cdF S l' f' X'):=by
 subst hok
 grind [P2]
theorem CR(p:Pg)(Q:PAd)(hf:tM p)(hr:p.R7=true)(pl:Pl)(hpl:dP p=pl)(w:World)(h:Gt p Q w):
  Ctr prog 183 [pgv p Q,.i 7] w [] (λr cs=>∃Ar cr As c2,r= .tuple #[.agg #[.slice Ar pl.reg.length cr,.slice As pl.slot.length c2,.i pl.Sm],.i 0]/\cs=[sl .i64 3 Ar pl.reg.length cr pl.reg,sl .i64 3 As pl.slot.length c2 pl.slot]):=by
 grind [Qm,qr,gl,dP]
theorem Ml(p:Pg)(Q:PAd)(hf:tM p)(hr:p.R7=true)(hg:gb (gt p (dP p)))(hroom:p.SK=true)(w:World)(h:Gt p Q w):
  Ctr prog 157 [pgv p Q] w [] (λr cs=>∃A c,r= .tuple #[.slice A (cE (gt p (dP p))).length c,.i 0]/\cs=[sl .u8 5 A (cE (gt p (dP p))).length c (cE (gt p (dP p)))]):=by
 have hm64:=hf.Se;have hoD:=hf.RV;have hoR:=hf.RX;have hrc:=h.code;obtain⟨u1,u2,u3,u4⟩:=rE hr;obtain⟨hnD,hnR,hhD,hhR⟩:=xZ hr;obtain⟨hrl,hsl⟩:(dP p).reg.length=p.code.length/\(dP p).slot.length=p.code.length:=qr (gl p) 7 p.code.length p.code.length;obtain⟨pl,hpl⟩:=Zgn (dP p);rw[hpl]at hg hrl hsl|-;have hAl:=CR p Q hf hr pl hpl;have hbl:=λe=>AD p pl e hm64 hoD hoR
 have hpb:=xN p pl (IntKind.u32.wrap ((fm p pl 0).length:Nat));have hfx:=Ro p pl;have hcode:gt p pl=fm p pl (IntKind.u32.wrap ((fm p pl 0).length:Nat))++[⟨19,0,0,0,2⟩]:=rfl;obtain⟨C9,hC9⟩:=Zgn (gt p pl);rw[hC9]at hg hcode|-;have hC9l:C9.length<=100000:=by have:=hbl (IntKind.u32.wrap ((fm p pl 0).length:Nat));rw[hcode,aq,aQ,List.length_nil];omega
 have hJ:=λA c w h=>FX A c C9 hg hC9l w h
 refine Zfs func157 ntmps157 ?_;refine Z_2 ?_;refine ZO λb1=>?_;refine Z_7 ?_;refine ZSn (λw hi=>hAl w (h.RU hi)) ?_;rintro _ _ ⟨Ar,cr,As,c2,rfl,rfl⟩;refine Z_3 ?_;refine ZN λb4=>?_
 refine ZM ?_;refine fB ?_;refine iU ?_;refine Z_7 ?_;refine ZO λb21=>?_
 refine Wq268 ?_;rintro _ _ ⟨_,⟨l1,X1,hl1,rfl⟩,rfl⟩;refine Z_2 ?_;refine cD (λq:List HI×List Int×CAd=>[(6,.p b21)]) (λq=>[row b21 (pK (⟨b21,p,Q,pl,Ar,cr,As,c2⟩:CdS) q.1.length q.2.1.length q.2.2) 301,hiC q.2.2.Al q.2.2.cl q.1,sl .i64 3 q.2.2.Af q.2.1.length q.2.2.cf q.2.1]) (λq=>q.1=fm p pl 0/\q.2.1=tE p) ?_ ?_
 .refine fB ?_;refine dz (cdF (⟨b21,p,Q,pl,Ar,cr,As,c2⟩:CdS) l1 [] X1) (λw hi hin=>wq (⟨b21,p,Q,pl,Ar,cr,As,c2⟩:CdS) l1 [] X1 bR 14 2 p.RI p.Sn p.RV.length true hroom ⟨by omega,by omega⟩ ⟨by omega,by omega⟩ Wq1 cH w hin) ?_;rintro _ _ ⟨rfl,l2,f2,X2,hl2,hf2,rfl⟩;refine ZA ?_;have hl2n:l2.length=9:=(by rw[hl2,hl1];rfl);have hf2n:f2=[4,7]:=bR;obtain⟨rr,hrr⟩:=Zgn (p.SP);refine Z_8 ?_;refine gU (bM rfl rfl) rfl (eo (cdF (⟨b21,p,Q,pl,Ar,cr,As,c2⟩:CdS) l2 f2 X2) rfl (λ_ _=>rfl) Zi (λw hi hin=>wq (⟨b21,p,Q,pl,Ar,cr,As,c2⟩:CdS) l2 f2 X2 Wq1 13 3 p.RJ p.Sq p.RX.length rr hrr ⟨by omega,by omega⟩ ⟨by omega,by omega⟩ Wq1 bR w hin)) rfl ?_;rintro _ _ ⟨_,⟨rfl,l3,f3,X3,hl3,hf3,rfl⟩,rfl⟩;refine Zw3 ?_ ?_<;>intro hc6
  .obtain rfl:rr=true:=bR;have hl3n:l3.length=17:=(by rw[hl3,aq,hl2n];rfl);have hl3h:l3=tC p 0:=(by rw[hl3,hl2,hl1];rfl);have hf3n:f3=[4,7,12,15]:=bR;refine fB ?_;refine bN (λq:Nat×List HI×CAd=>[(1,.p b1),(6,.p b21),(45,.slice Q.Ac p.code.length Q.cc),(46,.i p.code.length),(47,.i (q.1:Int))]) (λq=>[row b21 (pK (⟨b21,p,Q,pl,Ar,cr,As,c2⟩:CdS) q.2.1.length f3.length q.2.2) 301,hiC q.2.2.Al q.2.2.cl q.2.1,sl .i64 3 q.2.2.Af f3.length q.2.2.cf f3,row b1 (jD p Q) 258,(sl .i64 3 Ar pl.reg.length cr pl.reg),(sl .i64 3 As pl.slot.length c2 pl.slot)]) (λq=>q.1<=p.code.length/\q.2.1=l3++jV p.RI p.RJ pl (p.code.take q.1) 0) (λq=>p.code.length - q.1) (⟨0,l3,X3⟩) ?_ ?_ ?_ ?_
   .exact⟨au _,(az l3).symm⟩
   .exact Zwk
   .exact Zu
   rintro⟨k,l4,X4⟩ ⟨hk,hl4⟩;dsimp only at hk hl4|-;have hml:=B1 p.RI p.RJ pl (p.code.take k) 0;have hl4n:l4.length<=2000:=bR;refine Zw6 ?_ ?_<;>intro hc8
   .simp only[ae]at hc8;have hkl:k<p.code.length:=Wq1;obtain⟨ad,had⟩:=hrc.some_ Wq1;have hrc2:=hrc;rw[had]at hrc2;obtain⟨x,hx⟩:∃x,p.code[k]? =some x:=⟨_,aa hkl⟩;have hu:=u1 k x hx;have hmk:l3++jV p.RI p.RJ pl (p.code.take (k+1)) 0=l4++rO p.RI p.RJ pl k x:=(by rw[List.take_add_one,hx,hl4];show l3++jV _ _ _ (p.code.take k++[x]) 0=_;rw[xU,aw,Nat.zero_add,aI,Nat.min_eq_left Wq1]);obtain⟨op,dst,xa,xb,imm⟩:=x;dsimp only at hu;have hab:(op==3)=true\/(op==4)=true->∃na nb:Nat,xa=na/\xb=nb/\(na<pl.reg.length/\na<pl.slot.length)/\(nb<pl.reg.length/\nb<pl.slot.length):=(λho=>by obtain⟨⟨a1,a2⟩,a3,a4⟩:=hu (by unfold ly;grind);exact⟨xa.toNat,xb.toNat,by omega,by omega,⟨by omega,by omega⟩,by omega,by omega⟩);refine Z_7 ?_;refine Zy (fI (j:=k) had rfl Zrf Zv0 Zv0 Zrf (λ_=>hkl)) ?_;refine Wq172 ?_;refine ZN λb8=>?_
    refine ZA ?_;refine jh ?_;refine dz (cdF (⟨b21,p,Q,pl,Ar,cr,As,c2⟩:CdS) l4 f3 X4) (λw hi hin=>cone_ok (⟨b21,p,Q,pl,Ar,cr,As,c2⟩:CdS) l4 f3 X4 Wq1 k op dst xa xb imm bR bR hab w hin (λw' hk=>(⟨dp (hi.SO Zi (show Has _ (sl .i64 3 Ar pl.reg.length cr pl.reg)from Zh) hk),dp (hi.SO Zi (show Has _ (sl .i64 3 As pl.slot.length c2 pl.slot)from Zh) hk),RdV.RT h.RV hi Zi hk,RdV.RT h.RX hi Zi hk,RdV.RT h.code hi Zi hk⟩:Nh (⟨b21,p,Q,pl,Ar,cr,As,c2⟩:CdS) w'))) ?_;rintro _ _ ⟨l5,X5,hl5,rfl⟩;refine gh ?_;refine bJ ((⟨k+1,l5,X5⟩:Nat×List HI×CAd)) ?_ ?_ ?_
    .grind
    .exact Zwk
    exact Zj
   simp only[ac]at hc8;obtain rfl:k=p.code.length:=by omega
   rw[bl]at hl4;refine Z_7 ?_;have hs1:=nY pl 14 4 2 p.RV;have hs2:=nY pl 13 20 3 p.RX;have hoj:∀j,j∈p.RV\/j∈p.RX->∃n:Nat,j=n/\n<pl.reg.length/\n<pl.slot.length:=(λj hj=>by obtain⟨a1,a2⟩:=u2 j hj;exact⟨j.toNat,by omega,by omega,by omega⟩);refine Z_3 ?_;refine dz (cdF (⟨b21,p,Q,pl,Ar,cr,As,c2⟩:CdS) l4 f3 X4) (λw hi hin=>CD (⟨b21,p,Q,pl,Ar,cr,As,c2⟩:CdS) l4 f3 X4 Wq1 14 4 2 Q.Ad Q.cd p.RV Wq1 (λj hj=>hoj j (Or.inl hj)) w hin (λw' hk=>(⟨dp (hi.SO Zi (show Has _ (sl .i64 3 Ar pl.reg.length cr pl.reg)from Zh) hk),dp (hi.SO Zi (show Has _ (sl .i64 3 As pl.slot.length c2 pl.slot)from Zh) hk),RdV.RT h.RV hi Zi hk,RdV.RT h.RX hi Zi hk,RdV.RT h.code hi Zi hk⟩:Nh (⟨b21,p,Q,pl,Ar,cr,As,c2⟩:CdS) w')) (λw' hk=>RdV.RT h.RV hi Zi hk)) ?_;rintro _ _ ⟨l6,X6,hl6,rfl⟩;refine Z_4 ?_;have hl6n:l6.length<=4000:=bR;refine Z_3 ?_;refine dz (cdF (⟨b21,p,Q,pl,Ar,cr,As,c2⟩:CdS) l6 f3 X6) (λw hi hin=>CD (⟨b21,p,Q,pl,Ar,cr,As,c2⟩:CdS) l6 f3 X6 Wq1 13 20 3 Q.Ar Q.cr p.RX Wq1 (λj hj=>hoj j (Or.inr hj)) w hin (λw' hk=>(⟨dp (hi.SO Zi (show Has _ (sl .i64 3 Ar pl.reg.length cr pl.reg)from Zh) hk),dp (hi.SO Zi (show Has _ (sl .i64 3 As pl.slot.length c2 pl.slot)from Zh) hk),RdV.RT h.RV hi Zi hk,RdV.RT h.RX hi Zi hk,RdV.RT h.code hi Zi hk⟩:Nh (⟨b21,p,Q,pl,Ar,cr,As,c2⟩:CdS) w')) (λw' hk=>RdV.RT h.RX hi Zi hk)) ?_;rintro _ _ ⟨l7,X7,hl7,rfl⟩;refine Z_3 ?_;have hl7n:l7.length<=8000:=bR;have hl7e:l7=tC p 0++iV p pl:=(by rw[hl7,hl6,hl4,hl3h];unfold iV;grind);refine ZA ?_;refine dz (cdF (⟨b21,p,Q,pl,Ar,cr,As,c2⟩:CdS) l7 f3 X7) (λw hi hin=>cend_ok (⟨b21,p,Q,pl,Ar,cr,As,c2⟩:CdS) l7 f3 X7 Wq1 (λh0=>⟨p.flags.toNat,by grind,by grind,by grind⟩) (λh0=>⟨p.target.toNat,by grind,by grind,by grind⟩) w hin (λw' hk=>(⟨dp (hi.SO Zi (show Has _ (sl .i64 3 Ar pl.reg.length cr pl.reg)from Zh) hk),dp (hi.SO Zi (show Has _ (sl .i64 3 As pl.slot.length c2 pl.slot)from Zh) hk),RdV.RT h.RV hi Zi hk,RdV.RT h.RX hi Zi hk,RdV.RT h.code hi Zi hk⟩:Nh (⟨b21,p,Q,pl,Ar,cr,As,c2⟩:CdS) w'))) ?_;rintro _ _ ⟨l8,X8,hl8,rfl⟩;refine Zn (bJ (((l8,f3,X8):List HI×List Int×CAd)) ?_ ?_ ?_)
   .exact⟨by dsimp only;rw[hl8,show l7.length=17+(iV p pl).length by grind];unfold fm;grind,by dsimp only;rw[hf3n];unfold tE;grind⟩
   .exact Zwk
   exact Zj
  obtain rfl:rr=false:=bR;refine Zc (bJ (((l3,f3,X3):List HI×List Int×CAd)) ?_ ?_ ?_)
  .exact⟨by dsimp only;rw[hl3,hl2,hl1];unfold fm;rw[hroom,hrr];rfl,by dsimp only;rw[hf3,hf2n];unfold tE;grind⟩
  .exact Zwk
  exact Zj
 rintro⟨l9,f9,⟨Al,cl,Af,cf⟩⟩ ⟨hb9,hf9⟩;dsimp only at hb9 hf9|-;rw[<-hb9]at hpb hcode hfx;rw[<-hf9]at hpb hfx;have hl9n:=hbl 0;rw[<-hb9]at hl9n;have hf9n:f9.length<=4:=(by rw[hf9];unfold tE;grind);obtain⟨B9,hB9⟩:=Zgn (fm p pl (IntKind.u32.wrap ((l9.length:Nat):Int)));rw[hB9]at hpb hcode;refine fD ?_;refine bN (λq:Nat×List HI=>[(6,.p b21),(70,.slice Af f9.length cf),(71,.i f9.length),(72,.i (q.1:Int))]) (λq=>[row b21 (pK (⟨b21,p,Q,pl,Ar,cr,As,c2⟩:CdS) q.2.length f9.length (⟨Al,cl,Af,cf⟩:CAd)) 301,hiC (⟨Al,cl,Af,cf⟩:CAd).Al (⟨Al,cl,Af,cf⟩:CAd).cl q.2,sl .i64 3 (⟨Al,cl,Af,cf⟩:CAd).Af f9.length (⟨Al,cl,Af,cf⟩:CAd).cf f9]) (λq=>q.1<=f9.length/\q.2.length=l9.length/\oq (IntKind.u32.wrap (l9.length:Int)) (f9.drop q.1) q.2=B9) (λq=>f9.length - q.1) (⟨0,l9⟩) ?_ ?_ ?_ ?_
 .grind
 .exact Zwk
 .exact Zu
 rintro⟨k,m⟩ ⟨hk,hml,hP⟩;dsimp only at hk hml hP|-;refine Zw6 ?_ ?_<;>intro hc16
 .simp only[ae]at hc16;have hkl:k<f9.length:=Wq1;obtain⟨i,hx⟩:∃i,f9[k]? =some i:=⟨_,aa hkl⟩;obtain⟨n,rfl,hn⟩:=hfx i (ak hx);rw[jz hx]at hP;have hP:oq (IntKind.u32.wrap (l9.length:Int)) (f9.drop (k+1)) (m.set n ((m.getD n HI.zero).imm' (IntKind.u32.wrap (l9.length:Int))))=B9:=hP;refine Z_6 ?_;refine dZ (λw hi=>dO (hi.get (show Has _ (hiC Al cl m)from Zh)) Wq1) (λh1=>?_);refine dZ (λw hi=>dV (hi.get (show Has _ (sl .i64 3 Af f9.length cf f9)from Zh)) Wq1) (λh2=>?_);obtain⟨ba,rfl⟩:=h1;obtain⟨bf,rfl⟩:=h2;refine CS ?_;refine dK (bF Zrf Zv0) (u5 Zh (cq hx)) rfl (Z_3 ?_);refine bL ⟨λj=>List.elem j [13],[]⟩ Zk (lU ?_);refine ZFe 2 17 ?_;refine oO ?_;refine ZE 6 ?_;refine ZFe 7 17 ?_;refine ZG 8 ?_;refine ZE 9 ?_;refine Wq162 ?_;rintro _ _ ⟨rfl,rfl⟩;rw[LC m n _ Wq1,show m.length=(m.set n ((m.getD n HI.zero).imm' (IntKind.u32.wrap (l9.length:Int)))).length by grind];refine eQ ?_;refine Z_3 ?_;refine Wq6 ?_;refine bJ ((⟨k+1,m.set n ((m.getD n HI.zero).imm' (IntKind.u32.wrap (l9.length:Int)))⟩:Nat×List HI)) ?_ ?_ ?_
  .grind
  .exact Zwk
  exact Zj
 simp only[ac]at hc16;obtain rfl:k=f9.length:=by omega
 rw[List.drop_length]at hP;obtain rfl:m=B9:=hP;refine Z_9 ?_;refine jj ?_;rintro _ _ ⟨b92,rfl,rfl⟩;refine Wq176 ?_;rintro _ _ ⟨_,⟨l10,X10,hl10,rfl⟩,rfl⟩;obtain rfl:l10=C9:=bR;exact Wq198
theorem Mn(p:Pg)(Q:PAd)(hf:tM p)(hr:p.R7=true)(hg:gb (gt p (dP p)))(hroom:p.SK=false)(w:World)(h:Gt p Q w):
  Ctr prog 157 [pgv p Q] w [] (λr cs=>∃A c,r= .tuple #[.slice A (cE (gt p (dP p))).length c,.i 0]/\cs=[sl .u8 5 A (cE (gt p (dP p))).length c (cE (gt p (dP p)))]):=by
 have hm64:=hf.Se;have hoD:=hf.RV;have hoR:=hf.RX;have hrc:=h.code;obtain⟨u1,u2,u3,u4⟩:=rE hr;obtain⟨hnD,hnR,hhD,hhR⟩:=xZ hr;obtain⟨hrl,hsl⟩:(dP p).reg.length=p.code.length/\(dP p).slot.length=p.code.length:=qr (gl p) 7 p.code.length p.code.length;obtain⟨pl,hpl⟩:=Zgn (dP p);rw[hpl]at hg hrl hsl|-;have hAl:=CR p Q hf hr pl hpl;have hbl:=λe=>AD p pl e hm64 hoD hoR
 have hpb:=xN p pl (IntKind.u32.wrap ((fm p pl 0).length:Nat));have hfx:=Ro p pl;have hcode:gt p pl=fm p pl (IntKind.u32.wrap ((fm p pl 0).length:Nat))++[⟨19,0,0,0,2⟩]:=rfl;obtain⟨C9,hC9⟩:=Zgn (gt p pl);rw[hC9]at hg hcode|-;have hC9l:C9.length<=100000:=by have:=hbl (IntKind.u32.wrap ((fm p pl 0).length:Nat));rw[hcode,aq,aQ,List.length_nil];omega
 have hJ:=λA c w h=>FX A c C9 hg hC9l w h
 refine Zfs func157 ntmps157 ?_;refine Z_2 ?_;refine ZO λb1=>?_;refine Z_7 ?_;refine ZSn (λw hi=>hAl w (h.RU hi)) ?_;rintro _ _ ⟨Ar,cr,As,c2,rfl,rfl⟩;refine Z_3 ?_;refine ZN λb4=>?_
 refine ZM ?_;refine fB ?_;refine iU ?_;refine Z_7 ?_;refine ZO λb21=>?_
 refine Wq268 ?_;rintro _ _ ⟨_,⟨l1,X1,hl1,rfl⟩,rfl⟩;refine Z_2 ?_;refine cD (λq:List HI×List Int×CAd=>[(6,.p b21)]) (λq=>[row b21 (pK (⟨b21,p,Q,pl,Ar,cr,As,c2⟩:CdS) q.1.length q.2.1.length q.2.2) 301,hiC q.2.2.Al q.2.2.cl q.1,sl .i64 3 q.2.2.Af q.2.1.length q.2.2.cf q.2.1]) (λq=>q.1=fm p pl 0/\q.2.1=tE p) ?_ ?_
 .refine fB ?_;refine dz (cdF (⟨b21,p,Q,pl,Ar,cr,As,c2⟩:CdS) l1 [] X1) (λw hi hin=>wq (⟨b21,p,Q,pl,Ar,cr,As,c2⟩:CdS) l1 [] X1 bR 14 2 p.RI p.Sn p.RV.length false hroom ⟨by omega,by omega⟩ ⟨by omega,by omega⟩ Wq1 cH w hin) ?_;rintro _ _ ⟨rfl,l2,f2,X2,hl2,hf2,rfl⟩;refine ZA ?_;refine Wq15 ?_;refine Wq15 ?_;refine fa (bM rfl rfl) rfl rfl (Zy (yK (q:=false) (Zv rfl) ⟨_,rfl,λ_ e=>by simp at e⟩) ?_);refine tI ?_;refine Zc (bJ (((l2,f2,X2):List HI×List Int×CAd)) ?_ ?_ ?_)
  .exact⟨by dsimp only;rw[hl2,hl1];unfold fm;grind,by dsimp only;rw[hf2];unfold tE;grind⟩
  .exact Zwk
  exact Zj
 rintro⟨l9,f9,⟨Al,cl,Af,cf⟩⟩ ⟨hb9,hf9⟩;dsimp only at hb9 hf9|-;rw[<-hb9]at hpb hcode hfx;rw[<-hf9]at hpb hfx;have hl9n:=hbl 0;rw[<-hb9]at hl9n;have hf9n:f9.length<=4:=(by rw[hf9];unfold tE;grind);obtain⟨B9,hB9⟩:=Zgn (fm p pl (IntKind.u32.wrap ((l9.length:Nat):Int)));rw[hB9]at hpb hcode;refine fD ?_;refine bN (λq:Nat×List HI=>[(6,.p b21),(70,.slice Af f9.length cf),(71,.i f9.length),(72,.i (q.1:Int))]) (λq=>[row b21 (pK (⟨b21,p,Q,pl,Ar,cr,As,c2⟩:CdS) q.2.length f9.length (⟨Al,cl,Af,cf⟩:CAd)) 301,hiC (⟨Al,cl,Af,cf⟩:CAd).Al (⟨Al,cl,Af,cf⟩:CAd).cl q.2,sl .i64 3 (⟨Al,cl,Af,cf⟩:CAd).Af f9.length (⟨Al,cl,Af,cf⟩:CAd).cf f9]) (λq=>q.1<=f9.length/\q.2.length=l9.length/\oq (IntKind.u32.wrap (l9.length:Int)) (f9.drop q.1) q.2=B9) (λq=>f9.length - q.1) (⟨0,l9⟩) ?_ ?_ ?_ ?_
 .grind
 .exact Zwk
 .exact Zu
 rintro⟨k,m⟩ ⟨hk,hml,hP⟩;dsimp only at hk hml hP|-;refine Zw6 ?_ ?_<;>intro hc16
 .simp only[ae]at hc16;have hkl:k<f9.length:=Wq1;obtain⟨i,hx⟩:∃i,f9[k]? =some i:=⟨_,aa hkl⟩;obtain⟨n,rfl,hn⟩:=hfx i (ak hx);rw[jz hx]at hP;have hP:oq (IntKind.u32.wrap (l9.length:Int)) (f9.drop (k+1)) (m.set n ((m.getD n HI.zero).imm' (IntKind.u32.wrap (l9.length:Int))))=B9:=hP;refine Z_6 ?_;refine dZ (λw hi=>dO (hi.get (show Has _ (hiC Al cl m)from Zh)) Wq1) (λh1=>?_);refine dZ (λw hi=>dV (hi.get (show Has _ (sl .i64 3 Af f9.length cf f9)from Zh)) Wq1) (λh2=>?_);obtain⟨ba,rfl⟩:=h1;obtain⟨bf,rfl⟩:=h2;refine CS ?_;refine dK (bF Zrf Zv0) (u5 Zh (cq hx)) rfl (Z_3 ?_);refine bL ⟨λj=>List.elem j [13],[]⟩ Zk (lU ?_);refine ZFe 2 17 ?_;refine oO ?_;refine ZE 6 ?_;refine ZFe 7 17 ?_;refine ZG 8 ?_;refine ZE 9 ?_;refine Wq162 ?_;rintro _ _ ⟨rfl,rfl⟩;rw[LC m n _ Wq1,show m.length=(m.set n ((m.getD n HI.zero).imm' (IntKind.u32.wrap (l9.length:Int)))).length by grind];refine eQ ?_;refine Z_3 ?_;refine Wq6 ?_;refine bJ ((⟨k+1,m.set n ((m.getD n HI.zero).imm' (IntKind.u32.wrap (l9.length:Int)))⟩:Nat×List HI)) ?_ ?_ ?_
  .grind
  .exact Zwk
  exact Zj
 simp only[ac]at hc16;obtain rfl:k=f9.length:=by omega
 rw[List.drop_length]at hP;obtain rfl:m=B9:=hP;refine Z_9 ?_;refine jj ?_;rintro _ _ ⟨b92,rfl,rfl⟩;refine Wq176 ?_;rintro _ _ ⟨_,⟨l10,X10,hl10,rfl⟩,rfl⟩;obtain rfl:l10=C9:=bR;exact Wq198
theorem PR(p:Pg)(Q:PAd)(hf:tM p)(hr:p.R7=true)(hg:gb (gt p (dP p)))(w:World)(h:Gt p Q w):
  Ctr prog 157 [pgv p Q] w [] (λr cs=>∃A c,r= .tuple #[.slice A (cE (gt p (dP p))).length c,.i 0]/\cs=[sl .u8 5 A (cE (gt p (dP p))).length c (cE (gt p (dP p)))]):=by
 grind [Ml,Mn]
structure LAd where
 Ac:Option Addr
 cc:Nat
 Ad:Option Addr
 cd:Nat
 Ar:Option Addr
 cr:Nat
structure Lw.sm(L:Lw)(n:Nat):Prop where
 code:L.code.length<=n
 dl:L.d.l.length<=n
 rl:L.r.l.length<=n
 dn:0<=L.d.RL/\L.d.RL<=n
 rn:0<=L.r.RL/\L.r.RL<=n
abbrev D5(N:Int)(L:Lw)(X:LAd):List Value:=[.slice X.Ac L.code.length X.cc,.i 0,.i 0,.i 0,.i 0,.slice none 0 0,.slice none 0 0,.i L.flags,.w 0,.i L.target,.i L.branch,.w 0,.i N,.i 0,
 .slice X.Ad L.d.l.length X.cd,.i L.d.RL,.i L.d.high,.i 1,.slice X.Ar L.r.l.length X.cr,.i L.r.RL,.i L.r.high,.i 2]
theorem one5(a b c d e:Int):∀u∈([.i a,.i b,.i c,.i d,.w e]:List Value),u.oneCell'=true:=λu h=>by
 simp only[aG,aS,or_false]at h;rcases h with rfl|rfl|rfl|rfl|rfl<;>rfl
theorem Lu(c:List II)(x:II):c.flatMap II.cells++[.i x.op,.i x.dst,.i x.a,.i x.b,.w x.imm]=(c++[x]).flatMap II.cells:=by simp
theorem yP(h l:Int):(if l>h then l else h)=max h l:=by omega
abbrev lwF(b:Nat)(N:Int)(L:Lw)(X:LAd):List bC:=[row b (D5 N L X) 290,slv 305 5 X.Ac L.code.length X.cc (L.code.flatMap II.cells),sl .i64 3 X.Ad L.d.l.length X.cd L.d.l,sl .i64 3 X.Ar L.r.l.length X.cr L.r.l]
theorem vK(b:Nat)(N:Int)(L:Lw)(X:LAd)(hs:L.sm 1000)(op dst a b2 imm:Int)(w:World)(hi:Inv w (bD (lwF b N L X)) (lwF b N L X) w):
  Ctr prog 223 [.p b,.agg #[.i op,.i dst,.i a,.i b2,.w imm]] w (lwF b N L X) (λv9 cs=>v9= .i L.here/\∃C A c,C=L.code++[⟨op,L.code.length,a,b2,imm⟩]/\cs=lwF b N ⟨C,L.d,L.r,L.flags,L.target,L.branch⟩ ⟨A,c,X.Ad,X.cd,X.Ar,X.cr⟩):=by
 have hc:=hs.code;obtain⟨Ac,cc,Ad,cd,Ar,cr⟩:=X;have hsn:=Lu L.code ⟨op,L.code.length,a,b2,imm⟩;dsimp only at hsn;refine Zfn func223 ntmps223 hi ?_;refine Z_2 ?_;refine ZO λb3=>?_;refine fD ?_;refine ZL ?_;refine Z_3 ?_;refine bL ⟨λj=>List.elem j [8,12],tx b3 [.i op,.i L.code.length,.i a,.i b2,.w imm]⟩ Zk (kQ ?_);refine ZFe 3 0 ?_;refine ZFe 4 0 ?_;refine ZG 5 ?_;refine uG 6 rfl Zk Zk Zk (bP Zrf Zrf Zv0) (λx hx=>fh x hx) (bK (t:=305) Zh) rfl (cn 7 Zk (jT rfl rfl (gD rfl rfl Zrf Zrf rfl rfl rfl) (λ_=>by rintro _ _ ⟨b19,rfl,rfl⟩;exact bK (t:=305) Zh) rfl ?_));rintro _ _ ⟨b19,rfl,rfl⟩;refine cn 8 Zk (jT rfl rfl (cj (e:=305) (sz:=5) (bytes:=40) rfl rfl Za rfl rfl (λw hi=>hi.rd (show Has _ (slv 305 5 (sA b19) 1 1 [.i op,.i L.code.length,.i a,.i b2,.w imm])from Zh)) (one5 _ _ _ _ _) gq Wq1) (λ_=>by rintro _ _ ⟨A2,c2,rfl,rfl⟩;exact bK (t:=305) Zh) rfl ?_);rintro _ _ ⟨A2,c2,rfl,rfl⟩;rw[hsn,show L.code.length+1=(L.code++[(⟨op,L.code.length,a,b2,imm⟩:II)]).length by simp];refine ZE 9 ?_;refine ZFe 10 0 ?_;refine ZFe 11 0 ?_;refine cn 12 Zk (fO rfl rfl (mZ Zrf rfl rfl rfl Za Zp) (λ_=>by rintro _ _ ⟨rfl,rfl⟩;exact bK (t:=305) Zh) ?_);rintro _ _ ⟨rfl,rfl⟩;refine eQ ?_;refine Z_9 ?_;refine Zrb (lwF b N ⟨L.code++[⟨op,L.code.length,a,b2,imm⟩],L.d,L.r,L.flags,L.target,L.branch⟩ ⟨A2,c2,Ad,cd,Ar,cr⟩) ?_;exact⟨rfl,_,_,_,rfl,rfl⟩
theorem vI(b:Nat)(N:Int)(L:Lw)(X:LAd)(hs:L.sm 1000)(n:Int)(w:World)(hi:Inv w (bD (lwF b N L X)) (lwF b N L X) w):
  Ctr prog 221 [.p b,.w n] w (lwF b N L X) (λv9 cs=>v9= .i L.here/\∃C A c,C=L.code++[⟨0,L.code.length,0,0,n⟩]/\cs=lwF b N ⟨C,L.d,L.r,L.flags,L.target,L.branch⟩ ⟨A,c,X.Ad,X.cd,X.Ar,X.cr⟩):=by
 refine Zfn func221 ntmps221 hi ?_;refine fB ?_;refine dz (lwF b N L X) (λw hi hin=>vK b N L X hs 0 0 0 0 n w hin) ?_;rintro _ _ ⟨rfl,C2,A2,c2,hC2,rfl⟩;refine Z_4 ?_;refine Zrb (lwF b N ⟨C2,L.d,L.r,L.flags,L.target,L.branch⟩ ⟨A2,c2,X.Ad,X.cd,X.Ar,X.cr⟩) ?_;exact⟨rfl,C2,A2,c2,hC2,rfl⟩
theorem K4(b:Nat)(N:Int)(code:List II)(r:Sd)(l:List Int)(x RL high fl tg br:Int)(Ac:Option Addr)(cc:Nat)(Ad:Option Addr)(cd:Nat)(Ar:Option Addr)(cr:Nat)(hl:l.length<=1000)(w:World)(hi:Inv w (bD (lwF b N ⟨code,⟨l++[x],RL,high⟩,r,fl,tg,br⟩ ⟨Ac,cc,Ad,cd,Ar,cr⟩)) (lwF b N ⟨code,⟨l++[x],RL,high⟩,r,fl,tg,br⟩ ⟨Ac,cc,Ad,cd,Ar,cr⟩) w):
  Ctr prog 222 [.p b,.pointer (some ⟨b,14,none⟩)] w (lwF b N ⟨code,⟨l++[x],RL,high⟩,r,fl,tg,br⟩ ⟨Ac,cc,Ad,cd,Ar,cr⟩) (λv9 cs=>v9= .i x/\cs=lwF b N ⟨code,⟨l,RL,high⟩,r,fl,tg,br⟩ ⟨Ac,cc,Ad,cd,Ar,cr⟩):=by
 have hrd:=dp (hi.get (show Has _ (sl .i64 3 Ad (l++[x]).length cd (l++[x]))from(.tail _ (.tail _ (.head _ _)))));have hcap:(l++[x]).length<=cd:=hrd.cap;have hlen:(l++[x]).length=l.length+1:=by simp
 obtain⟨bd,rfl⟩:=dV (hi.get (show Has _ (sl .i64 3 Ad (l++[x]).length cd (l++[x]))from(.tail _ (.tail _ (.head _ _))))) Wq1;refine Zfn func222 ntmps222 hi ?_;refine QM ?_;refine Z_9 ?_;refine bW rfl ((ay Wq1)) (Z_7 ?_);refine Zy (bV (bb:=bd) (o:=0) (n:=(l++[x]).length) (c:=cd) (j:=l.length) (sz:=1) (r:=l.length) rfl Zrf (Zv rfl) (Zv rfl) Zrf Wq2 Wq1) ?_;refine dK (bF Zrf Zv0) (cM Zh (cq (tS l x))) rfl (gK ?_);refine Zy (fH (A:=some ⟨bd,0,none⟩) (n:=(l++[x]).length) (c:=cd) l.length rfl Zrf (Zv rfl) (Zv rfl) Zrf Wq2) ?_;refine mP ?_;refine fB ?_;refine kR (c:=sl .i64 3 (sA bd) (l++[x]).length cd (l++[x])) (c':=sl .i64 3 (sA bd) l.length cd l) Za rfl (λw h=>Fc h) (Zrb ([row _ _ _,slv _ _ _ _ _ _,slv _ _ _ _ _ _,slv _ _ _ _ _ _]) ?_);exact fy
theorem K5(b:Nat)(N:Int)(code:List II)(r:Sd)(RL high fl tg br:Int)(X:LAd)(hs:Lw.sm ⟨code,⟨[],RL,high⟩,r,fl,tg,br⟩ 999)(w:World)(hi:Inv w (bD (lwF b N ⟨code,⟨[],RL,high⟩,r,fl,tg,br⟩ X)) (lwF b N ⟨code,⟨[],RL,high⟩,r,fl,tg,br⟩ X) w):
  Ctr prog 222 [.p b,.pointer (some ⟨b,14,none⟩)] w (lwF b N ⟨code,⟨[],RL,high⟩,r,fl,tg,br⟩ X) (λv9 cs=>v9= .i code.length/\∃C A c,C=code++[⟨1,code.length,0,0,IntKind.u32.wrap RL⟩]/\cs=lwF b N ⟨C,⟨[],RL+1,high⟩,r,fl,tg,br⟩ ⟨A,c,X.Ad,X.cd,X.Ar,X.cr⟩):=by
 obtain⟨h1,h2⟩:=hs.dn;dsimp only at h1 h2;have hs2:Lw.sm ⟨code,⟨[],RL+1,high⟩,r,fl,tg,br⟩ 1000:=⟨by have:=hs.code;grind,by grind,by have:=hs.rl;grind,by grind,by have:=hs.rn;grind⟩;have hwr:IntKind.i64.wrap (RL+1 - 1)=RL:=by rw[bA];omega
 have hw1:IntKind.i64.wrap (RL+1)=RL+1:=by rw[bA];omega
 refine Zfn func222 ntmps222 hi ?_;refine kM ?_;refine Zy (gr Zv0 Zv0 rfl) ?_;refine Z_9 ?_;refine iU ?_;refine Z_8 ?_;refine Zy (ef Zv0 Zv0 hw1) ?_;refine mP ?_;refine Z_3 ?_;refine bL ⟨λj=>List.elem j [12],[]⟩ Zk (kQ ?_);refine ZFe 3 3 ?_;refine mE ?_;refine ZFe 7 1 ?_;refine ke 4 8 Zk ?_ ?_
 .refine lR ?_;refine cn 8 Zk (QL ?_);refine ZE 11 ?_;exact cn 12 Zk Wq191
 refine QL ?_;refine cn 4 Zk (lR ?_);refine ZE 11 ?_;exact cn 12 Zk Wq191
theorem O6(b:Nat)(N:Int)(code:List II)(r:Sd)(l:List Int)(RL high fl tg br:Int)(X:LAd)(hl:l.length<=1000)(hn:0<=RL/\RL<=1000)(w:World)(hi:Inv w (bD (lwF b N ⟨code,⟨l,RL,high⟩,r,fl,tg,br⟩ X)) (lwF b N ⟨code,⟨l,RL,high⟩,r,fl,tg,br⟩ X) w):
  Ctr prog 224 [.pointer (some ⟨b,14,none⟩)] w (lwF b N ⟨code,⟨l,RL,high⟩,r,fl,tg,br⟩ X) (λ_ cs=>cs=lwF b N ⟨code,⟨l,RL,max high ((l.length:Int) - RL)⟩,r,fl,tg,br⟩ X):=by
 have hwt:IntKind.i64.wrap ((l.length:Int) - RL)=(l.length:Int) - RL:=by rw[bA];omega
 refine Zfn func224 ntmps224 hi ?_;refine bL ⟨λj=>List.elem j [18],[]⟩ Zk (kQ ?_);refine ZFe 3 2 ?_;refine ZG 4 ?_;refine mE ?_;refine ZFe 7 0 ?_;refine ZG 8 ?_;refine sD ?_;refine ZFe 12 1 ?_;refine ZG 13 ?_;refine Wq334 ?_;refine Wq316 ?_
 rfl
theorem K2(b:Nat)(N:Int)(code:List II)(d:Sd)(l:List Int)(x RL high fl tg br:Int)(Ac:Option Addr)(cc:Nat)(Ad:Option Addr)(cd:Nat)(Ar:Option Addr)(cr:Nat)(hl:l.length<=1000)(w:World)(hi:Inv w (bD (lwF b N ⟨code,d,⟨l++[x],RL,high⟩,fl,tg,br⟩ ⟨Ac,cc,Ad,cd,Ar,cr⟩)) (lwF b N ⟨code,d,⟨l++[x],RL,high⟩,fl,tg,br⟩ ⟨Ac,cc,Ad,cd,Ar,cr⟩) w):
  Ctr prog 222 [.p b,.pointer (some ⟨b,18,none⟩)] w (lwF b N ⟨code,d,⟨l++[x],RL,high⟩,fl,tg,br⟩ ⟨Ac,cc,Ad,cd,Ar,cr⟩) (λv9 cs=>v9= .i x/\cs=lwF b N ⟨code,d,⟨l,RL,high⟩,fl,tg,br⟩ ⟨Ac,cc,Ad,cd,Ar,cr⟩):=by
 have hrd:=dp (hi.get (show Has _ (sl .i64 3 Ar (l++[x]).length cr (l++[x]))from(.tail _ (.tail _ (.tail _ (.head _ _))))));have hcap:(l++[x]).length<=cr:=hrd.cap;have hlen:(l++[x]).length=l.length+1:=by simp
 obtain⟨bd,rfl⟩:=dV (hi.get (show Has _ (sl .i64 3 Ar (l++[x]).length cr (l++[x]))from(.tail _ (.tail _ (.tail _ (.head _ _)))))) Wq1;refine Zfn func222 ntmps222 hi ?_;refine QM ?_;refine Z_9 ?_;refine bW rfl ((ay Wq1)) (Z_7 ?_);refine Zy (bV (bb:=bd) (o:=0) (n:=(l++[x]).length) (c:=cr) (j:=l.length) (sz:=1) (r:=l.length) rfl Zrf (Zv rfl) (Zv rfl) Zrf Wq2 Wq1) ?_;refine dK (bF Zrf Zv0) (cM Zh (cq (tS l x))) rfl (gK ?_);refine Zy (fH (A:=some ⟨bd,0,none⟩) (n:=(l++[x]).length) (c:=cr) l.length rfl Zrf (Zv rfl) (Zv rfl) Zrf Wq2) ?_;refine mP ?_;refine fB ?_;refine kR (c:=sl .i64 3 (sA bd) (l++[x]).length cr (l++[x])) (c':=sl .i64 3 (sA bd) l.length cr l) Za rfl (λw h=>Fc h) (Zrb ([row _ _ _,slv _ _ _ _ _ _,slv _ _ _ _ _ _,slv _ _ _ _ _ _]) ?_);exact fy
theorem K3(b:Nat)(N:Int)(code:List II)(d:Sd)(RL high fl tg br:Int)(X:LAd)(hs:Lw.sm ⟨code,d,⟨[],RL,high⟩,fl,tg,br⟩ 999)(w:World)(hi:Inv w (bD (lwF b N ⟨code,d,⟨[],RL,high⟩,fl,tg,br⟩ X)) (lwF b N ⟨code,d,⟨[],RL,high⟩,fl,tg,br⟩ X) w):
  Ctr prog 222 [.p b,.pointer (some ⟨b,18,none⟩)] w (lwF b N ⟨code,d,⟨[],RL,high⟩,fl,tg,br⟩ X) (λv9 cs=>v9= .i code.length/\∃C A c,C=code++[⟨2,code.length,0,0,IntKind.u32.wrap RL⟩]/\cs=lwF b N ⟨C,d,⟨[],RL+1,high⟩,fl,tg,br⟩ ⟨A,c,X.Ad,X.cd,X.Ar,X.cr⟩):=by
 obtain⟨h1,h2⟩:=hs.rn;dsimp only at h1 h2;have hs2:Lw.sm ⟨code,d,⟨[],RL+1,high⟩,fl,tg,br⟩ 1000:=⟨by have:=hs.code;grind,by have:=hs.dl;grind,by grind,by have:=hs.dn;grind,by grind⟩;have hwr:IntKind.i64.wrap (RL+1 - 1)=RL:=by rw[bA];omega
 have hw1:IntKind.i64.wrap (RL+1)=RL+1:=by rw[bA];omega
 refine Zfn func222 ntmps222 hi ?_;refine kM ?_;refine Zy (gr Zv0 Zv0 rfl) ?_;refine Z_9 ?_;refine iU ?_;refine Z_8 ?_;refine Zy (ef Zv0 Zv0 hw1) ?_;refine mP ?_;refine Z_3 ?_;refine bL ⟨λj=>List.elem j [12],[]⟩ Zk (kQ ?_);refine ZFe 3 3 ?_;refine mE ?_;refine ZFe 7 1 ?_;refine ke 4 8 Zk ?_ ?_
 .refine lR ?_;refine cn 8 Zk (QL ?_);refine ZE 11 ?_;exact cn 12 Zk Wq190
 refine QL ?_;refine cn 4 Zk (lR ?_);refine ZE 11 ?_;exact cn 12 Zk Wq190
theorem O5(b:Nat)(N:Int)(code:List II)(d:Sd)(l:List Int)(RL high fl tg br:Int)(X:LAd)(hl:l.length<=1000)(hn:0<=RL/\RL<=1000)(w:World)(hi:Inv w (bD (lwF b N ⟨code,d,⟨l,RL,high⟩,fl,tg,br⟩ X)) (lwF b N ⟨code,d,⟨l,RL,high⟩,fl,tg,br⟩ X) w):
  Ctr prog 224 [.pointer (some ⟨b,18,none⟩)] w (lwF b N ⟨code,d,⟨l,RL,high⟩,fl,tg,br⟩ X) (λ_ cs=>cs=lwF b N ⟨code,d,⟨l,RL,max high ((l.length:Int) - RL)⟩,fl,tg,br⟩ X):=by
 have hwt:IntKind.i64.wrap ((l.length:Int) - RL)=(l.length:Int) - RL:=by rw[bA];omega
 refine Zfn func224 ntmps224 hi ?_;refine bL ⟨λj=>List.elem j [18],[]⟩ Zk (kQ ?_);refine ZFe 3 2 ?_;refine ZG 4 ?_;refine mE ?_;refine ZFe 7 0 ?_;refine ZG 8 ?_;refine sD ?_;refine ZFe 12 1 ?_;refine ZG 13 ?_;refine Wq334 ?_;refine Wq316 ?_
 rfl
theorem ui(b:Nat)(N:Int)(L:Lw)(X:LAd)(hs:L.sm 999)(w:World)(hi:Inv w (bD (lwF b N L X)) (lwF b N L X) w):
  Ctr prog 222 [.p b,.pointer (some ⟨b,14,none⟩)] w (lwF b N L X) (λv9 cs=>v9= .i (fe 1 L.code L.d).1/\∃C s A c,C=(fe 1 L.code L.d).2.1/\s=(fe 1 L.code L.d).2.2/\cs=lwF b N ⟨C,s,L.r,L.flags,L.target,L.branch⟩ ⟨A,c,X.Ad,X.cd,X.Ar,X.cr⟩):=by
 have hl:=hs.dl;obtain⟨code,d,r,fl,tg,br⟩:=L;obtain⟨l,RL,high⟩:=d;obtain⟨Ac,cc,Ad,cd,Ar,cr⟩:=X;dsimp only at hl;rcases Nat.eq_zero_or_pos l.length with h0|h0
 .obtain rfl:l=[]:=List.eq_nil_of_length_eq_zero h0;refine Ctr.mono (K5 b N code r RL high fl tg br ⟨Ac,cc,Ad,cd,Ar,cr⟩ hs w hi) ?_;rintro v cs ⟨rfl,C,A,c,hC,rfl⟩;exact⟨rfl,C,_,A,c,hC,rfl,rfl⟩
 obtain⟨m,x,rfl⟩:=uX h0
 grind [fe,Ctr.mono,K4]
theorem zO(b:Nat)(N:Int)(L:Lw)(X:LAd)(hs:L.sm 999)(w:World)(hi:Inv w (bD (lwF b N L X)) (lwF b N L X) w):
  Ctr prog 222 [.p b,.pointer (some ⟨b,18,none⟩)] w (lwF b N L X) (λv9 cs=>v9= .i (fe 2 L.code L.r).1/\∃C s A c,C=(fe 2 L.code L.r).2.1/\s=(fe 2 L.code L.r).2.2/\cs=lwF b N ⟨C,L.d,s,L.flags,L.target,L.branch⟩ ⟨A,c,X.Ad,X.cd,X.Ar,X.cr⟩):=by
 have hl:=hs.rl;obtain⟨code,d,r,fl,tg,br⟩:=L;obtain⟨l,RL,high⟩:=r;obtain⟨Ac,cc,Ad,cd,Ar,cr⟩:=X;dsimp only at hl;rcases Nat.eq_zero_or_pos l.length with h0|h0
 .obtain rfl:l=[]:=List.eq_nil_of_length_eq_zero h0;refine Ctr.mono (K3 b N code d RL high fl tg br ⟨Ac,cc,Ad,cd,Ar,cr⟩ hs w hi) ?_;rintro v cs ⟨rfl,C,A,c,hC,rfl⟩;exact⟨rfl,C,_,A,c,hC,rfl,rfl⟩
 obtain⟨m,x,rfl⟩:=uX h0
 grind [fe,Ctr.mono,K2]
end
end Go.Ink
