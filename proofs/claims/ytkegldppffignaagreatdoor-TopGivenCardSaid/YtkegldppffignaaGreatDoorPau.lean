/- Lemmas. -/
import Derived.Test.YtkegldppffignaaGreatDoorPaa
import Derived.Test.YtkegldppffignaaGreatDoorPab
import Derived.Test.YtkegldppffignaaGreatDoorPat
set_option linter.unusedSimpArgs false
set_option linter.unusedVariables false
set_option maxRecDepth 100000
set_option maxHeartbeats 4000000
namespace Go.Ink
open Go.RowKit
def rB(p:Pg):List Int:=bif p.Nq then(bif p.ND then[4,7,12,15]else[4,7])else[]
def HI.imm'(i:HI)(e:Int):HI:=⟨i.op,i.rd,i.ra,i.rb,e⟩
def nI(e:Int):List Int->List HI->List HI
 |[],l=>l
 |i::f,l=>nI e f (l.set i.toNat ((l.getD i.toNat HI.zero).imm' e))
theorem vo(p:Pg)(pl:Pl)(e:Int):nI e (rB p) (fL p pl 0)=fL p pl e:=by
 unfold rB fL rz;cases p.Nq<;>cases p.ND<;>rfl
theorem Mw(p:Pg)(pl:Pl):∀i,i∈rB p->∃n:Nat,i=n/\n<(fL p pl 0).length:=λi hi=>by
 have h2:p.Nq=true:=by
  cases h:p.Nq with
  |true=>rfl
  |false=>unfold rB at hi;rw[h]at hi;cases hi
 unfold rB at hi;rw[h2,ac]at hi;unfold fL;rw[h2,ac];cases h3:p.ND<;>rw[h3]at hi<;>simp only[ac,aa,aJ,aY,or_false]at hi|-
 .have hl:(⟨1,15,0,0,0⟩::oc 0 14 2 p.MM p.NQ:List HI).length=9:=rfl;rcases hi with rfl|rfl
  .exact⟨4,rfl,by rw[hl];omega⟩
  exact⟨7,rfl,by rw[hl];omega⟩
 have hl:(rz p 0).length=17:=rfl;rcases hi with rfl|rfl|rfl|rfl
 .exact⟨4,rfl,by rw[ae,hl];omega⟩
 .exact⟨7,rfl,by rw[ae,hl];omega⟩
 .exact⟨12,rfl,by rw[ae,hl];omega⟩
 exact⟨15,rfl,by rw[ae,hl];omega⟩
theorem end_len(p:Pg)(pl:Pl)(n:Nat):(rY p pl n).length<=20:=by
 have h1:=vF p pl;have h2:=ug p (n+(gX p pl).length+1);have h3:=sA p pl;unfold rY;simp only[ae,ak,ao];omega
theorem xD(p:Pg)(pl:Pl)(e:Int)(hc:p.code.length<=64)(hD:p.MV.length<=100)(hR:p.MW.length<=100):(fL p pl e).length<=4000:=by
 have h1:=s7 p.MM p.MO pl p.code 0;have h2:=nB pl 14 4 2 p.MV;have h3:=nB pl 13 20 3 p.MW;have h4:=end_len p pl (17+(iS p pl).length);have h5:(rz p e).length=17:=rfl;unfold fL;cases p.Nq<;>cases p.ND<;>simp only[ac,aa]
 .simp
 .simp
 .show 9<=4000;omega
 rw[ae,ae,h5];have h6:(iS p pl).length=(j9 p.MM p.MO pl p.code 0).length+((ix pl 14 4 2 p.MV).length+(ix pl 13 20 3 p.MW).length):=by unfold iS;rw[ae,ae]
 omega
theorem Hy:∀(l:List HI) (i:Nat) (e:Int),i<l.length->(l.flatMap HI.cells).set (i*5+4) (.int .u32 e)=(l.set i ((l.getD i HI.zero).imm' e)).flatMap HI.cells
 |[],_,_,h=>by simp at h
 |x::l,0,e,_=>rfl
 |x::l,i+1,e,h=>by
  have ih:=Hy l i e (by simpa using h);rw[show(i+1)*5+4=(i*5+4)+5 by omega];show x.cells++(l.flatMap HI.cells).set (i*5+4) _=x.cells++_;rw[ih];rfl
theorem vy{p:Pg}(h:p.M0=true):(0<=p.MM/\p.MM<=16)/\(0<=p.MO/\p.MO<=16)/\(0<=p.Nc/\p.Nc<=16)/\(0<=p.Ng/\p.Ng<=16):=by
 unfold Pg.M0 Pg.NA pV at h;simp only[aL,List.all_cons,aj]at h;omega
end Go.Ink
namespace Go.Proofs.YtkegldppffignaaGreatDoor
open Go.RowKit Go.Ink Go.Proofs.Tryz
attribute [local irreducible] OpY bS
theorem tX(S:CdS)(l:List HI)(fix:List Int)(X:CAd)(hl:l.length<=10000)(base word MN high:Int)(o:Nat)(ok:Bool)(hok:(!decide (jh MN high o<MN))=ok)(hb1:0<=MN/\MN<=100000)(hb2: -100000<=high/\high<=100000)(hb3:o<=100000)(hf:fix.length<=100)(w:World)(hi:Inv w (bM (cdF S l fix X)) (cdF S l fix X) w):
  Ctr prog 175 [.pointer (some ⟨S.b,0,none⟩),.int .i64 base,.int .u32 word,.int .i64 MN,.int .i64 high,.int .i64 o] w (cdF S l fix X) (λr9 cs=>r9= .bool ok/\∃l' f' X',l'=l++(bif ok then oc 0 base word MN (jh MN high o)else[])/\f'=fix++(bif ok then[((l.length+3:Nat):Int),((l.length+6:Nat):Int)]else[])/\cs=cdF S l' f' X'):=by
 subst hok;exact LA S l fix X hl base word MN high o hb1 hb2 hb3 hf w hi
theorem zA(p:Pg)(Q:PAd)(hf:rE p)(hr:p.M0=true)(pl:Pl)(hpl:dV p=pl)(w:World)(h:CU p Q w):
  Ctr prog 173 [pgv p Q,.int .i64 7] w [] (λr cs=>∃Ar cr As c2,r= .tuple #[.agg #[.slice Ar pl.reg.length cr,.slice As pl.slot.length c2,.int .i64 pl.Nf],.int .i64 0]/\cs=[sl .i64 3 Ar pl.reg.length cr pl.reg,sl .i64 3 As pl.slot.length c2 pl.slot]):=by
 subst hpl;have h1:=LV p Q hf hr w h;obtain⟨h2,h3⟩:=mM (gM p) 7 p.code.length p.code.length;rw[show(dV p).reg.length=p.code.length from h2,show(dV p).slot.length=p.code.length from h3];exact h1
theorem Iw(p:Pg)(Q:PAd)(hf:rE p)(hr:p.M0=true)(hg:gD (gQ p (dV p)))(hroom:p.Nq=true)(w:World)(h:CU p Q w):
  Ctr prog 149 [pgv p Q] w [] (λr cs=>∃A c,r= .tuple #[.slice A (cI (gQ p (dV p))).length c,.int .i64 0]/\cs=[sl .u8 5 A (cI (gQ p (dV p))).length c (cI (gQ p (dV p)))]):=by
 have hm64:=hf.M9;have hoD:=hf.MV;have hoR:=hf.MW;have hrc:=h.code;obtain⟨u1,u2,u3,u4⟩:=qj hr;obtain⟨hnD,hnR,hhD,hhR⟩:=vy hr;obtain⟨hrl,hsl⟩:(dV p).reg.length=p.code.length/\(dV p).slot.length=p.code.length:=mM (gM p) 7 p.code.length p.code.length;obtain⟨pl,hpl⟩:=Zgn (dV p);rw[hpl]at hg hrl hsl|-;have hAl:=zA p Q hf hr pl hpl;have hbl:=λe=>xD p pl e hm64 hoD hoR
 have hpb:=vo p pl (IntKind.u32.wrap ((fL p pl 0).length:Nat));have hfx:=Mw p pl;have hcode:gQ p pl=fL p pl (IntKind.u32.wrap ((fL p pl 0).length:Nat))++[⟨19,0,0,0,2⟩]:=rfl;obtain⟨C9,hC9⟩:=Zgn (gQ p pl);rw[hC9]at hg hcode|-;have hC9l:C9.length<=100000:=by have:=hbl (IntKind.u32.wrap ((fL p pl 0).length:Nat));rw[hcode,ae,ak,ao];omega
 have hJ:=λA c w h=>Cp A c C9 hg hC9l w h
 refine bN func149 rfl ntmps149 rfl (Inv.start w) ?_;refine Z_2 ?_;refine ZO λb1=>?_;refine Z_7 ?_;refine ZS (λw hi=>hAl w (h.MZ hi)) ?_;rintro _ _ ⟨_,⟨Ar,cr,As,c2,rfl,rfl⟩,rfl⟩;refine Z_3 ?_;refine ZN λb4=>?_
 refine ZM ?_;refine dS ?_;refine fS ?_;refine Z_7 ?_;refine ZO λb21=>?_
 refine Z_5 ?_;refine dC 290 5 ?_;refine dC 3 1 ?_;refine ZA ?_;refine ZcL (cdF (⟨b21,p,Q,pl,Ar,cr,As,c2⟩:CdS) [] [] ⟨none,0,none,0⟩) (λw hi hin=>kW (⟨b21,p,Q,pl,Ar,cr,As,c2⟩:CdS) [] [] ⟨none,0,none,0⟩ cE 15 0 w hin) ?_;rintro _ _ ⟨_,⟨l1,X1,hl1,rfl⟩,rfl⟩;refine Z_2 ?_;refine da (λq:List HI×List Int×CAd=>[(6,.pointer (some ⟨b21,0,none⟩))]) (λq=>[row b21 (oC (⟨b21,p,Q,pl,Ar,cr,As,c2⟩:CdS) q.1.length q.2.1.length q.2.2) 282,hiC q.2.2.Al q.2.2.cl q.1,sl .i64 3 q.2.2.Af q.2.1.length q.2.2.cf q.2.1]) (λq=>q.1=fL p pl 0/\q.2.1=rB p) ?_ ?_
 .refine dS ?_;refine ZcL (cdF (⟨b21,p,Q,pl,Ar,cr,As,c2⟩:CdS) l1 [] X1) (λw hi hin=>tX (⟨b21,p,Q,pl,Ar,cr,As,c2⟩:CdS) l1 [] X1 (by rw[hl1];simp) 14 2 p.MM p.Nc p.MV.length true hroom ⟨by omega,by omega⟩ ⟨by omega,by omega⟩ Wq1 cE w hin) ?_;rintro _ _ ⟨_,⟨rfl,l2,f2,X2,hl2,hf2,rfl⟩,rfl⟩;refine ZA ?_;have hl2n:l2.length=9:=(by rw[hl2,hl1];rfl);have hf2n:f2=[4,7]:=(by rw[hf2,hl1];rfl);obtain⟨rr,hrr⟩:=Zgn (p.ND);refine Z_8 ?_;refine fF (bR rfl rfl) rfl (dY (cdF (⟨b21,p,Q,pl,Ar,cr,As,c2⟩:CdS) l2 f2 X2) rfl (λ_ _=>rfl) Zi (λw hi hin=>tX (⟨b21,p,Q,pl,Ar,cr,As,c2⟩:CdS) l2 f2 X2 Wq1 13 3 p.MO p.Ng p.MW.length rr hrr ⟨by omega,by omega⟩ ⟨by omega,by omega⟩ Wq1 (by rw[hf2n];simp) w hin)) rfl ?_;rintro _ _ ⟨_,⟨rfl,l3,f3,X3,hl3,hf3,rfl⟩,rfl⟩;refine Z_3 ?_;refine ZW ?_ ?_<;>intro hc6
  .obtain rfl:rr=true:=(by simpa using hc6);have hl3n:l3.length=17:=(by rw[hl3,ae,hl2n];rfl);have hl3h:l3=rz p 0:=(by rw[hl3,hl2,hl1];rfl);have hf3n:f3=[4,7,12,15]:=(by rw[hf3,hf2n,hl2n];rfl);refine dS ?_;refine cq (λq:Nat×List HI×CAd=>[(1,.pointer (some ⟨b1,0,none⟩)),(6,.pointer (some ⟨b21,0,none⟩)),(45,.slice Q.Ac p.code.length Q.cc),(46,.int .i64 p.code.length),(47,.int .i64 (q.1:Int))]) (λq=>[row b21 (oC (⟨b21,p,Q,pl,Ar,cr,As,c2⟩:CdS) q.2.1.length f3.length q.2.2) 282,hiC q.2.2.Al q.2.2.cl q.2.1,sl .i64 3 q.2.2.Af f3.length q.2.2.cf f3,row b1 (jR p Q) 242,(sl .i64 3 Ar pl.reg.length cr pl.reg),(sl .i64 3 As pl.slot.length c2 pl.slot)]) (λq=>q.1<=p.code.length/\q.2.1=l3++j9 p.MM p.MO pl (p.code.take q.1) 0) (λq=>p.code.length - q.1) (⟨0,l3,X3⟩) ?_ ?_ ?_ ?_
   .exact⟨aq _,(az l3).symm⟩
   .exact Zwk
   .exact Zu
   rintro⟨k,l4,X4⟩ ⟨hk,hl4⟩;dsimp only at hk hl4|-;have hml:=s7 p.MM p.MO pl (p.code.take k) 0;have hl4n:l4.length<=2000:=(by rw[hl4,ae,hl3n];rw[aB]at hml;omega);refine Z_6 ?_;refine ZW ?_ ?_<;>intro hc8
   .simp only[aj]at hc8;have hkl:k<p.code.length:=Wq1;obtain⟨ad,had⟩:=hrc.some_ Wq1;have hrc2:=hrc;rw[had]at hrc2;obtain⟨x,hx⟩:∃x,p.code[k]? =some x:=⟨_,ai hkl⟩;have hu:=u1 k x hx;have hmk:l3++j9 p.MM p.MO pl (p.code.take (k+1)) 0=l4++qu p.MM p.MO pl k x:=(by rw[List.take_add_one,hx,hl4];show l3++j9 _ _ _ (p.code.take k++[x]) 0=_;rw[vu,ap,bE,aB,Nat.min_eq_left Wq1]);obtain⟨op,dst,xa,xb,imm⟩:=x;dsimp only at hu;have hab:(op==3)=true\/(op==4)=true->∃na nb:Nat,xa=na/\xb=nb/\(na<pl.reg.length/\na<pl.slot.length)/\(nb<pl.reg.length/\nb<pl.slot.length):=(λho=>by obtain⟨⟨a1,a2⟩,a3,a4⟩:=hu (by unfold lr;rcases ho with ho|ho<;>rw[ho];exact Bool.true_or _;exact Bool.or_true _);exact⟨xa.toNat,xb.toNat,by omega,by omega,⟨by omega,by omega⟩,by omega,by omega⟩);refine Z_7 ?_;refine Zy (fg (j:=k) had rfl Zrf Zv0 Zv0 Zrf (λ_=>hkl)) ?_;refine dN (cz (vs:=[.int .i64 op,.int .i64 dst,.int .i64 xa,.int .i64 xb,.int .u32 imm]) Zrf Zrf Zv0) (fv hrc2 (λj v hj=>fK (f:=II.cells) Zrf (i:=j) hx hj)) rfl ?_;refine ZN λb8=>?_
    refine ZA ?_;refine ZM ?_;refine Z_6 ?_;refine ZcL (cdF (⟨b21,p,Q,pl,Ar,cr,As,c2⟩:CdS) l4 f3 X4) (λw hi hin=>cone_ok (⟨b21,p,Q,pl,Ar,cr,As,c2⟩:CdS) l4 f3 X4 Wq1 k op dst xa xb imm (by show k<pl.reg.length;omega) (by show k<pl.slot.length;omega) hab w hin (λw' hk=>(⟨dk (hi.Nv Zi (show Has _ (sl .i64 3 Ar pl.reg.length cr pl.reg)from Zh) hk),dk (hi.Nv Zi (show Has _ (sl .i64 3 As pl.slot.length c2 pl.slot)from Zh) hk),RdV.M6 h.MV hi Zi hk,RdV.M6 h.MW hi Zi hk,RdV.M6 h.code hi Zi hk⟩:Jc (⟨b21,p,Q,pl,Ar,cr,As,c2⟩:CdS) w'))) ?_;rintro _ _ ⟨_,⟨l5,X5,hl5,rfl⟩,rfl⟩;refine Z_4 ?_;refine Wq8 ?_;refine bX ((⟨k+1,l5,X5⟩:Nat×List HI×CAd)) ?_ ?_ ?_
    .exact⟨⟨by omega,by dsimp only;rw[hmk,hl5]⟩,by dsimp only;omega⟩
    .exact Zwk
    exact Zj
   simp only[ah]at hc8;obtain rfl:k=p.code.length:=by omega
   rw[bn]at hl4;refine Z_7 ?_;have hs1:=nB pl 14 4 2 p.MV;have hs2:=nB pl 13 20 3 p.MW;have hoj:∀j,j∈p.MV\/j∈p.MW->∃n:Nat,j=n/\n<pl.reg.length/\n<pl.slot.length:=(λj hj=>by obtain⟨a1,a2⟩:=u2 j hj;exact⟨j.toNat,by omega,by omega,by omega⟩);refine Z_3 ?_;refine ZcL (cdF (⟨b21,p,Q,pl,Ar,cr,As,c2⟩:CdS) l4 f3 X4) (λw hi hin=>zo (⟨b21,p,Q,pl,Ar,cr,As,c2⟩:CdS) l4 f3 X4 Wq1 14 4 2 Q.Ad Q.cd p.MV Wq1 (λj hj=>hoj j (Or.inl hj)) w hin (λw' hk=>(⟨dk (hi.Nv Zi (show Has _ (sl .i64 3 Ar pl.reg.length cr pl.reg)from Zh) hk),dk (hi.Nv Zi (show Has _ (sl .i64 3 As pl.slot.length c2 pl.slot)from Zh) hk),RdV.M6 h.MV hi Zi hk,RdV.M6 h.MW hi Zi hk,RdV.M6 h.code hi Zi hk⟩:Jc (⟨b21,p,Q,pl,Ar,cr,As,c2⟩:CdS) w')) (λw' hk=>RdV.M6 h.MV hi Zi hk)) ?_;rintro _ _ ⟨_,⟨l6,X6,hl6,rfl⟩,rfl⟩;refine Z_4 ?_;have hl6n:l6.length<=4000:=(by rw[hl6,ae];show l4.length+(ix pl 14 4 2 p.MV).length<=4000;omega);refine Z_3 ?_;refine ZcL (cdF (⟨b21,p,Q,pl,Ar,cr,As,c2⟩:CdS) l6 f3 X6) (λw hi hin=>zo (⟨b21,p,Q,pl,Ar,cr,As,c2⟩:CdS) l6 f3 X6 Wq1 13 20 3 Q.Ar Q.cr p.MW Wq1 (λj hj=>hoj j (Or.inr hj)) w hin (λw' hk=>(⟨dk (hi.Nv Zi (show Has _ (sl .i64 3 Ar pl.reg.length cr pl.reg)from Zh) hk),dk (hi.Nv Zi (show Has _ (sl .i64 3 As pl.slot.length c2 pl.slot)from Zh) hk),RdV.M6 h.MV hi Zi hk,RdV.M6 h.MW hi Zi hk,RdV.M6 h.code hi Zi hk⟩:Jc (⟨b21,p,Q,pl,Ar,cr,As,c2⟩:CdS) w')) (λw' hk=>RdV.M6 h.MW hi Zi hk)) ?_;rintro _ _ ⟨_,⟨l7,X7,hl7,rfl⟩,rfl⟩;refine Z_3 ?_;have hl7n:l7.length<=8000:=(by rw[hl7,ae];show l6.length+(ix pl 13 20 3 p.MW).length<=8000;omega);have hl7e:l7=rz p 0++iS p pl:=(by rw[hl7,hl6,hl4,hl3h];unfold iS;simp only[ap]);refine ZA ?_;refine ZcL (cdF (⟨b21,p,Q,pl,Ar,cr,As,c2⟩:CdS) l7 f3 X7) (λw hi hin=>cend_ok (⟨b21,p,Q,pl,Ar,cr,As,c2⟩:CdS) l7 f3 X7 Wq1 (λh0=>⟨p.flags.toNat,by show p.flags=_;have h0:0<=p.flags:=h0;omega,by show _<pl.reg.length;have h0:0<=p.flags:=h0;have:=u3 h0;omega,by show _<pl.slot.length;have h0:0<=p.flags:=h0;have:=u3 h0;omega⟩) (λh0=>⟨p.target.toNat,by show p.target=_;have h0:0<=p.target:=h0;omega,by show _<pl.reg.length;have h0:0<=p.target:=h0;have:=u4 h0;omega,by show _<pl.slot.length;have h0:0<=p.target:=h0;have:=u4 h0;omega⟩) w hin (λw' hk=>(⟨dk (hi.Nv Zi (show Has _ (sl .i64 3 Ar pl.reg.length cr pl.reg)from Zh) hk),dk (hi.Nv Zi (show Has _ (sl .i64 3 As pl.slot.length c2 pl.slot)from Zh) hk),RdV.M6 h.MV hi Zi hk,RdV.M6 h.MW hi Zi hk,RdV.M6 h.code hi Zi hk⟩:Jc (⟨b21,p,Q,pl,Ar,cr,As,c2⟩:CdS) w'))) ?_;rintro _ _ ⟨_,⟨l8,X8,hl8,rfl⟩,rfl⟩;refine Zn ?_;refine bX (((l8,f3,X8):List HI×List Int×CAd)) ?_ ?_ ?_
   .exact⟨by dsimp only;rw[hl8,show l7.length=17+(iS p pl).length by rw[hl7e,ae];rfl];unfold fL;rw[hroom,hrr,ac,ac,hl7e,ap],by dsimp only;rw[hf3n];unfold rB;rw[hroom,hrr];rfl⟩
   .exact Zwk
   exact Zj
  obtain rfl:rr=false:=(by simpa using hc6);refine Zc ?_;refine bX (((l3,f3,X3):List HI×List Int×CAd)) ?_ ?_ ?_
  .exact⟨by dsimp only;rw[hl3,hl2,hl1];unfold fL;rw[hroom,hrr];rfl,by dsimp only;rw[hf3,hf2n];unfold rB;rw[hroom,hrr];rfl⟩
  .exact Zwk
  exact Zj
 rintro⟨l9,f9,⟨Al,cl,Af,cf⟩⟩ ⟨hb9,hf9⟩;dsimp only at hb9 hf9|-;rw[<-hb9]at hpb hcode hfx;rw[<-hf9]at hpb hfx;have hl9n:=hbl 0;rw[<-hb9]at hl9n;have hf9n:f9.length<=4:=(by rw[hf9];unfold rB;cases p.Nq<;>cases p.ND<;>simp);obtain⟨B9,hB9⟩:=Zgn (fL p pl (IntKind.u32.wrap ((l9.length:Nat):Int)));rw[hB9]at hpb hcode;refine gR ?_;refine cq (λq:Nat×List HI=>[(6,.pointer (some ⟨b21,0,none⟩)),(70,.slice Af f9.length cf),(71,.int .i64 f9.length),(72,.int .i64 (q.1:Int))]) (λq=>[row b21 (oC (⟨b21,p,Q,pl,Ar,cr,As,c2⟩:CdS) q.2.length f9.length (⟨Al,cl,Af,cf⟩:CAd)) 282,hiC (⟨Al,cl,Af,cf⟩:CAd).Al (⟨Al,cl,Af,cf⟩:CAd).cl q.2,sl .i64 3 (⟨Al,cl,Af,cf⟩:CAd).Af f9.length (⟨Al,cl,Af,cf⟩:CAd).cf f9]) (λq=>q.1<=f9.length/\q.2.length=l9.length/\nI (IntKind.u32.wrap (l9.length:Int)) (f9.drop q.1) q.2=B9) (λq=>f9.length - q.1) (⟨0,l9⟩) ?_ ?_ ?_ ?_
 .exact⟨aq _,rfl,hpb⟩
 .exact Zwk
 .exact Zu
 rintro⟨k,m⟩ ⟨hk,hml,hP⟩;dsimp only at hk hml hP|-;refine Z_6 ?_;refine ZW ?_ ?_<;>intro hc16
 .simp only[aj]at hc16;have hkl:k<f9.length:=Wq1;obtain⟨i,hx⟩:∃i,f9[k]? =some i:=⟨_,ai hkl⟩;obtain⟨n,rfl,hn⟩:=hfx i (aD hx);rw[jL hx]at hP;have hP:nI (IntKind.u32.wrap (l9.length:Int)) (f9.drop (k+1)) (m.set n ((m.getD n HI.zero).imm' (IntKind.u32.wrap (l9.length:Int))))=B9:=hP;refine Z_6 ?_;refine dU (λw hi=>iy (hi.get (show Has _ (hiC Al cl m)from Zh)) Wq1) (λh1=>?_);refine dU (λw hi=>ez (hi.get (show Has _ (sl .i64 3 Af f9.length cf f9)from Zh)) Wq1) (λh2=>?_);obtain⟨ba,rfl⟩:=h1;obtain⟨bf,rfl⟩:=h2;refine uR ?_;refine dN (bQ Zrf Zv0) (qh Zh (cR hx)) rfl ?_;refine Z_3 ?_;refine bU ⟨λj=>List.elem j [13],[]⟩ Zk ?_;refine gO ?_;refine ZFe 2 17 ?_;refine ZG 3 ?_;refine ZE 4 ?_;refine ZE 5 ?_;refine ZE 6 ?_;refine ZFe 7 17 ?_;refine ZG 8 ?_;refine ZE 9 ?_;refine cG 10 rfl Zk Zk Zk (ce rfl rfl (Zv rfl) (show _=IntKind.u32.wrap (l9.length:Int)from by rw[hml])) rfl ?_;refine cG 11 rfl Zk Zk Zk (cw (bb:=ba) (o:=0) (n:=m.length) (c:=cl) (j:=n) (sz:=5) (r:=n*5) rfl Zrf (Zv rfl) (Zv rfl) Zrf Wq4 Wq1) rfl ?_;refine ZFe 12 4 ?_;refine cn 13 Zk ?_;refine du rfl rfl (wD Zrf rfl rfl rfl Za Wq1) ZJ ?_;rintro _ _ ⟨rfl,rfl⟩;rw[Hy m n _ Wq1,show m.length=(m.set n ((m.getD n HI.zero).imm' (IntKind.u32.wrap (l9.length:Int)))).length by rw[aC]];refine dx ?_;refine Z_3 ?_;refine Wq8 ?_;refine bX ((⟨k+1,m.set n ((m.getD n HI.zero).imm' (IntKind.u32.wrap (l9.length:Int)))⟩:Nat×List HI)) ?_ ?_ ?_
  .exact⟨⟨by omega,by dsimp only;rw[aC,hml],hP⟩,by dsimp only;omega⟩
  .exact Zwk
  exact Zj
 simp only[ah]at hc16;obtain rfl:k=f9.length:=by omega
 rw[List.drop_length]at hP;obtain rfl:m=B9:=hP;refine Z_9 ?_;refine ro ?_;rintro _ _ ⟨b92,rfl,rfl⟩;refine ZcL (cdF (⟨b21,p,Q,pl,Ar,cr,As,c2⟩:CdS) m f9 ⟨Al,cl,Af,cf⟩) (λw hi hin=>kI (⟨b21,p,Q,pl,Ar,cr,As,c2⟩:CdS) m f9 ⟨Al,cl,Af,cf⟩ Wq1 [⟨19,0,0,0,2⟩] (some ⟨b92,0,none⟩) 1 cE w hin (λw' hk=>dk (hi.Nv Zi (show Has _ (slv 290 5 (some ⟨b92,0,none⟩) 1 1 ([⟨19,0,0,0,2⟩].flatMap HI.cells))from Zh) hk))) ?_;rintro _ _ ⟨_,⟨l10,X10,hl10,rfl⟩,rfl⟩;obtain rfl:l10=C9:=(by rw[hl10,hcode]);refine Z_8 ?_;refine ZS (λw hi=>hJ X10.Al X10.cl w (dk (hi.get (show Has _ (hiC X10.Al X10.cl l10)from Zh)))) ?_;rintro _ _ ⟨_,⟨A7,c7,rfl,rfl⟩,rfl⟩;refine Z_7 ?_;refine rx (cs':=[sl .u8 5 A7 (cI l10).length c7 (cI l10)]) (.inl rfl) Zu rfl rfl rfl ?_;exact⟨A7,c7,rfl,rfl⟩
theorem Iy(p:Pg)(Q:PAd)(hf:rE p)(hr:p.M0=true)(hg:gD (gQ p (dV p)))(hroom:p.Nq=false)(w:World)(h:CU p Q w):
  Ctr prog 149 [pgv p Q] w [] (λr cs=>∃A c,r= .tuple #[.slice A (cI (gQ p (dV p))).length c,.int .i64 0]/\cs=[sl .u8 5 A (cI (gQ p (dV p))).length c (cI (gQ p (dV p)))]):=by
 have hm64:=hf.M9;have hoD:=hf.MV;have hoR:=hf.MW;have hrc:=h.code;obtain⟨u1,u2,u3,u4⟩:=qj hr;obtain⟨hnD,hnR,hhD,hhR⟩:=vy hr;obtain⟨hrl,hsl⟩:(dV p).reg.length=p.code.length/\(dV p).slot.length=p.code.length:=mM (gM p) 7 p.code.length p.code.length;obtain⟨pl,hpl⟩:=Zgn (dV p);rw[hpl]at hg hrl hsl|-;have hAl:=zA p Q hf hr pl hpl;have hbl:=λe=>xD p pl e hm64 hoD hoR
 have hpb:=vo p pl (IntKind.u32.wrap ((fL p pl 0).length:Nat));have hfx:=Mw p pl;have hcode:gQ p pl=fL p pl (IntKind.u32.wrap ((fL p pl 0).length:Nat))++[⟨19,0,0,0,2⟩]:=rfl;obtain⟨C9,hC9⟩:=Zgn (gQ p pl);rw[hC9]at hg hcode|-;have hC9l:C9.length<=100000:=by have:=hbl (IntKind.u32.wrap ((fL p pl 0).length:Nat));rw[hcode,ae,ak,ao];omega
 have hJ:=λA c w h=>Cp A c C9 hg hC9l w h
 refine bN func149 rfl ntmps149 rfl (Inv.start w) ?_;refine Z_2 ?_;refine ZO λb1=>?_;refine Z_7 ?_;refine ZS (λw hi=>hAl w (h.MZ hi)) ?_;rintro _ _ ⟨_,⟨Ar,cr,As,c2,rfl,rfl⟩,rfl⟩;refine Z_3 ?_;refine ZN λb4=>?_
 refine ZM ?_;refine dS ?_;refine fS ?_;refine Z_7 ?_;refine ZO λb21=>?_
 refine Z_5 ?_;refine dC 290 5 ?_;refine dC 3 1 ?_;refine ZA ?_;refine ZcL (cdF (⟨b21,p,Q,pl,Ar,cr,As,c2⟩:CdS) [] [] ⟨none,0,none,0⟩) (λw hi hin=>kW (⟨b21,p,Q,pl,Ar,cr,As,c2⟩:CdS) [] [] ⟨none,0,none,0⟩ cE 15 0 w hin) ?_;rintro _ _ ⟨_,⟨l1,X1,hl1,rfl⟩,rfl⟩;refine Z_2 ?_;refine da (λq:List HI×List Int×CAd=>[(6,.pointer (some ⟨b21,0,none⟩))]) (λq=>[row b21 (oC (⟨b21,p,Q,pl,Ar,cr,As,c2⟩:CdS) q.1.length q.2.1.length q.2.2) 282,hiC q.2.2.Al q.2.2.cl q.1,sl .i64 3 q.2.2.Af q.2.1.length q.2.2.cf q.2.1]) (λq=>q.1=fL p pl 0/\q.2.1=rB p) ?_ ?_
 .refine dS ?_;refine ZcL (cdF (⟨b21,p,Q,pl,Ar,cr,As,c2⟩:CdS) l1 [] X1) (λw hi hin=>tX (⟨b21,p,Q,pl,Ar,cr,As,c2⟩:CdS) l1 [] X1 (by rw[hl1];simp) 14 2 p.MM p.Nc p.MV.length false hroom ⟨by omega,by omega⟩ ⟨by omega,by omega⟩ Wq1 cE w hin) ?_;rintro _ _ ⟨_,⟨rfl,l2,f2,X2,hl2,hf2,rfl⟩,rfl⟩;refine ZA ?_;refine Wq17 ?_;refine Wq17 ?_;refine Wq17 ?_;refine Zy (CZ (q:=false) (Zv rfl) ⟨_,rfl,λ_ e=>by simp at e⟩) ?_;refine Z_2 ?_;refine fS ?_;refine Zc ?_;refine bX (((l2,f2,X2):List HI×List Int×CAd)) ?_ ?_ ?_
  .exact⟨by dsimp only;rw[hl2,hl1];unfold fL;rw[hroom];rfl,by dsimp only;rw[hf2];unfold rB;rw[hroom];rfl⟩
  .exact Zwk
  exact Zj
 rintro⟨l9,f9,⟨Al,cl,Af,cf⟩⟩ ⟨hb9,hf9⟩;dsimp only at hb9 hf9|-;rw[<-hb9]at hpb hcode hfx;rw[<-hf9]at hpb hfx;have hl9n:=hbl 0;rw[<-hb9]at hl9n;have hf9n:f9.length<=4:=(by rw[hf9];unfold rB;cases p.Nq<;>cases p.ND<;>simp);obtain⟨B9,hB9⟩:=Zgn (fL p pl (IntKind.u32.wrap ((l9.length:Nat):Int)));rw[hB9]at hpb hcode;refine gR ?_;refine cq (λq:Nat×List HI=>[(6,.pointer (some ⟨b21,0,none⟩)),(70,.slice Af f9.length cf),(71,.int .i64 f9.length),(72,.int .i64 (q.1:Int))]) (λq=>[row b21 (oC (⟨b21,p,Q,pl,Ar,cr,As,c2⟩:CdS) q.2.length f9.length (⟨Al,cl,Af,cf⟩:CAd)) 282,hiC (⟨Al,cl,Af,cf⟩:CAd).Al (⟨Al,cl,Af,cf⟩:CAd).cl q.2,sl .i64 3 (⟨Al,cl,Af,cf⟩:CAd).Af f9.length (⟨Al,cl,Af,cf⟩:CAd).cf f9]) (λq=>q.1<=f9.length/\q.2.length=l9.length/\nI (IntKind.u32.wrap (l9.length:Int)) (f9.drop q.1) q.2=B9) (λq=>f9.length - q.1) (⟨0,l9⟩) ?_ ?_ ?_ ?_
 .exact⟨aq _,rfl,hpb⟩
 .exact Zwk
 .exact Zu
 rintro⟨k,m⟩ ⟨hk,hml,hP⟩;dsimp only at hk hml hP|-;refine Z_6 ?_;refine ZW ?_ ?_<;>intro hc16
 .simp only[aj]at hc16;have hkl:k<f9.length:=Wq1;obtain⟨i,hx⟩:∃i,f9[k]? =some i:=⟨_,ai hkl⟩;obtain⟨n,rfl,hn⟩:=hfx i (aD hx);rw[jL hx]at hP;have hP:nI (IntKind.u32.wrap (l9.length:Int)) (f9.drop (k+1)) (m.set n ((m.getD n HI.zero).imm' (IntKind.u32.wrap (l9.length:Int))))=B9:=hP;refine Z_6 ?_;refine dU (λw hi=>iy (hi.get (show Has _ (hiC Al cl m)from Zh)) Wq1) (λh1=>?_);refine dU (λw hi=>ez (hi.get (show Has _ (sl .i64 3 Af f9.length cf f9)from Zh)) Wq1) (λh2=>?_);obtain⟨ba,rfl⟩:=h1;obtain⟨bf,rfl⟩:=h2;refine uR ?_;refine dN (bQ Zrf Zv0) (qh Zh (cR hx)) rfl ?_;refine Z_3 ?_;refine bU ⟨λj=>List.elem j [13],[]⟩ Zk ?_;refine gO ?_;refine ZFe 2 17 ?_;refine ZG 3 ?_;refine ZE 4 ?_;refine ZE 5 ?_;refine ZE 6 ?_;refine ZFe 7 17 ?_;refine ZG 8 ?_;refine ZE 9 ?_;refine cG 10 rfl Zk Zk Zk (ce rfl rfl (Zv rfl) (show _=IntKind.u32.wrap (l9.length:Int)from by rw[hml])) rfl ?_;refine cG 11 rfl Zk Zk Zk (cw (bb:=ba) (o:=0) (n:=m.length) (c:=cl) (j:=n) (sz:=5) (r:=n*5) rfl Zrf (Zv rfl) (Zv rfl) Zrf Wq4 Wq1) rfl ?_;refine ZFe 12 4 ?_;refine cn 13 Zk ?_;refine du rfl rfl (wD Zrf rfl rfl rfl Za Wq1) ZJ ?_;rintro _ _ ⟨rfl,rfl⟩;rw[Hy m n _ Wq1,show m.length=(m.set n ((m.getD n HI.zero).imm' (IntKind.u32.wrap (l9.length:Int)))).length by rw[aC]];refine dx ?_;refine Z_3 ?_;refine Wq8 ?_;refine bX ((⟨k+1,m.set n ((m.getD n HI.zero).imm' (IntKind.u32.wrap (l9.length:Int)))⟩:Nat×List HI)) ?_ ?_ ?_
  .exact⟨⟨by omega,by dsimp only;rw[aC,hml],hP⟩,by dsimp only;omega⟩
  .exact Zwk
  exact Zj
 simp only[ah]at hc16;obtain rfl:k=f9.length:=by omega
 rw[List.drop_length]at hP;obtain rfl:m=B9:=hP;refine Z_9 ?_;refine ro ?_;rintro _ _ ⟨b92,rfl,rfl⟩;refine ZcL (cdF (⟨b21,p,Q,pl,Ar,cr,As,c2⟩:CdS) m f9 ⟨Al,cl,Af,cf⟩) (λw hi hin=>kI (⟨b21,p,Q,pl,Ar,cr,As,c2⟩:CdS) m f9 ⟨Al,cl,Af,cf⟩ Wq1 [⟨19,0,0,0,2⟩] (some ⟨b92,0,none⟩) 1 cE w hin (λw' hk=>dk (hi.Nv Zi (show Has _ (slv 290 5 (some ⟨b92,0,none⟩) 1 1 ([⟨19,0,0,0,2⟩].flatMap HI.cells))from Zh) hk))) ?_;rintro _ _ ⟨_,⟨l10,X10,hl10,rfl⟩,rfl⟩;obtain rfl:l10=C9:=(by rw[hl10,hcode]);refine Z_8 ?_;refine ZS (λw hi=>hJ X10.Al X10.cl w (dk (hi.get (show Has _ (hiC X10.Al X10.cl l10)from Zh)))) ?_;rintro _ _ ⟨_,⟨A7,c7,rfl,rfl⟩,rfl⟩;refine Z_7 ?_;refine rx (cs':=[sl .u8 5 A7 (cI l10).length c7 (cI l10)]) (.inl rfl) Zu rfl rfl rfl ?_;exact⟨A7,c7,rfl,rfl⟩
theorem Lp(p:Pg)(Q:PAd)(hf:rE p)(hr:p.M0=true)(hg:gD (gQ p (dV p)))(w:World)(h:CU p Q w):
  Ctr prog 149 [pgv p Q] w [] (λr cs=>∃A c,r= .tuple #[.slice A (cI (gQ p (dV p))).length c,.int .i64 0]/\cs=[sl .u8 5 A (cI (gQ p (dV p))).length c (cI (gQ p (dV p)))]):=by
 cases hroom:p.Nq with
 |true=>exact Iw p Q hf hr hg hroom w h
 |false=>exact Iy p Q hf hr hg hroom w h
end Go.Proofs.YtkegldppffignaaGreatDoor
namespace Go.Ink
open Go.RowKit
structure LAd where
 Ac:Option Addr
 cc:Nat
 Ad:Option Addr
 cd:Nat
 Ar:Option Addr
 cr:Nat
structure Lw.sm(L:Lw)(n:Nat):Prop where
 code:L.code.length<=n
 dl:L.d.l.length<=n
 rl:L.r.l.length<=n
 dn:0<=L.d.MN/\L.d.MN<=n
 rn:0<=L.r.MN/\L.r.MN<=n
abbrev AM(N:Int)(L:Lw)(X:LAd):List Value:=[.slice X.Ac L.code.length X.cc,.int .i64 0,.int .i64 0,.int .i64 0,.int .i64 0,.slice none 0 0,.slice none 0 0,.int .i64 L.flags,.int .u32 0,.int .i64 L.target,.int .i64 L.branch,.int .u32 0,.int .i64 N,.int .i64 0,
 .slice X.Ad L.d.l.length X.cd,.int .i64 L.d.MN,.int .i64 L.d.high,.int .i64 1,.slice X.Ar L.r.l.length X.cr,.int .i64 L.r.MN,.int .i64 L.r.high,.int .i64 2]
theorem one5(a b c d e:Int):∀u∈([.int .i64 a,.int .i64 b,.int .i64 c,.int .i64 d,.int .u32 e]:List Value),u.oneCell'=true:=λu h=>by
 simp only[aJ,aY,or_false]at h;rcases h with rfl|rfl|rfl|rfl|rfl<;>rfl
theorem Hp(c:List II)(x:II):c.flatMap II.cells++[.int .i64 x.op,.int .i64 x.dst,.int .i64 x.a,.int .i64 x.b,.int .u32 x.imm]=(c++[x]).flatMap II.cells:=by simp
theorem Fz(h l:Int):(if l>h then l else h)=max h l:=by rw[Int.max_def];split<;>split<;>omega
end Go.Ink
namespace Go.Proofs.YtkegldppffignaaGreatDoor
open Go.RowKit Go.Ink Go.Proofs.Tryz
attribute [local irreducible] OpY bS
abbrev lwF(b:Nat)(N:Int)(L:Lw)(X:LAd):List bL:=[row b (AM N L X) 271,slv 286 5 X.Ac L.code.length X.cc (L.code.flatMap II.cells),sl .i64 3 X.Ad L.d.l.length X.cd L.d.l,sl .i64 3 X.Ar L.r.l.length X.cr L.r.l]
theorem mW(b:Nat)(N:Int)(L:Lw)(X:LAd)(hs:L.sm 1000)(op dst a b2 imm:Int)(w:World)(hi:Inv w (bM (lwF b N L X)) (lwF b N L X) w):
  Ctr prog 213 [.pointer (some ⟨b,0,none⟩),.agg #[.int .i64 op,.int .i64 dst,.int .i64 a,.int .i64 b2,.int .u32 imm]] w (lwF b N L X) (λv9 cs=>v9= .int .i64 L.here/\∃C A c,C=L.code++[⟨op,L.code.length,a,b2,imm⟩]/\cs=lwF b N ⟨C,L.d,L.r,L.flags,L.target,L.branch⟩ ⟨A,c,X.Ad,X.cd,X.Ar,X.cr⟩):=by
 have hc:=hs.code;obtain⟨Ac,cc,Ad,cd,Ar,cr⟩:=X;have hsn:=Hp L.code ⟨op,L.code.length,a,b2,imm⟩;dsimp only at hsn;refine bN func213 rfl ntmps213 rfl hi ?_;refine Z_2 ?_;refine ZO λb3=>?_;refine gR ?_;refine ZL ?_;refine Z_3 ?_;refine bU ⟨λj=>List.elem j [8,12],sQ b3 [.int .i64 op,.int .i64 L.code.length,.int .i64 a,.int .i64 b2,.int .u32 imm]⟩ Zk ?_;refine gO ?_;refine ZE 2 ?_;refine ZFe 3 0 ?_;refine ZFe 4 0 ?_;refine ZG 5 ?_;refine uX 6 rfl Zk Zk Zk (cz Zrf Zrf Zv0) (λx hx=>gx x hx) (bV (t:=286) Zh) rfl ?_;refine cn 7 Zk ?_;refine kf rfl rfl (iw rfl rfl Zrf Zrf rfl rfl rfl) (λ_=>by rintro _ _ ⟨b19,rfl,rfl⟩;exact bV (t:=286) Zh) rfl ?_;rintro _ _ ⟨b19,rfl,rfl⟩;refine cn 8 Zk ?_;refine kf rfl rfl (cD (e:=286) (sz:=5) (bytes:=40) rfl rfl Za rfl rfl (λw hi=>hi.rd (show Has _ (slv 286 5 (some ⟨b19,0,none⟩) 1 1 [.int .i64 op,.int .i64 L.code.length,.int .i64 a,.int .i64 b2,.int .u32 imm])from Zh)) (one5 _ _ _ _ _) gS Wq1) (λ_=>by rintro _ _ ⟨A2,c2,rfl,rfl⟩;exact bV (t:=286) Zh) rfl ?_;rintro _ _ ⟨A2,c2,rfl,rfl⟩;rw[hsn,show L.code.length+1=(L.code++[(⟨op,L.code.length,a,b2,imm⟩:II)]).length by simp];refine ZE 9 ?_;refine ZFe 10 0 ?_;refine ZFe 11 0 ?_;refine cn 12 Zk ?_;refine du rfl rfl (fq Zrf rfl rfl rfl Za Zp) (λ_=>by rintro _ _ ⟨rfl,rfl⟩;exact bV (t:=286) Zh) ?_;rintro _ _ ⟨rfl,rfl⟩;refine dx ?_;refine Z_9 ?_;refine Zrb (lwF b N ⟨L.code++[⟨op,L.code.length,a,b2,imm⟩],L.d,L.r,L.flags,L.target,L.branch⟩ ⟨A2,c2,Ad,cd,Ar,cr⟩) ?_;exact⟨rfl,_,_,_,rfl,rfl⟩
theorem pE(b:Nat)(N:Int)(L:Lw)(X:LAd)(hs:L.sm 1000)(n:Int)(w:World)(hi:Inv w (bM (lwF b N L X)) (lwF b N L X) w):
  Ctr prog 211 [.pointer (some ⟨b,0,none⟩),.int .u32 n] w (lwF b N L X) (λv9 cs=>v9= .int .i64 L.here/\∃C A c,C=L.code++[⟨0,L.code.length,0,0,n⟩]/\cs=lwF b N ⟨C,L.d,L.r,L.flags,L.target,L.branch⟩ ⟨A,c,X.Ad,X.cd,X.Ar,X.cr⟩):=by
 refine bN func211 rfl ntmps211 rfl hi ?_;refine dS ?_;refine ZcL (lwF b N L X) (λw hi hin=>mW b N L X hs 0 0 0 0 n w hin) ?_;rintro _ _ ⟨_,⟨rfl,C2,A2,c2,hC2,rfl⟩,rfl⟩;refine Z_4 ?_;refine Zrb (lwF b N ⟨C2,L.d,L.r,L.flags,L.target,L.branch⟩ ⟨A2,c2,X.Ad,X.cd,X.Ar,X.cr⟩) ?_;exact⟨rfl,C2,A2,c2,hC2,rfl⟩
theorem GW(b:Nat)(N:Int)(code:List II)(r:Sd)(l:List Int)(x MN high fl tg br:Int)(Ac:Option Addr)(cc:Nat)(Ad:Option Addr)(cd:Nat)(Ar:Option Addr)(cr:Nat)(hl:l.length<=1000)(w:World)(hi:Inv w (bM (lwF b N ⟨code,⟨l++[x],MN,high⟩,r,fl,tg,br⟩ ⟨Ac,cc,Ad,cd,Ar,cr⟩)) (lwF b N ⟨code,⟨l++[x],MN,high⟩,r,fl,tg,br⟩ ⟨Ac,cc,Ad,cd,Ar,cr⟩) w):
  Ctr prog 212 [.pointer (some ⟨b,0,none⟩),.pointer (some ⟨b,14,none⟩)] w (lwF b N ⟨code,⟨l++[x],MN,high⟩,r,fl,tg,br⟩ ⟨Ac,cc,Ad,cd,Ar,cr⟩) (λv9 cs=>v9= .int .i64 x/\cs=lwF b N ⟨code,⟨l,MN,high⟩,r,fl,tg,br⟩ ⟨Ac,cc,Ad,cd,Ar,cr⟩):=by
 have hrd:=dk (hi.get (show Has _ (sl .i64 3 Ad (l++[x]).length cd (l++[x]))from(.tail _ (.tail _ (.head _ _)))));have hcap:(l++[x]).length<=cd:=hrd.cap;have hlen:(l++[x]).length=l.length+1:=by simp
 obtain⟨bd,rfl⟩:=ez (hi.get (show Has _ (sl .i64 3 Ad (l++[x]).length cd (l++[x]))from(.tail _ (.tail _ (.head _ _))))) Wq1;refine bN func212 rfl ntmps212 rfl hi ?_;refine jd ?_;refine Zy (eE (Zv rfl) (Zv rfl) (show _=(l.length:Int)from by rw[hlen];exact bF _ ⟨by omega,by omega⟩|>.trans Wq1)) ?_;refine Z_9 ?_;refine bW rfl ((ax Wq1)) ?_;refine Z_7 ?_;refine Zy (cw (bb:=bd) (o:=0) (n:=(l++[x]).length) (c:=cd) (j:=l.length) (sz:=1) (r:=l.length) rfl Zrf (Zv rfl) (Zv rfl) Zrf Wq4 Wq1) ?_;refine dN (bQ Zrf Zv0) (dm Zh (cR (rK l x))) rfl ?_;refine fE ?_;refine Zy (ge (A:=some ⟨bd,0,none⟩) (n:=(l++[x]).length) (c:=cd) l.length rfl Zrf (Zv rfl) (Zv rfl) Zrf Wq4) ?_;refine Z_2 ?_;refine ZL ?_;refine dS ?_;refine kS (c:=sl .i64 3 (some ⟨bd,0,none⟩) (l++[x]).length cd (l++[x])) (c':=sl .i64 3 (some ⟨bd,0,none⟩) l.length cd l) Za rfl (λw h=>BK h) ?_;refine Zrb ([row _ _ _,slv _ _ _ _ _ _,slv _ _ _ _ _ _,slv _ _ _ _ _ _]) ?_;exact de
theorem GX(b:Nat)(N:Int)(code:List II)(r:Sd)(MN high fl tg br:Int)(X:LAd)(hs:Lw.sm ⟨code,⟨[],MN,high⟩,r,fl,tg,br⟩ 999)(w:World)(hi:Inv w (bM (lwF b N ⟨code,⟨[],MN,high⟩,r,fl,tg,br⟩ X)) (lwF b N ⟨code,⟨[],MN,high⟩,r,fl,tg,br⟩ X) w):
  Ctr prog 212 [.pointer (some ⟨b,0,none⟩),.pointer (some ⟨b,14,none⟩)] w (lwF b N ⟨code,⟨[],MN,high⟩,r,fl,tg,br⟩ X) (λv9 cs=>v9= .int .i64 code.length/\∃C A c,C=code++[⟨1,code.length,0,0,IntKind.u32.wrap MN⟩]/\cs=lwF b N ⟨C,⟨[],MN+1,high⟩,r,fl,tg,br⟩ ⟨A,c,X.Ad,X.cd,X.Ar,X.cr⟩):=by
 obtain⟨h1,h2⟩:=hs.dn;dsimp only at h1 h2;have hs2:Lw.sm ⟨code,⟨[],MN+1,high⟩,r,fl,tg,br⟩ 1000:=⟨by have:=hs.code;dsimp only at this|-;omega,by have:=hs.dl;dsimp only at this|-;omega,by have:=hs.rl;dsimp only at this|-;omega,by have:=hs.dn;dsimp only at this|-;omega,by have:=hs.rn;dsimp only at this|-;omega⟩;have hwr:IntKind.i64.wrap (MN+1 - 1)=MN:=by rw[bK];omega
 have hw1:IntKind.i64.wrap (MN+1)=MN+1:=by rw[bK];omega
 refine bN func212 rfl ntmps212 rfl hi ?_;refine jd ?_;refine Zy (eE Zv0 Zv0 rfl) ?_;refine Z_9 ?_;refine fS ?_;refine Z_8 ?_;refine Zy (df Zv0 Zv0 hw1) ?_;refine Z_2 ?_;refine ZL ?_;refine Z_3 ?_;refine bU ⟨λj=>List.elem j [12],[]⟩ Zk ?_;refine gO ?_;refine ZE 2 ?_;refine ZFe 3 3 ?_;refine ZE 5 ?_;refine ZE 6 ?_;refine ZFe 7 1 ?_;refine k8 4 8 Zk ?_ ?_
 .refine kY ?_;refine cn 8 Zk ?_;refine kY ?_;refine cG 9 rfl Zk Zk Zk (eE Zv0 Zv0 hwr) rfl ?_;refine cG 10 rfl Zk Zk Zk (ce rfl rfl Zv0 rfl) rfl ?_;refine ZE 11 ?_;refine cn 12 Zk ?_;refine ZcA (lwF b N ⟨code,⟨[],MN+1,high⟩,r,fl,tg,br⟩ X) (λw hi hin=>mW b N ⟨code,⟨[],MN+1,high⟩,r,fl,tg,br⟩ X hs2 1 0 0 0 (IntKind.u32.wrap MN) w hin) ?_;rintro _ _ ⟨_,⟨rfl,C2,A2,c2,hC2,rfl⟩,rfl⟩;refine ZE 13 ?_;refine dx ?_;refine Z_2 ?_;refine Zrb (lwF b N ⟨C2,⟨[],MN+1,high⟩,r,fl,tg,br⟩ ⟨A2,c2,X.Ad,X.cd,X.Ar,X.cr⟩) ?_;exact⟨rfl,C2,A2,c2,hC2,rfl⟩
 refine kY ?_;refine cG 9 rfl Zk Zk Zk (eE Zv0 Zv0 hwr) rfl ?_;refine cG 10 rfl Zk Zk Zk (ce rfl rfl Zv0 rfl) rfl ?_;refine cn 4 Zk ?_;refine kY ?_;refine ZE 11 ?_;refine cn 12 Zk ?_;refine ZcA (lwF b N ⟨code,⟨[],MN+1,high⟩,r,fl,tg,br⟩ X) (λw hi hin=>mW b N ⟨code,⟨[],MN+1,high⟩,r,fl,tg,br⟩ X hs2 1 0 0 0 (IntKind.u32.wrap MN) w hin) ?_;rintro _ _ ⟨_,⟨rfl,C2,A2,c2,hC2,rfl⟩,rfl⟩;refine ZE 13 ?_;refine dx ?_;refine Z_2 ?_;refine Zrb (lwF b N ⟨C2,⟨[],MN+1,high⟩,r,fl,tg,br⟩ ⟨A2,c2,X.Ad,X.cd,X.Ar,X.cr⟩) ?_;exact⟨rfl,C2,A2,c2,hC2,rfl⟩
theorem KK(b:Nat)(N:Int)(code:List II)(r:Sd)(l:List Int)(MN high fl tg br:Int)(X:LAd)(hl:l.length<=1000)(hn:0<=MN/\MN<=1000)(w:World)(hi:Inv w (bM (lwF b N ⟨code,⟨l,MN,high⟩,r,fl,tg,br⟩ X)) (lwF b N ⟨code,⟨l,MN,high⟩,r,fl,tg,br⟩ X) w):
  Ctr prog 214 [.pointer (some ⟨b,14,none⟩)] w (lwF b N ⟨code,⟨l,MN,high⟩,r,fl,tg,br⟩ X) (λ_ cs=>cs=lwF b N ⟨code,⟨l,MN,max high ((l.length:Int) - MN)⟩,r,fl,tg,br⟩ X):=by
 have hwt:IntKind.i64.wrap ((l.length:Int) - MN)=(l.length:Int) - MN:=by rw[bK];omega
 refine bN func214 rfl ntmps214 rfl hi ?_;refine bU ⟨λj=>List.elem j [18],[]⟩ Zk ?_;refine gO ?_;refine ZE 2 ?_;refine ZFe 3 2 ?_;refine ZG 4 ?_;refine ZE 5 ?_;refine ZE 6 ?_;refine ZFe 7 0 ?_;refine ZG 8 ?_;refine ZE 9 ?_;refine ZE 10 ?_;refine ZE 11 ?_;refine ZFe 12 1 ?_;refine ZG 13 ?_;refine cG 14 rfl Zk Zk Zk (eE Zv0 Zv0 hwt) rfl ?_;refine cG 15 rfl Zk Zk Zk (sd Zv0 Zv0 (Fz high ((l.length:Int) - MN))) rfl ?_;refine ZE 16 ?_;refine ZFe 17 2 ?_;refine cn 18 Zk ?_;refine ZQ ?_;refine dx ?_;refine jb (cs':=[row _ _ _,slv _ _ _ _ _ _,slv _ _ _ _ _ _,slv _ _ _ _ _ _]) (.inr rfl) Zu rfl ?_
 rfl
theorem GU(b:Nat)(N:Int)(code:List II)(d:Sd)(l:List Int)(x MN high fl tg br:Int)(Ac:Option Addr)(cc:Nat)(Ad:Option Addr)(cd:Nat)(Ar:Option Addr)(cr:Nat)(hl:l.length<=1000)(w:World)(hi:Inv w (bM (lwF b N ⟨code,d,⟨l++[x],MN,high⟩,fl,tg,br⟩ ⟨Ac,cc,Ad,cd,Ar,cr⟩)) (lwF b N ⟨code,d,⟨l++[x],MN,high⟩,fl,tg,br⟩ ⟨Ac,cc,Ad,cd,Ar,cr⟩) w):
  Ctr prog 212 [.pointer (some ⟨b,0,none⟩),.pointer (some ⟨b,18,none⟩)] w (lwF b N ⟨code,d,⟨l++[x],MN,high⟩,fl,tg,br⟩ ⟨Ac,cc,Ad,cd,Ar,cr⟩) (λv9 cs=>v9= .int .i64 x/\cs=lwF b N ⟨code,d,⟨l,MN,high⟩,fl,tg,br⟩ ⟨Ac,cc,Ad,cd,Ar,cr⟩):=by
 have hrd:=dk (hi.get (show Has _ (sl .i64 3 Ar (l++[x]).length cr (l++[x]))from(.tail _ (.tail _ (.tail _ (.head _ _))))));have hcap:(l++[x]).length<=cr:=hrd.cap;have hlen:(l++[x]).length=l.length+1:=by simp
 obtain⟨bd,rfl⟩:=ez (hi.get (show Has _ (sl .i64 3 Ar (l++[x]).length cr (l++[x]))from(.tail _ (.tail _ (.tail _ (.head _ _)))))) Wq1;refine bN func212 rfl ntmps212 rfl hi ?_;refine jd ?_;refine Zy (eE (Zv rfl) (Zv rfl) (show _=(l.length:Int)from by rw[hlen];exact bF _ ⟨by omega,by omega⟩|>.trans Wq1)) ?_;refine Z_9 ?_;refine bW rfl ((ax Wq1)) ?_;refine Z_7 ?_;refine Zy (cw (bb:=bd) (o:=0) (n:=(l++[x]).length) (c:=cr) (j:=l.length) (sz:=1) (r:=l.length) rfl Zrf (Zv rfl) (Zv rfl) Zrf Wq4 Wq1) ?_;refine dN (bQ Zrf Zv0) (dm Zh (cR (rK l x))) rfl ?_;refine fE ?_;refine Zy (ge (A:=some ⟨bd,0,none⟩) (n:=(l++[x]).length) (c:=cr) l.length rfl Zrf (Zv rfl) (Zv rfl) Zrf Wq4) ?_;refine Z_2 ?_;refine ZL ?_;refine dS ?_;refine kS (c:=sl .i64 3 (some ⟨bd,0,none⟩) (l++[x]).length cr (l++[x])) (c':=sl .i64 3 (some ⟨bd,0,none⟩) l.length cr l) Za rfl (λw h=>BK h) ?_;refine Zrb ([row _ _ _,slv _ _ _ _ _ _,slv _ _ _ _ _ _,slv _ _ _ _ _ _]) ?_;exact de
theorem GV(b:Nat)(N:Int)(code:List II)(d:Sd)(MN high fl tg br:Int)(X:LAd)(hs:Lw.sm ⟨code,d,⟨[],MN,high⟩,fl,tg,br⟩ 999)(w:World)(hi:Inv w (bM (lwF b N ⟨code,d,⟨[],MN,high⟩,fl,tg,br⟩ X)) (lwF b N ⟨code,d,⟨[],MN,high⟩,fl,tg,br⟩ X) w):
  Ctr prog 212 [.pointer (some ⟨b,0,none⟩),.pointer (some ⟨b,18,none⟩)] w (lwF b N ⟨code,d,⟨[],MN,high⟩,fl,tg,br⟩ X) (λv9 cs=>v9= .int .i64 code.length/\∃C A c,C=code++[⟨2,code.length,0,0,IntKind.u32.wrap MN⟩]/\cs=lwF b N ⟨C,d,⟨[],MN+1,high⟩,fl,tg,br⟩ ⟨A,c,X.Ad,X.cd,X.Ar,X.cr⟩):=by
 obtain⟨h1,h2⟩:=hs.rn;dsimp only at h1 h2;have hs2:Lw.sm ⟨code,d,⟨[],MN+1,high⟩,fl,tg,br⟩ 1000:=⟨by have:=hs.code;dsimp only at this|-;omega,by have:=hs.dl;dsimp only at this|-;omega,by have:=hs.rl;dsimp only at this|-;omega,by have:=hs.dn;dsimp only at this|-;omega,by have:=hs.rn;dsimp only at this|-;omega⟩;have hwr:IntKind.i64.wrap (MN+1 - 1)=MN:=by rw[bK];omega
 have hw1:IntKind.i64.wrap (MN+1)=MN+1:=by rw[bK];omega
 refine bN func212 rfl ntmps212 rfl hi ?_;refine jd ?_;refine Zy (eE Zv0 Zv0 rfl) ?_;refine Z_9 ?_;refine fS ?_;refine Z_8 ?_;refine Zy (df Zv0 Zv0 hw1) ?_;refine Z_2 ?_;refine ZL ?_;refine Z_3 ?_;refine bU ⟨λj=>List.elem j [12],[]⟩ Zk ?_;refine gO ?_;refine ZE 2 ?_;refine ZFe 3 3 ?_;refine ZE 5 ?_;refine ZE 6 ?_;refine ZFe 7 1 ?_;refine k8 4 8 Zk ?_ ?_
 .refine kY ?_;refine cn 8 Zk ?_;refine kY ?_;refine cG 9 rfl Zk Zk Zk (eE Zv0 Zv0 hwr) rfl ?_;refine cG 10 rfl Zk Zk Zk (ce rfl rfl Zv0 rfl) rfl ?_;refine ZE 11 ?_;refine cn 12 Zk ?_;refine ZcA (lwF b N ⟨code,d,⟨[],MN+1,high⟩,fl,tg,br⟩ X) (λw hi hin=>mW b N ⟨code,d,⟨[],MN+1,high⟩,fl,tg,br⟩ X hs2 2 0 0 0 (IntKind.u32.wrap MN) w hin) ?_;rintro _ _ ⟨_,⟨rfl,C2,A2,c2,hC2,rfl⟩,rfl⟩;refine ZE 13 ?_;refine dx ?_;refine Z_2 ?_;refine Zrb (lwF b N ⟨C2,d,⟨[],MN+1,high⟩,fl,tg,br⟩ ⟨A2,c2,X.Ad,X.cd,X.Ar,X.cr⟩) ?_;exact⟨rfl,C2,A2,c2,hC2,rfl⟩
 refine kY ?_;refine cG 9 rfl Zk Zk Zk (eE Zv0 Zv0 hwr) rfl ?_;refine cG 10 rfl Zk Zk Zk (ce rfl rfl Zv0 rfl) rfl ?_;refine cn 4 Zk ?_;refine kY ?_;refine ZE 11 ?_;refine cn 12 Zk ?_;refine ZcA (lwF b N ⟨code,d,⟨[],MN+1,high⟩,fl,tg,br⟩ X) (λw hi hin=>mW b N ⟨code,d,⟨[],MN+1,high⟩,fl,tg,br⟩ X hs2 2 0 0 0 (IntKind.u32.wrap MN) w hin) ?_;rintro _ _ ⟨_,⟨rfl,C2,A2,c2,hC2,rfl⟩,rfl⟩;refine ZE 13 ?_;refine dx ?_;refine Z_2 ?_;refine Zrb (lwF b N ⟨C2,d,⟨[],MN+1,high⟩,fl,tg,br⟩ ⟨A2,c2,X.Ad,X.cd,X.Ar,X.cr⟩) ?_;exact⟨rfl,C2,A2,c2,hC2,rfl⟩
theorem KJ(b:Nat)(N:Int)(code:List II)(d:Sd)(l:List Int)(MN high fl tg br:Int)(X:LAd)(hl:l.length<=1000)(hn:0<=MN/\MN<=1000)(w:World)(hi:Inv w (bM (lwF b N ⟨code,d,⟨l,MN,high⟩,fl,tg,br⟩ X)) (lwF b N ⟨code,d,⟨l,MN,high⟩,fl,tg,br⟩ X) w):
  Ctr prog 214 [.pointer (some ⟨b,18,none⟩)] w (lwF b N ⟨code,d,⟨l,MN,high⟩,fl,tg,br⟩ X) (λ_ cs=>cs=lwF b N ⟨code,d,⟨l,MN,max high ((l.length:Int) - MN)⟩,fl,tg,br⟩ X):=by
 have hwt:IntKind.i64.wrap ((l.length:Int) - MN)=(l.length:Int) - MN:=by rw[bK];omega
 refine bN func214 rfl ntmps214 rfl hi ?_;refine bU ⟨λj=>List.elem j [18],[]⟩ Zk ?_;refine gO ?_;refine ZE 2 ?_;refine ZFe 3 2 ?_;refine ZG 4 ?_;refine ZE 5 ?_;refine ZE 6 ?_;refine ZFe 7 0 ?_;refine ZG 8 ?_;refine ZE 9 ?_;refine ZE 10 ?_;refine ZE 11 ?_;refine ZFe 12 1 ?_;refine ZG 13 ?_;refine cG 14 rfl Zk Zk Zk (eE Zv0 Zv0 hwt) rfl ?_;refine cG 15 rfl Zk Zk Zk (sd Zv0 Zv0 (Fz high ((l.length:Int) - MN))) rfl ?_;refine ZE 16 ?_;refine ZFe 17 2 ?_;refine cn 18 Zk ?_;refine ZQ ?_;refine dx ?_;refine jb (cs':=[row _ _ _,slv _ _ _ _ _ _,slv _ _ _ _ _ _,slv _ _ _ _ _ _]) (.inr rfl) Zu rfl ?_
 rfl
theorem i4(b:Nat)(N:Int)(L:Lw)(X:LAd)(hs:L.sm 999)(w:World)(hi:Inv w (bM (lwF b N L X)) (lwF b N L X) w):
  Ctr prog 212 [.pointer (some ⟨b,0,none⟩),.pointer (some ⟨b,14,none⟩)] w (lwF b N L X) (λv9 cs=>v9= .int .i64 (fj 1 L.code L.d).1/\∃C s A c,C=(fj 1 L.code L.d).2.1/\s=(fj 1 L.code L.d).2.2/\cs=lwF b N ⟨C,s,L.r,L.flags,L.target,L.branch⟩ ⟨A,c,X.Ad,X.cd,X.Ar,X.cr⟩):=by
 have hl:=hs.dl;obtain⟨code,d,r,fl,tg,br⟩:=L;obtain⟨l,MN,high⟩:=d;obtain⟨Ac,cc,Ad,cd,Ar,cr⟩:=X;dsimp only at hl;rcases Nat.eq_zero_or_pos l.length with h0|h0
 .obtain rfl:l=[]:=List.eq_nil_of_length_eq_zero h0;refine Ctr.mono (GX b N code r MN high fl tg br ⟨Ac,cc,Ad,cd,Ar,cr⟩ hs w hi) ?_;rintro v cs ⟨rfl,C,A,c,hC,rfl⟩;exact⟨rfl,C,_,A,c,hC,rfl,rfl⟩
 obtain⟨m,x,rfl⟩:=sG h0;have hp:fj 1 code ⟨m++[x],MN,high⟩=(x,code,⟨m,MN,high⟩):=by unfold fj;simp
 refine Ctr.mono (GW b N code r m x MN high fl tg br Ac cc Ad cd Ar cr (by rw[ae]at hl;omega) w hi) ?_;rintro v cs ⟨rfl,rfl⟩;exact⟨by rw[hp],code,⟨m,MN,high⟩,Ac,cc,by rw[hp],by rw[hp],rfl⟩
theorem xh(b:Nat)(N:Int)(L:Lw)(X:LAd)(hs:L.sm 999)(w:World)(hi:Inv w (bM (lwF b N L X)) (lwF b N L X) w):
  Ctr prog 212 [.pointer (some ⟨b,0,none⟩),.pointer (some ⟨b,18,none⟩)] w (lwF b N L X) (λv9 cs=>v9= .int .i64 (fj 2 L.code L.r).1/\∃C s A c,C=(fj 2 L.code L.r).2.1/\s=(fj 2 L.code L.r).2.2/\cs=lwF b N ⟨C,L.d,s,L.flags,L.target,L.branch⟩ ⟨A,c,X.Ad,X.cd,X.Ar,X.cr⟩):=by
 have hl:=hs.rl;obtain⟨code,d,r,fl,tg,br⟩:=L;obtain⟨l,MN,high⟩:=r;obtain⟨Ac,cc,Ad,cd,Ar,cr⟩:=X;dsimp only at hl;rcases Nat.eq_zero_or_pos l.length with h0|h0
 .obtain rfl:l=[]:=List.eq_nil_of_length_eq_zero h0;refine Ctr.mono (GV b N code d MN high fl tg br ⟨Ac,cc,Ad,cd,Ar,cr⟩ hs w hi) ?_;rintro v cs ⟨rfl,C,A,c,hC,rfl⟩;exact⟨rfl,C,_,A,c,hC,rfl,rfl⟩
 obtain⟨m,x,rfl⟩:=sG h0;have hp:fj 2 code ⟨m++[x],MN,high⟩=(x,code,⟨m,MN,high⟩):=by unfold fj;simp
 refine Ctr.mono (GU b N code d m x MN high fl tg br Ac cc Ad cd Ar cr (by rw[ae]at hl;omega) w hi) ?_;rintro v cs ⟨rfl,rfl⟩;exact⟨by rw[hp],code,⟨m,MN,high⟩,Ac,cc,by rw[hp],by rw[hp],rfl⟩
end Go.Proofs.YtkegldppffignaaGreatDoor
