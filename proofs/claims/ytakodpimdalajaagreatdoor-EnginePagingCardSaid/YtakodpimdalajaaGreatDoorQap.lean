/- Lemmas. -/
import Derived.Test.YtakodpimdalajaaGreatDoorQaa
import Derived.Test.YtakodpimdalajaaGreatDoorQab
import Derived.Test.YtakodpimdalajaaGreatDoorQal
import Derived.Test.YtakodpimdalajaaGreatDoorQao
set_option linter.unusedSimpArgs false
set_option linter.unusedVariables false
set_option maxRecDepth 100000
set_option maxHeartbeats 4000000
namespace Go.Ink
open Go.RowKit
def pT(p:Pg):List Int:=bif p.IM then(bif p.IX then[4,7,12,15]else[4,7])else[]
def HI.imm'(i:HI)(e:Int):HI:=⟨i.op,i.rd,i.ra,i.rb,e⟩
def mv(e:Int):List Int→List HI→List HI
 |[],l=>l
 |i::f,l=>mv e f (l.set i.toNat ((l.getD i.toNat HI.zero).imm' e))
theorem sX(p:Pg)(pl:Pl)(e:Int):mv e (pT p) (fp p pl 0)=fp p pl e:=by
 unfold pT fp pR;cases p.IM<;>cases p.IX<;>rfl
theorem Hx(p:Pg)(pl:Pl):∀i,i∈pT p→∃n:Nat,i=n∧n<(fp p pl 0).length:=fun i hi=>by
 have h2:p.IM=true:=by
  cases h:p.IM with
  |true=>rfl
  |false=>unfold pT at hi;rw[h]at hi;cases hi
 unfold pT at hi;rw[h2,ac]at hi;unfold fp;rw[h2,ac];cases h3:p.IX<;>rw[h3]at hi<;>simp only[ac,aa,aL,bh,or_false]at hi⊢
 ·have hl:(⟨1,15,0,0,0⟩::mQ 0 14 2 p.Ia p.I6:List HI).length=9:=rfl;rcases hi with rfl|rfl
  ·exact⟨4,rfl,by rw[hl];omega⟩
  exact⟨7,rfl,by rw[hl];omega⟩
 have hl:(pR p 0).length=17:=rfl;rcases hi with rfl|rfl|rfl|rfl
 ·exact⟨4,rfl,by rw[ae,hl];omega⟩
 ·exact⟨7,rfl,by rw[ae,hl];omega⟩
 ·exact⟨12,rfl,by rw[ae,hl];omega⟩
 exact⟨15,rfl,by rw[ae,hl];omega⟩
theorem end_len(p:Pg)(pl:Pl)(n:Nat):(qi p pl n).length≤20:=by
 have h1:=tq p pl;have h2:=rV p (n+(gu p pl).length+1);have h3:=qA p pl;unfold qi;simp only[ae,ai,ak];omega
theorem vd(p:Pg)(pl:Pl)(e:Int)(hc:p.code.length≤64)(hD:p.Ij.length≤100)(hR:p.Ik.length≤100):(fp p pl e).length≤4000:=by
 have h1:=qX p.Ia p.Ib pl p.code 0;have h2:=mg pl 14 4 2 p.Ij;have h3:=mg pl 13 20 3 p.Ik;have h4:=end_len p pl (17+(iq p pl).length);have h5:(pR p e).length=17:=rfl;unfold fp;cases p.IM<;>cases p.IX<;>simp only[ac,aa]
 ·simp
 ·simp
 ·show 9≤4000;omega
 rw[ae,ae,h5];have h6:(iq p pl).length=(jq p.Ia p.Ib pl p.code 0).length+((gV pl 14 4 2 p.Ij).length+(gV pl 13 20 3 p.Ik).length):=by unfold iq;rw[ae,ae]
 omega
theorem Dt:∀(l:List HI) (i:Nat) (e:Int),i<l.length→(l.flatMap HI.cells).set (i*5+4) (.int .u32 e)=(l.set i ((l.getD i HI.zero).imm' e)).flatMap HI.cells
 |[],_,_,h=>by simp at h
 |x::l,0,e,_=>rfl
 |x::l,i+1,e,h=>by
  have ih:=Dt l i e (by simpa using h);rw[show(i+1)*5+4=(i*5+4)+5 by omega];show x.cells++(l.flatMap HI.cells).set (i*5+4) _=x.cells++_;rw[ih];rfl
theorem tm{p:Pg}(h:p.In=true):(0≤p.Ia∧p.Ia≤16)∧(0≤p.Ib∧p.Ib≤16)∧(0≤p.IB∧p.IB≤16)∧(0≤p.ID∧p.ID≤16):=by
 unfold Pg.In Pg.IU oz at h;simp only[az,List.all_cons,ap]at h;omega
end Go.Ink
namespace Go.Proofs.YtakodpimdalajaaGreatDoor
open Go.RowKit Go.Ink Go.Proofs.Tryz
attribute [local irreducible] OpY bU
theorem rN(S:CdS)(l:List HI)(fix:List Int)(X:CAd)(hl:l.length≤10000)(base word Ic high:Int)(o:Nat)(ok:Bool)(hok:(!decide (iK Ic high o<Ic))=ok)(hb1:0≤Ic∧Ic≤100000)(hb2: -100000≤high∧high≤100000)(hb3:o≤100000)(hf:fix.length≤100)(w:World)(hi:Inv w (bK (cdF S l fix X)) (cdF S l fix X) w):
  Ctr prog 170 [.pointer (some ⟨S.b,0,none⟩),.int .i64 base,.int .u32 word,.int .i64 Ic,.int .i64 high,.int .i64 o] w (cdF S l fix X) (fun r9 cs=>r9= .bool ok∧∃l' f' X',l'=l++(bif ok then mQ 0 base word Ic (iK Ic high o)else[])∧f'=fix++(bif ok then[((l.length+3:Nat):Int),((l.length+6:Nat):Int)]else[])∧cs=cdF S l' f' X'):=by
 subst hok;exact GF S l fix X hl base word Ic high o hb1 hb2 hb3 hf w hi
theorem wW(p:Pg)(Q:PAd)(hf:pZ p)(hr:p.In=true)(pl:Pl)(hpl:dN p=pl)(w:World)(h:zw p Q w):
  Ctr prog 168 [pgv p Q,.int .i64 7] w [] (fun r cs=>∃Ar cr As c2,r= .tuple #[.agg #[.slice Ar pl.reg.length cr,.slice As pl.slot.length c2,.int .i64 pl.IC],.int .i64 0]∧cs=[sl .i64 3 Ar pl.reg.length cr pl.reg,sl .i64 3 As pl.slot.length c2 pl.slot]):=by
 subst hpl;have h1:=GU p Q hf hr w h;obtain⟨h2,h3⟩:=lG (gi p) 7 p.code.length p.code.length;rw[show(dN p).reg.length=p.code.length from h2,show(dN p).slot.length=p.code.length from h3];exact h1
theorem DU(p:Pg)(Q:PAd)(hf:pZ p)(hr:p.In=true)(hg:gc (gm p (dN p)))(hroom:p.IM=true)(w:World)(h:zw p Q w):
  Ctr prog 129 [pgv p Q] w [] (fun r cs=>∃A c,r= .tuple #[.slice A (cJ (gm p (dN p))).length c,.int .i64 0]∧cs=[sl .u8 5 A (cJ (gm p (dN p))).length c (cJ (gm p (dN p)))]):=by
 have hm64:=hf.IG;have hoD:=hf.Ij;have hoR:=hf.Ik;have hrc:=h.code;obtain⟨u1,u2,u3,u4⟩:=oN hr;obtain⟨hnD,hnR,hhD,hhR⟩:=tm hr;obtain⟨hrl,hsl⟩:(dN p).reg.length=p.code.length∧(dN p).slot.length=p.code.length:=lG (gi p) 7 p.code.length p.code.length;obtain⟨pl,hpl⟩:=Zgn (dN p);rw[hpl]at hg hrl hsl⊢;have hAl:=wW p Q hf hr pl hpl;have hbl:=fun e=>vd p pl e hm64 hoD hoR
 have hpb:=sX p pl (IntKind.u32.wrap ((fp p pl 0).length:Nat));have hfx:=Hx p pl;have hcode:gm p pl=fp p pl (IntKind.u32.wrap ((fp p pl 0).length:Nat))++[⟨19,0,0,0,2⟩]:=rfl;obtain⟨C9,hC9⟩:=Zgn (gm p pl);rw[hC9]at hg hcode⊢;have hC9l:C9.length≤100000:=by have:=hbl (IntKind.u32.wrap ((fp p pl 0).length:Nat));rw[hcode,ae,ai,ak];omega
 have hJ:=fun A c w h=>yY A c C9 hg hC9l w h
 refine bL func129 rfl ntmps129 rfl (Inv.start w) ?_;refine Z_2 ?_;refine ZO fun b1=>?_;refine Z_7 ?_;refine ZS (fun w hi=>hAl w (h.Iy hi)) ?_;rintro _ _ ⟨_,⟨Ar,cr,As,c2,rfl,rfl⟩,rfl⟩;refine Z_3 ?_;refine ZN fun b4=>?_
 refine ZM ?_;refine eJ ?_;refine bV rfl (rfl) ?_;refine Z_7 ?_;refine ZO fun b21=>?_
 refine Z_5 ?_;refine dC 298 5 ?_;refine dC 3 1 ?_;refine ZA ?_;refine ZcL (cdF (⟨b21,p,Q,pl,Ar,cr,As,c2⟩:CdS) [] [] ⟨none,0,none,0⟩) (fun w hi hin=>j8 (⟨b21,p,Q,pl,Ar,cr,As,c2⟩:CdS) [] [] ⟨none,0,none,0⟩ (by simp) 15 0 w hin) ?_;rintro _ _ ⟨_,⟨l1,X1,hl1,rfl⟩,rfl⟩;refine Z_2 ?_;refine cS (fun q:List HI×List Int×CAd=>[(6,.pointer (some ⟨b21,0,none⟩))]) (fun q=>[row b21 (m6 (⟨b21,p,Q,pl,Ar,cr,As,c2⟩:CdS) q.1.length q.2.1.length q.2.2) 291,hiC q.2.2.Al q.2.2.cl q.1,sl .i64 3 q.2.2.Af q.2.1.length q.2.2.cf q.2.1]) (fun q=>q.1=fp p pl 0∧q.2.1=pT p) ?_ ?_
 ·refine eJ ?_;refine ZcL (cdF (⟨b21,p,Q,pl,Ar,cr,As,c2⟩:CdS) l1 [] X1) (fun w hi hin=>rN (⟨b21,p,Q,pl,Ar,cr,As,c2⟩:CdS) l1 [] X1 (by rw[hl1];simp) 14 2 p.Ia p.IB p.Ij.length true hroom ⟨by omega,by omega⟩ ⟨by omega,by omega⟩ (by omega) (by simp) w hin) ?_;rintro _ _ ⟨_,⟨rfl,l2,f2,X2,hl2,hf2,rfl⟩,rfl⟩;refine ZA ?_;have hl2n:l2.length=9:=(by rw[hl2,hl1];rfl);have hf2n:f2=[4,7]:=(by rw[hf2,hl1];rfl);obtain⟨rr,hrr⟩:=Zgn (p.IX);refine Z_8 ?_;refine jm (cu rfl rfl) rfl (dW (cdF (⟨b21,p,Q,pl,Ar,cr,As,c2⟩:CdS) l2 f2 X2) rfl (fun _ _=>rfl) Zi (fun w hi hin=>rN (⟨b21,p,Q,pl,Ar,cr,As,c2⟩:CdS) l2 f2 X2 (by omega) 13 3 p.Ib p.ID p.Ik.length rr hrr ⟨by omega,by omega⟩ ⟨by omega,by omega⟩ (by omega) (by rw[hf2n];simp) w hin)) rfl ?_;rintro _ _ ⟨_,⟨rfl,l3,f3,X3,hl3,hf3,rfl⟩,rfl⟩;refine Z_3 ?_;refine ZW ?_ ?_<;>intro hc6
  ·obtain rfl:rr=true:=(by simpa using hc6);have hl3n:l3.length=17:=(by rw[hl3,ae,hl2n];rfl);have hl3h:l3=pR p 0:=(by rw[hl3,hl2,hl1];rfl);have hf3n:f3=[4,7,12,15]:=(by rw[hf3,hf2n,hl2n];rfl);refine eJ ?_;refine cG (fun q:Nat×List HI×CAd=>[(1,.pointer (some ⟨b1,0,none⟩)),(6,.pointer (some ⟨b21,0,none⟩)),(45,.slice Q.Ac p.code.length Q.cc),(46,.int .i64 p.code.length),(47,.int .i64 (q.1:Int))]) (fun q=>[row b21 (m6 (⟨b21,p,Q,pl,Ar,cr,As,c2⟩:CdS) q.2.1.length f3.length q.2.2) 291,hiC q.2.2.Al q.2.2.cl q.2.1,sl .i64 3 q.2.2.Af f3.length q.2.2.cf f3,row b1 (ji p Q) 236,(sl .i64 3 Ar pl.reg.length cr pl.reg),(sl .i64 3 As pl.slot.length c2 pl.slot)]) (fun q=>q.1≤p.code.length∧q.2.1=l3++jq p.Ia p.Ib pl (p.code.take q.1) 0) (fun q=>p.code.length - q.1) (⟨0,l3,X3⟩) ?_ ?_ ?_ ?_
   ·exact⟨ax _,(ay l3).symm⟩
   ·exact Zwk
   ·exact Zu
   rintro⟨k,l4,X4⟩ ⟨hk,hl4⟩;dsimp only at hk hl4⊢;have hml:=qX p.Ia p.Ib pl (p.code.take k) 0;have hl4n:l4.length≤2000:=(by rw[hl4,ae,hl3n];rw[aF]at hml;omega);refine Z_6 ?_;refine ZW ?_ ?_<;>intro hc8
   ·simp only[ap]at hc8;have hkl:k<p.code.length:=(by omega);obtain⟨ad,had⟩:=hrc.some_ (by omega);have hrc2:=hrc;rw[had]at hrc2;obtain⟨x,hx⟩:∃x,p.code[k]? =some x:=⟨_,ao hkl⟩;have hu:=u1 k x hx;have hmk:l3++jq p.Ia p.Ib pl (p.code.take (k+1)) 0=l4++oR p.Ia p.Ib pl k x:=(by rw[List.take_add_one,hx,hl4];show l3++jq _ _ _ (p.code.take k++[x]) 0=_;rw[s7,aq,bl,aF,Nat.min_eq_left (by omega)]);obtain⟨op,dst,xa,xb,imm⟩:=x;dsimp only at hu;have hab:(op==3)=true∨(op==4)=true→∃na nb:Nat,xa=na∧xb=nb∧(na<pl.reg.length∧na<pl.slot.length)∧(nb<pl.reg.length∧nb<pl.slot.length):=(fun ho=>by obtain⟨⟨a1,a2⟩,a3,a4⟩:=hu (by unfold kj;rcases ho with ho|ho<;>rw[ho];exact Bool.true_or _;exact Bool.or_true _);exact⟨xa.toNat,xb.toNat,by omega,by omega,⟨by omega,by omega⟩,by omega,by omega⟩);refine Z_7 ?_;refine Zy (eQ (j:=k) had rfl Zrf Zv0 Zv0 Zrf (fun _=>hkl)) ?_;refine dX (cB (vs:=[.int .i64 op,.int .i64 dst,.int .i64 xa,.int .i64 xb,.int .u32 imm]) Zrf Zrf Zv0) (fV hrc2 (fun j v hj=>fP (f:=II.cells) Zrf (i:=j) hx hj)) rfl ?_;refine ZN fun b8=>?_
    refine ZA ?_;refine ZM ?_;refine Z_6 ?_;refine ZcL (cdF (⟨b21,p,Q,pl,Ar,cr,As,c2⟩:CdS) l4 f3 X4) (fun w hi hin=>cone_ok (⟨b21,p,Q,pl,Ar,cr,As,c2⟩:CdS) l4 f3 X4 (by omega) k op dst xa xb imm (by show k<pl.reg.length;omega) (by show k<pl.slot.length;omega) hab w hin (fun w' hk=>(⟨dm (hi.IP Zi (show Has _ (sl .i64 3 Ar pl.reg.length cr pl.reg)from Zh) hk),dm (hi.IP Zi (show Has _ (sl .i64 3 As pl.slot.length c2 pl.slot)from Zh) hk),RdV.Ir h.Ij hi Zi hk,RdV.Ir h.Ik hi Zi hk,RdV.Ir h.code hi Zi hk⟩:Ex (⟨b21,p,Q,pl,Ar,cr,As,c2⟩:CdS) w'))) ?_;rintro _ _ ⟨_,⟨l5,X5,hl5,rfl⟩,rfl⟩;refine Z_4 ?_;refine Zy (cy Zv0 Zv0 Zl) ?_;refine Z_2 ?_;refine cq ((⟨k+1,l5,X5⟩:Nat×List HI×CAd)) ?_ ?_ ?_
    ·exact⟨⟨by omega,by dsimp only;rw[hmk,hl5]⟩,by dsimp only;omega⟩
    ·exact Zwk
    exact Zj
   simp only[aj]at hc8;obtain rfl:k=p.code.length:=by omega
   rw[bG]at hl4;refine Z_7 ?_;have hs1:=mg pl 14 4 2 p.Ij;have hs2:=mg pl 13 20 3 p.Ik;have hoj:∀j,j∈p.Ij∨j∈p.Ik→∃n:Nat,j=n∧n<pl.reg.length∧n<pl.slot.length:=(fun j hj=>by obtain⟨a1,a2⟩:=u2 j hj;exact⟨j.toNat,by omega,by omega,by omega⟩);refine Z_3 ?_;refine ZcL (cdF (⟨b21,p,Q,pl,Ar,cr,As,c2⟩:CdS) l4 f3 X4) (fun w hi hin=>wK (⟨b21,p,Q,pl,Ar,cr,As,c2⟩:CdS) l4 f3 X4 (by omega) 14 4 2 Q.Ad Q.cd p.Ij (by omega) (fun j hj=>hoj j (Or.inl hj)) w hin (fun w' hk=>(⟨dm (hi.IP Zi (show Has _ (sl .i64 3 Ar pl.reg.length cr pl.reg)from Zh) hk),dm (hi.IP Zi (show Has _ (sl .i64 3 As pl.slot.length c2 pl.slot)from Zh) hk),RdV.Ir h.Ij hi Zi hk,RdV.Ir h.Ik hi Zi hk,RdV.Ir h.code hi Zi hk⟩:Ex (⟨b21,p,Q,pl,Ar,cr,As,c2⟩:CdS) w')) (fun w' hk=>RdV.Ir h.Ij hi Zi hk)) ?_;rintro _ _ ⟨_,⟨l6,X6,hl6,rfl⟩,rfl⟩;refine Z_4 ?_;have hl6n:l6.length≤4000:=(by rw[hl6,ae];show l4.length+(gV pl 14 4 2 p.Ij).length≤4000;omega);refine Z_3 ?_;refine ZcL (cdF (⟨b21,p,Q,pl,Ar,cr,As,c2⟩:CdS) l6 f3 X6) (fun w hi hin=>wK (⟨b21,p,Q,pl,Ar,cr,As,c2⟩:CdS) l6 f3 X6 (by omega) 13 20 3 Q.Ar Q.cr p.Ik (by omega) (fun j hj=>hoj j (Or.inr hj)) w hin (fun w' hk=>(⟨dm (hi.IP Zi (show Has _ (sl .i64 3 Ar pl.reg.length cr pl.reg)from Zh) hk),dm (hi.IP Zi (show Has _ (sl .i64 3 As pl.slot.length c2 pl.slot)from Zh) hk),RdV.Ir h.Ij hi Zi hk,RdV.Ir h.Ik hi Zi hk,RdV.Ir h.code hi Zi hk⟩:Ex (⟨b21,p,Q,pl,Ar,cr,As,c2⟩:CdS) w')) (fun w' hk=>RdV.Ir h.Ik hi Zi hk)) ?_;rintro _ _ ⟨_,⟨l7,X7,hl7,rfl⟩,rfl⟩;refine Z_3 ?_;have hl7n:l7.length≤8000:=(by rw[hl7,ae];show l6.length+(gV pl 13 20 3 p.Ik).length≤8000;omega);have hl7e:l7=pR p 0++iq p pl:=(by rw[hl7,hl6,hl4,hl3h];unfold iq;simp only[aq]);refine ZA ?_;refine ZcL (cdF (⟨b21,p,Q,pl,Ar,cr,As,c2⟩:CdS) l7 f3 X7) (fun w hi hin=>cend_ok (⟨b21,p,Q,pl,Ar,cr,As,c2⟩:CdS) l7 f3 X7 (by omega) (fun h0=>⟨p.flags.toNat,by show p.flags=_;have h0:0≤p.flags:=h0;omega,by show _<pl.reg.length;have h0:0≤p.flags:=h0;have:=u3 h0;omega,by show _<pl.slot.length;have h0:0≤p.flags:=h0;have:=u3 h0;omega⟩) (fun h0=>⟨p.target.toNat,by show p.target=_;have h0:0≤p.target:=h0;omega,by show _<pl.reg.length;have h0:0≤p.target:=h0;have:=u4 h0;omega,by show _<pl.slot.length;have h0:0≤p.target:=h0;have:=u4 h0;omega⟩) w hin (fun w' hk=>(⟨dm (hi.IP Zi (show Has _ (sl .i64 3 Ar pl.reg.length cr pl.reg)from Zh) hk),dm (hi.IP Zi (show Has _ (sl .i64 3 As pl.slot.length c2 pl.slot)from Zh) hk),RdV.Ir h.Ij hi Zi hk,RdV.Ir h.Ik hi Zi hk,RdV.Ir h.code hi Zi hk⟩:Ex (⟨b21,p,Q,pl,Ar,cr,As,c2⟩:CdS) w'))) ?_;rintro _ _ ⟨_,⟨l8,X8,hl8,rfl⟩,rfl⟩;refine Zn ?_;refine cq (((l8,f3,X8):List HI×List Int×CAd)) ?_ ?_ ?_
   ·exact⟨by dsimp only;rw[hl8,show l7.length=17+(iq p pl).length by rw[hl7e,ae];rfl];unfold fp;rw[hroom,hrr,ac,ac,hl7e,aq],by dsimp only;rw[hf3n];unfold pT;rw[hroom,hrr];rfl⟩
   ·exact Zwk
   exact Zj
  obtain rfl:rr=false:=(by simpa using hc6);refine Zc ?_;refine cq (((l3,f3,X3):List HI×List Int×CAd)) ?_ ?_ ?_
  ·exact⟨by dsimp only;rw[hl3,hl2,hl1];unfold fp;rw[hroom,hrr];rfl,by dsimp only;rw[hf3,hf2n];unfold pT;rw[hroom,hrr];rfl⟩
  ·exact Zwk
  exact Zj
 rintro⟨l9,f9,⟨Al,cl,Af,cf⟩⟩ ⟨hb9,hf9⟩;dsimp only at hb9 hf9⊢;rw[←hb9]at hpb hcode hfx;rw[←hf9]at hpb hfx;have hl9n:=hbl 0;rw[←hb9]at hl9n;have hf9n:f9.length≤4:=(by rw[hf9];unfold pT;cases p.IM<;>cases p.IX<;>simp);obtain⟨B9,hB9⟩:=Zgn (fp p pl (IntKind.u32.wrap ((l9.length:Nat):Int)));rw[hB9]at hpb hcode;refine gQ ?_;refine cG (fun q:Nat×List HI=>[(6,.pointer (some ⟨b21,0,none⟩)),(70,.slice Af f9.length cf),(71,.int .i64 f9.length),(72,.int .i64 (q.1:Int))]) (fun q=>[row b21 (m6 (⟨b21,p,Q,pl,Ar,cr,As,c2⟩:CdS) q.2.length f9.length (⟨Al,cl,Af,cf⟩:CAd)) 291,hiC (⟨Al,cl,Af,cf⟩:CAd).Al (⟨Al,cl,Af,cf⟩:CAd).cl q.2,sl .i64 3 (⟨Al,cl,Af,cf⟩:CAd).Af f9.length (⟨Al,cl,Af,cf⟩:CAd).cf f9]) (fun q=>q.1≤f9.length∧q.2.length=l9.length∧mv (IntKind.u32.wrap (l9.length:Int)) (f9.drop q.1) q.2=B9) (fun q=>f9.length - q.1) (⟨0,l9⟩) ?_ ?_ ?_ ?_
 ·exact⟨ax _,rfl,hpb⟩
 ·exact Zwk
 ·exact Zu
 rintro⟨k,m⟩ ⟨hk,hml,hP⟩;dsimp only at hk hml hP⊢;refine Z_6 ?_;refine ZW ?_ ?_<;>intro hc16
 ·simp only[ap]at hc16;have hkl:k<f9.length:=(by omega);obtain⟨i,hx⟩:∃i,f9[k]? =some i:=⟨_,ao hkl⟩;obtain⟨n,rfl,hn⟩:=hfx i (aJ hx);rw[jd hx]at hP;have hP:mv (IntKind.u32.wrap (l9.length:Int)) (f9.drop (k+1)) (m.set n ((m.getD n HI.zero).imm' (IntKind.u32.wrap (l9.length:Int))))=B9:=hP;refine Z_6 ?_;refine jf (fun w hi=>gW (hi.get (show Has _ (hiC Al cl m)from Zh)) (by omega)) (fun h1=>?_);refine jf (fun w hi=>fu (hi.get (show Has _ (sl .i64 3 Af f9.length cf f9)from Zh)) (by omega)) (fun h2=>?_);obtain⟨ba,rfl⟩:=h1;obtain⟨bf,rfl⟩:=h2;refine Zy (dx (j:=k) rfl Zrf (Zv rfl) (Zv rfl) (fun _=>by omega) (fun _=>by omega)) ?_;refine dX (bO Zrf Zv0) (oL Zh (cZ hx)) rfl ?_;refine Z_3 ?_;refine bX ⟨fun j=>List.elem j [13],[]⟩ Zk ?_;refine ZE 0 ?_;refine ZE 1 ?_;refine ZFe 2 17 ?_;refine ZG 3 ?_;refine ZE 4 ?_;refine ZE 5 ?_;refine ZE 6 ?_;refine ZFe 7 17 ?_;refine ZG 8 ?_;refine ZE 9 ?_;refine cN 10 rfl Zk Zk Zk (ce rfl rfl (Zv rfl) (show _=IntKind.u32.wrap (l9.length:Int)from by rw[hml])) rfl ?_;refine cN 11 rfl Zk Zk Zk (cC (bb:=ba) (o:=0) (n:=m.length) (c:=cl) (j:=n) (sz:=5) (r:=n*5) rfl Zrf (Zv rfl) (Zv rfl) Zrf (fun _=>by omega) (by omega)) rfl ?_;refine ZFe 12 4 ?_;refine cw 13 Zk ?_;refine dz rfl rfl (tW Zrf rfl rfl rfl Za (by omega)) ZJ ?_;rintro _ _ ⟨rfl,rfl⟩;rw[Dt m n _ (by omega),show m.length=(m.set n ((m.getD n HI.zero).imm' (IntKind.u32.wrap (l9.length:Int)))).length by rw[aI]];refine bN Zk ?_;refine Z_3 ?_;refine Zy (cy Zv0 Zv0 Zl) ?_;refine Z_2 ?_;refine cq ((⟨k+1,m.set n ((m.getD n HI.zero).imm' (IntKind.u32.wrap (l9.length:Int)))⟩:Nat×List HI)) ?_ ?_ ?_
  ·exact⟨⟨by omega,by dsimp only;rw[aI,hml],hP⟩,by dsimp only;omega⟩
  ·exact Zwk
  exact Zj
 simp only[aj]at hc16;obtain rfl:k=f9.length:=by omega
 rw[List.drop_length]at hP;obtain rfl:m=B9:=hP;refine Z_9 ?_;refine dJ (dh rfl rfl Zrf Zrf rfl rfl rfl) rfl ?_;rintro _ _ ⟨b92,rfl,rfl⟩;refine ZcL (cdF (⟨b21,p,Q,pl,Ar,cr,As,c2⟩:CdS) m f9 ⟨Al,cl,Af,cf⟩) (fun w hi hin=>jQ (⟨b21,p,Q,pl,Ar,cr,As,c2⟩:CdS) m f9 ⟨Al,cl,Af,cf⟩ (by omega) [⟨19,0,0,0,2⟩] (some ⟨b92,0,none⟩) 1 (by simp) w hin (fun w' hk=>dm (hi.IP Zi (show Has _ (slv 298 5 (some ⟨b92,0,none⟩) 1 1 ([⟨19,0,0,0,2⟩].flatMap HI.cells))from Zh) hk))) ?_;rintro _ _ ⟨_,⟨l10,X10,hl10,rfl⟩,rfl⟩;obtain rfl:l10=C9:=(by rw[hl10,hcode]);refine Z_8 ?_;refine ZS (fun w hi=>hJ X10.Al X10.cl w (dm (hi.get (show Has _ (hiC X10.Al X10.cl l10)from Zh)))) ?_;rintro _ _ ⟨_,⟨A7,c7,rfl,rfl⟩,rfl⟩;refine Z_7 ?_;refine ft (cs':=[sl .u8 5 A7 (cJ l10).length c7 (cJ l10)]) (.inl rfl) Zu rfl rfl rfl ?_;exact⟨A7,c7,rfl,rfl⟩
theorem DW(p:Pg)(Q:PAd)(hf:pZ p)(hr:p.In=true)(hg:gc (gm p (dN p)))(hroom:p.IM=false)(w:World)(h:zw p Q w):
  Ctr prog 129 [pgv p Q] w [] (fun r cs=>∃A c,r= .tuple #[.slice A (cJ (gm p (dN p))).length c,.int .i64 0]∧cs=[sl .u8 5 A (cJ (gm p (dN p))).length c (cJ (gm p (dN p)))]):=by
 have hm64:=hf.IG;have hoD:=hf.Ij;have hoR:=hf.Ik;have hrc:=h.code;obtain⟨u1,u2,u3,u4⟩:=oN hr;obtain⟨hnD,hnR,hhD,hhR⟩:=tm hr;obtain⟨hrl,hsl⟩:(dN p).reg.length=p.code.length∧(dN p).slot.length=p.code.length:=lG (gi p) 7 p.code.length p.code.length;obtain⟨pl,hpl⟩:=Zgn (dN p);rw[hpl]at hg hrl hsl⊢;have hAl:=wW p Q hf hr pl hpl;have hbl:=fun e=>vd p pl e hm64 hoD hoR
 have hpb:=sX p pl (IntKind.u32.wrap ((fp p pl 0).length:Nat));have hfx:=Hx p pl;have hcode:gm p pl=fp p pl (IntKind.u32.wrap ((fp p pl 0).length:Nat))++[⟨19,0,0,0,2⟩]:=rfl;obtain⟨C9,hC9⟩:=Zgn (gm p pl);rw[hC9]at hg hcode⊢;have hC9l:C9.length≤100000:=by have:=hbl (IntKind.u32.wrap ((fp p pl 0).length:Nat));rw[hcode,ae,ai,ak];omega
 have hJ:=fun A c w h=>yY A c C9 hg hC9l w h
 refine bL func129 rfl ntmps129 rfl (Inv.start w) ?_;refine Z_2 ?_;refine ZO fun b1=>?_;refine Z_7 ?_;refine ZS (fun w hi=>hAl w (h.Iy hi)) ?_;rintro _ _ ⟨_,⟨Ar,cr,As,c2,rfl,rfl⟩,rfl⟩;refine Z_3 ?_;refine ZN fun b4=>?_
 refine ZM ?_;refine eJ ?_;refine bV rfl (rfl) ?_;refine Z_7 ?_;refine ZO fun b21=>?_
 refine Z_5 ?_;refine dC 298 5 ?_;refine dC 3 1 ?_;refine ZA ?_;refine ZcL (cdF (⟨b21,p,Q,pl,Ar,cr,As,c2⟩:CdS) [] [] ⟨none,0,none,0⟩) (fun w hi hin=>j8 (⟨b21,p,Q,pl,Ar,cr,As,c2⟩:CdS) [] [] ⟨none,0,none,0⟩ (by simp) 15 0 w hin) ?_;rintro _ _ ⟨_,⟨l1,X1,hl1,rfl⟩,rfl⟩;refine Z_2 ?_;refine cS (fun q:List HI×List Int×CAd=>[(6,.pointer (some ⟨b21,0,none⟩))]) (fun q=>[row b21 (m6 (⟨b21,p,Q,pl,Ar,cr,As,c2⟩:CdS) q.1.length q.2.1.length q.2.2) 291,hiC q.2.2.Al q.2.2.cl q.1,sl .i64 3 q.2.2.Af q.2.1.length q.2.2.cf q.2.1]) (fun q=>q.1=fp p pl 0∧q.2.1=pT p) ?_ ?_
 ·refine eJ ?_;refine ZcL (cdF (⟨b21,p,Q,pl,Ar,cr,As,c2⟩:CdS) l1 [] X1) (fun w hi hin=>rN (⟨b21,p,Q,pl,Ar,cr,As,c2⟩:CdS) l1 [] X1 (by rw[hl1];simp) 14 2 p.Ia p.IB p.Ij.length false hroom ⟨by omega,by omega⟩ ⟨by omega,by omega⟩ (by omega) (by simp) w hin) ?_;rintro _ _ ⟨_,⟨rfl,l2,f2,X2,hl2,hf2,rfl⟩,rfl⟩;refine ZA ?_;refine dk (cu rfl rfl) rfl rfl ?_;refine dk (cu rfl rfl) rfl rfl ?_;refine dk (cu rfl rfl) rfl rfl ?_;refine dk (cu rfl rfl) rfl rfl ?_;refine dk (cu rfl rfl) rfl rfl ?_;refine dk (cu rfl rfl) rfl rfl ?_;refine dk (cu rfl rfl) rfl rfl ?_;refine dk (cu rfl rfl) rfl rfl ?_;refine dk (cu rfl rfl) rfl rfl ?_;refine Zy (Bp (q:=false) (Zv rfl) ⟨_,rfl,fun _ e=>by simp at e⟩) ?_;refine Z_2 ?_;refine bV rfl (rfl) ?_;refine Zc ?_;refine cq (((l2,f2,X2):List HI×List Int×CAd)) ?_ ?_ ?_
  ·exact⟨by dsimp only;rw[hl2,hl1];unfold fp;rw[hroom];rfl,by dsimp only;rw[hf2];unfold pT;rw[hroom];rfl⟩
  ·exact Zwk
  exact Zj
 rintro⟨l9,f9,⟨Al,cl,Af,cf⟩⟩ ⟨hb9,hf9⟩;dsimp only at hb9 hf9⊢;rw[←hb9]at hpb hcode hfx;rw[←hf9]at hpb hfx;have hl9n:=hbl 0;rw[←hb9]at hl9n;have hf9n:f9.length≤4:=(by rw[hf9];unfold pT;cases p.IM<;>cases p.IX<;>simp);obtain⟨B9,hB9⟩:=Zgn (fp p pl (IntKind.u32.wrap ((l9.length:Nat):Int)));rw[hB9]at hpb hcode;refine gQ ?_;refine cG (fun q:Nat×List HI=>[(6,.pointer (some ⟨b21,0,none⟩)),(70,.slice Af f9.length cf),(71,.int .i64 f9.length),(72,.int .i64 (q.1:Int))]) (fun q=>[row b21 (m6 (⟨b21,p,Q,pl,Ar,cr,As,c2⟩:CdS) q.2.length f9.length (⟨Al,cl,Af,cf⟩:CAd)) 291,hiC (⟨Al,cl,Af,cf⟩:CAd).Al (⟨Al,cl,Af,cf⟩:CAd).cl q.2,sl .i64 3 (⟨Al,cl,Af,cf⟩:CAd).Af f9.length (⟨Al,cl,Af,cf⟩:CAd).cf f9]) (fun q=>q.1≤f9.length∧q.2.length=l9.length∧mv (IntKind.u32.wrap (l9.length:Int)) (f9.drop q.1) q.2=B9) (fun q=>f9.length - q.1) (⟨0,l9⟩) ?_ ?_ ?_ ?_
 ·exact⟨ax _,rfl,hpb⟩
 ·exact Zwk
 ·exact Zu
 rintro⟨k,m⟩ ⟨hk,hml,hP⟩;dsimp only at hk hml hP⊢;refine Z_6 ?_;refine ZW ?_ ?_<;>intro hc16
 ·simp only[ap]at hc16;have hkl:k<f9.length:=(by omega);obtain⟨i,hx⟩:∃i,f9[k]? =some i:=⟨_,ao hkl⟩;obtain⟨n,rfl,hn⟩:=hfx i (aJ hx);rw[jd hx]at hP;have hP:mv (IntKind.u32.wrap (l9.length:Int)) (f9.drop (k+1)) (m.set n ((m.getD n HI.zero).imm' (IntKind.u32.wrap (l9.length:Int))))=B9:=hP;refine Z_6 ?_;refine jf (fun w hi=>gW (hi.get (show Has _ (hiC Al cl m)from Zh)) (by omega)) (fun h1=>?_);refine jf (fun w hi=>fu (hi.get (show Has _ (sl .i64 3 Af f9.length cf f9)from Zh)) (by omega)) (fun h2=>?_);obtain⟨ba,rfl⟩:=h1;obtain⟨bf,rfl⟩:=h2;refine Zy (dx (j:=k) rfl Zrf (Zv rfl) (Zv rfl) (fun _=>by omega) (fun _=>by omega)) ?_;refine dX (bO Zrf Zv0) (oL Zh (cZ hx)) rfl ?_;refine Z_3 ?_;refine bX ⟨fun j=>List.elem j [13],[]⟩ Zk ?_;refine ZE 0 ?_;refine ZE 1 ?_;refine ZFe 2 17 ?_;refine ZG 3 ?_;refine ZE 4 ?_;refine ZE 5 ?_;refine ZE 6 ?_;refine ZFe 7 17 ?_;refine ZG 8 ?_;refine ZE 9 ?_;refine cN 10 rfl Zk Zk Zk (ce rfl rfl (Zv rfl) (show _=IntKind.u32.wrap (l9.length:Int)from by rw[hml])) rfl ?_;refine cN 11 rfl Zk Zk Zk (cC (bb:=ba) (o:=0) (n:=m.length) (c:=cl) (j:=n) (sz:=5) (r:=n*5) rfl Zrf (Zv rfl) (Zv rfl) Zrf (fun _=>by omega) (by omega)) rfl ?_;refine ZFe 12 4 ?_;refine cw 13 Zk ?_;refine dz rfl rfl (tW Zrf rfl rfl rfl Za (by omega)) ZJ ?_;rintro _ _ ⟨rfl,rfl⟩;rw[Dt m n _ (by omega),show m.length=(m.set n ((m.getD n HI.zero).imm' (IntKind.u32.wrap (l9.length:Int)))).length by rw[aI]];refine bN Zk ?_;refine Z_3 ?_;refine Zy (cy Zv0 Zv0 Zl) ?_;refine Z_2 ?_;refine cq ((⟨k+1,m.set n ((m.getD n HI.zero).imm' (IntKind.u32.wrap (l9.length:Int)))⟩:Nat×List HI)) ?_ ?_ ?_
  ·exact⟨⟨by omega,by dsimp only;rw[aI,hml],hP⟩,by dsimp only;omega⟩
  ·exact Zwk
  exact Zj
 simp only[aj]at hc16;obtain rfl:k=f9.length:=by omega
 rw[List.drop_length]at hP;obtain rfl:m=B9:=hP;refine Z_9 ?_;refine dJ (dh rfl rfl Zrf Zrf rfl rfl rfl) rfl ?_;rintro _ _ ⟨b92,rfl,rfl⟩;refine ZcL (cdF (⟨b21,p,Q,pl,Ar,cr,As,c2⟩:CdS) m f9 ⟨Al,cl,Af,cf⟩) (fun w hi hin=>jQ (⟨b21,p,Q,pl,Ar,cr,As,c2⟩:CdS) m f9 ⟨Al,cl,Af,cf⟩ (by omega) [⟨19,0,0,0,2⟩] (some ⟨b92,0,none⟩) 1 (by simp) w hin (fun w' hk=>dm (hi.IP Zi (show Has _ (slv 298 5 (some ⟨b92,0,none⟩) 1 1 ([⟨19,0,0,0,2⟩].flatMap HI.cells))from Zh) hk))) ?_;rintro _ _ ⟨_,⟨l10,X10,hl10,rfl⟩,rfl⟩;obtain rfl:l10=C9:=(by rw[hl10,hcode]);refine Z_8 ?_;refine ZS (fun w hi=>hJ X10.Al X10.cl w (dm (hi.get (show Has _ (hiC X10.Al X10.cl l10)from Zh)))) ?_;rintro _ _ ⟨_,⟨A7,c7,rfl,rfl⟩,rfl⟩;refine Z_7 ?_;refine ft (cs':=[sl .u8 5 A7 (cJ l10).length c7 (cJ l10)]) (.inl rfl) Zu rfl rfl rfl ?_;exact⟨A7,c7,rfl,rfl⟩
theorem Gw(p:Pg)(Q:PAd)(hf:pZ p)(hr:p.In=true)(hg:gc (gm p (dN p)))(w:World)(h:zw p Q w):
  Ctr prog 129 [pgv p Q] w [] (fun r cs=>∃A c,r= .tuple #[.slice A (cJ (gm p (dN p))).length c,.int .i64 0]∧cs=[sl .u8 5 A (cJ (gm p (dN p))).length c (cJ (gm p (dN p)))]):=by
 cases hroom:p.IM with
 |true=>exact DU p Q hf hr hg hroom w h
 |false=>exact DW p Q hf hr hg hroom w h
end Go.Proofs.YtakodpimdalajaaGreatDoor
namespace Go.Ink
open Go.RowKit
structure LAd where
 Ac:Option Addr
 cc:Nat
 Ad:Option Addr
 cd:Nat
 Ar:Option Addr
 cr:Nat
structure Lw.sm(L:Lw)(n:Nat):Prop where
 code:L.code.length≤n
 dl:L.d.l.length≤n
 rl:L.r.l.length≤n
 dn:0≤L.d.Ic∧L.d.Ic≤n
 rn:0≤L.r.Ic∧L.r.Ic≤n
abbrev xP(N:Int)(L:Lw)(X:LAd):List Value:=[.slice X.Ac L.code.length X.cc,.int .i64 0,.int .i64 0,.int .i64 0,.int .i64 0,.slice none 0 0,.slice none 0 0,.int .i64 L.flags,.int .u32 0,.int .i64 L.target,.int .i64 L.branch,.int .u32 0,.int .i64 N,.int .i64 0,
 .slice X.Ad L.d.l.length X.cd,.int .i64 L.d.Ic,.int .i64 L.d.high,.int .i64 1,.slice X.Ar L.r.l.length X.cr,.int .i64 L.r.Ic,.int .i64 L.r.high,.int .i64 2]
theorem one5(a b c d e:Int):∀u∈([.int .i64 a,.int .i64 b,.int .i64 c,.int .i64 d,.int .u32 e]:List Value),u.oneCell'=true:=fun u h=>by
 simp only[aL,bh,or_false]at h;rcases h with rfl|rfl|rfl|rfl|rfl<;>rfl
theorem Dj(c:List II)(x:II):c.flatMap II.cells++[.int .i64 x.op,.int .i64 x.dst,.int .i64 x.a,.int .i64 x.b,.int .u32 x.imm]=(c++[x]).flatMap II.cells:=by simp
theorem BL(h l:Int):(if l>h then l else h)=max h l:=by rw[Int.max_def];split<;>split<;>omega
end Go.Ink
namespace Go.Proofs.YtakodpimdalajaaGreatDoor
open Go.RowKit Go.Ink Go.Proofs.Tryz
attribute [local irreducible] OpY bU
abbrev lwF(b:Nat)(N:Int)(L:Lw)(X:LAd):List bJ:=[row b (xP N L X) 280,slv 294 5 X.Ac L.code.length X.cc (L.code.flatMap II.cells),sl .i64 3 X.Ad L.d.l.length X.cd L.d.l,sl .i64 3 X.Ar L.r.l.length X.cr L.r.l]
theorem lP(b:Nat)(N:Int)(L:Lw)(X:LAd)(hs:L.sm 1000)(op dst a b2 imm:Int)(w:World)(hi:Inv w (bK (lwF b N L X)) (lwF b N L X) w):
  Ctr prog 215 [.pointer (some ⟨b,0,none⟩),.agg #[.int .i64 op,.int .i64 dst,.int .i64 a,.int .i64 b2,.int .u32 imm]] w (lwF b N L X) (fun v9 cs=>v9= .int .i64 L.here∧∃C A c,C=L.code++[⟨op,L.code.length,a,b2,imm⟩]∧cs=lwF b N ⟨C,L.d,L.r,L.flags,L.target,L.branch⟩ ⟨A,c,X.Ad,X.cd,X.Ar,X.cr⟩):=by
 have hc:=hs.code;obtain⟨Ac,cc,Ad,cd,Ar,cr⟩:=X;have hsn:=Dj L.code ⟨op,L.code.length,a,b2,imm⟩;dsimp only at hsn;refine bL func215 rfl ntmps215 rfl hi ?_;refine Z_2 ?_;refine ZO fun b3=>?_;refine gQ ?_;refine ZL ?_;refine Z_3 ?_;refine bX ⟨fun j=>List.elem j [8,12],qM b3 [.int .i64 op,.int .i64 L.code.length,.int .i64 a,.int .i64 b2,.int .u32 imm]⟩ Zk ?_;refine ZE 0 ?_;refine ZE 1 ?_;refine ZE 2 ?_;refine ZFe 3 0 ?_;refine ZFe 4 0 ?_;refine ZG 5 ?_;refine sD 6 rfl Zk Zk Zk (cB Zrf Zrf Zv0) (fun x hx=>fZ x hx) (bR (t:=294) Zh) rfl ?_;refine cw 7 Zk ?_;refine gn rfl rfl (dh rfl rfl Zrf Zrf rfl rfl rfl) (fun _=>by rintro _ _ ⟨b19,rfl,rfl⟩;exact bR (t:=294) Zh) rfl ?_;rintro _ _ ⟨b19,rfl,rfl⟩;refine cw 8 Zk ?_;refine gn rfl rfl (cW (e:=294) (sz:=5) (bytes:=40) rfl rfl Za rfl rfl (fun w hi=>hi.rd (show Has _ (slv 294 5 (some ⟨b19,0,none⟩) 1 1 [.int .i64 op,.int .i64 L.code.length,.int .i64 a,.int .i64 b2,.int .u32 imm])from Zh)) (one5 _ _ _ _ _) (by simp only[maxLen];omega) (by omega)) (fun _=>by rintro _ _ ⟨A2,c2,rfl,rfl⟩;exact bR (t:=294) Zh) rfl ?_;rintro _ _ ⟨A2,c2,rfl,rfl⟩;rw[hsn,show L.code.length+1=(L.code++[(⟨op,L.code.length,a,b2,imm⟩:II)]).length by simp];refine ZE 9 ?_;refine ZFe 10 0 ?_;refine ZFe 11 0 ?_;refine cw 12 Zk ?_;refine dz rfl rfl (fj Zrf rfl rfl rfl Za Zp) (fun _=>by rintro _ _ ⟨rfl,rfl⟩;exact bR (t:=294) Zh) ?_;rintro _ _ ⟨rfl,rfl⟩;refine bN Zk ?_;refine Z_9 ?_;refine Zrb (lwF b N ⟨L.code++[⟨op,L.code.length,a,b2,imm⟩],L.d,L.r,L.flags,L.target,L.branch⟩ ⟨A2,c2,Ad,cd,Ar,cr⟩) ?_;exact⟨rfl,_,_,_,rfl,rfl⟩
theorem nU(b:Nat)(N:Int)(L:Lw)(X:LAd)(hs:L.sm 1000)(n:Int)(w:World)(hi:Inv w (bK (lwF b N L X)) (lwF b N L X) w):
  Ctr prog 213 [.pointer (some ⟨b,0,none⟩),.int .u32 n] w (lwF b N L X) (fun v9 cs=>v9= .int .i64 L.here∧∃C A c,C=L.code++[⟨0,L.code.length,0,0,n⟩]∧cs=lwF b N ⟨C,L.d,L.r,L.flags,L.target,L.branch⟩ ⟨A,c,X.Ad,X.cd,X.Ar,X.cr⟩):=by
 refine bL func213 rfl ntmps213 rfl hi ?_;refine eJ ?_;refine ZcL (lwF b N L X) (fun w hi hin=>lP b N L X hs 0 0 0 0 n w hin) ?_;rintro _ _ ⟨_,⟨rfl,C2,A2,c2,hC2,rfl⟩,rfl⟩;refine Z_4 ?_;refine Zrb (lwF b N ⟨C2,L.d,L.r,L.flags,L.target,L.branch⟩ ⟨A2,c2,X.Ad,X.cd,X.Ar,X.cr⟩) ?_;exact⟨rfl,C2,A2,c2,hC2,rfl⟩
theorem CM(b:Nat)(N:Int)(code:List II)(r:Sd)(l:List Int)(x Ic high fl tg br:Int)(Ac:Option Addr)(cc:Nat)(Ad:Option Addr)(cd:Nat)(Ar:Option Addr)(cr:Nat)(hl:l.length≤1000)(w:World)(hi:Inv w (bK (lwF b N ⟨code,⟨l++[x],Ic,high⟩,r,fl,tg,br⟩ ⟨Ac,cc,Ad,cd,Ar,cr⟩)) (lwF b N ⟨code,⟨l++[x],Ic,high⟩,r,fl,tg,br⟩ ⟨Ac,cc,Ad,cd,Ar,cr⟩) w):
  Ctr prog 214 [.pointer (some ⟨b,0,none⟩),.pointer (some ⟨b,14,none⟩)] w (lwF b N ⟨code,⟨l++[x],Ic,high⟩,r,fl,tg,br⟩ ⟨Ac,cc,Ad,cd,Ar,cr⟩) (fun v9 cs=>v9= .int .i64 x∧cs=lwF b N ⟨code,⟨l,Ic,high⟩,r,fl,tg,br⟩ ⟨Ac,cc,Ad,cd,Ar,cr⟩):=by
 have hrd:=dm (hi.get (show Has _ (sl .i64 3 Ad (l++[x]).length cd (l++[x]))from(.tail _ (.tail _ (.head _ _)))));have hcap:(l++[x]).length≤cd:=hrd.cap;have hlen:(l++[x]).length=l.length+1:=by simp
 obtain⟨bd,rfl⟩:=fu (hi.get (show Has _ (sl .i64 3 Ad (l++[x]).length cd (l++[x]))from(.tail _ (.tail _ (.head _ _))))) (by omega);refine bL func214 rfl ntmps214 rfl hi ?_;refine jT ?_;refine Zy (eT (Zv rfl) (Zv rfl) (show _=(l.length:Int)from by rw[hlen];exact IntWalk.i64_in _ ⟨by omega,by omega⟩|>.trans (by omega))) ?_;refine Z_9 ?_;refine cn rfl ((aB (by omega))) ?_;refine Z_7 ?_;refine Zy (cC (bb:=bd) (o:=0) (n:=(l++[x]).length) (c:=cd) (j:=l.length) (sz:=1) (r:=l.length) rfl Zrf (Zv rfl) (Zv rfl) Zrf (fun _=>by omega) (by omega)) ?_;refine dX (bO Zrf Zv0) (dH Zh (cZ (p7 l x))) rfl ?_;refine eu ?_;refine Zy (gZ (A:=some ⟨bd,0,none⟩) (n:=(l++[x]).length) (c:=cd) l.length rfl Zrf (Zv rfl) (Zv rfl) Zrf (fun _=>by omega)) ?_;refine Z_2 ?_;refine ZL ?_;refine eJ ?_;refine j0 (c:=sl .i64 3 (some ⟨bd,0,none⟩) (l++[x]).length cd (l++[x])) (c':=sl .i64 3 (some ⟨bd,0,none⟩) l.length cd l) Za rfl (fun w h=>yw h) ?_;refine Zrb ([row _ _ _,slv _ _ _ _ _ _,slv _ _ _ _ _ _,slv _ _ _ _ _ _]) ?_;exact⟨rfl,rfl⟩
theorem CN(b:Nat)(N:Int)(code:List II)(r:Sd)(Ic high fl tg br:Int)(X:LAd)(hs:Lw.sm ⟨code,⟨[],Ic,high⟩,r,fl,tg,br⟩ 999)(w:World)(hi:Inv w (bK (lwF b N ⟨code,⟨[],Ic,high⟩,r,fl,tg,br⟩ X)) (lwF b N ⟨code,⟨[],Ic,high⟩,r,fl,tg,br⟩ X) w):
  Ctr prog 214 [.pointer (some ⟨b,0,none⟩),.pointer (some ⟨b,14,none⟩)] w (lwF b N ⟨code,⟨[],Ic,high⟩,r,fl,tg,br⟩ X) (fun v9 cs=>v9= .int .i64 code.length∧∃C A c,C=code++[⟨1,code.length,0,0,IntKind.u32.wrap Ic⟩]∧cs=lwF b N ⟨C,⟨[],Ic+1,high⟩,r,fl,tg,br⟩ ⟨A,c,X.Ad,X.cd,X.Ar,X.cr⟩):=by
 obtain⟨h1,h2⟩:=hs.dn;dsimp only at h1 h2;have hs2:Lw.sm ⟨code,⟨[],Ic+1,high⟩,r,fl,tg,br⟩ 1000:=⟨by have:=hs.code;dsimp only at this⊢;omega,by have:=hs.dl;dsimp only at this⊢;omega,by have:=hs.rl;dsimp only at this⊢;omega,by have:=hs.dn;dsimp only at this⊢;omega,by have:=hs.rn;dsimp only at this⊢;omega⟩;have hwr:IntKind.i64.wrap (Ic+1 - 1)=Ic:=by rw[bI];omega
 have hw1:IntKind.i64.wrap (Ic+1)=Ic+1:=by rw[bI];omega
 refine bL func214 rfl ntmps214 rfl hi ?_;refine jT ?_;refine Zy (eT Zv0 Zv0 rfl) ?_;refine Z_9 ?_;refine bV rfl (rfl) ?_;refine Z_8 ?_;refine Zy (cy Zv0 Zv0 hw1) ?_;refine Z_2 ?_;refine ZL ?_;refine Z_3 ?_;refine bX ⟨fun j=>List.elem j [12],[]⟩ Zk ?_;refine ZE 0 ?_;refine ZE 1 ?_;refine ZE 2 ?_;refine ZFe 3 3 ?_;refine ZE 5 ?_;refine ZE 6 ?_;refine ZFe 7 1 ?_;refine jY 4 8 Zk ?_ ?_
 ·refine eK rfl (bO Zrf Zv0) (bS Zh rfl) rfl ?_;refine cw 8 Zk ?_;refine eK rfl (bO Zrf Zv0) (bS Zh rfl) rfl ?_;refine cN 9 rfl Zk Zk Zk (eT Zv0 Zv0 hwr) rfl ?_;refine cN 10 rfl Zk Zk Zk (ce rfl rfl Zv0 rfl) rfl ?_;refine ZE 11 ?_;refine cw 12 Zk ?_;refine ZcA (lwF b N ⟨code,⟨[],Ic+1,high⟩,r,fl,tg,br⟩ X) (fun w hi hin=>lP b N ⟨code,⟨[],Ic+1,high⟩,r,fl,tg,br⟩ X hs2 1 0 0 0 (IntKind.u32.wrap Ic) w hin) ?_;rintro _ _ ⟨_,⟨rfl,C2,A2,c2,hC2,rfl⟩,rfl⟩;refine ZE 13 ?_;refine bN Zk ?_;refine Z_2 ?_;refine Zrb (lwF b N ⟨C2,⟨[],Ic+1,high⟩,r,fl,tg,br⟩ ⟨A2,c2,X.Ad,X.cd,X.Ar,X.cr⟩) ?_;exact⟨rfl,C2,A2,c2,hC2,rfl⟩
 refine eK rfl (bO Zrf Zv0) (bS Zh rfl) rfl ?_;refine cN 9 rfl Zk Zk Zk (eT Zv0 Zv0 hwr) rfl ?_;refine cN 10 rfl Zk Zk Zk (ce rfl rfl Zv0 rfl) rfl ?_;refine cw 4 Zk ?_;refine eK rfl (bO Zrf Zv0) (bS Zh rfl) rfl ?_;refine ZE 11 ?_;refine cw 12 Zk ?_;refine ZcA (lwF b N ⟨code,⟨[],Ic+1,high⟩,r,fl,tg,br⟩ X) (fun w hi hin=>lP b N ⟨code,⟨[],Ic+1,high⟩,r,fl,tg,br⟩ X hs2 1 0 0 0 (IntKind.u32.wrap Ic) w hin) ?_;rintro _ _ ⟨_,⟨rfl,C2,A2,c2,hC2,rfl⟩,rfl⟩;refine ZE 13 ?_;refine bN Zk ?_;refine Z_2 ?_;refine Zrb (lwF b N ⟨C2,⟨[],Ic+1,high⟩,r,fl,tg,br⟩ ⟨A2,c2,X.Ad,X.cd,X.Ar,X.cr⟩) ?_;exact⟨rfl,C2,A2,c2,hC2,rfl⟩
theorem FU(b:Nat)(N:Int)(code:List II)(r:Sd)(l:List Int)(Ic high fl tg br:Int)(X:LAd)(hl:l.length≤1000)(hn:0≤Ic∧Ic≤1000)(w:World)(hi:Inv w (bK (lwF b N ⟨code,⟨l,Ic,high⟩,r,fl,tg,br⟩ X)) (lwF b N ⟨code,⟨l,Ic,high⟩,r,fl,tg,br⟩ X) w):
  Ctr prog 216 [.pointer (some ⟨b,14,none⟩)] w (lwF b N ⟨code,⟨l,Ic,high⟩,r,fl,tg,br⟩ X) (fun _ cs=>cs=lwF b N ⟨code,⟨l,Ic,max high ((l.length:Int) - Ic)⟩,r,fl,tg,br⟩ X):=by
 have hwt:IntKind.i64.wrap ((l.length:Int) - Ic)=(l.length:Int) - Ic:=by rw[bI];omega
 refine bL func216 rfl ntmps216 rfl hi ?_;refine bX ⟨fun j=>List.elem j [18],[]⟩ Zk ?_;refine ZE 0 ?_;refine ZE 1 ?_;refine ZE 2 ?_;refine ZFe 3 2 ?_;refine ZG 4 ?_;refine ZE 5 ?_;refine ZE 6 ?_;refine ZFe 7 0 ?_;refine ZG 8 ?_;refine ZE 9 ?_;refine ZE 10 ?_;refine ZE 11 ?_;refine ZFe 12 1 ?_;refine ZG 13 ?_;refine cN 14 rfl Zk Zk Zk (eT Zv0 Zv0 hwt) rfl ?_;refine cN 15 rfl Zk Zk Zk (zz Zv0 Zv0 (BL high ((l.length:Int) - Ic))) rfl ?_;refine ZE 16 ?_;refine ZFe 17 2 ?_;refine cw 18 Zk ?_;refine ZQ ?_;refine bN Zk ?_;refine fE (cs':=[row _ _ _,slv _ _ _ _ _ _,slv _ _ _ _ _ _,slv _ _ _ _ _ _]) (.inr rfl) Zu rfl ?_
 rfl
theorem CK(b:Nat)(N:Int)(code:List II)(d:Sd)(l:List Int)(x Ic high fl tg br:Int)(Ac:Option Addr)(cc:Nat)(Ad:Option Addr)(cd:Nat)(Ar:Option Addr)(cr:Nat)(hl:l.length≤1000)(w:World)(hi:Inv w (bK (lwF b N ⟨code,d,⟨l++[x],Ic,high⟩,fl,tg,br⟩ ⟨Ac,cc,Ad,cd,Ar,cr⟩)) (lwF b N ⟨code,d,⟨l++[x],Ic,high⟩,fl,tg,br⟩ ⟨Ac,cc,Ad,cd,Ar,cr⟩) w):
  Ctr prog 214 [.pointer (some ⟨b,0,none⟩),.pointer (some ⟨b,18,none⟩)] w (lwF b N ⟨code,d,⟨l++[x],Ic,high⟩,fl,tg,br⟩ ⟨Ac,cc,Ad,cd,Ar,cr⟩) (fun v9 cs=>v9= .int .i64 x∧cs=lwF b N ⟨code,d,⟨l,Ic,high⟩,fl,tg,br⟩ ⟨Ac,cc,Ad,cd,Ar,cr⟩):=by
 have hrd:=dm (hi.get (show Has _ (sl .i64 3 Ar (l++[x]).length cr (l++[x]))from(.tail _ (.tail _ (.tail _ (.head _ _))))));have hcap:(l++[x]).length≤cr:=hrd.cap;have hlen:(l++[x]).length=l.length+1:=by simp
 obtain⟨bd,rfl⟩:=fu (hi.get (show Has _ (sl .i64 3 Ar (l++[x]).length cr (l++[x]))from(.tail _ (.tail _ (.tail _ (.head _ _)))))) (by omega);refine bL func214 rfl ntmps214 rfl hi ?_;refine jT ?_;refine Zy (eT (Zv rfl) (Zv rfl) (show _=(l.length:Int)from by rw[hlen];exact IntWalk.i64_in _ ⟨by omega,by omega⟩|>.trans (by omega))) ?_;refine Z_9 ?_;refine cn rfl ((aB (by omega))) ?_;refine Z_7 ?_;refine Zy (cC (bb:=bd) (o:=0) (n:=(l++[x]).length) (c:=cr) (j:=l.length) (sz:=1) (r:=l.length) rfl Zrf (Zv rfl) (Zv rfl) Zrf (fun _=>by omega) (by omega)) ?_;refine dX (bO Zrf Zv0) (dH Zh (cZ (p7 l x))) rfl ?_;refine eu ?_;refine Zy (gZ (A:=some ⟨bd,0,none⟩) (n:=(l++[x]).length) (c:=cr) l.length rfl Zrf (Zv rfl) (Zv rfl) Zrf (fun _=>by omega)) ?_;refine Z_2 ?_;refine ZL ?_;refine eJ ?_;refine j0 (c:=sl .i64 3 (some ⟨bd,0,none⟩) (l++[x]).length cr (l++[x])) (c':=sl .i64 3 (some ⟨bd,0,none⟩) l.length cr l) Za rfl (fun w h=>yw h) ?_;refine Zrb ([row _ _ _,slv _ _ _ _ _ _,slv _ _ _ _ _ _,slv _ _ _ _ _ _]) ?_;exact⟨rfl,rfl⟩
theorem CL(b:Nat)(N:Int)(code:List II)(d:Sd)(Ic high fl tg br:Int)(X:LAd)(hs:Lw.sm ⟨code,d,⟨[],Ic,high⟩,fl,tg,br⟩ 999)(w:World)(hi:Inv w (bK (lwF b N ⟨code,d,⟨[],Ic,high⟩,fl,tg,br⟩ X)) (lwF b N ⟨code,d,⟨[],Ic,high⟩,fl,tg,br⟩ X) w):
  Ctr prog 214 [.pointer (some ⟨b,0,none⟩),.pointer (some ⟨b,18,none⟩)] w (lwF b N ⟨code,d,⟨[],Ic,high⟩,fl,tg,br⟩ X) (fun v9 cs=>v9= .int .i64 code.length∧∃C A c,C=code++[⟨2,code.length,0,0,IntKind.u32.wrap Ic⟩]∧cs=lwF b N ⟨C,d,⟨[],Ic+1,high⟩,fl,tg,br⟩ ⟨A,c,X.Ad,X.cd,X.Ar,X.cr⟩):=by
 obtain⟨h1,h2⟩:=hs.rn;dsimp only at h1 h2;have hs2:Lw.sm ⟨code,d,⟨[],Ic+1,high⟩,fl,tg,br⟩ 1000:=⟨by have:=hs.code;dsimp only at this⊢;omega,by have:=hs.dl;dsimp only at this⊢;omega,by have:=hs.rl;dsimp only at this⊢;omega,by have:=hs.dn;dsimp only at this⊢;omega,by have:=hs.rn;dsimp only at this⊢;omega⟩;have hwr:IntKind.i64.wrap (Ic+1 - 1)=Ic:=by rw[bI];omega
 have hw1:IntKind.i64.wrap (Ic+1)=Ic+1:=by rw[bI];omega
 refine bL func214 rfl ntmps214 rfl hi ?_;refine jT ?_;refine Zy (eT Zv0 Zv0 rfl) ?_;refine Z_9 ?_;refine bV rfl (rfl) ?_;refine Z_8 ?_;refine Zy (cy Zv0 Zv0 hw1) ?_;refine Z_2 ?_;refine ZL ?_;refine Z_3 ?_;refine bX ⟨fun j=>List.elem j [12],[]⟩ Zk ?_;refine ZE 0 ?_;refine ZE 1 ?_;refine ZE 2 ?_;refine ZFe 3 3 ?_;refine ZE 5 ?_;refine ZE 6 ?_;refine ZFe 7 1 ?_;refine jY 4 8 Zk ?_ ?_
 ·refine eK rfl (bO Zrf Zv0) (bS Zh rfl) rfl ?_;refine cw 8 Zk ?_;refine eK rfl (bO Zrf Zv0) (bS Zh rfl) rfl ?_;refine cN 9 rfl Zk Zk Zk (eT Zv0 Zv0 hwr) rfl ?_;refine cN 10 rfl Zk Zk Zk (ce rfl rfl Zv0 rfl) rfl ?_;refine ZE 11 ?_;refine cw 12 Zk ?_;refine ZcA (lwF b N ⟨code,d,⟨[],Ic+1,high⟩,fl,tg,br⟩ X) (fun w hi hin=>lP b N ⟨code,d,⟨[],Ic+1,high⟩,fl,tg,br⟩ X hs2 2 0 0 0 (IntKind.u32.wrap Ic) w hin) ?_;rintro _ _ ⟨_,⟨rfl,C2,A2,c2,hC2,rfl⟩,rfl⟩;refine ZE 13 ?_;refine bN Zk ?_;refine Z_2 ?_;refine Zrb (lwF b N ⟨C2,d,⟨[],Ic+1,high⟩,fl,tg,br⟩ ⟨A2,c2,X.Ad,X.cd,X.Ar,X.cr⟩) ?_;exact⟨rfl,C2,A2,c2,hC2,rfl⟩
 refine eK rfl (bO Zrf Zv0) (bS Zh rfl) rfl ?_;refine cN 9 rfl Zk Zk Zk (eT Zv0 Zv0 hwr) rfl ?_;refine cN 10 rfl Zk Zk Zk (ce rfl rfl Zv0 rfl) rfl ?_;refine cw 4 Zk ?_;refine eK rfl (bO Zrf Zv0) (bS Zh rfl) rfl ?_;refine ZE 11 ?_;refine cw 12 Zk ?_;refine ZcA (lwF b N ⟨code,d,⟨[],Ic+1,high⟩,fl,tg,br⟩ X) (fun w hi hin=>lP b N ⟨code,d,⟨[],Ic+1,high⟩,fl,tg,br⟩ X hs2 2 0 0 0 (IntKind.u32.wrap Ic) w hin) ?_;rintro _ _ ⟨_,⟨rfl,C2,A2,c2,hC2,rfl⟩,rfl⟩;refine ZE 13 ?_;refine bN Zk ?_;refine Z_2 ?_;refine Zrb (lwF b N ⟨C2,d,⟨[],Ic+1,high⟩,fl,tg,br⟩ ⟨A2,c2,X.Ad,X.cd,X.Ar,X.cr⟩) ?_;exact⟨rfl,C2,A2,c2,hC2,rfl⟩
theorem FT(b:Nat)(N:Int)(code:List II)(d:Sd)(l:List Int)(Ic high fl tg br:Int)(X:LAd)(hl:l.length≤1000)(hn:0≤Ic∧Ic≤1000)(w:World)(hi:Inv w (bK (lwF b N ⟨code,d,⟨l,Ic,high⟩,fl,tg,br⟩ X)) (lwF b N ⟨code,d,⟨l,Ic,high⟩,fl,tg,br⟩ X) w):
  Ctr prog 216 [.pointer (some ⟨b,18,none⟩)] w (lwF b N ⟨code,d,⟨l,Ic,high⟩,fl,tg,br⟩ X) (fun _ cs=>cs=lwF b N ⟨code,d,⟨l,Ic,max high ((l.length:Int) - Ic)⟩,fl,tg,br⟩ X):=by
 have hwt:IntKind.i64.wrap ((l.length:Int) - Ic)=(l.length:Int) - Ic:=by rw[bI];omega
 refine bL func216 rfl ntmps216 rfl hi ?_;refine bX ⟨fun j=>List.elem j [18],[]⟩ Zk ?_;refine ZE 0 ?_;refine ZE 1 ?_;refine ZE 2 ?_;refine ZFe 3 2 ?_;refine ZG 4 ?_;refine ZE 5 ?_;refine ZE 6 ?_;refine ZFe 7 0 ?_;refine ZG 8 ?_;refine ZE 9 ?_;refine ZE 10 ?_;refine ZE 11 ?_;refine ZFe 12 1 ?_;refine ZG 13 ?_;refine cN 14 rfl Zk Zk Zk (eT Zv0 Zv0 hwt) rfl ?_;refine cN 15 rfl Zk Zk Zk (zz Zv0 Zv0 (BL high ((l.length:Int) - Ic))) rfl ?_;refine ZE 16 ?_;refine ZFe 17 2 ?_;refine cw 18 Zk ?_;refine ZQ ?_;refine bN Zk ?_;refine fE (cs':=[row _ _ _,slv _ _ _ _ _ _,slv _ _ _ _ _ _,slv _ _ _ _ _ _]) (.inr rfl) Zu rfl ?_
 rfl
theorem iA(b:Nat)(N:Int)(L:Lw)(X:LAd)(hs:L.sm 999)(w:World)(hi:Inv w (bK (lwF b N L X)) (lwF b N L X) w):
  Ctr prog 214 [.pointer (some ⟨b,0,none⟩),.pointer (some ⟨b,14,none⟩)] w (lwF b N L X) (fun v9 cs=>v9= .int .i64 (eU 1 L.code L.d).1∧∃C s A c,C=(eU 1 L.code L.d).2.1∧s=(eU 1 L.code L.d).2.2∧cs=lwF b N ⟨C,s,L.r,L.flags,L.target,L.branch⟩ ⟨A,c,X.Ad,X.cd,X.Ar,X.cr⟩):=by
 have hl:=hs.dl;obtain⟨code,d,r,fl,tg,br⟩:=L;obtain⟨l,Ic,high⟩:=d;obtain⟨Ac,cc,Ad,cd,Ar,cr⟩:=X;dsimp only at hl;rcases Nat.eq_zero_or_pos l.length with h0|h0
 ·obtain rfl:l=[]:=List.eq_nil_of_length_eq_zero h0;refine Ctr.mono (CN b N code r Ic high fl tg br ⟨Ac,cc,Ad,cd,Ar,cr⟩ hs w hi) ?_;rintro v cs ⟨rfl,C,A,c,hC,rfl⟩;exact⟨rfl,C,_,A,c,hC,rfl,rfl⟩
 obtain⟨m,x,rfl⟩:=qF h0;have hp:eU 1 code ⟨m++[x],Ic,high⟩=(x,code,⟨m,Ic,high⟩):=by unfold eU;simp
 refine Ctr.mono (CM b N code r m x Ic high fl tg br Ac cc Ad cd Ar cr (by rw[ae]at hl;omega) w hi) ?_;rintro v cs ⟨rfl,rfl⟩;exact⟨by rw[hp],code,⟨m,Ic,high⟩,Ac,cc,by rw[hp],by rw[hp],rfl⟩
theorem uJ(b:Nat)(N:Int)(L:Lw)(X:LAd)(hs:L.sm 999)(w:World)(hi:Inv w (bK (lwF b N L X)) (lwF b N L X) w):
  Ctr prog 214 [.pointer (some ⟨b,0,none⟩),.pointer (some ⟨b,18,none⟩)] w (lwF b N L X) (fun v9 cs=>v9= .int .i64 (eU 2 L.code L.r).1∧∃C s A c,C=(eU 2 L.code L.r).2.1∧s=(eU 2 L.code L.r).2.2∧cs=lwF b N ⟨C,L.d,s,L.flags,L.target,L.branch⟩ ⟨A,c,X.Ad,X.cd,X.Ar,X.cr⟩):=by
 have hl:=hs.rl;obtain⟨code,d,r,fl,tg,br⟩:=L;obtain⟨l,Ic,high⟩:=r;obtain⟨Ac,cc,Ad,cd,Ar,cr⟩:=X;dsimp only at hl;rcases Nat.eq_zero_or_pos l.length with h0|h0
 ·obtain rfl:l=[]:=List.eq_nil_of_length_eq_zero h0;refine Ctr.mono (CL b N code d Ic high fl tg br ⟨Ac,cc,Ad,cd,Ar,cr⟩ hs w hi) ?_;rintro v cs ⟨rfl,C,A,c,hC,rfl⟩;exact⟨rfl,C,_,A,c,hC,rfl,rfl⟩
 obtain⟨m,x,rfl⟩:=qF h0;have hp:eU 2 code ⟨m++[x],Ic,high⟩=(x,code,⟨m,Ic,high⟩):=by unfold eU;simp
 refine Ctr.mono (CK b N code d m x Ic high fl tg br Ac cc Ad cd Ar cr (by rw[ae]at hl;omega) w hi) ?_;rintro v cs ⟨rfl,rfl⟩;exact⟨by rw[hp],code,⟨m,Ic,high⟩,Ac,cc,by rw[hp],by rw[hp],rfl⟩
end Go.Proofs.YtakodpimdalajaaGreatDoor
namespace Go.Ink
open Go.RowKit
theorem Lw.sm.mono{L:Lw}{n m:Nat}(h:L.sm n)(hnm:n≤m):L.sm m:=⟨a9 h.code hnm,a9 h.dl hnm,a9 h.rl hnm,⟨h.dn.1,by have:=h.dn.2;omega⟩,⟨h.rn.1,by have:=h.rn.2;omega⟩⟩
theorem Cl{k:Int}{code:List II}{s:Sd}{n:Nat}(h1:code.length≤n)(h2:s.l.length≤n)(h3:0≤s.Ic∧s.Ic≤n):(eU k code s).2.1.length≤n+1∧(eU k code s).2.2.l.length≤n+1∧(0≤(eU k code s).2.2.Ic∧(eU k code s).2.2.Ic≤(n+1:Nat)):=by
 unfold eU;split
 ·refine⟨by show code.length≤_;omega,by show s.l.dropLast.length≤_;rw[List.length_dropLast];omega,h3.1,?_⟩;show s.Ic≤_;omega
 refine⟨by show(code++[_]).length≤_;simp;omega,ax _,?_,?_⟩
 ·show 0≤s.Ic+1;omega
 show s.Ic+1≤_;omega
theorem gq{L:Lw}{n:Nat}(h:L.sm n){C:List II}{s:Sd}(hC:C=(eU 1 L.code L.d).2.1)(hs:s=(eU 1 L.code L.d).2.2)(f t br:Int):Lw.sm ⟨C,s,L.r,f,t,br⟩ (n+1):=by
 subst hC hs;obtain⟨h1,h2,h3⟩:=Cl (k:=1) h.code h.dl h.dn;exact⟨h1,h2,a9 h.rl (by omega),h3,⟨h.rn.1,by have:=h.rn.2;show L.r.Ic≤_;omega⟩⟩
theorem sm_popR{L:Lw}{n:Nat}(h:L.sm n){C:List II}{s:Sd}(hC:C=(eU 2 L.code L.r).2.1)(hs:s=(eU 2 L.code L.r).2.2)(f t br:Int):Lw.sm ⟨C,L.d,s,f,t,br⟩ (n+1):=by
 subst hC hs;obtain⟨h1,h2,h3⟩:=Cl (k:=2) h.code h.rl h.rn;exact⟨h1,a9 h.dl (by omega),h2,⟨h.dn.1,by have:=h.dn.2;show L.d.Ic≤_;omega⟩,h3⟩
theorem sO{L:Lw}{n:Nat}(h:L.sm n)(op a b i:Int):(L.add op a b i).sm (n+1):=⟨by have:=h.code;show(L.code++[_]).length≤_;simp;omega,a9 h.dl (by omega),a9 h.rl (by omega),⟨h.dn.1,by have:=h.dn.2;show L.d.Ic≤_;omega⟩,⟨h.rn.1,by have:=h.rn.2;show L.r.Ic≤_;omega⟩⟩
theorem oK{L:Lw}{n:Nat}(h:L.sm n)(l:List Int)(hl:l.length≤3):(L.IN l).sm (n+3):=⟨a9 h.code (by omega),by have:=h.dl;show(L.d.l++l).length≤_;rw[ae];omega,a9 h.rl (by omega),⟨h.dn.1,by have:=h.dn.2;show L.d.Ic≤_;omega⟩,⟨h.rn.1,by have:=h.rn.2;show L.r.Ic≤_;omega⟩⟩
theorem B4{L:Lw}{n:Nat}(h:L.sm n)(l:List Int)(hl:l.length≤3):(L.Jh l).sm (n+3):=⟨a9 h.code (by omega),a9 h.dl (by omega),by have:=h.rl;show(L.r.l++l).length≤_;rw[ae];omega,⟨h.dn.1,by have:=h.dn.2;show L.d.Ic≤_;omega⟩,⟨h.rn.1,by have:=h.rn.2;show L.r.Ic≤_;omega⟩⟩
theorem pO{L:Lw}{n:Nat}(h:L.sm n):L.Ig.2.sm (n+1):=gq h rfl rfl _ _ _
theorem sm_pR{L:Lw}{n:Nat}(h:L.sm n):L.IJ.2.sm (n+1):=sm_popR h rfl rfl _ _ _
theorem qG{L:Lw}{n:Nat}(h:L.sm n)(f t br:Int):Lw.sm ⟨L.code,L.d,L.r,f,t,br⟩ n:=⟨h.code,h.dl,h.rl,h.dn,h.rn⟩
theorem sm_go{L:Lw}{n:Nat}(h:L.sm n)(op i next:Int):(L.go op i next).sm (n+10):=by
 unfold Lw.go Lw.reckon;cases op==1||op==2<;>simp only[ac,aa]
 case true=>exact(oK (sO h _ _ _ _) _ (by simp)).mono (by omega)
 cases op==3<;>simp only[ac,aa]
 case true=>exact(oK (pO h) _ (by simp)).mono (by omega)
 cases op==4<;>simp only[ac,aa]
 case true=>exact(pO h).mono (by omega)
 cases op==5<;>simp only[ac,aa]
 case true=>exact(oK (pO (pO h)) _ (by simp)).mono (by omega)
 cases op==6<;>simp only[ac,aa]
 case true=>exact(oK (pO (pO h)) _ (by simp)).mono (by omega)
 cases op==7<;>simp only[ac,aa]
 case true=>exact(B4 (pO h) _ (by simp)).mono (by omega)
 cases op==8<;>simp only[ac,aa]
 case true=>exact(oK (sm_pR h) _ (by simp)).mono (by omega)
 cases decide (16≤op)&&decide (op≤25)<;>simp only[ac,aa]
 case true=>
  cases op !=25<;>simp only[ac,aa]
  ·exact(qG (sO (pO (pO h)) _ _ _ _) _ _ _).mono (by omega)
  exact(oK (sO (qG (sO (pO (pO h)) _ _ _ _) _ _ _) _ _ _ _) _ (by simp)).mono (by omega)
 cases op==38<;>simp only[ac,aa]
 case true=>exact(B4 (sO h _ _ _ _) _ (by simp)).mono (by omega)
 cases op==39<;>simp only[ac,aa]
 case true=>exact(qG (sm_pR h) _ _ _).mono (by omega)
 cases op==40<;>simp only[ac,aa]
 case true=>exact(qG (pO h) _ _ _).mono (by omega)
 cases decide (33≤op)&&decide (op≤37)<;>simp only[ac,aa]
 ·exact h.mono (by omega)
 exact(qG h _ _ _).mono (by omega)
end Go.Ink
namespace Go.Proofs.YtakodpimdalajaaGreatDoor
open Go.RowKit Go.Ink Go.Proofs.Tryz
attribute [local irreducible] OpY bU
theorem CJ(b:Nat)(N:Int)(L:Lw)(X:LAd)(hs:L.sm 1000)(w:World)(hi:Inv w (bK (lwF b N L X)) (lwF b N L X) w):
  Ctr prog 216 [.pointer (some ⟨b,14,none⟩)] w (lwF b N L X) (fun _ cs=>cs=lwF b N ⟨L.code,L.d.top,L.r,L.flags,L.target,L.branch⟩ X):=FU b N L.code L.r L.d.l L.d.Ic L.d.high L.flags L.target L.branch X hs.dl hs.dn w hi
theorem CI(b:Nat)(N:Int)(L:Lw)(X:LAd)(hs:L.sm 1000)(w:World)(hi:Inv w (bK (lwF b N L X)) (lwF b N L X) w):
  Ctr prog 216 [.pointer (some ⟨b,18,none⟩)] w (lwF b N L X) (fun _ cs=>cs=lwF b N ⟨L.code,L.d,L.r.top,L.flags,L.target,L.branch⟩ X):=FT b N L.code L.d L.r.l L.r.Ic L.r.high L.flags L.target L.branch X hs.rl hs.rn w hi
theorem lone_ok(b:Nat)(N:Int)(L:Lw)(X:LAd)(hs:L.sm 500)(op n next:Int)(w:World)(hi:Inv w (bK (lwF b N L X)) (lwF b N L X) w):
  Ctr prog 165 [.pointer (some ⟨b,0,none⟩),.agg #[.int .i64 op,.int .u32 n],.int .u32 next] w (lwF b N L X) (fun _ cs=>∃L' X',L'=L.one op n next∧cs=lwF b N L' X'):=by
 have hgo:=sm_go hs op n next
 refine bL func165 rfl ntmps165 rfl hi ?_;refine Z_2 ?_;refine ZO fun b4=>?_;refine Z_3 ?_;refine bX ⟨fun j=>List.elem j [],[]⟩ Zk ?_;refine ZE 0 ?_;refine ZE 1 ?_;refine ZFe 2 14 ?_;refine ZE 3 ?_;refine ZE 4 ?_;refine ZFe 5 18 ?_;refine ZE 6 ?_;refine ZE 7 ?_;refine bN Zk ?_;refine Zt ?_;refine cS (fun q:Lw×LAd=>[(0,.pointer (some ⟨b,0,none⟩)),(6,.pointer (some ⟨b,14,none⟩)),(7,.pointer (some ⟨b,18,none⟩))]) (fun q=>lwF b N q.1 q.2) (fun q=>q.1=L.go op n next) ?_ ?_
 ·refine GV ?_;refine ZW ?_ ?_<;>intro hc3
  ·refine bX ⟨fun j=>List.elem j [8,10,13],qM b4 [.int .i64 op,.int .u32 n]⟩ Zk ?_;refine ZE 0 ?_;refine ZE 1 ?_;refine ZE 2 ?_;refine ZFe 3 0 ?_;refine ZE 5 ?_;refine ZFe 6 1 ?_;refine iv 7 rfl Zk Zk Zk (bO Zrf (Zv rfl)) (by first|exact bW rfl|exact aC _ (bW rfl)|exact ah _ (bW rfl)|exact ah _ (ah _ (aC _ (bW rfl)))|exact ah _ (ah _ (ah _ (bW rfl)))) (bR (t:=24) Zh) rfl ?_;refine jY 4 8 Zk ?_ ?_
   ·refine eK rfl (bO Zrf Zv0) (bS Zh rfl) rfl ?_;refine cw 8 Zk ?_;refine gn rfl rfl (dW (lwF b N L X) rfl (fun _ _=>rfl) Zi (fun w hi hin=>nU b N L X (hs.mono (by omega)) n w hin)) (fun _=>by rintro _ _ ⟨_,⟨rfl,C2,A2,c2,hC2,rfl⟩,rfl⟩;exact bR (t:=24) Zh) rfl ?_;rintro _ _ ⟨_,⟨rfl,C2,A2,c2,hC2,rfl⟩,rfl⟩;refine cw 9 Zk ?_;refine gn rfl rfl (bZ rfl rfl Zrf Zrf rfl rfl) (fun _=>by rintro _ _ ⟨b40,rfl,rfl⟩;exact bR (t:=24) Zh) rfl ?_;rintro _ _ ⟨b40,rfl,rfl⟩;refine cw 10 Zk ?_;have hbd:L.d.l.length≤600:=a9 hs.dl (by omega);refine gn rfl rfl (cW (n:=L.d.l.length) (e:=3) (sz:=1) (bytes:=8) rfl rfl Za rfl rfl (fun w hi=>hi.rd (show Has _ (slv 3 1 (some ⟨b40,0,none⟩) 1 1 (ints .i64 [L.here]))from Zh)) cY (by simp only[maxLen];omega) (by omega)) (fun _=>by rintro _ _ ⟨A9,c9,rfl,rfl⟩;exact bR (t:=24) Zh) rfl ?_;rintro _ _ ⟨A9,c9,rfl,rfl⟩;rw[cH,show L.d.l.length+1=(L.d.l++[L.here]).length by simp];refine ZE 11 ?_;refine ZFe 12 0 ?_;refine cw 13 Zk ?_;refine dz rfl rfl (fj Zrf rfl rfl rfl Za Zp) (fun _=>by rintro _ _ ⟨rfl,rfl⟩;exact bR (t:=24) Zh) ?_;rintro _ _ ⟨rfl,rfl⟩;refine bN Zk ?_;refine Zo ?_;refine cq (((⟨C2,⟨L.d.l++[L.here],L.d.Ic,L.d.high⟩,L.r,L.flags,L.target,L.branch⟩,⟨A2,c2,A9,c9,X.Ar,X.cr⟩):Lw×LAd)) ?_ ?_ ?_
    ·(dsimp only;subst hC2;unfold Lw.go;rw[hc3];rfl)
    ·exact Zwk
    exact Zj
   refine gn rfl rfl (dW (lwF b N L X) rfl (fun _ _=>rfl) Zi (fun w hi hin=>nU b N L X (hs.mono (by omega)) n w hin)) (fun _=>by rintro _ _ ⟨_,⟨rfl,C2,A2,c2,hC2,rfl⟩,rfl⟩;exact bR (t:=24) Zh) rfl ?_;rintro _ _ ⟨_,⟨rfl,C2,A2,c2,hC2,rfl⟩,rfl⟩;refine ZG 4 ?_;refine cw 9 Zk ?_;refine gn rfl rfl (bZ rfl rfl Zrf Zrf rfl rfl) (fun _=>by rintro _ _ ⟨b40,rfl,rfl⟩;exact bR (t:=24) Zh) rfl ?_;rintro _ _ ⟨b40,rfl,rfl⟩;refine cw 10 Zk ?_;have hbd:L.d.l.length≤600:=a9 hs.dl (by omega);refine gn rfl rfl (cW (n:=L.d.l.length) (e:=3) (sz:=1) (bytes:=8) rfl rfl Za rfl rfl (fun w hi=>hi.rd (show Has _ (slv 3 1 (some ⟨b40,0,none⟩) 1 1 (ints .i64 [L.here]))from Zh)) cY (by simp only[maxLen];omega) (by omega)) (fun _=>by rintro _ _ ⟨A9,c9,rfl,rfl⟩;exact bR (t:=24) Zh) rfl ?_;rintro _ _ ⟨A9,c9,rfl,rfl⟩;rw[cH,show L.d.l.length+1=(L.d.l++[L.here]).length by simp];refine ZE 11 ?_;refine ZFe 12 0 ?_;refine cw 13 Zk ?_;refine dz rfl rfl (fj Zrf rfl rfl rfl Za Zp) (fun _=>by rintro _ _ ⟨rfl,rfl⟩;exact bR (t:=24) Zh) ?_;rintro _ _ ⟨rfl,rfl⟩;refine bN Zk ?_;refine Zo ?_;refine cq (((⟨C2,⟨L.d.l++[L.here],L.d.Ic,L.d.high⟩,L.r,L.flags,L.target,L.branch⟩,⟨A2,c2,A9,c9,X.Ar,X.cr⟩):Lw×LAd)) ?_ ?_ ?_
   ·(dsimp only;subst hC2;unfold Lw.go;rw[hc3];rfl)
   ·exact Zwk
   exact Zj
  refine Z_7 ?_;refine ZW ?_ ?_<;>intro hc5
  ·refine Z_4 ?_;refine ZcL (lwF b N L X) (fun w hi hin=>iA b N L X (hs.mono (by omega)) w hin) ?_;rintro _ _ ⟨_,⟨rfl,C2,s2,A2,c2,hC2,hs2,rfl⟩,rfl⟩;refine eu ?_;refine dJ (bZ rfl rfl Zrf Zrf rfl rfl) rfl ?_;rintro _ _ ⟨b57,rfl,rfl⟩;have hbd:s2.l.length≤600:=a9 (gq hs hC2 hs2 0 0 0).dl (by omega);refine dJ (cW (n:=s2.l.length) (e:=3) (sz:=1) (bytes:=8) rfl rfl Za rfl rfl (fun w hi=>hi.rd (show Has _ (slv 3 1 (some ⟨b57,0,none⟩) 2 2 (ints .i64 [(eU 1 L.code L.d).1,(eU 1 L.code L.d).1]))from Zh)) cY (by simp only[maxLen];omega) (by omega)) rfl ?_;rintro _ _ ⟨A9,c9,rfl,rfl⟩;rw[cH,show s2.l.length+2=(s2.l++[(eU 1 L.code L.d).1,(eU 1 L.code L.d).1]).length by simp];refine Z_2 ?_;refine ZL ?_;refine Z_2 ?_;refine cq (((⟨C2,⟨s2.l++[(eU 1 L.code L.d).1,(eU 1 L.code L.d).1],s2.Ic,s2.high⟩,L.r,L.flags,L.target,L.branch⟩,⟨A2,c2,A9,c9,X.Ar,X.cr⟩):Lw×LAd)) ?_ ?_ ?_
   ·(dsimp only;subst hC2 hs2;unfold Lw.go;rw[hc3,hc5];rfl)
   ·exact Zwk
   exact Zj
  refine Z_7 ?_;refine ZW ?_ ?_<;>intro hc8
  ·refine Z_3 ?_;refine ZcL (lwF b N L X) (fun w hi hin=>iA b N L X (hs.mono (by omega)) w hin) ?_;rintro _ _ ⟨_,⟨rfl,C2,s2,A2,c2,hC2,hs2,rfl⟩,rfl⟩;refine Z_2 ?_;refine cq (((⟨C2,s2,L.r,L.flags,L.target,L.branch⟩,⟨A2,c2,X.Ad,X.cd,X.Ar,X.cr⟩):Lw×LAd)) ?_ ?_ ?_
   ·(dsimp only;subst hC2 hs2;unfold Lw.go;rw[hc3,hc5,hc8];rfl)
   ·exact Zwk
   exact Zj
  refine Z_7 ?_;refine ZW ?_ ?_<;>intro hc10
  ·refine Z_4 ?_;refine ZcL (lwF b N L X) (fun w hi hin=>iA b N L X (hs.mono (by omega)) w hin) ?_;rintro _ _ ⟨_,⟨rfl,C2,s2,A2,c2,hC2,hs2,rfl⟩,rfl⟩;refine Z_7 ?_;refine ZcL (lwF b N ⟨C2,s2,L.r,L.flags,L.target,L.branch⟩ ⟨A2,c2,X.Ad,X.cd,X.Ar,X.cr⟩) (fun w hi hin=>iA b N ⟨C2,s2,L.r,L.flags,L.target,L.branch⟩ ⟨A2,c2,X.Ad,X.cd,X.Ar,X.cr⟩ ((gq hs hC2 hs2 _ _ _).mono (by omega)) w hin) ?_;rintro _ _ ⟨_,⟨rfl,C3,s3,A3,c3,hC3,hs3,rfl⟩,rfl⟩;refine eu ?_;refine dJ (bZ rfl rfl Zrf Zrf rfl rfl) rfl ?_;rintro _ _ ⟨b83,rfl,rfl⟩;have hbd:s3.l.length≤600:=a9 (gq (gq hs hC2 hs2 L.flags L.target L.branch) hC3 hs3 0 0 0).dl (by omega);refine dJ (cW (n:=s3.l.length) (e:=3) (sz:=1) (bytes:=8) rfl rfl Za rfl rfl (fun w hi=>hi.rd (show Has _ (slv 3 1 (some ⟨b83,0,none⟩) 2 2 (ints .i64 [(eU 1 L.code L.d).1,(eU 1 C2 s2).1]))from Zh)) cY (by simp only[maxLen];omega) (by omega)) rfl ?_;rintro _ _ ⟨A9,c9,rfl,rfl⟩;rw[cH,show s3.l.length+2=(s3.l++[(eU 1 L.code L.d).1,(eU 1 C2 s2).1]).length by simp];refine Z_2 ?_;refine ZL ?_;refine Z_2 ?_;refine cq (((⟨C3,⟨s3.l++[(eU 1 L.code L.d).1,(eU 1 C2 s2).1],s3.Ic,s3.high⟩,L.r,L.flags,L.target,L.branch⟩,⟨A3,c3,A9,c9,X.Ar,X.cr⟩):Lw×LAd)) ?_ ?_ ?_
   ·(dsimp only;subst hC3 hs3 hC2 hs2;unfold Lw.go;rw[hc3,hc5,hc8,hc10];rfl)
   ·exact Zwk
   exact Zj
  refine Z_7 ?_;refine ZW ?_ ?_<;>intro hc14
  ·refine Z_4 ?_;refine ZcL (lwF b N L X) (fun w hi hin=>iA b N L X (hs.mono (by omega)) w hin) ?_;rintro _ _ ⟨_,⟨rfl,C2,s2,A2,c2,hC2,hs2,rfl⟩,rfl⟩;refine Z_7 ?_;refine ZcL (lwF b N ⟨C2,s2,L.r,L.flags,L.target,L.branch⟩ ⟨A2,c2,X.Ad,X.cd,X.Ar,X.cr⟩) (fun w hi hin=>iA b N ⟨C2,s2,L.r,L.flags,L.target,L.branch⟩ ⟨A2,c2,X.Ad,X.cd,X.Ar,X.cr⟩ ((gq hs hC2 hs2 _ _ _).mono (by omega)) w hin) ?_;rintro _ _ ⟨_,⟨rfl,C3,s3,A3,c3,hC3,hs3,rfl⟩,rfl⟩;refine gQ ?_;refine dJ (bZ rfl rfl Zrf Zrf rfl rfl) rfl ?_;rintro _ _ ⟨b104,rfl,rfl⟩;have hbd:s3.l.length≤600:=a9 (gq (gq hs hC2 hs2 L.flags L.target L.branch) hC3 hs3 0 0 0).dl (by omega);refine dJ (cW (n:=s3.l.length) (e:=3) (sz:=1) (bytes:=8) rfl rfl Za rfl rfl (fun w hi=>hi.rd (show Has _ (slv 3 1 (some ⟨b104,0,none⟩) 3 3 (ints .i64 [(eU 1 C2 s2).1,(eU 1 L.code L.d).1,(eU 1 C2 s2).1]))from Zh)) cY (by simp only[maxLen];omega) (by omega)) rfl ?_;rintro _ _ ⟨A9,c9,rfl,rfl⟩;rw[cH,show s3.l.length+3=(s3.l++[(eU 1 C2 s2).1,(eU 1 L.code L.d).1,(eU 1 C2 s2).1]).length by simp];refine Z_2 ?_;refine ZL ?_;refine Z_2 ?_;refine cq (((⟨C3,⟨s3.l++[(eU 1 C2 s2).1,(eU 1 L.code L.d).1,(eU 1 C2 s2).1],s3.Ic,s3.high⟩,L.r,L.flags,L.target,L.branch⟩,⟨A3,c3,A9,c9,X.Ar,X.cr⟩):Lw×LAd)) ?_ ?_ ?_
   ·(dsimp only;subst hC3 hs3 hC2 hs2;unfold Lw.go;rw[hc3,hc5,hc8,hc10,hc14];rfl)
   ·exact Zwk
   exact Zj
  refine Z_7 ?_;refine ZW ?_ ?_<;>intro hc18
  ·refine bX ⟨fun j=>List.elem j [7,9,12],[]⟩ Zk ?_;refine ZE 0 ?_;refine ZE 1 ?_;refine ZE 2 ?_;refine ZFe 3 0 ?_;refine ZE 5 ?_;refine ZE 6 ?_;refine jY 4 7 Zk ?_ ?_
   ·refine eK rfl (bO Zrf Zv0) (bS Zh rfl) rfl ?_;refine cw 7 Zk ?_;refine ZcA (lwF b N L X) (fun w hi hin=>iA b N L X (hs.mono (by omega)) w hin) ?_;rintro _ _ ⟨_,⟨rfl,C2,s2,A2,c2,hC2,hs2,rfl⟩,rfl⟩;refine cw 8 Zk ?_;refine gn rfl rfl (bZ rfl rfl Zrf Zrf rfl rfl) ZJ rfl ?_;rintro _ _ ⟨b119,rfl,rfl⟩;refine cw 9 Zk ?_;have hbd:L.r.l.length≤600:=a9 hs.rl (by omega);refine gn rfl rfl (cW (n:=L.r.l.length) (e:=3) (sz:=1) (bytes:=8) rfl rfl Za rfl rfl (fun w hi=>hi.rd (show Has _ (slv 3 1 (some ⟨b119,0,none⟩) 1 1 (ints .i64 [(eU 1 L.code L.d).1]))from Zh)) cY (by simp only[maxLen];omega) (by omega)) ZJ rfl ?_;rintro _ _ ⟨A9,c9,rfl,rfl⟩;rw[cH,show L.r.l.length+1=(L.r.l++[(eU 1 L.code L.d).1]).length by simp];refine ZE 10 ?_;refine ZFe 11 0 ?_;refine cw 12 Zk ?_;refine ZQ ?_;refine bN Zk ?_;refine Zo ?_;refine cq (((⟨C2,s2,⟨L.r.l++[(eU 1 L.code L.d).1],L.r.Ic,L.r.high⟩,L.flags,L.target,L.branch⟩,⟨A2,c2,X.Ad,X.cd,A9,c9⟩):Lw×LAd)) ?_ ?_ ?_
    ·(dsimp only;subst hC2 hs2;unfold Lw.go;rw[hc3,hc5,hc8,hc10,hc14,hc18];rfl)
    ·exact Zwk
    exact Zj
   refine ZcA (lwF b N L X) (fun w hi hin=>iA b N L X (hs.mono (by omega)) w hin) ?_;rintro _ _ ⟨_,⟨rfl,C2,s2,A2,c2,hC2,hs2,rfl⟩,rfl⟩;refine ZG 4 ?_;refine cw 8 Zk ?_;refine gn rfl rfl (bZ rfl rfl Zrf Zrf rfl rfl) ZJ rfl ?_;rintro _ _ ⟨b119,rfl,rfl⟩;refine cw 9 Zk ?_;have hbd:L.r.l.length≤600:=a9 hs.rl (by omega);refine gn rfl rfl (cW (n:=L.r.l.length) (e:=3) (sz:=1) (bytes:=8) rfl rfl Za rfl rfl (fun w hi=>hi.rd (show Has _ (slv 3 1 (some ⟨b119,0,none⟩) 1 1 (ints .i64 [(eU 1 L.code L.d).1]))from Zh)) cY (by simp only[maxLen];omega) (by omega)) ZJ rfl ?_;rintro _ _ ⟨A9,c9,rfl,rfl⟩;rw[cH,show L.r.l.length+1=(L.r.l++[(eU 1 L.code L.d).1]).length by simp];refine ZE 10 ?_;refine ZFe 11 0 ?_;refine cw 12 Zk ?_;refine ZQ ?_;refine bN Zk ?_;refine Zo ?_;refine cq (((⟨C2,s2,⟨L.r.l++[(eU 1 L.code L.d).1],L.r.Ic,L.r.high⟩,L.flags,L.target,L.branch⟩,⟨A2,c2,X.Ad,X.cd,A9,c9⟩):Lw×LAd)) ?_ ?_ ?_
   ·(dsimp only;subst hC2 hs2;unfold Lw.go;rw[hc3,hc5,hc8,hc10,hc14,hc18];rfl)
   ·exact Zwk
   exact Zj
  refine Z_7 ?_;refine ZW ?_ ?_<;>intro hc20
  ·refine bX ⟨fun j=>List.elem j [7,9,12],[]⟩ Zk ?_;refine ZE 0 ?_;refine ZE 1 ?_;refine ZE 2 ?_;refine ZFe 3 0 ?_;refine ZE 5 ?_;refine ZE 6 ?_;refine jY 4 7 Zk ?_ ?_
   ·refine eK rfl (bO Zrf Zv0) (bS Zh rfl) rfl ?_;refine cw 7 Zk ?_;refine ZcA (lwF b N L X) (fun w hi hin=>uJ b N L X (hs.mono (by omega)) w hin) ?_;rintro _ _ ⟨_,⟨rfl,C2,s2,A2,c2,hC2,hs2,rfl⟩,rfl⟩;refine cw 8 Zk ?_;refine gn rfl rfl (bZ rfl rfl Zrf Zrf rfl rfl) ZJ rfl ?_;rintro _ _ ⟨b134,rfl,rfl⟩;refine cw 9 Zk ?_;have hbd:L.d.l.length≤600:=a9 hs.dl (by omega);refine gn rfl rfl (cW (n:=L.d.l.length) (e:=3) (sz:=1) (bytes:=8) rfl rfl Za rfl rfl (fun w hi=>hi.rd (show Has _ (slv 3 1 (some ⟨b134,0,none⟩) 1 1 (ints .i64 [(eU 2 L.code L.r).1]))from Zh)) cY (by simp only[maxLen];omega) (by omega)) ZJ rfl ?_;rintro _ _ ⟨A9,c9,rfl,rfl⟩;rw[cH,show L.d.l.length+1=(L.d.l++[(eU 2 L.code L.r).1]).length by simp];refine ZE 10 ?_;refine ZFe 11 0 ?_;refine cw 12 Zk ?_;refine ZQ ?_;refine bN Zk ?_;refine Zo ?_;refine cq (((⟨C2,⟨L.d.l++[(eU 2 L.code L.r).1],L.d.Ic,L.d.high⟩,s2,L.flags,L.target,L.branch⟩,⟨A2,c2,A9,c9,X.Ar,X.cr⟩):Lw×LAd)) ?_ ?_ ?_
    ·(dsimp only;subst hC2 hs2;unfold Lw.go;rw[hc3,hc5,hc8,hc10,hc14,hc18,hc20];rfl)
    ·exact Zwk
    exact Zj
   refine ZcA (lwF b N L X) (fun w hi hin=>uJ b N L X (hs.mono (by omega)) w hin) ?_;rintro _ _ ⟨_,⟨rfl,C2,s2,A2,c2,hC2,hs2,rfl⟩,rfl⟩;refine ZG 4 ?_;refine cw 8 Zk ?_;refine gn rfl rfl (bZ rfl rfl Zrf Zrf rfl rfl) ZJ rfl ?_;rintro _ _ ⟨b134,rfl,rfl⟩;refine cw 9 Zk ?_;have hbd:L.d.l.length≤600:=a9 hs.dl (by omega);refine gn rfl rfl (cW (n:=L.d.l.length) (e:=3) (sz:=1) (bytes:=8) rfl rfl Za rfl rfl (fun w hi=>hi.rd (show Has _ (slv 3 1 (some ⟨b134,0,none⟩) 1 1 (ints .i64 [(eU 2 L.code L.r).1]))from Zh)) cY (by simp only[maxLen];omega) (by omega)) ZJ rfl ?_;rintro _ _ ⟨A9,c9,rfl,rfl⟩;rw[cH,show L.d.l.length+1=(L.d.l++[(eU 2 L.code L.r).1]).length by simp];refine ZE 10 ?_;refine ZFe 11 0 ?_;refine cw 12 Zk ?_;refine ZQ ?_;refine bN Zk ?_;refine Zo ?_;refine cq (((⟨C2,⟨L.d.l++[(eU 2 L.code L.r).1],L.d.Ic,L.d.high⟩,s2,L.flags,L.target,L.branch⟩,⟨A2,c2,A9,c9,X.Ar,X.cr⟩):Lw×LAd)) ?_ ?_ ?_
   ·(dsimp only;subst hC2 hs2;unfold Lw.go;rw[hc3,hc5,hc8,hc10,hc14,hc18,hc20];rfl)
   ·exact Zwk
   exact Zj
  refine eu ?_;refine ZW ?_ ?_<;>intro hc22
  ·have hop:16≤op∧op≤25:=(by simpa using hc22);have hwop:IntKind.u32.wrap op=op:=(by rw[aE];omega);refine Z_4 ?_;refine ZcL (lwF b N L X) (fun w hi hin=>iA b N L X (hs.mono (by omega)) w hin) ?_;rintro _ _ ⟨_,⟨rfl,C2,s2,A2,c2,hC2,hs2,rfl⟩,rfl⟩;refine Z_7 ?_;refine ZcL (lwF b N ⟨C2,s2,L.r,L.flags,L.target,L.branch⟩ ⟨A2,c2,X.Ad,X.cd,X.Ar,X.cr⟩) (fun w hi hin=>iA b N ⟨C2,s2,L.r,L.flags,L.target,L.branch⟩ ⟨A2,c2,X.Ad,X.cd,X.Ar,X.cr⟩ ((gq hs hC2 hs2 _ _ _).mono (by omega)) w hin) ?_;rintro _ _ ⟨_,⟨rfl,C3,s3,A3,c3,hC3,hs3,rfl⟩,rfl⟩;refine eJ ?_;refine Zy (ce rfl rfl Zv0 hwop) ?_;refine ZA ?_;refine ZcL (lwF b N ⟨C3,s3,L.r,L.flags,L.target,L.branch⟩ ⟨A3,c3,X.Ad,X.cd,X.Ar,X.cr⟩) (fun w hi hin=>lP b N ⟨C3,s3,L.r,L.flags,L.target,L.branch⟩ ⟨A3,c3,X.Ad,X.cd,X.Ar,X.cr⟩ ((gq (gq hs hC2 hs2 L.flags L.target L.branch) hC3 hs3 _ _ _).mono (by omega)) 4 0 (eU 1 C2 s2).1 (eU 1 L.code L.d).1 op w hin) ?_;rintro _ _ ⟨_,⟨rfl,C4,A4,c4,hC4,rfl⟩,rfl⟩;have h3:=gq (gq hs hC2 hs2 L.flags L.target L.branch) hC3 hs3 L.flags L.target L.branch;have h4:=sO h3 4 (eU 1 C2 s2).1 (eU 1 L.code L.d).1 op;have hs4:Lw.sm ⟨C4,s3,L.r,(C3.length:Int),L.target,L.branch⟩ 1000:=(by refine⟨?_,(h3.mono (by omega:_≤1000)).dl,(h3.mono (by omega:_≤1000)).rl,(h3.mono (by omega:_≤1000)).dn,(h3.mono (by omega:_≤1000)).rn⟩;rw[hC4];exact a9 h4.code (by omega));refine Z_3 ?_;refine ZL ?_;refine Z_8 ?_;refine ZW ?_ ?_<;>intro hc26
   ·refine bX ⟨fun j=>List.elem j [11,13,16],[]⟩ Zk ?_;refine ZE 0 ?_;refine ZE 1 ?_;refine ZE 2 ?_;refine ZFe 3 0 ?_;refine ZE 5 ?_;refine ZE 6 ?_;refine ZE 7 ?_;refine ZE 8 ?_;refine cN 9 rfl Zk Zk Zk (ce rfl rfl Zv0 hwop) rfl ?_;refine ZE 10 ?_;refine jY 4 11 Zk ?_ ?_
    ·refine eK rfl (bO Zrf Zv0) (bS Zh rfl) rfl ?_;refine cw 11 Zk ?_;refine ZcA (lwF b N ⟨C4,s3,L.r,(C3.length:Int),L.target,L.branch⟩ ⟨A4,c4,X.Ad,X.cd,X.Ar,X.cr⟩) (fun w hi hin=>lP b N ⟨C4,s3,L.r,(C3.length:Int),L.target,L.branch⟩ ⟨A4,c4,X.Ad,X.cd,X.Ar,X.cr⟩ hs4 3 0 (eU 1 C2 s2).1 (eU 1 L.code L.d).1 op w hin) ?_;rintro _ _ ⟨_,⟨rfl,C5,A5,c5,hC5,rfl⟩,rfl⟩;refine cw 12 Zk ?_;refine gn rfl rfl (bZ rfl rfl Zrf Zrf rfl rfl) ZJ rfl ?_;rintro _ _ ⟨b176,rfl,rfl⟩;refine cw 13 Zk ?_;have hbd:s3.l.length≤600:=a9 (gq (gq hs hC2 hs2 L.flags L.target L.branch) hC3 hs3 0 0 0).dl (by omega);refine gn rfl rfl (cW (n:=s3.l.length) (e:=3) (sz:=1) (bytes:=8) rfl rfl Za rfl rfl (fun w hi=>hi.rd (show Has _ (slv 3 1 (some ⟨b176,0,none⟩) 1 1 (ints .i64 [(C4.length:Int)]))from Zh)) cY (by simp only[maxLen];omega) (by omega)) ZJ rfl ?_;rintro _ _ ⟨A9,c9,rfl,rfl⟩;rw[cH,show s3.l.length+1=(s3.l++[(C4.length:Int)]).length by simp];refine ZE 14 ?_;refine ZFe 15 0 ?_;refine cw 16 Zk ?_;refine ZQ ?_;refine bN Zk ?_;refine Zo ?_;refine cq (((⟨C5,⟨s3.l++[(C4.length:Int)],s3.Ic,s3.high⟩,L.r,(C3.length:Int),L.target,L.branch⟩,⟨A5,c5,A9,c9,X.Ar,X.cr⟩):Lw×LAd)) ?_ ?_ ?_
     ·(dsimp only;subst hC5 hC4 hC3 hs3 hC2 hs2;unfold Lw.go;rw[hc3,hc5,hc8,hc10,hc14,hc18,hc20,hc22];unfold Lw.reckon;dsimp only;rw[hc26];rfl)
     ·exact Zwk
     exact Zj
    refine ZcA (lwF b N ⟨C4,s3,L.r,(C3.length:Int),L.target,L.branch⟩ ⟨A4,c4,X.Ad,X.cd,X.Ar,X.cr⟩) (fun w hi hin=>lP b N ⟨C4,s3,L.r,(C3.length:Int),L.target,L.branch⟩ ⟨A4,c4,X.Ad,X.cd,X.Ar,X.cr⟩ hs4 3 0 (eU 1 C2 s2).1 (eU 1 L.code L.d).1 op w hin) ?_;rintro _ _ ⟨_,⟨rfl,C5,A5,c5,hC5,rfl⟩,rfl⟩;refine ZG 4 ?_;refine cw 12 Zk ?_;refine gn rfl rfl (bZ rfl rfl Zrf Zrf rfl rfl) ZJ rfl ?_;rintro _ _ ⟨b176,rfl,rfl⟩;refine cw 13 Zk ?_;have hbd:s3.l.length≤600:=a9 (gq (gq hs hC2 hs2 L.flags L.target L.branch) hC3 hs3 0 0 0).dl (by omega);refine gn rfl rfl (cW (n:=s3.l.length) (e:=3) (sz:=1) (bytes:=8) rfl rfl Za rfl rfl (fun w hi=>hi.rd (show Has _ (slv 3 1 (some ⟨b176,0,none⟩) 1 1 (ints .i64 [(C4.length:Int)]))from Zh)) cY (by simp only[maxLen];omega) (by omega)) ZJ rfl ?_;rintro _ _ ⟨A9,c9,rfl,rfl⟩;rw[cH,show s3.l.length+1=(s3.l++[(C4.length:Int)]).length by simp];refine ZE 14 ?_;refine ZFe 15 0 ?_;refine cw 16 Zk ?_;refine ZQ ?_;refine bN Zk ?_;refine Zo ?_;refine cq (((⟨C5,⟨s3.l++[(C4.length:Int)],s3.Ic,s3.high⟩,L.r,(C3.length:Int),L.target,L.branch⟩,⟨A5,c5,A9,c9,X.Ar,X.cr⟩):Lw×LAd)) ?_ ?_ ?_
    ·(dsimp only;subst hC5 hC4 hC3 hs3 hC2 hs2;unfold Lw.go;rw[hc3,hc5,hc8,hc10,hc14,hc18,hc20,hc22];unfold Lw.reckon;dsimp only;rw[hc26];rfl)
    ·exact Zwk
    exact Zj
   refine Z_2 ?_;refine cq (((⟨C4,s3,L.r,(C3.length:Int),L.target,L.branch⟩,⟨A4,c4,X.Ad,X.cd,X.Ar,X.cr⟩):Lw×LAd)) ?_ ?_ ?_
   ·(dsimp only;subst hC4 hC3 hs3 hC2 hs2;unfold Lw.go;rw[hc3,hc5,hc8,hc10,hc14,hc18,hc20,hc22];unfold Lw.reckon;dsimp only;rw[hc26];rfl)
   ·exact Zwk
   exact Zj
  refine Z_7 ?_;refine ZW ?_ ?_<;>intro hc28
  ·refine bX ⟨fun j=>List.elem j [7,9,12],[]⟩ Zk ?_;refine ZE 0 ?_;refine ZE 1 ?_;refine ZE 2 ?_;refine ZFe 3 0 ?_;refine ZE 5 ?_;refine ZE 6 ?_;refine jY 4 7 Zk ?_ ?_
   ·refine eK rfl (bO Zrf Zv0) (bS Zh rfl) rfl ?_;refine cw 7 Zk ?_;refine ZcA (lwF b N L X) (fun w hi hin=>nU b N L X (hs.mono (by omega)) next w hin) ?_;rintro _ _ ⟨_,⟨rfl,C2,A2,c2,hC2,rfl⟩,rfl⟩;refine cw 8 Zk ?_;refine gn rfl rfl (bZ rfl rfl Zrf Zrf rfl rfl) ZJ rfl ?_;rintro _ _ ⟨b191,rfl,rfl⟩;refine cw 9 Zk ?_;have hbd:L.r.l.length≤600:=a9 hs.rl (by omega);refine gn rfl rfl (cW (n:=L.r.l.length) (e:=3) (sz:=1) (bytes:=8) rfl rfl Za rfl rfl (fun w hi=>hi.rd (show Has _ (slv 3 1 (some ⟨b191,0,none⟩) 1 1 (ints .i64 [L.here]))from Zh)) cY (by simp only[maxLen];omega) (by omega)) ZJ rfl ?_;rintro _ _ ⟨A9,c9,rfl,rfl⟩;rw[cH,show L.r.l.length+1=(L.r.l++[L.here]).length by simp];refine ZE 10 ?_;refine ZFe 11 0 ?_;refine cw 12 Zk ?_;refine ZQ ?_;refine bN Zk ?_;refine Zo ?_;refine cq (((⟨C2,L.d,⟨L.r.l++[L.here],L.r.Ic,L.r.high⟩,L.flags,L.target,L.branch⟩,⟨A2,c2,X.Ad,X.cd,A9,c9⟩):Lw×LAd)) ?_ ?_ ?_
    ·(dsimp only;subst hC2;unfold Lw.go;rw[hc3,hc5,hc8,hc10,hc14,hc18,hc20,hc22,hc28];rfl)
    ·exact Zwk
    exact Zj
   refine ZcA (lwF b N L X) (fun w hi hin=>nU b N L X (hs.mono (by omega)) next w hin) ?_;rintro _ _ ⟨_,⟨rfl,C2,A2,c2,hC2,rfl⟩,rfl⟩;refine ZG 4 ?_;refine cw 8 Zk ?_;refine gn rfl rfl (bZ rfl rfl Zrf Zrf rfl rfl) ZJ rfl ?_;rintro _ _ ⟨b191,rfl,rfl⟩;refine cw 9 Zk ?_;have hbd:L.r.l.length≤600:=a9 hs.rl (by omega);refine gn rfl rfl (cW (n:=L.r.l.length) (e:=3) (sz:=1) (bytes:=8) rfl rfl Za rfl rfl (fun w hi=>hi.rd (show Has _ (slv 3 1 (some ⟨b191,0,none⟩) 1 1 (ints .i64 [L.here]))from Zh)) cY (by simp only[maxLen];omega) (by omega)) ZJ rfl ?_;rintro _ _ ⟨A9,c9,rfl,rfl⟩;rw[cH,show L.r.l.length+1=(L.r.l++[L.here]).length by simp];refine ZE 10 ?_;refine ZFe 11 0 ?_;refine cw 12 Zk ?_;refine ZQ ?_;refine bN Zk ?_;refine Zo ?_;refine cq (((⟨C2,L.d,⟨L.r.l++[L.here],L.r.Ic,L.r.high⟩,L.flags,L.target,L.branch⟩,⟨A2,c2,X.Ad,X.cd,A9,c9⟩):Lw×LAd)) ?_ ?_ ?_
   ·(dsimp only;subst hC2;unfold Lw.go;rw[hc3,hc5,hc8,hc10,hc14,hc18,hc20,hc22,hc28];rfl)
   ·exact Zwk
   exact Zj
  refine Z_7 ?_;refine ZW ?_ ?_<;>intro hc30
  ·refine Z_4 ?_;refine ZcL (lwF b N L X) (fun w hi hin=>uJ b N L X (hs.mono (by omega)) w hin) ?_;rintro _ _ ⟨_,⟨rfl,C2,s2,A2,c2,hC2,hs2,rfl⟩,rfl⟩;refine Z_3 ?_;refine ZL ?_;refine Z_2 ?_;refine cq (((⟨C2,L.d,s2,L.flags,(eU 2 L.code L.r).1,L.branch⟩,⟨A2,c2,X.Ad,X.cd,X.Ar,X.cr⟩):Lw×LAd)) ?_ ?_ ?_
   ·(dsimp only;subst hC2 hs2;unfold Lw.go;rw[hc3,hc5,hc8,hc10,hc14,hc18,hc20,hc22,hc28,hc30];rfl)
   ·exact Zwk
   exact Zj
  refine Z_7 ?_;refine ZW ?_ ?_<;>intro hc32
  ·refine Z_4 ?_;refine ZcL (lwF b N L X) (fun w hi hin=>iA b N L X (hs.mono (by omega)) w hin) ?_;rintro _ _ ⟨_,⟨rfl,C2,s2,A2,c2,hC2,hs2,rfl⟩,rfl⟩;refine Z_3 ?_;refine ZL ?_;refine Z_2 ?_;refine cq (((⟨C2,s2,L.r,L.flags,(eU 1 L.code L.d).1,L.branch⟩,⟨A2,c2,X.Ad,X.cd,X.Ar,X.cr⟩):Lw×LAd)) ?_ ?_ ?_
   ·(dsimp only;subst hC2 hs2;unfold Lw.go;rw[hc3,hc5,hc8,hc10,hc14,hc18,hc20,hc22,hc28,hc30,hc32];rfl)
   ·exact Zwk
   exact Zj
  refine eu ?_;refine ZW ?_ ?_<;>intro hc34
  ·refine Z_6 ?_;refine ZL ?_;refine Z_2 ?_;refine cq (((⟨L.code,L.d,L.r,L.flags,L.target,op⟩,X):Lw×LAd)) ?_ ?_ ?_
   ·(dsimp only;unfold Lw.go;rw[hc3,hc5,hc8,hc10,hc14,hc18,hc20,hc22,hc28,hc30,hc32,hc34];rfl)
   ·exact Zwk
   exact Zj
  refine Z_2 ?_;refine cq (((L,X):Lw×LAd)) ?_ ?_ ?_
  ·(dsimp only;unfold Lw.go;rw[hc3,hc5,hc8,hc10,hc14,hc18,hc20,hc22,hc28,hc30,hc32,hc34];rfl)
  ·exact Zwk
  exact Zj
 rintro⟨L9,X9⟩ hL9;dsimp only at hL9⊢;rw[←hL9]at hgo;refine Z_3 ?_;refine ZcL (lwF b N L9 X9) (fun w hi hin=>CJ b N L9 X9 (hgo.mono (by omega)) w hin) ?_;rintro _ _ ⟨_,rfl,rfl⟩;refine Z_4 ?_;refine ZcL (lwF b N ⟨L9.code,L9.d.top,L9.r,L9.flags,L9.target,L9.branch⟩ X9) (fun w hi hin=>CI b N ⟨L9.code,L9.d.top,L9.r,L9.flags,L9.target,L9.branch⟩ X9 ⟨(hgo.mono (by omega)).code,(hgo.mono (by omega)).dl,(hgo.mono (by omega)).rl,(hgo.mono (by omega)).dn,(hgo.mono (by omega)).rn⟩ w hin) ?_;rintro _ _ ⟨_,rfl,rfl⟩;refine Zn (fE (cs':=lwF b N L9.Ih X9) (.inr rfl) Zu rfl ?_);exact⟨L9.Ih,X9,by unfold Lw.one;rw[hL9],rfl⟩
end Go.Proofs.YtakodpimdalajaaGreatDoor
