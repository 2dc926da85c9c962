/- Lemmas. -/
import Derived.Test.YtakodpimdalajaaGreatDoorPaa
import Derived.Test.YtakodpimdalajaaGreatDoorPab
import Derived.Test.YtakodpimdalajaaGreatDoorPap
set_option linter.unusedSimpArgs false
set_option linter.unusedVariables false
set_option maxRecDepth 100000
set_option maxHeartbeats 4000000
namespace Go.Ink
open Go.RowKit
def qh(p:Pg):List Int:=bif p.JW then(bif p.J4 then[4,7,12,15]else[4,7])else[]
def HI.imm'(i:HI)(e:Int):HI:=⟨i.op,i.rd,i.ra,i.rb,e⟩
def mN(e:Int):List Int→List HI→List HI
 |[],l=>l
 |i::f,l=>mN e f (l.set i.toNat ((l.getD i.toNat HI.zero).imm' e))
theorem tG(p:Pg)(pl:Pl)(e:Int):mN e (qh p) (fh p pl 0)=fh p pl e:=by
 unfold qh fh qc;cases p.JW<;>cases p.J4<;>rfl
theorem I6(p:Pg)(pl:Pl):∀i,i∈qh p→∃n:Nat,i=n∧n<(fh p pl 0).length:=fun i hi=>by
 have h2:p.JW=true:=by
  cases h:p.JW with
  |true=>rfl
  |false=>unfold qh at hi;rw[h]at hi;cases hi
 unfold qh at hi;rw[h2,ac]at hi;unfold fh;rw[h2,ac];cases h3:p.J4<;>rw[h3]at hi<;>simp only[ac,aa,aK,aY,or_false]at hi⊢
 ·have hl:(⟨1,15,0,0,0⟩::nh 0 14 2 p.Jn p.Kf:List HI).length=9:=rfl;rcases hi with rfl|rfl
  ·exact⟨4,rfl,by rw[hl];omega⟩
  exact⟨7,rfl,by rw[hl];omega⟩
 have hl:(qc p 0).length=17:=rfl;rcases hi with rfl|rfl|rfl|rfl
 ·exact⟨4,rfl,by rw[ae,hl];omega⟩
 ·exact⟨7,rfl,by rw[ae,hl];omega⟩
 ·exact⟨12,rfl,by rw[ae,hl];omega⟩
 exact⟨15,rfl,by rw[ae,hl];omega⟩
theorem end_len(p:Pg)(pl:Pl)(n:Nat):(qy p pl n).length≤20:=by
 have h1:=tU p pl;have h2:=ss p (n+(gu p pl).length+1);have h3:=qO p pl;unfold qy;simp only[ae,aj,ao];omega
theorem vx(p:Pg)(pl:Pl)(e:Int)(hc:p.code.length≤64)(hD:p.Jw.length≤100)(hR:p.Jx.length≤100):(fh p pl e).length≤4000:=by
 have h1:=rA p.Jn p.Jo pl p.code 0;have h2:=mF pl 14 4 2 p.Jw;have h3:=mF pl 13 20 3 p.Jx;have h4:=end_len p pl (17+(iz p pl).length);have h5:(qc p e).length=17:=rfl;unfold fh;cases p.JW<;>cases p.J4<;>simp only[ac,aa]
 ·simp
 ·simp
 ·show 9≤4000;omega
 rw[ae,ae,h5];have h6:(iz p pl).length=(jy p.Jn p.Jo pl p.code 0).length+((gS pl 14 4 2 p.Jw).length+(gS pl 13 20 3 p.Jx).length):=by unfold iz;rw[ae,ae]
 omega
theorem EB:∀(l:List HI) (i:Nat) (e:Int),i<l.length→(l.flatMap HI.cells).set (i*5+4) (.int .u32 e)=(l.set i ((l.getD i HI.zero).imm' e)).flatMap HI.cells
 |[],_,_,h=>by simp at h
 |x::l,0,e,_=>rfl
 |x::l,i+1,e,h=>by
  have ih:=EB l i e (by simpa using h);rw[show(i+1)*5+4=(i*5+4)+5 by omega];show x.cells++(l.flatMap HI.cells).set (i*5+4) _=x.cells++_;rw[ih];rfl
theorem tP{p:Pg}(h:p.JB=true):(0≤p.Jn∧p.Jn≤16)∧(0≤p.Jo∧p.Jo≤16)∧(0≤p.JK∧p.JK≤16)∧(0≤p.JN∧p.JN≤16):=by
 unfold Pg.JB Pg.J1 oN at h;simp only[aB,List.all_cons,ak]at h;omega
end Go.Ink
namespace Go.Proofs.YtakodpimdalajaaGreatDoor
open Go.RowKit Go.Ink Go.Proofs.Tryz
attribute [local irreducible] OpY bP
theorem sf(S:CdS)(l:List HI)(fix:List Int)(X:CAd)(hl:l.length≤10000)(base word Jp high:Int)(o:Nat)(ok:Bool)(hok:(!decide (iO Jp high o<Jp))=ok)(hb1:0≤Jp∧Jp≤100000)(hb2: -100000≤high∧high≤100000)(hb3:o≤100000)(hf:fix.length≤100)(w:World)(hi:Inv w (bK (cdF S l fix X)) (cdF S l fix X) w):
  Ctr prog 170 [.pointer (some ⟨S.b,0,none⟩),.int .i64 base,.int .u32 word,.int .i64 Jp,.int .i64 high,.int .i64 o] w (cdF S l fix X) (fun r9 cs=>r9= .bool ok∧∃l' f' X',l'=l++(bif ok then nh 0 base word Jp (iO Jp high o)else[])∧f'=fix++(bif ok then[((l.length+3:Nat):Int),((l.length+6:Nat):Int)]else[])∧cs=cdF S l' f' X'):=by
 subst hok;exact Im S l fix X hl base word Jp high o hb1 hb2 hb3 hf w hi
theorem xA(p:Pg)(Q:PAd)(hf:qj p)(hr:p.JB=true)(pl:Pl)(hpl:dJ p=pl)(w:World)(h:AK p Q w):
  Ctr prog 168 [pgv p Q,.int .i64 7] w [] (fun r cs=>∃Ar cr As c2,r= .tuple #[.agg #[.slice Ar pl.reg.length cr,.slice As pl.slot.length c2,.int .i64 pl.JM],.int .i64 0]∧cs=[sl .i64 3 Ar pl.reg.length cr pl.reg,sl .i64 3 As pl.slot.length c2 pl.slot]):=by
 subst hpl;have h1:=IC p Q hf hr w h;obtain⟨h2,h3⟩:=lT (gi p) 7 p.code.length p.code.length;rw[show(dJ p).reg.length=p.code.length from h2,show(dJ p).slot.length=p.code.length from h3];exact h1
theorem E8(p:Pg)(Q:PAd)(hf:qj p)(hr:p.JB=true)(hg:ga (gm p (dJ p)))(hroom:p.JW=true)(w:World)(h:AK p Q w):
  Ctr prog 129 [pgv p Q] w [] (fun r cs=>∃A c,r= .tuple #[.slice A (cF (gm p (dJ p))).length c,.int .i64 0]∧cs=[sl .u8 5 A (cF (gm p (dJ p))).length c (cF (gm p (dJ p)))]):=by
 have hm64:=hf.JF;have hoD:=hf.Jw;have hoR:=hf.Jx;have hrc:=h.code;obtain⟨u1,u2,u3,u4⟩:=o3 hr;obtain⟨hnD,hnR,hhD,hhR⟩:=tP hr;obtain⟨hrl,hsl⟩:(dJ p).reg.length=p.code.length∧(dJ p).slot.length=p.code.length:=lT (gi p) 7 p.code.length p.code.length;obtain⟨pl,hpl⟩:=Zgn (dJ p);rw[hpl]at hg hrl hsl⊢;have hAl:=xA p Q hf hr pl hpl;have hbl:=fun e=>vx p pl e hm64 hoD hoR
 have hpb:=tG p pl (IntKind.u32.wrap ((fh p pl 0).length:Nat));have hfx:=I6 p pl;have hcode:gm p pl=fh p pl (IntKind.u32.wrap ((fh p pl 0).length:Nat))++[⟨19,0,0,0,2⟩]:=rfl;obtain⟨C9,hC9⟩:=Zgn (gm p pl);rw[hC9]at hg hcode⊢;have hC9l:C9.length≤100000:=by have:=hbl (IntKind.u32.wrap ((fh p pl 0).length:Nat));rw[hcode,ae,aj,ao];omega
 have hJ:=fun A c w h=>zT A c C9 hg hC9l w h
 refine bL func129 rfl ntmps129 rfl (Inv.start w) ?_;refine Z_2 ?_;refine ZO fun b1=>?_;refine Z_7 ?_;refine ZS (fun w hi=>hAl w (h.Jz hi)) ?_;rintro _ _ ⟨_,⟨Ar,cr,As,c2,rfl,rfl⟩,rfl⟩;refine Z_3 ?_;refine ZN fun b4=>?_
 refine ZM ?_;refine dS ?_;refine gx ?_;refine Z_7 ?_;refine ZO fun b21=>?_
 refine Z_5 ?_;refine dy 298 5 ?_;refine dy 3 1 ?_;refine ZA ?_;refine ZcL (cdF (⟨b21,p,Q,pl,Ar,cr,As,c2⟩:CdS) [] [] ⟨none,0,none,0⟩) (fun w hi hin=>kb (⟨b21,p,Q,pl,Ar,cr,As,c2⟩:CdS) [] [] ⟨none,0,none,0⟩ cJ 15 0 w hin) ?_;rintro _ _ ⟨_,⟨l1,X1,hl1,rfl⟩,rfl⟩;refine Z_2 ?_;refine cW (fun q:List HI×List Int×CAd=>[(6,.pointer (some ⟨b21,0,none⟩))]) (fun q=>[row b21 (ny (⟨b21,p,Q,pl,Ar,cr,As,c2⟩:CdS) q.1.length q.2.1.length q.2.2) 291,hiC q.2.2.Al q.2.2.cl q.1,sl .i64 3 q.2.2.Af q.2.1.length q.2.2.cf q.2.1]) (fun q=>q.1=fh p pl 0∧q.2.1=qh p) ?_ ?_
 ·refine dS ?_;refine ZcL (cdF (⟨b21,p,Q,pl,Ar,cr,As,c2⟩:CdS) l1 [] X1) (fun w hi hin=>sf (⟨b21,p,Q,pl,Ar,cr,As,c2⟩:CdS) l1 [] X1 (by rw[hl1];simp) 14 2 p.Jn p.JK p.Jw.length true hroom ⟨by omega,by omega⟩ ⟨by omega,by omega⟩ Wq1 cJ w hin) ?_;rintro _ _ ⟨_,⟨rfl,l2,f2,X2,hl2,hf2,rfl⟩,rfl⟩;refine ZA ?_;have hl2n:l2.length=9:=(by rw[hl2,hl1];rfl);have hf2n:f2=[4,7]:=(by rw[hf2,hl1];rfl);obtain⟨rr,hrr⟩:=Zgn (p.J4);refine Z_8 ?_;refine iA (bZ rfl rfl) rfl (eB (cdF (⟨b21,p,Q,pl,Ar,cr,As,c2⟩:CdS) l2 f2 X2) rfl (fun _ _=>rfl) Zi (fun w hi hin=>sf (⟨b21,p,Q,pl,Ar,cr,As,c2⟩:CdS) l2 f2 X2 Wq1 13 3 p.Jo p.JN p.Jx.length rr hrr ⟨by omega,by omega⟩ ⟨by omega,by omega⟩ Wq1 (by rw[hf2n];simp) w hin)) rfl ?_;rintro _ _ ⟨_,⟨rfl,l3,f3,X3,hl3,hf3,rfl⟩,rfl⟩;refine Z_3 ?_;refine ZW ?_ ?_<;>intro hc6
  ·obtain rfl:rr=true:=(by simpa using hc6);have hl3n:l3.length=17:=(by rw[hl3,ae,hl2n];rfl);have hl3h:l3=qc p 0:=(by rw[hl3,hl2,hl1];rfl);have hf3n:f3=[4,7,12,15]:=(by rw[hf3,hf2n,hl2n];rfl);refine dS ?_;refine cw (fun q:Nat×List HI×CAd=>[(1,.pointer (some ⟨b1,0,none⟩)),(6,.pointer (some ⟨b21,0,none⟩)),(45,.slice Q.Ac p.code.length Q.cc),(46,.int .i64 p.code.length),(47,.int .i64 (q.1:Int))]) (fun q=>[row b21 (ny (⟨b21,p,Q,pl,Ar,cr,As,c2⟩:CdS) q.2.1.length f3.length q.2.2) 291,hiC q.2.2.Al q.2.2.cl q.2.1,sl .i64 3 q.2.2.Af f3.length q.2.2.cf f3,row b1 (jm p Q) 236,(sl .i64 3 Ar pl.reg.length cr pl.reg),(sl .i64 3 As pl.slot.length c2 pl.slot)]) (fun q=>q.1≤p.code.length∧q.2.1=l3++jy p.Jn p.Jo pl (p.code.take q.1) 0) (fun q=>p.code.length - q.1) (⟨0,l3,X3⟩) ?_ ?_ ?_ ?_
   ·exact⟨au _,(ax l3).symm⟩
   ·exact Zwk
   ·exact Zu
   rintro⟨k,l4,X4⟩ ⟨hk,hl4⟩;dsimp only at hk hl4⊢;have hml:=rA p.Jn p.Jo pl (p.code.take k) 0;have hl4n:l4.length≤2000:=(by rw[hl4,ae,hl3n];rw[aC]at hml;omega);refine Z_6 ?_;refine ZW ?_ ?_<;>intro hc8
   ·simp only[ak]at hc8;have hkl:k<p.code.length:=Wq1;obtain⟨ad,had⟩:=hrc.some_ Wq1;have hrc2:=hrc;rw[had]at hrc2;obtain⟨x,hx⟩:∃x,p.code[k]? =some x:=⟨_,ai hkl⟩;have hu:=u1 k x hx;have hmk:l3++jy p.Jn p.Jo pl (p.code.take (k+1)) 0=l4++pi p.Jn p.Jo pl k x:=(by rw[List.take_add_one,hx,hl4];show l3++jy _ _ _ (p.code.take k++[x]) 0=_;rw[tK,ap,bl,aC,Nat.min_eq_left Wq1]);obtain⟨op,dst,xa,xb,imm⟩:=x;dsimp only at hu;have hab:(op==3)=true∨(op==4)=true→∃na nb:Nat,xa=na∧xb=nb∧(na<pl.reg.length∧na<pl.slot.length)∧(nb<pl.reg.length∧nb<pl.slot.length):=(fun ho=>by obtain⟨⟨a1,a2⟩,a3,a4⟩:=hu (by unfold kq;rcases ho with ho|ho<;>rw[ho];exact Bool.true_or _;exact Bool.or_true _);exact⟨xa.toNat,xb.toNat,by omega,by omega,⟨by omega,by omega⟩,by omega,by omega⟩);refine Z_7 ?_;refine Zy (eK (j:=k) had rfl Zrf Zv0 Zv0 Zrf (fun _=>hkl)) ?_;refine dL (cn (vs:=[.int .i64 op,.int .i64 dst,.int .i64 xa,.int .i64 xb,.int .u32 imm]) Zrf Zrf Zv0) (fv hrc2 (fun j v hj=>fB (f:=II.cells) Zrf (i:=j) hx hj)) rfl ?_;refine ZN fun b8=>?_
    refine ZA ?_;refine ZM ?_;refine Z_6 ?_;refine ZcL (cdF (⟨b21,p,Q,pl,Ar,cr,As,c2⟩:CdS) l4 f3 X4) (fun w hi hin=>cone_ok (⟨b21,p,Q,pl,Ar,cr,As,c2⟩:CdS) l4 f3 X4 Wq1 k op dst xa xb imm (by show k<pl.reg.length;omega) (by show k<pl.slot.length;omega) hab w hin (fun w' hk=>(⟨de (hi.JY Zi (show Has _ (sl .i64 3 Ar pl.reg.length cr pl.reg)from Zh) hk),de (hi.JY Zi (show Has _ (sl .i64 3 As pl.slot.length c2 pl.slot)from Zh) hk),RdV.JG h.Jw hi Zi hk,RdV.JG h.Jx hi Zi hk,RdV.JG h.code hi Zi hk⟩:FR (⟨b21,p,Q,pl,Ar,cr,As,c2⟩:CdS) w'))) ?_;rintro _ _ ⟨_,⟨l5,X5,hl5,rfl⟩,rfl⟩;refine Z_4 ?_;refine Wq8 ?_;refine bY ((⟨k+1,l5,X5⟩:Nat×List HI×CAd)) ?_ ?_ ?_
    ·exact⟨⟨by omega,by dsimp only;rw[hmk,hl5]⟩,by dsimp only;omega⟩
    ·exact Zwk
    exact Zj
   simp only[ah]at hc8;obtain rfl:k=p.code.length:=by omega
   rw[bA]at hl4;refine Z_7 ?_;have hs1:=mF pl 14 4 2 p.Jw;have hs2:=mF pl 13 20 3 p.Jx;have hoj:∀j,j∈p.Jw∨j∈p.Jx→∃n:Nat,j=n∧n<pl.reg.length∧n<pl.slot.length:=(fun j hj=>by obtain⟨a1,a2⟩:=u2 j hj;exact⟨j.toNat,by omega,by omega,by omega⟩);refine Z_3 ?_;refine ZcL (cdF (⟨b21,p,Q,pl,Ar,cr,As,c2⟩:CdS) l4 f3 X4) (fun w hi hin=>xk (⟨b21,p,Q,pl,Ar,cr,As,c2⟩:CdS) l4 f3 X4 Wq1 14 4 2 Q.Ad Q.cd p.Jw Wq1 (fun j hj=>hoj j (Or.inl hj)) w hin (fun w' hk=>(⟨de (hi.JY Zi (show Has _ (sl .i64 3 Ar pl.reg.length cr pl.reg)from Zh) hk),de (hi.JY Zi (show Has _ (sl .i64 3 As pl.slot.length c2 pl.slot)from Zh) hk),RdV.JG h.Jw hi Zi hk,RdV.JG h.Jx hi Zi hk,RdV.JG h.code hi Zi hk⟩:FR (⟨b21,p,Q,pl,Ar,cr,As,c2⟩:CdS) w')) (fun w' hk=>RdV.JG h.Jw hi Zi hk)) ?_;rintro _ _ ⟨_,⟨l6,X6,hl6,rfl⟩,rfl⟩;refine Z_4 ?_;have hl6n:l6.length≤4000:=(by rw[hl6,ae];show l4.length+(gS pl 14 4 2 p.Jw).length≤4000;omega);refine Z_3 ?_;refine ZcL (cdF (⟨b21,p,Q,pl,Ar,cr,As,c2⟩:CdS) l6 f3 X6) (fun w hi hin=>xk (⟨b21,p,Q,pl,Ar,cr,As,c2⟩:CdS) l6 f3 X6 Wq1 13 20 3 Q.Ar Q.cr p.Jx Wq1 (fun j hj=>hoj j (Or.inr hj)) w hin (fun w' hk=>(⟨de (hi.JY Zi (show Has _ (sl .i64 3 Ar pl.reg.length cr pl.reg)from Zh) hk),de (hi.JY Zi (show Has _ (sl .i64 3 As pl.slot.length c2 pl.slot)from Zh) hk),RdV.JG h.Jw hi Zi hk,RdV.JG h.Jx hi Zi hk,RdV.JG h.code hi Zi hk⟩:FR (⟨b21,p,Q,pl,Ar,cr,As,c2⟩:CdS) w')) (fun w' hk=>RdV.JG h.Jx hi Zi hk)) ?_;rintro _ _ ⟨_,⟨l7,X7,hl7,rfl⟩,rfl⟩;refine Z_3 ?_;have hl7n:l7.length≤8000:=(by rw[hl7,ae];show l6.length+(gS pl 13 20 3 p.Jx).length≤8000;omega);have hl7e:l7=qc p 0++iz p pl:=(by rw[hl7,hl6,hl4,hl3h];unfold iz;simp only[ap]);refine ZA ?_;refine ZcL (cdF (⟨b21,p,Q,pl,Ar,cr,As,c2⟩:CdS) l7 f3 X7) (fun w hi hin=>cend_ok (⟨b21,p,Q,pl,Ar,cr,As,c2⟩:CdS) l7 f3 X7 Wq1 (fun h0=>⟨p.flags.toNat,by show p.flags=_;have h0:0≤p.flags:=h0;omega,by show _<pl.reg.length;have h0:0≤p.flags:=h0;have:=u3 h0;omega,by show _<pl.slot.length;have h0:0≤p.flags:=h0;have:=u3 h0;omega⟩) (fun h0=>⟨p.target.toNat,by show p.target=_;have h0:0≤p.target:=h0;omega,by show _<pl.reg.length;have h0:0≤p.target:=h0;have:=u4 h0;omega,by show _<pl.slot.length;have h0:0≤p.target:=h0;have:=u4 h0;omega⟩) w hin (fun w' hk=>(⟨de (hi.JY Zi (show Has _ (sl .i64 3 Ar pl.reg.length cr pl.reg)from Zh) hk),de (hi.JY Zi (show Has _ (sl .i64 3 As pl.slot.length c2 pl.slot)from Zh) hk),RdV.JG h.Jw hi Zi hk,RdV.JG h.Jx hi Zi hk,RdV.JG h.code hi Zi hk⟩:FR (⟨b21,p,Q,pl,Ar,cr,As,c2⟩:CdS) w'))) ?_;rintro _ _ ⟨_,⟨l8,X8,hl8,rfl⟩,rfl⟩;refine Zn ?_;refine bY (((l8,f3,X8):List HI×List Int×CAd)) ?_ ?_ ?_
   ·exact⟨by dsimp only;rw[hl8,show l7.length=17+(iz p pl).length by rw[hl7e,ae];rfl];unfold fh;rw[hroom,hrr,ac,ac,hl7e,ap],by dsimp only;rw[hf3n];unfold qh;rw[hroom,hrr];rfl⟩
   ·exact Zwk
   exact Zj
  obtain rfl:rr=false:=(by simpa using hc6);refine Zc ?_;refine bY (((l3,f3,X3):List HI×List Int×CAd)) ?_ ?_ ?_
  ·exact⟨by dsimp only;rw[hl3,hl2,hl1];unfold fh;rw[hroom,hrr];rfl,by dsimp only;rw[hf3,hf2n];unfold qh;rw[hroom,hrr];rfl⟩
  ·exact Zwk
  exact Zj
 rintro⟨l9,f9,⟨Al,cl,Af,cf⟩⟩ ⟨hb9,hf9⟩;dsimp only at hb9 hf9⊢;rw[←hb9]at hpb hcode hfx;rw[←hf9]at hpb hfx;have hl9n:=hbl 0;rw[←hb9]at hl9n;have hf9n:f9.length≤4:=(by rw[hf9];unfold qh;cases p.JW<;>cases p.J4<;>simp);obtain⟨B9,hB9⟩:=Zgn (fh p pl (IntKind.u32.wrap ((l9.length:Nat):Int)));rw[hB9]at hpb hcode;refine gE ?_;refine cw (fun q:Nat×List HI=>[(6,.pointer (some ⟨b21,0,none⟩)),(70,.slice Af f9.length cf),(71,.int .i64 f9.length),(72,.int .i64 (q.1:Int))]) (fun q=>[row b21 (ny (⟨b21,p,Q,pl,Ar,cr,As,c2⟩:CdS) q.2.length f9.length (⟨Al,cl,Af,cf⟩:CAd)) 291,hiC (⟨Al,cl,Af,cf⟩:CAd).Al (⟨Al,cl,Af,cf⟩:CAd).cl q.2,sl .i64 3 (⟨Al,cl,Af,cf⟩:CAd).Af f9.length (⟨Al,cl,Af,cf⟩:CAd).cf f9]) (fun q=>q.1≤f9.length∧q.2.length=l9.length∧mN (IntKind.u32.wrap (l9.length:Int)) (f9.drop q.1) q.2=B9) (fun q=>f9.length - q.1) (⟨0,l9⟩) ?_ ?_ ?_ ?_
 ·exact⟨au _,rfl,hpb⟩
 ·exact Zwk
 ·exact Zu
 rintro⟨k,m⟩ ⟨hk,hml,hP⟩;dsimp only at hk hml hP⊢;refine Z_6 ?_;refine ZW ?_ ?_<;>intro hc16
 ·simp only[ak]at hc16;have hkl:k<f9.length:=Wq1;obtain⟨i,hx⟩:∃i,f9[k]? =some i:=⟨_,ai hkl⟩;obtain⟨n,rfl,hn⟩:=hfx i (aI hx);rw[jg hx]at hP;have hP:mN (IntKind.u32.wrap (l9.length:Int)) (f9.drop (k+1)) (m.set n ((m.getD n HI.zero).imm' (IntKind.u32.wrap (l9.length:Int))))=B9:=hP;refine Z_6 ?_;refine fq (fun w hi=>gU (hi.get (show Has _ (hiC Al cl m)from Zh)) Wq1) (fun h1=>?_);refine fq (fun w hi=>fM (hi.get (show Has _ (sl .i64 3 Af f9.length cf f9)from Zh)) Wq1) (fun h2=>?_);obtain⟨ba,rfl⟩:=h1;obtain⟨bf,rfl⟩:=h2;refine Zy (cU (j:=k) rfl Zrf (Zv rfl) (Zv rfl) Wq4 Wq4) ?_;refine dL (bO Zrf Zv0) (oY Zh (cQ hx)) rfl ?_;refine Z_3 ?_;refine bR ⟨fun j=>List.elem j [13],[]⟩ Zk ?_;refine gn ?_;refine ZFe 2 17 ?_;refine ZG 3 ?_;refine ZE 4 ?_;refine ZE 5 ?_;refine ZE 6 ?_;refine ZFe 7 17 ?_;refine ZG 8 ?_;refine ZE 9 ?_;refine cD 10 rfl Zk Zk Zk (bW rfl rfl (Zv rfl) (show _=IntKind.u32.wrap (l9.length:Int)from by rw[hml])) rfl ?_;refine cD 11 rfl Zk Zk Zk (cu (bb:=ba) (o:=0) (n:=m.length) (c:=cl) (j:=n) (sz:=5) (r:=n*5) rfl Zrf (Zv rfl) (Zv rfl) Zrf Wq4 Wq1) rfl ?_;refine ZFe 12 4 ?_;refine ce 13 Zk ?_;refine dp rfl rfl (uC Zrf rfl rfl rfl Za Wq1) ZJ ?_;rintro _ _ ⟨rfl,rfl⟩;rw[EB m n _ Wq1,show m.length=(m.set n ((m.getD n HI.zero).imm' (IntKind.u32.wrap (l9.length:Int)))).length by rw[aG]];refine dr ?_;refine Z_3 ?_;refine Wq8 ?_;refine bY ((⟨k+1,m.set n ((m.getD n HI.zero).imm' (IntKind.u32.wrap (l9.length:Int)))⟩:Nat×List HI)) ?_ ?_ ?_
  ·exact⟨⟨by omega,by dsimp only;rw[aG,hml],hP⟩,by dsimp only;omega⟩
  ·exact Zwk
  exact Zj
 simp only[ah]at hc16;obtain rfl:k=f9.length:=by omega
 rw[List.drop_length]at hP;obtain rfl:m=B9:=hP;refine Z_9 ?_;refine fb (da rfl rfl Zrf Zrf rfl rfl rfl) rfl ?_;rintro _ _ ⟨b92,rfl,rfl⟩;refine ZcL (cdF (⟨b21,p,Q,pl,Ar,cr,As,c2⟩:CdS) m f9 ⟨Al,cl,Af,cf⟩) (fun w hi hin=>jW (⟨b21,p,Q,pl,Ar,cr,As,c2⟩:CdS) m f9 ⟨Al,cl,Af,cf⟩ Wq1 [⟨19,0,0,0,2⟩] (some ⟨b92,0,none⟩) 1 cJ w hin (fun w' hk=>de (hi.JY Zi (show Has _ (slv 298 5 (some ⟨b92,0,none⟩) 1 1 ([⟨19,0,0,0,2⟩].flatMap HI.cells))from Zh) hk))) ?_;rintro _ _ ⟨_,⟨l10,X10,hl10,rfl⟩,rfl⟩;obtain rfl:l10=C9:=(by rw[hl10,hcode]);refine Z_8 ?_;refine ZS (fun w hi=>hJ X10.Al X10.cl w (de (hi.get (show Has _ (hiC X10.Al X10.cl l10)from Zh)))) ?_;rintro _ _ ⟨_,⟨A7,c7,rfl,rfl⟩,rfl⟩;refine Z_7 ?_;refine rc (cs':=[sl .u8 5 A7 (cF l10).length c7 (cF l10)]) (.inl rfl) Zu rfl rfl rfl ?_;exact⟨A7,c7,rfl,rfl⟩
theorem Fa(p:Pg)(Q:PAd)(hf:qj p)(hr:p.JB=true)(hg:ga (gm p (dJ p)))(hroom:p.JW=false)(w:World)(h:AK p Q w):
  Ctr prog 129 [pgv p Q] w [] (fun r cs=>∃A c,r= .tuple #[.slice A (cF (gm p (dJ p))).length c,.int .i64 0]∧cs=[sl .u8 5 A (cF (gm p (dJ p))).length c (cF (gm p (dJ p)))]):=by
 have hm64:=hf.JF;have hoD:=hf.Jw;have hoR:=hf.Jx;have hrc:=h.code;obtain⟨u1,u2,u3,u4⟩:=o3 hr;obtain⟨hnD,hnR,hhD,hhR⟩:=tP hr;obtain⟨hrl,hsl⟩:(dJ p).reg.length=p.code.length∧(dJ p).slot.length=p.code.length:=lT (gi p) 7 p.code.length p.code.length;obtain⟨pl,hpl⟩:=Zgn (dJ p);rw[hpl]at hg hrl hsl⊢;have hAl:=xA p Q hf hr pl hpl;have hbl:=fun e=>vx p pl e hm64 hoD hoR
 have hpb:=tG p pl (IntKind.u32.wrap ((fh p pl 0).length:Nat));have hfx:=I6 p pl;have hcode:gm p pl=fh p pl (IntKind.u32.wrap ((fh p pl 0).length:Nat))++[⟨19,0,0,0,2⟩]:=rfl;obtain⟨C9,hC9⟩:=Zgn (gm p pl);rw[hC9]at hg hcode⊢;have hC9l:C9.length≤100000:=by have:=hbl (IntKind.u32.wrap ((fh p pl 0).length:Nat));rw[hcode,ae,aj,ao];omega
 have hJ:=fun A c w h=>zT A c C9 hg hC9l w h
 refine bL func129 rfl ntmps129 rfl (Inv.start w) ?_;refine Z_2 ?_;refine ZO fun b1=>?_;refine Z_7 ?_;refine ZS (fun w hi=>hAl w (h.Jz hi)) ?_;rintro _ _ ⟨_,⟨Ar,cr,As,c2,rfl,rfl⟩,rfl⟩;refine Z_3 ?_;refine ZN fun b4=>?_
 refine ZM ?_;refine dS ?_;refine gx ?_;refine Z_7 ?_;refine ZO fun b21=>?_
 refine Z_5 ?_;refine dy 298 5 ?_;refine dy 3 1 ?_;refine ZA ?_;refine ZcL (cdF (⟨b21,p,Q,pl,Ar,cr,As,c2⟩:CdS) [] [] ⟨none,0,none,0⟩) (fun w hi hin=>kb (⟨b21,p,Q,pl,Ar,cr,As,c2⟩:CdS) [] [] ⟨none,0,none,0⟩ cJ 15 0 w hin) ?_;rintro _ _ ⟨_,⟨l1,X1,hl1,rfl⟩,rfl⟩;refine Z_2 ?_;refine cW (fun q:List HI×List Int×CAd=>[(6,.pointer (some ⟨b21,0,none⟩))]) (fun q=>[row b21 (ny (⟨b21,p,Q,pl,Ar,cr,As,c2⟩:CdS) q.1.length q.2.1.length q.2.2) 291,hiC q.2.2.Al q.2.2.cl q.1,sl .i64 3 q.2.2.Af q.2.1.length q.2.2.cf q.2.1]) (fun q=>q.1=fh p pl 0∧q.2.1=qh p) ?_ ?_
 ·refine dS ?_;refine ZcL (cdF (⟨b21,p,Q,pl,Ar,cr,As,c2⟩:CdS) l1 [] X1) (fun w hi hin=>sf (⟨b21,p,Q,pl,Ar,cr,As,c2⟩:CdS) l1 [] X1 (by rw[hl1];simp) 14 2 p.Jn p.JK p.Jw.length false hroom ⟨by omega,by omega⟩ ⟨by omega,by omega⟩ Wq1 cJ w hin) ?_;rintro _ _ ⟨_,⟨rfl,l2,f2,X2,hl2,hf2,rfl⟩,rfl⟩;refine ZA ?_;refine Wq15 ?_;refine Wq15 ?_;refine dZ (bZ rfl rfl) rfl rfl ?_;refine Zy (CC (q:=false) (Zv rfl) ⟨_,rfl,fun _ e=>by simp at e⟩) ?_;refine Z_2 ?_;refine gx ?_;refine Zc ?_;refine bY (((l2,f2,X2):List HI×List Int×CAd)) ?_ ?_ ?_
  ·exact⟨by dsimp only;rw[hl2,hl1];unfold fh;rw[hroom];rfl,by dsimp only;rw[hf2];unfold qh;rw[hroom];rfl⟩
  ·exact Zwk
  exact Zj
 rintro⟨l9,f9,⟨Al,cl,Af,cf⟩⟩ ⟨hb9,hf9⟩;dsimp only at hb9 hf9⊢;rw[←hb9]at hpb hcode hfx;rw[←hf9]at hpb hfx;have hl9n:=hbl 0;rw[←hb9]at hl9n;have hf9n:f9.length≤4:=(by rw[hf9];unfold qh;cases p.JW<;>cases p.J4<;>simp);obtain⟨B9,hB9⟩:=Zgn (fh p pl (IntKind.u32.wrap ((l9.length:Nat):Int)));rw[hB9]at hpb hcode;refine gE ?_;refine cw (fun q:Nat×List HI=>[(6,.pointer (some ⟨b21,0,none⟩)),(70,.slice Af f9.length cf),(71,.int .i64 f9.length),(72,.int .i64 (q.1:Int))]) (fun q=>[row b21 (ny (⟨b21,p,Q,pl,Ar,cr,As,c2⟩:CdS) q.2.length f9.length (⟨Al,cl,Af,cf⟩:CAd)) 291,hiC (⟨Al,cl,Af,cf⟩:CAd).Al (⟨Al,cl,Af,cf⟩:CAd).cl q.2,sl .i64 3 (⟨Al,cl,Af,cf⟩:CAd).Af f9.length (⟨Al,cl,Af,cf⟩:CAd).cf f9]) (fun q=>q.1≤f9.length∧q.2.length=l9.length∧mN (IntKind.u32.wrap (l9.length:Int)) (f9.drop q.1) q.2=B9) (fun q=>f9.length - q.1) (⟨0,l9⟩) ?_ ?_ ?_ ?_
 ·exact⟨au _,rfl,hpb⟩
 ·exact Zwk
 ·exact Zu
 rintro⟨k,m⟩ ⟨hk,hml,hP⟩;dsimp only at hk hml hP⊢;refine Z_6 ?_;refine ZW ?_ ?_<;>intro hc16
 ·simp only[ak]at hc16;have hkl:k<f9.length:=Wq1;obtain⟨i,hx⟩:∃i,f9[k]? =some i:=⟨_,ai hkl⟩;obtain⟨n,rfl,hn⟩:=hfx i (aI hx);rw[jg hx]at hP;have hP:mN (IntKind.u32.wrap (l9.length:Int)) (f9.drop (k+1)) (m.set n ((m.getD n HI.zero).imm' (IntKind.u32.wrap (l9.length:Int))))=B9:=hP;refine Z_6 ?_;refine fq (fun w hi=>gU (hi.get (show Has _ (hiC Al cl m)from Zh)) Wq1) (fun h1=>?_);refine fq (fun w hi=>fM (hi.get (show Has _ (sl .i64 3 Af f9.length cf f9)from Zh)) Wq1) (fun h2=>?_);obtain⟨ba,rfl⟩:=h1;obtain⟨bf,rfl⟩:=h2;refine Zy (cU (j:=k) rfl Zrf (Zv rfl) (Zv rfl) Wq4 Wq4) ?_;refine dL (bO Zrf Zv0) (oY Zh (cQ hx)) rfl ?_;refine Z_3 ?_;refine bR ⟨fun j=>List.elem j [13],[]⟩ Zk ?_;refine gn ?_;refine ZFe 2 17 ?_;refine ZG 3 ?_;refine ZE 4 ?_;refine ZE 5 ?_;refine ZE 6 ?_;refine ZFe 7 17 ?_;refine ZG 8 ?_;refine ZE 9 ?_;refine cD 10 rfl Zk Zk Zk (bW rfl rfl (Zv rfl) (show _=IntKind.u32.wrap (l9.length:Int)from by rw[hml])) rfl ?_;refine cD 11 rfl Zk Zk Zk (cu (bb:=ba) (o:=0) (n:=m.length) (c:=cl) (j:=n) (sz:=5) (r:=n*5) rfl Zrf (Zv rfl) (Zv rfl) Zrf Wq4 Wq1) rfl ?_;refine ZFe 12 4 ?_;refine ce 13 Zk ?_;refine dp rfl rfl (uC Zrf rfl rfl rfl Za Wq1) ZJ ?_;rintro _ _ ⟨rfl,rfl⟩;rw[EB m n _ Wq1,show m.length=(m.set n ((m.getD n HI.zero).imm' (IntKind.u32.wrap (l9.length:Int)))).length by rw[aG]];refine dr ?_;refine Z_3 ?_;refine Wq8 ?_;refine bY ((⟨k+1,m.set n ((m.getD n HI.zero).imm' (IntKind.u32.wrap (l9.length:Int)))⟩:Nat×List HI)) ?_ ?_ ?_
  ·exact⟨⟨by omega,by dsimp only;rw[aG,hml],hP⟩,by dsimp only;omega⟩
  ·exact Zwk
  exact Zj
 simp only[ah]at hc16;obtain rfl:k=f9.length:=by omega
 rw[List.drop_length]at hP;obtain rfl:m=B9:=hP;refine Z_9 ?_;refine fb (da rfl rfl Zrf Zrf rfl rfl rfl) rfl ?_;rintro _ _ ⟨b92,rfl,rfl⟩;refine ZcL (cdF (⟨b21,p,Q,pl,Ar,cr,As,c2⟩:CdS) m f9 ⟨Al,cl,Af,cf⟩) (fun w hi hin=>jW (⟨b21,p,Q,pl,Ar,cr,As,c2⟩:CdS) m f9 ⟨Al,cl,Af,cf⟩ Wq1 [⟨19,0,0,0,2⟩] (some ⟨b92,0,none⟩) 1 cJ w hin (fun w' hk=>de (hi.JY Zi (show Has _ (slv 298 5 (some ⟨b92,0,none⟩) 1 1 ([⟨19,0,0,0,2⟩].flatMap HI.cells))from Zh) hk))) ?_;rintro _ _ ⟨_,⟨l10,X10,hl10,rfl⟩,rfl⟩;obtain rfl:l10=C9:=(by rw[hl10,hcode]);refine Z_8 ?_;refine ZS (fun w hi=>hJ X10.Al X10.cl w (de (hi.get (show Has _ (hiC X10.Al X10.cl l10)from Zh)))) ?_;rintro _ _ ⟨_,⟨A7,c7,rfl,rfl⟩,rfl⟩;refine Z_7 ?_;refine rc (cs':=[sl .u8 5 A7 (cF l10).length c7 (cF l10)]) (.inl rfl) Zu rfl rfl rfl ?_;exact⟨A7,c7,rfl,rfl⟩
theorem Ie(p:Pg)(Q:PAd)(hf:qj p)(hr:p.JB=true)(hg:ga (gm p (dJ p)))(w:World)(h:AK p Q w):
  Ctr prog 129 [pgv p Q] w [] (fun r cs=>∃A c,r= .tuple #[.slice A (cF (gm p (dJ p))).length c,.int .i64 0]∧cs=[sl .u8 5 A (cF (gm p (dJ p))).length c (cF (gm p (dJ p)))]):=by
 cases hroom:p.JW with
 |true=>exact E8 p Q hf hr hg hroom w h
 |false=>exact Fa p Q hf hr hg hroom w h
end Go.Proofs.YtakodpimdalajaaGreatDoor
namespace Go.Ink
open Go.RowKit
structure LAd where
 Ac:Option Addr
 cc:Nat
 Ad:Option Addr
 cd:Nat
 Ar:Option Addr
 cr:Nat
structure Lw.sm(L:Lw)(n:Nat):Prop where
 code:L.code.length≤n
 dl:L.d.l.length≤n
 rl:L.r.l.length≤n
 dn:0≤L.d.Jp∧L.d.Jp≤n
 rn:0≤L.r.Jp∧L.r.Jp≤n
abbrev yv(N:Int)(L:Lw)(X:LAd):List Value:=[.slice X.Ac L.code.length X.cc,.int .i64 0,.int .i64 0,.int .i64 0,.int .i64 0,.slice none 0 0,.slice none 0 0,.int .i64 L.flags,.int .u32 0,.int .i64 L.target,.int .i64 L.branch,.int .u32 0,.int .i64 N,.int .i64 0,
 .slice X.Ad L.d.l.length X.cd,.int .i64 L.d.Jp,.int .i64 L.d.high,.int .i64 1,.slice X.Ar L.r.l.length X.cr,.int .i64 L.r.Jp,.int .i64 L.r.high,.int .i64 2]
theorem one5(a b c d e:Int):∀u∈([.int .i64 a,.int .i64 b,.int .i64 c,.int .i64 d,.int .u32 e]:List Value),u.oneCell'=true:=fun u h=>by
 simp only[aK,aY,or_false]at h;rcases h with rfl|rfl|rfl|rfl|rfl<;>rfl
theorem Er(c:List II)(x:II):c.flatMap II.cells++[.int .i64 x.op,.int .i64 x.dst,.int .i64 x.a,.int .i64 x.b,.int .u32 x.imm]=(c++[x]).flatMap II.cells:=by simp
theorem CX(h l:Int):(if l>h then l else h)=max h l:=by rw[Int.max_def];split<;>split<;>omega
end Go.Ink
namespace Go.Proofs.YtakodpimdalajaaGreatDoor
open Go.RowKit Go.Ink Go.Proofs.Tryz
attribute [local irreducible] OpY bP
abbrev lwF(b:Nat)(N:Int)(L:Lw)(X:LAd):List bJ:=[row b (yv N L X) 280,slv 294 5 X.Ac L.code.length X.cc (L.code.flatMap II.cells),sl .i64 3 X.Ad L.d.l.length X.cd L.d.l,sl .i64 3 X.Ar L.r.l.length X.cr L.r.l]
theorem mc(b:Nat)(N:Int)(L:Lw)(X:LAd)(hs:L.sm 1000)(op dst a b2 imm:Int)(w:World)(hi:Inv w (bK (lwF b N L X)) (lwF b N L X) w):
  Ctr prog 215 [.pointer (some ⟨b,0,none⟩),.agg #[.int .i64 op,.int .i64 dst,.int .i64 a,.int .i64 b2,.int .u32 imm]] w (lwF b N L X) (fun v9 cs=>v9= .int .i64 L.here∧∃C A c,C=L.code++[⟨op,L.code.length,a,b2,imm⟩]∧cs=lwF b N ⟨C,L.d,L.r,L.flags,L.target,L.branch⟩ ⟨A,c,X.Ad,X.cd,X.Ar,X.cr⟩):=by
 have hc:=hs.code;obtain⟨Ac,cc,Ad,cd,Ar,cr⟩:=X;have hsn:=Er L.code ⟨op,L.code.length,a,b2,imm⟩;dsimp only at hsn;refine bL func215 rfl ntmps215 rfl hi ?_;refine Z_2 ?_;refine ZO fun b3=>?_;refine gE ?_;refine ZL ?_;refine Z_3 ?_;refine bR ⟨fun j=>List.elem j [8,12],qY b3 [.int .i64 op,.int .i64 L.code.length,.int .i64 a,.int .i64 b2,.int .u32 imm]⟩ Zk ?_;refine gn ?_;refine ZE 2 ?_;refine ZFe 3 0 ?_;refine ZFe 4 0 ?_;refine ZG 5 ?_;refine s6 6 rfl Zk Zk Zk (cn Zrf Zrf Zv0) (fun x hx=>fY x hx) (bQ (t:=294) Zh) rfl ?_;refine ce 7 Zk ?_;refine iZ rfl rfl (da rfl rfl Zrf Zrf rfl rfl rfl) (fun _=>by rintro _ _ ⟨b19,rfl,rfl⟩;exact bQ (t:=294) Zh) rfl ?_;rintro _ _ ⟨b19,rfl,rfl⟩;refine ce 8 Zk ?_;refine iZ rfl rfl (cC (e:=294) (sz:=5) (bytes:=40) rfl rfl Za rfl rfl (fun w hi=>hi.rd (show Has _ (slv 294 5 (some ⟨b19,0,none⟩) 1 1 [.int .i64 op,.int .i64 L.code.length,.int .i64 a,.int .i64 b2,.int .u32 imm])from Zh)) (one5 _ _ _ _ _) g9 Wq1) (fun _=>by rintro _ _ ⟨A2,c2,rfl,rfl⟩;exact bQ (t:=294) Zh) rfl ?_;rintro _ _ ⟨A2,c2,rfl,rfl⟩;rw[hsn,show L.code.length+1=(L.code++[(⟨op,L.code.length,a,b2,imm⟩:II)]).length by simp];refine ZE 9 ?_;refine ZFe 10 0 ?_;refine ZFe 11 0 ?_;refine ce 12 Zk ?_;refine dp rfl rfl (fc Zrf rfl rfl rfl Za Zp) (fun _=>by rintro _ _ ⟨rfl,rfl⟩;exact bQ (t:=294) Zh) ?_;rintro _ _ ⟨rfl,rfl⟩;refine dr ?_;refine Z_9 ?_;refine Zrb (lwF b N ⟨L.code++[⟨op,L.code.length,a,b2,imm⟩],L.d,L.r,L.flags,L.target,L.branch⟩ ⟨A2,c2,Ad,cd,Ar,cr⟩) ?_;exact⟨rfl,_,_,_,rfl,rfl⟩
theorem oA(b:Nat)(N:Int)(L:Lw)(X:LAd)(hs:L.sm 1000)(n:Int)(w:World)(hi:Inv w (bK (lwF b N L X)) (lwF b N L X) w):
  Ctr prog 213 [.pointer (some ⟨b,0,none⟩),.int .u32 n] w (lwF b N L X) (fun v9 cs=>v9= .int .i64 L.here∧∃C A c,C=L.code++[⟨0,L.code.length,0,0,n⟩]∧cs=lwF b N ⟨C,L.d,L.r,L.flags,L.target,L.branch⟩ ⟨A,c,X.Ad,X.cd,X.Ar,X.cr⟩):=by
 refine bL func213 rfl ntmps213 rfl hi ?_;refine dS ?_;refine ZcL (lwF b N L X) (fun w hi hin=>mc b N L X hs 0 0 0 0 n w hin) ?_;rintro _ _ ⟨_,⟨rfl,C2,A2,c2,hC2,rfl⟩,rfl⟩;refine Z_4 ?_;refine Zrb (lwF b N ⟨C2,L.d,L.r,L.flags,L.target,L.branch⟩ ⟨A2,c2,X.Ad,X.cd,X.Ar,X.cr⟩) ?_;exact⟨rfl,C2,A2,c2,hC2,rfl⟩
theorem D4(b:Nat)(N:Int)(code:List II)(r:Sd)(l:List Int)(x Jp high fl tg br:Int)(Ac:Option Addr)(cc:Nat)(Ad:Option Addr)(cd:Nat)(Ar:Option Addr)(cr:Nat)(hl:l.length≤1000)(w:World)(hi:Inv w (bK (lwF b N ⟨code,⟨l++[x],Jp,high⟩,r,fl,tg,br⟩ ⟨Ac,cc,Ad,cd,Ar,cr⟩)) (lwF b N ⟨code,⟨l++[x],Jp,high⟩,r,fl,tg,br⟩ ⟨Ac,cc,Ad,cd,Ar,cr⟩) w):
  Ctr prog 214 [.pointer (some ⟨b,0,none⟩),.pointer (some ⟨b,14,none⟩)] w (lwF b N ⟨code,⟨l++[x],Jp,high⟩,r,fl,tg,br⟩ ⟨Ac,cc,Ad,cd,Ar,cr⟩) (fun v9 cs=>v9= .int .i64 x∧cs=lwF b N ⟨code,⟨l,Jp,high⟩,r,fl,tg,br⟩ ⟨Ac,cc,Ad,cd,Ar,cr⟩):=by
 have hrd:=de (hi.get (show Has _ (sl .i64 3 Ad (l++[x]).length cd (l++[x]))from(.tail _ (.tail _ (.head _ _)))));have hcap:(l++[x]).length≤cd:=hrd.cap;have hlen:(l++[x]).length=l.length+1:=by simp
 obtain⟨bd,rfl⟩:=fM (hi.get (show Has _ (sl .i64 3 Ad (l++[x]).length cd (l++[x]))from(.tail _ (.tail _ (.head _ _))))) Wq1;refine bL func214 rfl ntmps214 rfl hi ?_;refine jA ?_;refine Zy (dY (Zv rfl) (Zv rfl) (show _=(l.length:Int)from by rw[hlen];exact IntWalk.i64_in _ ⟨by omega,by omega⟩|>.trans Wq1)) ?_;refine Z_9 ?_;refine bU rfl ((ay Wq1)) ?_;refine Z_7 ?_;refine Zy (cu (bb:=bd) (o:=0) (n:=(l++[x]).length) (c:=cd) (j:=l.length) (sz:=1) (r:=l.length) rfl Zrf (Zv rfl) (Zv rfl) Zrf Wq4 Wq1) ?_;refine dL (bO Zrf Zv0) (du Zh (cQ (qm l x))) rfl ?_;refine fF ?_;refine Zy (gf (A:=some ⟨bd,0,none⟩) (n:=(l++[x]).length) (c:=cd) l.length rfl Zrf (Zv rfl) (Zv rfl) Zrf Wq4) ?_;refine Z_2 ?_;refine ZL ?_;refine dS ?_;refine j6 (c:=sl .i64 3 (some ⟨bd,0,none⟩) (l++[x]).length cd (l++[x])) (c':=sl .i64 3 (some ⟨bd,0,none⟩) l.length cd l) Za rfl (fun w h=>zj h) ?_;refine Zrb ([row _ _ _,slv _ _ _ _ _ _,slv _ _ _ _ _ _,slv _ _ _ _ _ _]) ?_;exact df
theorem D5(b:Nat)(N:Int)(code:List II)(r:Sd)(Jp high fl tg br:Int)(X:LAd)(hs:Lw.sm ⟨code,⟨[],Jp,high⟩,r,fl,tg,br⟩ 999)(w:World)(hi:Inv w (bK (lwF b N ⟨code,⟨[],Jp,high⟩,r,fl,tg,br⟩ X)) (lwF b N ⟨code,⟨[],Jp,high⟩,r,fl,tg,br⟩ X) w):
  Ctr prog 214 [.pointer (some ⟨b,0,none⟩),.pointer (some ⟨b,14,none⟩)] w (lwF b N ⟨code,⟨[],Jp,high⟩,r,fl,tg,br⟩ X) (fun v9 cs=>v9= .int .i64 code.length∧∃C A c,C=code++[⟨1,code.length,0,0,IntKind.u32.wrap Jp⟩]∧cs=lwF b N ⟨C,⟨[],Jp+1,high⟩,r,fl,tg,br⟩ ⟨A,c,X.Ad,X.cd,X.Ar,X.cr⟩):=by
 obtain⟨h1,h2⟩:=hs.dn;dsimp only at h1 h2;have hs2:Lw.sm ⟨code,⟨[],Jp+1,high⟩,r,fl,tg,br⟩ 1000:=⟨by have:=hs.code;dsimp only at this⊢;omega,by have:=hs.dl;dsimp only at this⊢;omega,by have:=hs.rl;dsimp only at this⊢;omega,by have:=hs.dn;dsimp only at this⊢;omega,by have:=hs.rn;dsimp only at this⊢;omega⟩;have hwr:IntKind.i64.wrap (Jp+1 - 1)=Jp:=by rw[bI];omega
 have hw1:IntKind.i64.wrap (Jp+1)=Jp+1:=by rw[bI];omega
 refine bL func214 rfl ntmps214 rfl hi ?_;refine jA ?_;refine Zy (dY Zv0 Zv0 rfl) ?_;refine Z_9 ?_;refine gx ?_;refine Z_8 ?_;refine Zy (cX Zv0 Zv0 hw1) ?_;refine Z_2 ?_;refine ZL ?_;refine Z_3 ?_;refine bR ⟨fun j=>List.elem j [12],[]⟩ Zk ?_;refine gn ?_;refine ZE 2 ?_;refine ZFe 3 3 ?_;refine ZE 5 ?_;refine ZE 6 ?_;refine ZFe 7 1 ?_;refine j4 4 8 Zk ?_ ?_
 ·refine kg ?_;refine ce 8 Zk ?_;refine kg ?_;refine cD 9 rfl Zk Zk Zk (dY Zv0 Zv0 hwr) rfl ?_;refine cD 10 rfl Zk Zk Zk (bW rfl rfl Zv0 rfl) rfl ?_;refine ZE 11 ?_;refine ce 12 Zk ?_;refine ZcA (lwF b N ⟨code,⟨[],Jp+1,high⟩,r,fl,tg,br⟩ X) (fun w hi hin=>mc b N ⟨code,⟨[],Jp+1,high⟩,r,fl,tg,br⟩ X hs2 1 0 0 0 (IntKind.u32.wrap Jp) w hin) ?_;rintro _ _ ⟨_,⟨rfl,C2,A2,c2,hC2,rfl⟩,rfl⟩;refine ZE 13 ?_;refine dr ?_;refine Z_2 ?_;refine Zrb (lwF b N ⟨C2,⟨[],Jp+1,high⟩,r,fl,tg,br⟩ ⟨A2,c2,X.Ad,X.cd,X.Ar,X.cr⟩) ?_;exact⟨rfl,C2,A2,c2,hC2,rfl⟩
 refine kg ?_;refine cD 9 rfl Zk Zk Zk (dY Zv0 Zv0 hwr) rfl ?_;refine cD 10 rfl Zk Zk Zk (bW rfl rfl Zv0 rfl) rfl ?_;refine ce 4 Zk ?_;refine kg ?_;refine ZE 11 ?_;refine ce 12 Zk ?_;refine ZcA (lwF b N ⟨code,⟨[],Jp+1,high⟩,r,fl,tg,br⟩ X) (fun w hi hin=>mc b N ⟨code,⟨[],Jp+1,high⟩,r,fl,tg,br⟩ X hs2 1 0 0 0 (IntKind.u32.wrap Jp) w hin) ?_;rintro _ _ ⟨_,⟨rfl,C2,A2,c2,hC2,rfl⟩,rfl⟩;refine ZE 13 ?_;refine dr ?_;refine Z_2 ?_;refine Zrb (lwF b N ⟨C2,⟨[],Jp+1,high⟩,r,fl,tg,br⟩ ⟨A2,c2,X.Ad,X.cd,X.Ar,X.cr⟩) ?_;exact⟨rfl,C2,A2,c2,hC2,rfl⟩
theorem G8(b:Nat)(N:Int)(code:List II)(r:Sd)(l:List Int)(Jp high fl tg br:Int)(X:LAd)(hl:l.length≤1000)(hn:0≤Jp∧Jp≤1000)(w:World)(hi:Inv w (bK (lwF b N ⟨code,⟨l,Jp,high⟩,r,fl,tg,br⟩ X)) (lwF b N ⟨code,⟨l,Jp,high⟩,r,fl,tg,br⟩ X) w):
  Ctr prog 216 [.pointer (some ⟨b,14,none⟩)] w (lwF b N ⟨code,⟨l,Jp,high⟩,r,fl,tg,br⟩ X) (fun _ cs=>cs=lwF b N ⟨code,⟨l,Jp,max high ((l.length:Int) - Jp)⟩,r,fl,tg,br⟩ X):=by
 have hwt:IntKind.i64.wrap ((l.length:Int) - Jp)=(l.length:Int) - Jp:=by rw[bI];omega
 refine bL func216 rfl ntmps216 rfl hi ?_;refine bR ⟨fun j=>List.elem j [18],[]⟩ Zk ?_;refine gn ?_;refine ZE 2 ?_;refine ZFe 3 2 ?_;refine ZG 4 ?_;refine ZE 5 ?_;refine ZE 6 ?_;refine ZFe 7 0 ?_;refine ZG 8 ?_;refine ZE 9 ?_;refine ZE 10 ?_;refine ZE 11 ?_;refine ZFe 12 1 ?_;refine ZG 13 ?_;refine cD 14 rfl Zk Zk Zk (dY Zv0 Zv0 hwt) rfl ?_;refine cD 15 rfl Zk Zk Zk (vH Zv0 Zv0 (CX high ((l.length:Int) - Jp))) rfl ?_;refine ZE 16 ?_;refine ZFe 17 2 ?_;refine ce 18 Zk ?_;refine ZQ ?_;refine dr ?_;refine iF (cs':=[row _ _ _,slv _ _ _ _ _ _,slv _ _ _ _ _ _,slv _ _ _ _ _ _]) (.inr rfl) Zu rfl ?_
 rfl
theorem D2(b:Nat)(N:Int)(code:List II)(d:Sd)(l:List Int)(x Jp high fl tg br:Int)(Ac:Option Addr)(cc:Nat)(Ad:Option Addr)(cd:Nat)(Ar:Option Addr)(cr:Nat)(hl:l.length≤1000)(w:World)(hi:Inv w (bK (lwF b N ⟨code,d,⟨l++[x],Jp,high⟩,fl,tg,br⟩ ⟨Ac,cc,Ad,cd,Ar,cr⟩)) (lwF b N ⟨code,d,⟨l++[x],Jp,high⟩,fl,tg,br⟩ ⟨Ac,cc,Ad,cd,Ar,cr⟩) w):
  Ctr prog 214 [.pointer (some ⟨b,0,none⟩),.pointer (some ⟨b,18,none⟩)] w (lwF b N ⟨code,d,⟨l++[x],Jp,high⟩,fl,tg,br⟩ ⟨Ac,cc,Ad,cd,Ar,cr⟩) (fun v9 cs=>v9= .int .i64 x∧cs=lwF b N ⟨code,d,⟨l,Jp,high⟩,fl,tg,br⟩ ⟨Ac,cc,Ad,cd,Ar,cr⟩):=by
 have hrd:=de (hi.get (show Has _ (sl .i64 3 Ar (l++[x]).length cr (l++[x]))from(.tail _ (.tail _ (.tail _ (.head _ _))))));have hcap:(l++[x]).length≤cr:=hrd.cap;have hlen:(l++[x]).length=l.length+1:=by simp
 obtain⟨bd,rfl⟩:=fM (hi.get (show Has _ (sl .i64 3 Ar (l++[x]).length cr (l++[x]))from(.tail _ (.tail _ (.tail _ (.head _ _)))))) Wq1;refine bL func214 rfl ntmps214 rfl hi ?_;refine jA ?_;refine Zy (dY (Zv rfl) (Zv rfl) (show _=(l.length:Int)from by rw[hlen];exact IntWalk.i64_in _ ⟨by omega,by omega⟩|>.trans Wq1)) ?_;refine Z_9 ?_;refine bU rfl ((ay Wq1)) ?_;refine Z_7 ?_;refine Zy (cu (bb:=bd) (o:=0) (n:=(l++[x]).length) (c:=cr) (j:=l.length) (sz:=1) (r:=l.length) rfl Zrf (Zv rfl) (Zv rfl) Zrf Wq4 Wq1) ?_;refine dL (bO Zrf Zv0) (du Zh (cQ (qm l x))) rfl ?_;refine fF ?_;refine Zy (gf (A:=some ⟨bd,0,none⟩) (n:=(l++[x]).length) (c:=cr) l.length rfl Zrf (Zv rfl) (Zv rfl) Zrf Wq4) ?_;refine Z_2 ?_;refine ZL ?_;refine dS ?_;refine j6 (c:=sl .i64 3 (some ⟨bd,0,none⟩) (l++[x]).length cr (l++[x])) (c':=sl .i64 3 (some ⟨bd,0,none⟩) l.length cr l) Za rfl (fun w h=>zj h) ?_;refine Zrb ([row _ _ _,slv _ _ _ _ _ _,slv _ _ _ _ _ _,slv _ _ _ _ _ _]) ?_;exact df
theorem D3(b:Nat)(N:Int)(code:List II)(d:Sd)(Jp high fl tg br:Int)(X:LAd)(hs:Lw.sm ⟨code,d,⟨[],Jp,high⟩,fl,tg,br⟩ 999)(w:World)(hi:Inv w (bK (lwF b N ⟨code,d,⟨[],Jp,high⟩,fl,tg,br⟩ X)) (lwF b N ⟨code,d,⟨[],Jp,high⟩,fl,tg,br⟩ X) w):
  Ctr prog 214 [.pointer (some ⟨b,0,none⟩),.pointer (some ⟨b,18,none⟩)] w (lwF b N ⟨code,d,⟨[],Jp,high⟩,fl,tg,br⟩ X) (fun v9 cs=>v9= .int .i64 code.length∧∃C A c,C=code++[⟨2,code.length,0,0,IntKind.u32.wrap Jp⟩]∧cs=lwF b N ⟨C,d,⟨[],Jp+1,high⟩,fl,tg,br⟩ ⟨A,c,X.Ad,X.cd,X.Ar,X.cr⟩):=by
 obtain⟨h1,h2⟩:=hs.rn;dsimp only at h1 h2;have hs2:Lw.sm ⟨code,d,⟨[],Jp+1,high⟩,fl,tg,br⟩ 1000:=⟨by have:=hs.code;dsimp only at this⊢;omega,by have:=hs.dl;dsimp only at this⊢;omega,by have:=hs.rl;dsimp only at this⊢;omega,by have:=hs.dn;dsimp only at this⊢;omega,by have:=hs.rn;dsimp only at this⊢;omega⟩;have hwr:IntKind.i64.wrap (Jp+1 - 1)=Jp:=by rw[bI];omega
 have hw1:IntKind.i64.wrap (Jp+1)=Jp+1:=by rw[bI];omega
 refine bL func214 rfl ntmps214 rfl hi ?_;refine jA ?_;refine Zy (dY Zv0 Zv0 rfl) ?_;refine Z_9 ?_;refine gx ?_;refine Z_8 ?_;refine Zy (cX Zv0 Zv0 hw1) ?_;refine Z_2 ?_;refine ZL ?_;refine Z_3 ?_;refine bR ⟨fun j=>List.elem j [12],[]⟩ Zk ?_;refine gn ?_;refine ZE 2 ?_;refine ZFe 3 3 ?_;refine ZE 5 ?_;refine ZE 6 ?_;refine ZFe 7 1 ?_;refine j4 4 8 Zk ?_ ?_
 ·refine kg ?_;refine ce 8 Zk ?_;refine kg ?_;refine cD 9 rfl Zk Zk Zk (dY Zv0 Zv0 hwr) rfl ?_;refine cD 10 rfl Zk Zk Zk (bW rfl rfl Zv0 rfl) rfl ?_;refine ZE 11 ?_;refine ce 12 Zk ?_;refine ZcA (lwF b N ⟨code,d,⟨[],Jp+1,high⟩,fl,tg,br⟩ X) (fun w hi hin=>mc b N ⟨code,d,⟨[],Jp+1,high⟩,fl,tg,br⟩ X hs2 2 0 0 0 (IntKind.u32.wrap Jp) w hin) ?_;rintro _ _ ⟨_,⟨rfl,C2,A2,c2,hC2,rfl⟩,rfl⟩;refine ZE 13 ?_;refine dr ?_;refine Z_2 ?_;refine Zrb (lwF b N ⟨C2,d,⟨[],Jp+1,high⟩,fl,tg,br⟩ ⟨A2,c2,X.Ad,X.cd,X.Ar,X.cr⟩) ?_;exact⟨rfl,C2,A2,c2,hC2,rfl⟩
 refine kg ?_;refine cD 9 rfl Zk Zk Zk (dY Zv0 Zv0 hwr) rfl ?_;refine cD 10 rfl Zk Zk Zk (bW rfl rfl Zv0 rfl) rfl ?_;refine ce 4 Zk ?_;refine kg ?_;refine ZE 11 ?_;refine ce 12 Zk ?_;refine ZcA (lwF b N ⟨code,d,⟨[],Jp+1,high⟩,fl,tg,br⟩ X) (fun w hi hin=>mc b N ⟨code,d,⟨[],Jp+1,high⟩,fl,tg,br⟩ X hs2 2 0 0 0 (IntKind.u32.wrap Jp) w hin) ?_;rintro _ _ ⟨_,⟨rfl,C2,A2,c2,hC2,rfl⟩,rfl⟩;refine ZE 13 ?_;refine dr ?_;refine Z_2 ?_;refine Zrb (lwF b N ⟨C2,d,⟨[],Jp+1,high⟩,fl,tg,br⟩ ⟨A2,c2,X.Ad,X.cd,X.Ar,X.cr⟩) ?_;exact⟨rfl,C2,A2,c2,hC2,rfl⟩
theorem G7(b:Nat)(N:Int)(code:List II)(d:Sd)(l:List Int)(Jp high fl tg br:Int)(X:LAd)(hl:l.length≤1000)(hn:0≤Jp∧Jp≤1000)(w:World)(hi:Inv w (bK (lwF b N ⟨code,d,⟨l,Jp,high⟩,fl,tg,br⟩ X)) (lwF b N ⟨code,d,⟨l,Jp,high⟩,fl,tg,br⟩ X) w):
  Ctr prog 216 [.pointer (some ⟨b,18,none⟩)] w (lwF b N ⟨code,d,⟨l,Jp,high⟩,fl,tg,br⟩ X) (fun _ cs=>cs=lwF b N ⟨code,d,⟨l,Jp,max high ((l.length:Int) - Jp)⟩,fl,tg,br⟩ X):=by
 have hwt:IntKind.i64.wrap ((l.length:Int) - Jp)=(l.length:Int) - Jp:=by rw[bI];omega
 refine bL func216 rfl ntmps216 rfl hi ?_;refine bR ⟨fun j=>List.elem j [18],[]⟩ Zk ?_;refine gn ?_;refine ZE 2 ?_;refine ZFe 3 2 ?_;refine ZG 4 ?_;refine ZE 5 ?_;refine ZE 6 ?_;refine ZFe 7 0 ?_;refine ZG 8 ?_;refine ZE 9 ?_;refine ZE 10 ?_;refine ZE 11 ?_;refine ZFe 12 1 ?_;refine ZG 13 ?_;refine cD 14 rfl Zk Zk Zk (dY Zv0 Zv0 hwt) rfl ?_;refine cD 15 rfl Zk Zk Zk (vH Zv0 Zv0 (CX high ((l.length:Int) - Jp))) rfl ?_;refine ZE 16 ?_;refine ZFe 17 2 ?_;refine ce 18 Zk ?_;refine ZQ ?_;refine dr ?_;refine iF (cs':=[row _ _ _,slv _ _ _ _ _ _,slv _ _ _ _ _ _,slv _ _ _ _ _ _]) (.inr rfl) Zu rfl ?_
 rfl
theorem iJ(b:Nat)(N:Int)(L:Lw)(X:LAd)(hs:L.sm 999)(w:World)(hi:Inv w (bK (lwF b N L X)) (lwF b N L X) w):
  Ctr prog 214 [.pointer (some ⟨b,0,none⟩),.pointer (some ⟨b,14,none⟩)] w (lwF b N L X) (fun v9 cs=>v9= .int .i64 (eL 1 L.code L.d).1∧∃C s A c,C=(eL 1 L.code L.d).2.1∧s=(eL 1 L.code L.d).2.2∧cs=lwF b N ⟨C,s,L.r,L.flags,L.target,L.branch⟩ ⟨A,c,X.Ad,X.cd,X.Ar,X.cr⟩):=by
 have hl:=hs.dl;obtain⟨code,d,r,fl,tg,br⟩:=L;obtain⟨l,Jp,high⟩:=d;obtain⟨Ac,cc,Ad,cd,Ar,cr⟩:=X;dsimp only at hl;rcases Nat.eq_zero_or_pos l.length with h0|h0
 ·obtain rfl:l=[]:=List.eq_nil_of_length_eq_zero h0;refine Ctr.mono (D5 b N code r Jp high fl tg br ⟨Ac,cc,Ad,cd,Ar,cr⟩ hs w hi) ?_;rintro v cs ⟨rfl,C,A,c,hC,rfl⟩;exact⟨rfl,C,_,A,c,hC,rfl,rfl⟩
 obtain⟨m,x,rfl⟩:=qS h0;have hp:eL 1 code ⟨m++[x],Jp,high⟩=(x,code,⟨m,Jp,high⟩):=by unfold eL;simp
 refine Ctr.mono (D4 b N code r m x Jp high fl tg br Ac cc Ad cd Ar cr (by rw[ae]at hl;omega) w hi) ?_;rintro v cs ⟨rfl,rfl⟩;exact⟨by rw[hp],code,⟨m,Jp,high⟩,Ac,cc,by rw[hp],by rw[hp],rfl⟩
theorem u6(b:Nat)(N:Int)(L:Lw)(X:LAd)(hs:L.sm 999)(w:World)(hi:Inv w (bK (lwF b N L X)) (lwF b N L X) w):
  Ctr prog 214 [.pointer (some ⟨b,0,none⟩),.pointer (some ⟨b,18,none⟩)] w (lwF b N L X) (fun v9 cs=>v9= .int .i64 (eL 2 L.code L.r).1∧∃C s A c,C=(eL 2 L.code L.r).2.1∧s=(eL 2 L.code L.r).2.2∧cs=lwF b N ⟨C,L.d,s,L.flags,L.target,L.branch⟩ ⟨A,c,X.Ad,X.cd,X.Ar,X.cr⟩):=by
 have hl:=hs.rl;obtain⟨code,d,r,fl,tg,br⟩:=L;obtain⟨l,Jp,high⟩:=r;obtain⟨Ac,cc,Ad,cd,Ar,cr⟩:=X;dsimp only at hl;rcases Nat.eq_zero_or_pos l.length with h0|h0
 ·obtain rfl:l=[]:=List.eq_nil_of_length_eq_zero h0;refine Ctr.mono (D3 b N code d Jp high fl tg br ⟨Ac,cc,Ad,cd,Ar,cr⟩ hs w hi) ?_;rintro v cs ⟨rfl,C,A,c,hC,rfl⟩;exact⟨rfl,C,_,A,c,hC,rfl,rfl⟩
 obtain⟨m,x,rfl⟩:=qS h0;have hp:eL 2 code ⟨m++[x],Jp,high⟩=(x,code,⟨m,Jp,high⟩):=by unfold eL;simp
 refine Ctr.mono (D2 b N code d m x Jp high fl tg br Ac cc Ad cd Ar cr (by rw[ae]at hl;omega) w hi) ?_;rintro v cs ⟨rfl,rfl⟩;exact⟨by rw[hp],code,⟨m,Jp,high⟩,Ac,cc,by rw[hp],by rw[hp],rfl⟩
end Go.Proofs.YtakodpimdalajaaGreatDoor
