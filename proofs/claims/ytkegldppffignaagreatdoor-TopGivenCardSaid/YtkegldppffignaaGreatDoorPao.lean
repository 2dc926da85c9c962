/- Lemmas. -/
import Derived.Test.YtkegldppffignaaGreatDoorPaa
import Derived.Test.YtkegldppffignaaGreatDoorPab
import Derived.Test.YtkegldppffignaaGreatDoorPah
import Derived.Test.YtkegldppffignaaGreatDoorPan
set_option linter.unusedSimpArgs false
set_option linter.unusedVariables false
set_option maxRecDepth 100000
set_option maxHeartbeats 4000000
namespace Go.Proofs.YtkegldppffignaaGreatDoor
open Go.RowKit Go.Ink Go.Proofs.Tryz
attribute [local irreducible] OpY bS
abbrev fY(bm bw:Nat)(Ac:Option Addr)(n cc:Nat)(R:List Int)(pc:Int):bL:=row bm (jr R bw Ac n cc pc) 295
abbrev hwC(bw:Nat)(W:List Int):bL:=sl .u32 25 (some ⟨bw,0,none⟩) 256 256 W
abbrev hmF(bm bw:Nat)(Ac:Option Addr)(cc:Nat)(C:List HI)(m:HM):List bL:=[fY bm bw Ac C.length cc m.Na m.pc,hwC bw m.words,hiC Ac cc C]
theorem hnew_ok(w:World):Ctr prog 152 [.int .i64 256] w [] (λv cs=>∃bm bw,v= .tuple #[.pointer (some ⟨bm,0,none⟩),.int .i64 0]/\cs=[fY bm bw none 0 0 (List.replicate 16 0) 0,hwC bw (List.replicate 256 0)]):=by
 refine bN func152 rfl ntmps152 rfl (Inv.start w) ?_;refine xF ?_;refine fS ?_;refine Z_5 ?_;refine gj (kO (bytes:=4) (n:=256) rfl rfl rfl rfl rfl rfl rfl Wq1 gS) rfl ?_;rintro _ _ ⟨b11,rfl,rfl⟩;refine ZA ?_;refine ZO λb13=>?_
 rw[oe];refine iT [fY b13 b11 none 0 0 (List.replicate 16 0) 0,hwC b11 (List.replicate 256 0)] Zj ?_;refine Z_5 ?_;refine rx (cs':=[row _ _ _,slv _ _ _ _ _ _]) (.inl rfl) Zu rfl rfl rfl ?_;exact⟨_,_,rfl,rfl⟩
section
variable (bm bw:Nat) (Ac:Option Addr) (n cc:Nat) (R W:List Int) (pc:Int)
theorem yU(hR:R.length=16)(w:World)(h:(fY bm bw Ac n cc R pc).ok w):Ctr prog 182 [.pointer (some ⟨bm,0,none⟩)] w [] (λv cs=>v= .int .i64 256/\cs=[]):=by
 refine bN func182 rfl ntmps182 rfl (Inv.start w) ?_;refine dS ?_;refine dN (bQ Zrf Zv0) (dy h (Hv hR)) rfl ?_;refine Z_5 ?_;refine Zra ?_;exact de
theorem Cm(hR:R.length=16)(hW:W.length=256)(k:Nat)(hk:k<256)(w:World)(h:(fY bm bw Ac n cc R pc).ok w)(h2:(hwC bw W).ok w):Ctr prog 187 [.pointer (some ⟨bm,0,none⟩),.int .i64 k] w [] (λv cs=>v= .int .u32 (W.getD k 0)/\cs=[]):=by
 have hx:W[k]? =some (W.getD k 0):=by rw[aF,ai Wq1];rfl
 refine bN func187 rfl ntmps187 rfl (Inv.start w) ?_;refine rj ?_;refine iu (cy rfl rfl) (bQ Zrf (dh rfl)) (dy h (Hv hR)) rfl ?_;refine Z_5 ?_;refine dc rfl ((by rw[aw (show¬(k:Int)<0 by omega),aw (show¬((256:Nat):Int)<=k by omega)];rfl)) ?_;refine Z_7 ?_;refine dN (bQ Zrf Zv0) (dy h (Hv hR)) rfl ?_;refine ZA ?_;refine uR ?_;refine dN (bQ Zrf Zv0) (eo (dk h2) (cR hx)) rfl ?_;refine Z_4 ?_;refine Zra ?_;exact de
theorem qx(hR:R.length=16)(hW:W.length=256)(k:Nat)(hk:k<256)(v:Int)(w:World)(hi:Inv w (bM [fY bm bw Ac n cc R pc,hwC bw W]) [fY bm bw Ac n cc R pc,hwC bw W] w):
  Ctr prog 183 [.pointer (some ⟨bm,0,none⟩),.int .i64 k,.int .u32 v] w [fY bm bw Ac n cc R pc,hwC bw W] (λx cs=>x= .bool true/\cs=[fY bm bw Ac n cc R pc,hwC bw (W.set k v)]):=by
 refine bN func183 rfl ntmps183 rfl hi ?_;refine rj ?_;refine iu (cy rfl rfl) (bQ Zrf (dh rfl)) (cu Zh (Hv hR)) rfl ?_;refine Z_5 ?_;refine dc rfl ((by rw[aw (show¬(k:Int)<0 by omega),aw (show¬((256:Nat):Int)<=k by omega)];rfl)) ?_;refine Z_7 ?_;refine dN (bQ Zrf Zv0) (cu Zh (Hv hR)) rfl ?_;refine Z_2 ?_;refine Zy (cw (j:=k) (sz:=1) (r:=k) rfl Zrf (Zv rfl) (Zv rfl) Wq4 Wq4 Wq1) ?_;refine dH (fh Zrf rfl rfl rfl Za Wq1) ?_;rintro _ _ ⟨rfl,rfl⟩;rw[eh];refine Z_8 ?_;refine Zrb ([row _ _ _,slv _ _ _ _ _ _]) ?_;exact de
theorem Hx(hR:R.length=16)(hW:W.length=256)(f:Nat)(hf:f<=100)(A:Option Addr)(c:Nat)(l:List Int)(hl:l.length<=16)(w:World)(hi:Inv w (bM [fY bm bw Ac n cc R pc,hwC bw W]) [fY bm bw Ac n cc R pc,hwC bw W] w)
  (h:∀w',dG (bM [fY bm bw Ac n cc R pc,hwC bw W]) w w'->Rd w' .u32 A l.length c l):
  Ctr prog 184 [.pointer (some ⟨bm,0,none⟩),.int .i64 f,.slice A l.length c] w [fY bm bw Ac n cc R pc,hwC bw W] (λx cs=>cs=[fY bm bw Ac n cc R pc,hwC bw (ka W f l 16)]):=by
 have h0:=h w (dG.refl _ _);refine bN func184 rfl ntmps184 rfl hi ?_;refine Z_6 ?_;refine cq (λk:Nat=>[(0,.pointer (some ⟨bm,0,none⟩)),(1,.int .i64 f),(2,.slice A l.length c),(8,.int .i64 (k:Int))]) (λk=>[fY bm bw Ac n cc R pc,hwC bw (ka W f l k)]) (λk=>k<=16) (λk=>16 - k) (0) ?_ ?_ ?_ ?_
 .exact aq _
 .exact Zwk
 .exact Zu
 rintro k hk;have hlk:(ka W f l k).length=256:=(by rw[kA,hW]);refine Z_6 ?_;refine ZW ?_ ?_<;>intro hc1
 .simp only[aj]at hc1;refine rj ?_;refine da (λ_:Unit=>[(0,.pointer (some ⟨bm,0,none⟩)),(1,.int .i64 f),(2,.slice A l.length c),(6,.int .i64 (k:Int)),(7,.int .u32 (l.getD k 0)),(8,.int .i64 (k:Int))]) (λ_=>[fY bm bw Ac n cc R pc,hwC bw (ka W f l k)]) (λ_=>True) ?_ ?_
  .refine Z_8 ?_;refine ZW ?_ ?_<;>intro hc4
   .simp only[aj]at hc4;obtain⟨ad,rfl⟩:=h0.some_ Wq1;have hx:l[k]? =some (l.getD k 0):=(by rw[aF,ai Wq1];rfl);refine Z_3 ?_;refine uR ?_;refine dN (bQ Zrf Zv0) (j7 h (cR hx)) rfl ?_;refine Z_2 ?_;refine dW (()) ?_ ?_ ?_
    .trivial
    .exact Zwk
    exact Zu
   simp only[ah]at hc4;have e0:l.getD k 0=0:=(by rw[aF,List.getElem?_eq_none Wq1];rfl);rw[e0];refine Zc ?_;refine dW (()) ?_ ?_ ?_
   .trivial
   .exact Zwk
   exact Zu
  rintro - -;refine Z_4 ?_;refine Zy (df (Zv rfl) (Zv rfl) (show _=((f+k:Nat):Int)from by rw[bF _ ⟨by omega,by omega⟩];omega)) ?_;refine ZA ?_;refine ZcM ([fY bm bw Ac n cc R pc,hwC bw (ka W f l k)]) (λw hi hin=>qx bm bw Ac n cc R (ka W f l k) pc hR hlk (f+k) Wq1 (l.getD k 0) w hin) ?_;refine Z_4 ?_;refine Wq8 ?_;refine dW (k+1) ?_ ?_ ?_
  .exact⟨by omega,by omega⟩
  .exact Zwk
  exact Zu
 simp only[ah]at hc1;obtain rfl:k=16:=by omega
 refine Z_4 ?_;refine jb (cs':=[row _ _ _,slv _ _ _ _ _ _]) (.inr rfl) Zu rfl ?_;exact rfl
end
theorem hput_ok(bm bw:Nat)(s:St)(hs:s.right=true)(hw:s.wf)(Ad Ar:Option Addr)(cd cr:Nat)(w:World)(hi:Inv w (bM [fY bm bw none 0 0 (List.replicate 16 0) 0,hwC bw (List.replicate 256 0)]) [fY bm bw none 0 0 (List.replicate 16 0) 0,hwC bw (List.replicate 256 0)] w)
  (h:∀w',dG (bM [fY bm bw none 0 0 (List.replicate 16 0) 0,hwC bw (List.replicate 256 0)]) w w'->oJ w' s Ad Ar cd cr):
  Ctr prog 153 [.pointer (some ⟨bm,0,none⟩),sv s Ad cd Ar cr] w [fY bm bw none 0 0 (List.replicate 16 0) 0,hwC bw (List.replicate 256 0)] (λx cs=>x= .bool true/\cs=[fY bm bw none 0 0 (List.replicate 16 0) 0,hwC bw (Nl s)]):=by
 have hR:(List.replicate 16 (0:Int)).length=16:=aI;obtain⟨R,hRe⟩:=Zgn (List.replicate 16 (0:Int));have hpw:Nl s=(ka (ka (((((List.replicate 256 (0:Int)).set 0 s.pc).set 1 s.flags).set 2 (s.d.length:Int)).set 3 (s.r.length:Int)) 4 s.d 16) 20 s.r 16).set 36 0:=rfl;have hW0:(List.replicate 256 (0:Int)).length=256:=aI;obtain⟨W0,hWe⟩:=Zgn (List.replicate 256 (0:Int));rw[hWe]at hW0 hpw hi h|-;rw[hRe]at hR hi h|-;rw[hpw];obtain⟨hd16,hr16, -⟩:=St.fits hs;have HR:=nF s;rw[hs]at HR;have hW1:(W0.set 0 s.pc).length=256:=by rw[aC,hW0]
 have hW2:((W0.set 0 s.pc).set 1 s.flags).length=256:=by rw[aC,hW1]
 have hW3:(((W0.set 0 s.pc).set 1 s.flags).set 2 (s.d.length:Int)).length=256:=by rw[aC,hW2]
 have hW4:((((W0.set 0 s.pc).set 1 s.flags).set 2 (s.d.length:Int)).set 3 (s.r.length:Int)).length=256:=by rw[aC,hW3]
 have HL1:=Hx bm bw none 0 0 R _ 0 hR hW4 4 Wq5 Ad cd s.d hd16;obtain⟨W4,hW4e⟩:=Zgn ((((W0.set 0 s.pc).set 1 s.flags).set 2 (s.d.length:Int)).set 3 (s.r.length:Int));rw[hW4e]at hW4 HL1|-;have hW5:(ka W4 4 s.d 16).length=256:=by rw[kA,hW4]
 have HL2:=Hx bm bw none 0 0 R _ 0 hR hW5 20 Wq5 Ar cr s.r hr16;have hW6:(ka (ka W4 4 s.d 16) 20 s.r 16).length=256:=by rw[kA,hW5]
 refine bN func153 rfl ntmps153 rfl hi ?_;refine Z_2 ?_;refine ZO λb3=>?_;refine dS ?_;refine fF (cy rfl rfl) rfl (cU rfl (λ_ _=>rfl) (λw hi=>yU bm bw none 0 0 R 0 hR w (hi.get Zh))) rfl ?_;rintro _ _ ⟨_,⟨rfl,rfl⟩,rfl⟩;refine Z_3 ?_;refine jl (cy rfl rfl) Zh Zrf Zrf (Zv rfl) rfl ?_;refine fF (cy rfl rfl) rfl (cU rfl (λ_ _=>rfl) (λw hi=>HR Ad Ar cd cr w)) rfl ?_;rintro _ _ ⟨_,⟨rfl,rfl⟩,rfl⟩;refine Z_4 ?_;refine fS ?_;refine Z_7 ?_;refine ZcM ([fY bm bw none 0 0 R 0,hwC bw W0]) (λw hi hin=>qx bm bw none 0 0 R W0 0 hR hW0 0 Wq5 s.pc w hin) ?_;refine Z_7 ?_;refine ZcM ([fY bm bw none 0 0 R 0,hwC bw (W0.set 0 s.pc)]) (λw hi hin=>qx bm bw none 0 0 R _ 0 hR hW1 1 Wq5 s.flags w hin) ?_;refine Z_8 ?_;refine Zy (ce rfl rfl (Zv rfl) (by first|exact IntWalk.u32_in _ ⟨by omega,by omega⟩|exact rfl)) ?_;refine ZcM ([fY bm bw none 0 0 R 0,hwC bw ((W0.set 0 s.pc).set 1 s.flags)]) (λw hi hin=>qx bm bw none 0 0 R _ 0 hR hW2 2 Wq5 (s.d.length:Int) w hin) ?_;refine Z_8 ?_;refine Zy (ce rfl rfl (Zv rfl) (by first|exact IntWalk.u32_in _ ⟨by omega,by omega⟩|exact rfl)) ?_;refine ZcM ([fY bm bw none 0 0 R 0,hwC bw (((W0.set 0 s.pc).set 1 s.flags).set 2 (s.d.length:Int))]) (λw hi hin=>qx bm bw none 0 0 R _ 0 hR hW3 3 Wq5 (s.r.length:Int) w hin) ?_;rw[hW4e];refine Z_7 ?_;refine ZcL ([fY bm bw none 0 0 R 0,hwC bw W4]) (λw hi hin=>HL1 w hin (λw' hk=>(h w' (hi.Oi (λc hc=>by simp only[aJ,aY,or_false]at hc;rcases hc with rfl|rfl;exact Has.mem (show Has _ _ from Zh);exact Has.mem (show Has _ _ from Zh)) hk)).d)) ?_;rintro _ _ ⟨_,rfl,rfl⟩;refine Z_7 ?_;refine ZcL ([fY bm bw none 0 0 R 0,hwC bw (ka W4 4 s.d 16)]) (λw hi hin=>HL2 w hin (λw' hk=>(h w' (hi.Oi (λc hc=>by simp only[aJ,aY,or_false]at hc;rcases hc with rfl|rfl;exact Has.mem (show Has _ _ from Zh);exact Has.mem (show Has _ _ from Zh)) hk)).r)) ?_;rintro _ _ ⟨_,rfl,rfl⟩;refine Z_5 ?_;refine ZcM ([fY bm bw none 0 0 R 0,hwC bw (ka (ka W4 4 s.d 16) 20 s.r 16)]) (λw hi hin=>qx bm bw none 0 0 R _ 0 hR hW6 36 Wq5 0 w hin) ?_;refine Z_8 ?_;refine Zrb ([row _ _ _,slv _ _ _ _ _ _]) ?_;exact de
theorem K6(bm bw:Nat)(R W:List Int)(hR:R.length=16)(A:Option Addr)(c:Nat)(C:List HI)(hg:gD C)(hl:C.length<=100000)(w:World)(hi:Inv w (bM [fY bm bw none 0 0 R 0,hwC bw W]) [fY bm bw none 0 0 R 0,hwC bw W] w)
  (h:∀w',dG (bM [fY bm bw none 0 0 R 0,hwC bw W]) w w'->Rd w' .u8 A (cI C).length c (cI C)):
  Ctr prog 154 [.pointer (some ⟨bm,0,none⟩),.slice A (cI C).length c] w [fY bm bw none 0 0 R 0,hwC bw W] (λx cs=>∃Ac cc,x= .int .i64 0/\cs=hmF bm bw Ac cc C ⟨R,W,0⟩):=by
 refine bN func154 rfl ntmps154 rfl hi ?_;refine Z_8 ?_;refine ZS (λw hi=>hall_ok A c C hg hl w (h w hi.Nb)) ?_;rintro _ _ ⟨_,⟨Ac,cc,rfl,rfl⟩,rfl⟩;refine gy ?_;refine fS ?_;refine Z_9 ?_;refine dH (eK Zrf rfl rfl rfl Za (by rw[Mu hR];omega)) ?_;rintro _ _ ⟨rfl,rfl⟩;rw[hm_setc hR];refine Z_2 ?_;refine dH (eK Zrf rfl rfl rfl Za (by rw[Mu hR];omega)) ?_;rintro _ _ ⟨rfl,rfl⟩;rw[Hw hR];refine Z_8 ?_;refine Zrb ([row _ _ _,slv _ _ _ _ _ _,slv _ _ _ _ _ _]) ?_;exact⟨Ac,cc,rfl,rfl⟩
theorem Hu(bm bw:Nat)(Ac:Option Addr)(cc:Nat)(C:List HI)(hC:gD C)(m:HM)(hm:m.ok)(w:World)(hi:Inv w (bM (hmF bm bw Ac cc C m)) (hmF bm bw Ac cc C m) w):
  Ctr prog 186 [.pointer (some ⟨bm,0,none⟩)] w (hmF bm bw Ac cc C m) (λx cs=>x= .int .i64 (MX C m).1/\cs=hmF bm bw Ac cc C (MX C m).2):=by
 have hR:=hm.rl;have hW:=hm.wl;have hr:=hm.r;have hwd:=hm.w;have hp0:=hm.pc;obtain⟨R,W,pc⟩:=m;dsimp only at hR hW hr hwd hp0;obtain⟨p,rfl⟩:∃p:Nat,pc=p:=ar hp0;have hi:Inv w (bM [fY bm bw Ac C.length cc R (p:Int),hwC bw W,hiC Ac cc C]) [fY bm bw Ac C.length cc R (p:Int),hwC bw W,hiC Ac cc C] w:=hi
 change Ctr _ _ _ w [fY bm bw Ac C.length cc R (p:Int),hwC bw W,hiC Ac cc C] _
 have hcap:=(dk (hi.get (show Has _ (hiC Ac cc C)from by repeat (first|exact .head _ _|apply Has.tail)))).cap;have hmx:=(dk (hi.get (show Has _ (hiC Ac cc C)from by repeat (first|exact .head _ _|apply Has.tail)))).max;have hsome:=λh=>(dk (hi.get (show Has _ (hiC Ac cc C)from by repeat (first|exact .head _ _|apply Has.tail)))).some_ h
 simp only[maxLen]at hmx;have hS:(MX C ⟨R,W,(p:Int)⟩)=bif decide ((p:Int)<0)||decide ((C.length:Int)<=(p:Int))then(2,⟨R,W,(p:Int)⟩)else hdo (C.getD p HI.zero) ⟨R,W,(p:Int)⟩:=rfl
 obtain⟨⟨why,m9⟩,hq⟩:=Zgn (MX C ⟨R,W,(p:Int)⟩);rw[hq]at hS|-;refine bN func186 rfl ntmps186 rfl hi ?_;refine Z_7 ?_;refine bU ⟨λj=>List.elem j [],[]⟩ Zk ?_;refine gO ?_;refine ZFe 2 18 ?_;refine dD 3 rfl Zk Zk Zk Zk (bQ Zrf Zv0) (cu Zh (hm_p hR)) rfl ?_;refine ZE 4 ?_;refine ZE 5 ?_;refine ZF 6 ?_;refine ZF 7 ?_;refine ZFf 8 18 ?_;refine qO 9 rfl Zk Zk Zk Zk (cy rfl rfl) (bQ Zrf (dh rfl)) (cu Zh (hm_p hR)) rfl ?_;refine ZF 10 ?_;refine ZF 11 ?_;refine ZFf 12 17 ?_;refine qO 13 rfl Zk Zk Zk Zk (cy rfl rfl) (bQ Zrf (dh rfl)) (cu Zh (hm_c hR)) rfl ?_;refine ZF 14 ?_;refine ZF 15 ?_;refine ZE 16 ?_;refine dx ?_;refine Zt ?_;refine ZW ?_ ?_<;>intro hc1
 .rw[hc1,ac]at hS;obtain⟨rfl,rfl⟩:=bJ hS;refine Z_7 ?_;refine Zrb ([row _ _ _,slv _ _ _ _ _ _,slv _ _ _ _ _ _]) ?_;exact de
 rw[hc1,aa]at hS;have hpl:p<C.length:=(by simp at hc1;omega);obtain⟨i,hx⟩:∃i,C[p]? =some i:=⟨_,ai hpl⟩;rw[show C.getD p HI.zero=i by rw[aF,hx];rfl]at hS;have hg:=hC i (aD hx);obtain⟨ad,rfl⟩:=hsome Wq1;obtain⟨rd1,rd2⟩:=hg.rd;obtain⟨ra1,ra2⟩:=hg.ra;obtain⟨rb1,rb2⟩:=hg.rb;obtain⟨im1,im2⟩:=hg.imm;obtain⟨op1,op2⟩:=hg.op;obtain⟨op,rd,ra,rb,im⟩:=i;dsimp only at rd1 rd2 ra1 ra2 rb1 rb2 im1 im2 op1 op2;obtain⟨rd,rfl⟩:∃k:Nat,rd=k:=ar rd1;obtain⟨ra,rfl⟩:∃k:Nat,ra=k:=ar ra1;obtain⟨rb,rfl⟩:∃k:Nat,rb=k:=ar rb1;have hd0:hdo ⟨op,(rd:Int),(ra:Int),(rb:Int),im⟩ ⟨R,W,(p:Int)⟩=(bif op==0 then(0,⟨R,W,(p:Int)+1⟩)else bif op==1 then(0,⟨R.set rd im,W,(p:Int)+1⟩)else bif op==14||op==15 then(bif decide ((W.length:Int)<=IntKind.u64.wrap (R.getD ra 0+im))then(4,⟨R,W,(p:Int)⟩)else bif op==14 then(0,⟨R.set rd (W.getD (IntKind.u64.wrap (R.getD ra 0+im)).toNat 0),W,(p:Int)+1⟩)else(0,⟨R,W.set (IntKind.u64.wrap (R.getD ra 0+im)).toNat (IntKind.u32.wrap (R.getD rb 0)),(p:Int)+1⟩))else bif op==16||op==17 then(0,⟨R,W,bif(R.getD ra 0==0)==(op==16)then im else(p:Int)+1⟩)else bif op==18 then(0,⟨R,W,im⟩)else bif op==19 then(1,⟨R,W,(p:Int)⟩)else(0,⟨R.set rd (fc op (R.getD ra 0) (R.getD rb 0)),W,(p:Int)+1⟩)):=rfl;rw[hd0,hW]at hS;have ea:=rP hr ra;have eb:=rP hr rb;obtain⟨a,hae⟩:=Zgn (R.getD ra 0);obtain⟨b,hbe⟩:=Zgn (R.getD rb 0);have hra:=hm_r (bw:=bw) (Ac:=some ad) (n:=C.length) (cc:=cc) (pc:=(p:Int)) hR (show ra<16 by omega);have hrb:=hm_r (bw:=bw) (Ac:=some ad) (n:=C.length) (cc:=cc) (pc:=(p:Int)) hR (show rb<16 by omega);rw[hae]at hS ea hra;rw[hbe]at hS eb hrb;have hpl2:IntKind.u64.wrap (a+im)=((IntKind.u64.wrap (a+im)).toNat:Nat):=(by rw[aQ];omega);obtain⟨pl,hple⟩:∃k:Nat,(IntKind.u64.wrap (a+im)).toNat=k:=⟨_,rfl⟩;rw[hple]at hpl2;rw[hpl2,aP]at hS;refine Z_3 ?_;refine bU ⟨λj=>List.elem j [11],[]⟩ Zk ?_;refine gO ?_;refine ZFe 2 17 ?_;refine dD 3 rfl Zk Zk Zk Zk (bQ Zrf Zv0) (cu Zh (hm_c hR)) rfl ?_;refine ZE 4 ?_;refine ZE 5 ?_;refine ZFe 6 18 ?_;refine dD 7 rfl Zk Zk Zk Zk (bQ Zrf Zv0) (cu Zh (hm_p hR)) rfl ?_;refine cG 8 rfl Zk Zk Zk (dX (j:=p) rfl Zrf (Zv rfl) (Zv rfl) Wq4 Wq4) rfl ?_;refine dD 9 rfl Zk Zk Zk Zk (cz (vs:=[.int .i64 op,.int .i64 rd,.int .i64 ra,.int .i64 rb,.int .u32 im]) Zrf Zrf Zv0) (F5 Zh (λj v hj=>fK (f:=HI.cells) Zrf (i:=j) hx hj)) rfl ?_;refine cn 10 Zk ?_;refine ZP λb3=>?_
 refine cn 11 Zk ?_;refine ZR ?_;refine dx ?_;refine Z_2 ?_;refine bU ⟨λj=>List.elem j [],[]⟩ Zk ?_;refine ZE 0 ?_;refine ZFe 1 2 ?_;refine ZG 2 ?_;refine ZE 3 ?_;refine ZFe 4 0 ?_;refine cG 5 rfl Zk Zk Zk (cX (j:=ra) (sz:=1) (r:=ra) rfl Zrf (Zv rfl) (Zv rfl) Wq4 Wq4 Wq1) rfl ?_;refine dD 6 rfl Zk Zk Zk Zk (bQ Zrf Zv0) (cu Zh hra) rfl ?_;refine ZE 7 ?_;refine ZFe 8 3 ?_;refine ZG 9 ?_;refine ZE 10 ?_;refine ZFe 11 0 ?_;refine cG 12 rfl Zk Zk Zk (cX (j:=rb) (sz:=1) (r:=rb) rfl Zrf (Zv rfl) (Zv rfl) Wq4 Wq4 Wq1) rfl ?_;refine dD 13 rfl Zk Zk Zk Zk (bQ Zrf Zv0) (cu Zh hrb) rfl ?_;refine ZE 14 ?_;refine ZE 15 ?_;refine dx ?_;refine Z_6 ?_;refine Zy (ce rfl rfl (Zv rfl) uw) ?_;refine Zy (df Zv0 Zv0 hpl2) ?_;refine Z_8 ?_;refine dN (bQ Zrf Zv0) (cu Zh (hm_p hR)) rfl ?_;refine Zy (df Zv0 Zv0 Zl) ?_;refine xF ?_;refine ZW ?_ ?_<;>intro hc9
 .rw[hc9,ac]at hS;obtain⟨rfl,rfl⟩:=bJ hS;refine Z_9 ?_;exact ES
 rw[hc9,aa]at hS;refine Z_6 ?_;refine ZW ?_ ?_<;>intro hc10
 .rw[hc10,ac]at hS;obtain⟨rfl,rfl⟩:=bJ hS;refine bU ⟨λj=>List.elem j [9],[]⟩ Zk ?_;refine ZE 0 ?_;refine ZFe 1 1 ?_;refine ZG 2 ?_;refine ZFe 3 4 ?_;refine ZG 4 ?_;refine cG 5 rfl Zk Zk Zk (ce rfl rfl (Zv rfl) uw) rfl ?_;refine ZE 6 ?_;refine ZFe 7 0 ?_;refine cG 8 rfl Zk Zk Zk (cX (j:=rd) (sz:=1) (r:=rd) rfl Zrf (Zv rfl) (Zv rfl) Wq4 Wq4 Wq1) rfl ?_;refine cn 9 Zk ?_;refine du rfl rfl (eK Zrf rfl rfl rfl Za (by simp[ints,hR];omega)) ZJ ?_;rintro _ _ ⟨rfl,rfl⟩;rw[xo hR Wq1];refine dx ?_;refine Z_8 ?_;exact ES
 rw[hc10,aa]at hS;refine Z_7 ?_;refine ZW ?_ ?_<;>intro hc12
 .rw[show(op==14||op==15)=true from by rw[hc12];rfl,ac]at hS;refine Z_2 ?_;refine bW rfl (hc12) ?_;refine Z_7 ?_;refine dN (bQ Zrf Zv0) (cu Zh (Hv hR)) rfl ?_;refine ZA ?_;refine Zy (ce rfl rfl (Zv rfl) uw) ?_;refine Z_3 ?_;refine ZW ?_ ?_<;>intro hc14
  .rw[hc14,ac]at hS;obtain⟨rfl,rfl⟩:=bJ hS;refine Wq36 ?_;exact de
  rw[hc14,aa]at hS;have hp256:pl<256:=(by simp at hc14;omega);have hxw:W[pl]? =some (W.getD pl 0):=(by rw[aF,ai Wq1];rfl);have hwb:=iU hwd pl;obtain⟨x,hxe⟩:=Zgn (W.getD pl 0);rw[hxe]at hxw hwb hS;refine Z_9 ?_;refine ZW ?_ ?_<;>intro hc16
  .rw[hc16,ac]at hS;obtain⟨rfl,rfl⟩:=bJ hS;refine bU ⟨λj=>List.elem j [14],[]⟩ Zk ?_;refine ZE 0 ?_;refine ZFe 1 1 ?_;refine ZG 2 ?_;refine ZE 3 ?_;refine ZE 4 ?_;refine ZFe 5 16 ?_;refine dD 6 rfl Zk Zk Zk Zk (bQ Zrf Zv0) (cu Zh (Hv hR)) rfl ?_;refine ZE 7 ?_;refine cG 8 rfl Zk Zk Zk (dX (j:=pl) rfl Zrf (Zv rfl) (Zv rfl) Wq4 Wq4) rfl ?_;refine dD 9 rfl Zk Zk Zk Zk (bQ Zrf Zv0) (qh Zh (cR hxw)) rfl ?_;refine cG 10 rfl Zk Zk Zk (ce rfl rfl (Zv rfl) uw) rfl ?_;refine ZE 11 ?_;refine ZFe 12 0 ?_;refine cG 13 rfl Zk Zk Zk (cX (j:=rd) (sz:=1) (r:=rd) rfl Zrf (Zv rfl) (Zv rfl) Wq4 Wq4 Wq1) rfl ?_;refine cn 14 Zk ?_;refine du rfl rfl (eK Zrf rfl rfl rfl Za (by simp[ints,hR];omega)) ZJ ?_;rintro _ _ ⟨rfl,rfl⟩;rw[xo hR Wq1];refine dx ?_;refine Z_8 ?_;exact ES
  rw[hc16,aa]at hS;obtain⟨rfl,rfl⟩:=bJ hS;refine Z_4 ?_;refine dN (bQ Zrf Zv0) (cu Zh (Hv hR)) rfl ?_;refine Z_2 ?_;refine Zy (ce rfl rfl (Zv rfl) (by first|exact IntWalk.u32_in _ ⟨by omega,by omega⟩|exact rfl)) ?_;refine Zy (cw (j:=pl) (sz:=1) (r:=pl) rfl Zrf (Zv rfl) (Zv rfl) Wq4 Wq4 Wq1) ?_;refine dH (fh Zrf rfl rfl rfl Za Wq1) ?_;rintro _ _ ⟨rfl,rfl⟩;rw[eh];refine Z_9 ?_;exact ES
 refine Z_5 ?_;refine ZW ?_ ?_<;>intro hc13
 .rw[show(op==14||op==15)=true from by rw[hc12,hc13];rfl,ac]at hS;refine Z_7 ?_;refine dN (bQ Zrf Zv0) (cu Zh (Hv hR)) rfl ?_;refine ZA ?_;refine Zy (ce rfl rfl (Zv rfl) uw) ?_;refine Z_3 ?_;refine ZW ?_ ?_<;>intro hc14
  .rw[hc14,ac]at hS;obtain⟨rfl,rfl⟩:=bJ hS;refine Wq36 ?_;exact de
  rw[hc14,aa]at hS;have hp256:pl<256:=(by simp at hc14;omega);have hxw:W[pl]? =some (W.getD pl 0):=(by rw[aF,ai Wq1];rfl);have hwb:=iU hwd pl;obtain⟨x,hxe⟩:=Zgn (W.getD pl 0);rw[hxe]at hxw hwb hS;refine Z_9 ?_;refine ZW ?_ ?_<;>intro hc16
  .rw[hc16,ac]at hS;obtain⟨rfl,rfl⟩:=bJ hS;refine bU ⟨λj=>List.elem j [14],[]⟩ Zk ?_;refine ZE 0 ?_;refine ZFe 1 1 ?_;refine ZG 2 ?_;refine ZE 3 ?_;refine ZE 4 ?_;refine ZFe 5 16 ?_;refine dD 6 rfl Zk Zk Zk Zk (bQ Zrf Zv0) (cu Zh (Hv hR)) rfl ?_;refine ZE 7 ?_;refine cG 8 rfl Zk Zk Zk (dX (j:=pl) rfl Zrf (Zv rfl) (Zv rfl) Wq4 Wq4) rfl ?_;refine dD 9 rfl Zk Zk Zk Zk (bQ Zrf Zv0) (qh Zh (cR hxw)) rfl ?_;refine cG 10 rfl Zk Zk Zk (ce rfl rfl (Zv rfl) uw) rfl ?_;refine ZE 11 ?_;refine ZFe 12 0 ?_;refine cG 13 rfl Zk Zk Zk (cX (j:=rd) (sz:=1) (r:=rd) rfl Zrf (Zv rfl) (Zv rfl) Wq4 Wq4 Wq1) rfl ?_;refine cn 14 Zk ?_;refine du rfl rfl (eK Zrf rfl rfl rfl Za (by simp[ints,hR];omega)) ZJ ?_;rintro _ _ ⟨rfl,rfl⟩;rw[xo hR Wq1];refine dx ?_;refine Z_8 ?_;exact ES
  rw[hc16,aa]at hS;obtain⟨rfl,rfl⟩:=bJ hS;refine Z_4 ?_;refine dN (bQ Zrf Zv0) (cu Zh (Hv hR)) rfl ?_;refine Z_2 ?_;refine Zy (ce rfl rfl (Zv rfl) (by first|exact IntWalk.u32_in _ ⟨by omega,by omega⟩|exact rfl)) ?_;refine Zy (cw (j:=pl) (sz:=1) (r:=pl) rfl Zrf (Zv rfl) (Zv rfl) Wq4 Wq4 Wq1) ?_;refine dH (fh Zrf rfl rfl rfl Za Wq1) ?_;rintro _ _ ⟨rfl,rfl⟩;rw[eh];refine Z_9 ?_;exact ES
 rw[show(op==14||op==15)=false from by rw[hc12,hc13];rfl,aa]at hS;refine Z_7 ?_;refine ZW ?_ ?_<;>intro hc19
 .rw[show(op==16||op==17)=true from by rw[hc19];rfl,ac]at hS;refine Z_2 ?_;refine bW rfl (hc19) ?_;refine dS ?_;refine ZW ?_ ?_<;>intro hc21
  .rw[hc21,ac]at hS;obtain⟨rfl,rfl⟩:=bJ hS;refine Z_3 ?_;refine Zy (ce rfl rfl Zv0 Zl) ?_;refine dS ?_;exact ES
  rw[hc21,aa]at hS;obtain⟨rfl,rfl⟩:=bJ hS;refine Z_9 ?_;exact ES
 refine Z_5 ?_;refine ZW ?_ ?_<;>intro hc20
 .rw[show(op==16||op==17)=true from by rw[hc19,hc20];rfl,ac]at hS;refine dS ?_;refine ZW ?_ ?_<;>intro hc21
  .rw[hc21,ac]at hS;obtain⟨rfl,rfl⟩:=bJ hS;refine Z_3 ?_;refine Zy (ce rfl rfl Zv0 Zl) ?_;refine dS ?_;exact ES
  rw[hc21,aa]at hS;obtain⟨rfl,rfl⟩:=bJ hS;refine Z_9 ?_;exact ES
 rw[show(op==16||op==17)=false from by rw[hc19,hc20];rfl,aa]at hS;refine Z_6 ?_;refine ZW ?_ ?_<;>intro hc23
 .rw[hc23,ac]at hS;obtain⟨rfl,rfl⟩:=bJ hS;refine Z_3 ?_;refine Zy (ce rfl rfl Zv0 Zl) ?_;refine dS ?_;exact ES
 rw[hc23,aa]at hS;refine Z_6 ?_;refine ZW ?_ ?_<;>intro hc25
 .rw[hc25,ac]at hS;obtain⟨rfl,rfl⟩:=bJ hS;refine Z_8 ?_;refine Zrb ([row _ _ _,slv _ _ _ _ _ _,slv _ _ _ _ _ _]) ?_;exact de
 rw[hc25,aa]at hS;obtain⟨rfl,rfl⟩:=bJ hS;refine bU ⟨λj=>List.elem j [11],[]⟩ Zk ?_;refine ZE 0 ?_;refine ZFe 1 1 ?_;refine ZG 2 ?_;refine ZFe 3 0 ?_;refine ZG 4 ?_;refine ZE 5 ?_;refine ZE 6 ?_;refine ZE 8 ?_;refine ZFe 9 0 ?_;refine cn 7 Zk ?_;refine ZT (λw hi=>Eb op a b ea eb w) ?_;rintro _ _ ⟨_,⟨rfl,rfl⟩,rfl⟩;refine cG 10 rfl Zk Zk Zk (cX (j:=rd) (sz:=1) (r:=rd) rfl Zrf (Zv rfl) (Zv rfl) Wq4 Wq4 Wq1) rfl ?_;refine cn 11 Zk ?_;refine du rfl rfl (eK Zrf rfl rfl rfl Za (by simp[ints,hR];omega)) ZJ ?_;rintro _ _ ⟨rfl,rfl⟩;rw[xo hR Wq1];refine dx ?_;refine Z_8 ?_;exact ES
end Go.Proofs.YtkegldppffignaaGreatDoor
namespace Go.Ink
open Go.RowKit
theorem hdo_one{i:HI}{m:HM}(h:(hdo i m).1=1):(hdo i m).2=m:=by
 unfold hdo at h|-;cases h0:i.op==0 with
 |true=>rw[h0]at h;cases h
 |false=>cases h1:i.op==1 with
  |true=>rw[h0,h1]at h;cases h
  |false=>cases h2:i.op==14||i.op==15 with
   |true=>
    rw[h0,h1,h2]at h;simp only[ac,aa]at h|-;cases h3:decide ((m.words.length:Int)<=pI m.Na i)with
    |true=>rfl
    |false=>rw[h3]at h;cases h4:i.op==14<;>rw[h4]at h<;>cases h
   |false=>cases h5:i.op==16||i.op==17 with
    |true=>rw[h0,h1,h2,h5]at h;cases h
    |false=>cases h6:i.op==18 with
     |true=>rw[h0,h1,h2,h5,h6]at h;cases h
     |false=>cases h7:i.op==19 with
      |true=>rfl
      |false=>rw[h0,h1,h2,h5,h6,h7]at h;cases h
theorem Ea{C:List HI}{m:HM}(h:(MX C m).1=1):(MX C m).2=m/\0<=m.pc/\m.pc<C.length:=by
 unfold MX at h|-;cases hd:decide (m.pc<0)||decide ((C.length:Int)<=m.pc)with
 |true=>rw[hd]at h;cases h
 |false=>
  rw[hd]at h;simp only[aa]at h|-;have:=hdo_one h;simp only[bz,ah]at hd;exact⟨this,by omega,by omega⟩
def mC(W:List Int):Bool:= !((decide (16<W.getD 2 0)||decide (16<W.getD 3 0))||decide (15<W.getD 1 0))
def BT(s:St)(r:(Int×Int)×HM):St×Int:=bif r.1.1 !=1 then(s,0)else bif mC r.2.words then(nS r.2.words s,r.1.2)else(s,0)
def iE(C:List HI)(s:St):St×Int:=BT s (jy C 4096 ⟨List.replicate 16 0,Nl s,0⟩)
theorem Co{C:List HI}(hC:gD C):∀(f:Nat) (m:HM),0<=(jy C f m).1.2/\(jy C f m).1.2<=4294967295
 |0,m=>z32
 |f+1,m=>by
  show 0<=(bif(MX C m).1==0 then jy C f (MX C m).2 else bif(MX C m).1==1 then((1,(C.getD (MX C m).2.pc.toNat HI.zero).imm),(MX C m).2)else(((MX C m).1,0),(MX C m).2)).1.2/\(bif(MX C m).1==0 then jy C f (MX C m).2 else bif(MX C m).1==1 then((1,(C.getD (MX C m).2.pc.toNat HI.zero).imm),(MX C m).2)else(((MX C m).1,0),(MX C m).2)).1.2<=_;cases(MX C m).1==0 with
  |true=>exact Co hC f _
  |false=>cases(MX C m).1==1 with
   |true=>
    show 0<=(C.getD (MX C m).2.pc.toNat HI.zero).imm/\(C.getD (MX C m).2.pc.toNat HI.zero).imm<=_;rw[aF];by_cases hl:(MX C m).2.pc.toNat<C.length
    .rw[ai hl];exact(hC _ (List.getElem_mem hl)).imm
    rw[List.getElem?_eq_none Wq1];exact⟨by decide,by decide⟩
   |false=>exact z32
theorem Kf{s:St}(h:s.wf)(hr:s.right=true):wds (Nl s):=by
 obtain⟨h1,h2, -⟩:=St.fits hr;have hset:∀(W:List Int) (k:Nat) (v:Int),wds W->(0<=v/\v<=4294967295)->wds (W.set k v):=λW k v hW hv x hx=>by
  rcases AK hx with q|q
  .exact hW x q
  rw[q];exact hv
 have hlay:∀(W:List Int) (f:Nat) (l:List Int),wds W->wds l->∀k,wds (ka W f l k):=λW f l hW hl k=>by
  induction k with
  |zero=>exact hW
  |succ k ih=>exact hset _ _ _ ih (iU hl k)
 have h0:wds (List.replicate 256 (0:Int)):=λx hx=>by rw[(List.mem_replicate.1 hx).2];decide
 have hd:wds s.d:=λx hx=>h.d x hx
 have hrr:wds s.r:=λx hx=>h.r x hx
 have a1:=hset _ 0 s.pc h0 h.pc;have a2:=hset _ 1 s.flags a1 h.flags;have a3:=hset _ 2 (s.d.length:Int) a2 ⟨by omega,by omega⟩;have a4:=hset _ 3 (s.r.length:Int) a3 ⟨by omega,by omega⟩;have a5:=hlay _ 4 s.d a4 hd 16;have a6:=hlay _ 20 s.r a5 hrr 16;have a7:=hset _ 36 0 a6 ⟨by decide,by decide⟩;unfold Nl;exact a7
theorem hm0_of{R W:List Int}(h0:R.length=16)(h1:W.length=256)(h2:r64 R)(h3:wds W):HM.ok ⟨R,W,0⟩:=⟨h0,h1,h2,h3,Int.le_refl _⟩
theorem hm0_ok{s:St}(h:s.wf)(hr:s.right=true):HM.ok ⟨List.replicate 16 0,Nl s,0⟩:=
 hm0_of aI (BX s) (λx hx=>by rw[(List.mem_replicate.1 hx).2];decide) (Kf h hr)
theorem Ht{C:List HI}(hC:gD C):∀(f:Nat) (m:HM),m.ok->(jy C f m).2.ok
 |0,m,h=>h
 |f+1,m,h=>by
  have h1:=Cn hC h;show(bif(MX C m).1==0 then jy C f (MX C m).2 else bif(MX C m).1==1 then _ else _).2.ok;cases(MX C m).1==0 with
  |true=>exact Ht hC f _ h1
  |false=>cases(MX C m).1==1 with
   |true=>exact h1
   |false=>exact h1
end Go.Ink
namespace Go.Proofs.YtkegldppffignaaGreatDoor
open Go.RowKit Go.Ink Go.Proofs.Tryz
attribute [local irreducible] OpY bS
theorem K5(bm bw:Nat)(Ac:Option Addr)(cc:Nat)(C:List HI)(hC:gD C)(steps:Nat)(hst:steps<=100000)(m:HM)(hm:m.ok)(w:World)(hi:Inv w (bM (hmF bm bw Ac cc C m)) (hmF bm bw Ac cc C m) w):
  Ctr prog 155 [.pointer (some ⟨bm,0,none⟩),.int .i64 steps] w (hmF bm bw Ac cc C m) (λx cs=>∃n:Nat,x= .tuple #[.int .i64 (jy C steps m).1.1,.int .u32 (jy C steps m).1.2,.int .i64 n]/\cs=hmF bm bw Ac cc C (jy C steps m).2):=by
 have hcap:=(dk (hi.get (show Has _ (hiC Ac cc C)from by repeat (first|exact .head _ _|apply Has.tail)))).cap;have hmx:=(dk (hi.get (show Has _ (hiC Ac cc C)from by repeat (first|exact .head _ _|apply Has.tail)))).max;have hsome:=λh=>(dk (hi.get (show Has _ (hiC Ac cc C)from by repeat (first|exact .head _ _|apply Has.tail)))).some_ h
 simp only[maxLen]at hmx;obtain⟨⟨⟨how,im⟩,m9⟩,hq⟩:=Zgn (jy C steps m);rw[hq];have hq0:jy C (steps - 0) m=((how,im),m9):=hq;refine bN func155 rfl ntmps155 rfl hi ?_;refine gy ?_;refine cq (λq:Nat×HM=>[(0,.pointer (some ⟨bm,0,none⟩)),(1,.int .i64 steps),(7,.int .i64 (q.1:Int))]) (λq=>hmF bm bw Ac cc C q.2) (λq=>q.1<=steps/\q.2.ok/\jy C (steps - q.1) q.2=((how,im),m9)) (λq=>steps - q.1) (⟨0,m⟩) ?_ ?_ ?_ ?_
 .exact⟨aq _,hm,hq0⟩
 .exact Zwk
 .exact Zu
 rintro⟨k,m⟩ ⟨hk,hm,hE⟩;dsimp only at hk hm hE|-;have HS:=Hu bm bw Ac cc C hC m hm;have hm2:=Cn hC hm;have hex:=Ea (C:=C) (m:=m);refine Z_8 ?_;refine ZW ?_ ?_<;>intro hc2
 .simp only[aj]at hc2;obtain⟨f,hf⟩:∃f,steps - k=f+1:=⟨steps - k - 1,by omega⟩;rw[hf]at hE;have hE:(bif(MX C m).1==0 then jy C f (MX C m).2 else bif(MX C m).1==1 then((1,(C.getD (MX C m).2.pc.toNat HI.zero).imm),(MX C m).2)else(((MX C m).1,0),(MX C m).2))=((how,im),m9):=hE;obtain⟨⟨why,m2⟩,hsq⟩:=Zgn (MX C m);rw[hsq]at hE HS hm2 hex;dsimp only at hE hm2 hex;refine Z_7 ?_;refine ZcM (hmF bm bw Ac cc C m) (λw hi hin=>HS w hin) ?_;refine rj ?_;refine ZW ?_ ?_<;>intro hc7
  .rw[hc7,ac]at hE;refine Z_6 ?_;refine Wq8 ?_;refine dW ((⟨k+1,m2⟩:Nat×HM)) ?_ ?_ ?_
   .exact⟨⟨by omega,hm2,by show jy C (steps - (k+1)) m2=_;rw[show steps - (k+1)=f by omega];exact hE⟩,by show steps - (k+1)<steps - k;omega⟩
   .exact Zwk
   exact Zu
  rw[hc7,aa]at hE;refine Z_6 ?_;refine ZW ?_ ?_<;>intro hc8
  .rw[hc8,ac]at hE;obtain⟨he1,rfl⟩:=bJ hE;obtain⟨rfl,rfl⟩:=bJ he1;have hw1:why=1:=(by simpa using hc8);subst hw1;obtain⟨rfl,hp0,hpl⟩:=hex rfl;have hR:=hm.rl;obtain⟨p,hpe⟩:∃p:Nat,m2.pc=p:=ar hp0;rw[hpe]at hpl;have hx:C[p]? =some (C.getD p HI.zero):=(by rw[aF,ai (show p<C.length by omega)];rfl);rw[show m2.pc.toNat=p by omega];obtain⟨ad,rfl⟩:=hsome Wq1;obtain⟨i,hie⟩:=Zgn (C.getD p HI.zero);rw[hie]at hx|-;refine Zs (bU ⟨λj=>List.elem j [],[]⟩ Zk ?_);refine gO ?_;refine ZE 2 ?_;refine ZFe 3 17 ?_;refine dD 4 rfl Zk Zk Zk Zk (bQ Zrf Zv0) (cu Zh (hm_c hR)) rfl ?_;refine ZE 5 ?_;refine ZE 6 ?_;refine ZFe 7 18 ?_;refine dD 8 rfl Zk Zk Zk Zk (bQ Zrf Zv0) (cu Zh (hm_p hR)) rfl ?_;refine cG 9 rfl Zk Zk Zk (dX (j:=p) rfl Zrf (Zv rfl) (Zv rfl) (λ_=>hpe) Wq4) rfl ?_;refine cG 10 rfl Zk Zk Zk (Jj 4 rfl (Zv rfl) ((qL ad (p*5) 4))) rfl ?_;refine dD 11 rfl Zk Zk Zk Zk (bQ Zrf (Zv rfl)) (λw hi z hz=>by rw[aK]at hz;subst hz;exact(hi.rd (show Has _ (hiC (some ad) cc C)from Zh)).at_ ad rfl (p*5+4) (.int .u32 i.imm) (fK (f:=HI.cells) Zrf (i:=4) hx rfl)) rfl ?_;refine ZE 12 ?_;refine ZE 13 ?_;refine ZE 14 ?_;refine ZE 15 ?_;refine dx ?_;refine Z_8 ?_;refine vk (cs':=[row _ _ _,slv _ _ _ _ _ _,slv _ _ _ _ _ _]) (.inl rfl) Zu rfl rfl rfl rfl ?_;exact⟨_,rfl,rfl⟩
  rw[hc8,aa]at hE;obtain⟨he1,rfl⟩:=bJ hE;obtain⟨rfl,rfl⟩:=bJ he1;refine ri ?_;refine vk (cs':=[row _ _ _,slv _ _ _ _ _ _,slv _ _ _ _ _ _]) (.inl rfl) Zu rfl rfl rfl rfl ?_;exact⟨_,rfl,rfl⟩
 simp only[ah]at hc2;obtain rfl:k=steps:=Wq1;rw[Nat.sub_self]at hE;obtain⟨he1,rfl⟩:=bJ hE;obtain⟨rfl,rfl⟩:=bJ he1;refine Z_8 ?_;refine Zy (sd (Zv rfl) (Zv rfl) (show _=((k:Nat):Int)from by split<;>omega)) ?_;refine Z_6 ?_;refine vk (cs':=[row _ _ _,slv _ _ _ _ _ _,slv _ _ _ _ _ _]) (.inl rfl) Zu rfl rfl rfl rfl ?_;exact⟨_,rfl,rfl⟩
theorem yW(bm bw:Nat)(Ac:Option Addr)(n cc:Nat)(R W:List Int)(pc:Int)(hR:R.length=16)(hW:W.length=256)(f k:Nat)(hf:f<=100)(hk:k<=16)(w:World)(h:(fY bm bw Ac n cc R pc).ok w)(h2:(hwC bw W).ok w):
  Ctr prog 188 [.pointer (some ⟨bm,0,none⟩),.int .i64 f,.int .u32 k] w [] (λx cs=>∃A c,x= .slice A (gm W f k).length c/\cs=[sl .u32 25 A (gm W f k).length c (gm W f k)]):=by
 have hl:∀j,(gm W f j).length=j:=λj=>by simp[gm]
 have hsn:∀j,gm W f (j+1)=gm W f j++[W.getD (f+j) 0]:=λj=>by unfold gm;rw[List.range_succ,List.map_append];rfl
 refine bN func188 rfl ntmps188 rfl (Inv.start w) ?_;refine jd ?_;refine dC 25 1 ?_;refine ZA ?_;refine Zy (ce rfl rfl Zv0 Zl) ?_;refine Z_4 ?_;refine cq (λq:Nat×Option Addr×Nat=>[(0,.pointer (some ⟨bm,0,none⟩)),(1,.int .i64 f),(7,.slice q.2.1 (gm W f q.1).length q.2.2),(10,.int .i64 k),(11,.int .i64 (q.1:Int))]) (λq=>[sl .u32 25 q.2.1 (gm W f q.1).length q.2.2 (gm W f q.1)]) (λq=>q.1<=k) (λq=>k - q.1) (⟨0,none,0⟩) ?_ ?_ ?_ ?_
 .exact aq _
 .exact Zwk
 .exact Zu
 rintro⟨j,A,c⟩ hj;dsimp only at hj|-;refine Z_6 ?_;refine ZW ?_ ?_<;>intro hc3
 .simp only[aj]at hc3;have hlj:=hl j;refine rj ?_;refine Zy (df (Zv rfl) (Zv rfl) (show _=((f+j:Nat):Int)from by rw[bF _ ⟨by omega,by omega⟩];omega)) ?_;refine ZSe (λw hi=>Cm bm bw Ac n cc R W pc hR hW (f+j) Wq1 w (bL.old h hi) (bL.old h2 hi)) ?_;refine jO ?_;rintro _ _ ⟨b20,rfl,rfl⟩;refine gj (cD (e:=25) (sz:=1) (bytes:=4) rfl rfl Za rfl rfl (λw hi=>hi.rd (show Has _ (slv 25 1 (some ⟨b20,0,none⟩) 1 1 (ints .u32 [W.getD (f+j) 0]))from Zh)) cN gS Wq1) rfl ?_;rintro _ _ ⟨A2,c2,rfl,rfl⟩;rw[cj,<-hsn,show(gm W f j).length+1=(gm W f (j+1)).length by rw[hl,hl]];refine Z_5 ?_;refine Wq8 ?_;refine dW ((⟨j+1,A2,c2⟩:Nat×Option Addr×Nat)) ?_ ?_ ?_
  .exact⟨by omega,by omega⟩
  .exact Zwk
  exact Zu
 simp only[ah]at hc3;obtain rfl:j=k:=by omega
 refine gR ?_;refine Zrb ([slv _ _ _ _ _ _]) ?_;exact⟨_,_,rfl,rfl⟩
theorem hget_ok(bm bw:Nat)(Ac:Option Addr)(n cc:Nat)(R W:List Int)(pc:Int)(hR:R.length=16)(hW:W.length=256)(hwd:wds W)(s:St)(Ad Ar:Option Addr)(cd cr:Nat)(w:World)(h:(fY bm bw Ac n cc R pc).ok w)(h2:(hwC bw W).ok w)(h3:oJ w s Ad Ar cd cr):
  Ctr prog 156 [.pointer (some ⟨bm,0,none⟩),sv s Ad cd Ar cr] w [] (λx cs=>∃X:kb,x= .tuple #[sv (bif mC W then nS W s else s) X.Ad X.cd X.Ar X.cr,.bool (mC W)]/\cs=[slD (bif mC W then nS W s else s) X.Ad X.cd,slR (bif mC W then nS W s else s) X.Ar X.cr]):=by
 have HW:=Cm bm bw Ac n cc R W pc hR hW;obtain⟨x2,e2,y2⟩:=mz hwd 2;obtain⟨x3,e3,y3⟩:=mz hwd 3;have y36:=iU hwd 36;obtain⟨x36,e36⟩:=Zgn (W.getD 36 0);have hgs:nS W s=⟨W.getD 0 0,gm W 4 x2,gm W 20 x3,W.getD 1 0,s.MQ,s.MU,s.ie,s.root,s.vec,s.epc,s.MR,s.addr,s.M1,s.eie,IntKind.u64.wrap (s.count+x36),s.halted⟩:=by unfold nS;rw[e2,e3,e36,aP,aP]
 have htk:mC W= !((decide (16<(x2:Int))||decide (16<(x3:Int)))||decide (15<W.getD 1 0)):=by unfold mC;rw[e2,e3]
 rw[e36]at y36;have W2:=HW 2 Wq5;have W3:=HW 3 Wq5;have W36:=HW 36 Wq5;rw[e2]at W2;rw[e3]at W3;rw[e36]at W36;obtain⟨b,hb⟩:=Zgn (mC W);rw[hb]at htk|-;refine bN func156 rfl ntmps156 rfl (Inv.start w) ?_;refine Z_2 ?_;refine ZO λb3=>?_;refine ZN λb4=>?_
 refine Z_6 ?_;refine ZS (λw hi=>jv s Ad Ar cd cr w (h3.MZ hi)) ?_;rintro _ _ ⟨_,⟨A1,c1,A2,c2,rfl,rfl⟩,rfl⟩;refine ZM ?_;refine Z_9 ?_;refine eu (cy rfl rfl) (.cons (dh rfl) .nil) (λ_ _=>rfl) (λhg w hi=>yU bm bw Ac n cc R pc hR w (bL.old h hi)) rfl ?_;refine Z_4 ?_;refine eu (cy rfl rfl) (.cons (dh rfl) (.cons Zv0 .nil)) (λ_ _=>rfl) (λhg w hi=>W2 w (bL.old h hi) (bL.old h2 hi)) rfl ?_;refine Z_4 ?_;refine eu (cy rfl rfl) (.cons (dh rfl) (.cons Zv0 .nil)) (λ_ _=>rfl) (λhg w hi=>W3 w (bL.old h hi) (bL.old h2 hi)) rfl ?_;refine Z_4 ?_;refine eu (cy rfl rfl) (.cons (dh rfl) (.cons (Zv rfl) .nil)) (λ_ _=>rfl) (λhg w hi=>HW 1 Wq5 w (bL.old h hi) (bL.old h2 hi)) rfl ?_;refine Z_4 ?_;refine ZW ?_ ?_<;>intro hc2
 .have hc:((decide (16<(x2:Int))||decide (16<(x3:Int)))||decide (15<W.getD 1 0))=true:=hc2;rw[hc]at htk;obtain rfl:b=false:=htk;refine Z_3 ?_;refine ZM ?_;refine Z_5 ?_;refine lS (cs':=[slD s A1 c1,slR s A2 c2]) (.inl rfl) Zu rfl rfl rfl Zh Zrf Zrf ?_;exact⟨⟨A1,c1,A2,c2⟩,rfl,rfl⟩
 have hc:((decide (16<(x2:Int))||decide (16<(x3:Int)))||decide (15<W.getD 1 0))=false:=hc2;rw[hc]at htk;obtain rfl:b=true:=htk;simp only[bz,ah]at hc;have HT2:=yW bm bw Ac n cc R W pc hR hW 4 x2 Wq5 Wq1;have HT3:=yW bm bw Ac n cc R W pc hR hW 20 x3 Wq5 Wq1;rw[ac,hgs];refine Z_5 ?_;refine ZSe (λw hi=>HW 0 Wq5 w (bL.old h hi) (bL.old h2 hi)) ?_;refine ZA ?_;refine ZSe (λw hi=>HW 1 Wq5 w (bL.old h hi) (bL.old h2 hi)) ?_;refine Z_1 ?_;refine ZL ?_;refine Z_1 ?_;refine ZL ?_;refine Z_6 ?_;refine ZSe (λw hi=>W2 w (bL.old h hi) (bL.old h2 hi)) ?_;refine ZS (λw hi=>HT2 w (bL.old h hi) (bL.old h2 hi)) ?_;rintro _ _ ⟨_,⟨A3,c3,rfl,rfl⟩,rfl⟩;refine Z_2 ?_;refine ZSe (λw hi=>W3 w (bL.old h hi) (bL.old h2 hi)) ?_;refine ZS (λw hi=>HT3 w (bL.old h hi) (bL.old h2 hi)) ?_;rintro _ _ ⟨_,⟨A4,c4,rfl,rfl⟩,rfl⟩;refine Z_1 ?_;refine ZL ?_;refine Z_1 ?_;refine ZL ?_;refine Z_3 ?_;refine bU ⟨λj=>List.elem j [7],[]⟩ Zk ?_;refine ZFe 0 14 ?_;refine ZG 1 ?_;refine ZE 2 ?_;refine cn 3 Zk ?_;refine ZT (λw hi=>W36 w (bL.old h hi) (bL.old h2 hi)) ?_;rintro _ _ ⟨_,⟨rfl,rfl⟩,rfl⟩;refine cG 4 rfl Zk Zk Zk (ce rfl rfl (Zv rfl) uw) rfl ?_;refine cG 5 rfl Zk Zk Zk (df Zv0 Zv0 rfl) rfl ?_;refine ZFe 6 14 ?_;refine cn 7 Zk ?_;refine ZQ ?_;refine dx ?_;refine Z_4 ?_;refine ZM ?_;refine Z_4 ?_;refine lS (cs':=[sl .u32 25 A3 (gm W 4 x2).length c3 (gm W 4 x2),sl .u32 25 A4 (gm W 20 x3).length c4 (gm W 20 x3)]) (.inl rfl) Zu rfl rfl rfl Zh Zrf Zrf ?_;exact⟨⟨A3,c3,A4,c4⟩,rfl,rfl⟩
theorem erun_ok(A:Option Addr)(c:Nat)(C:List HI)(hC:gD C)(hl:C.length<=100000)(s:St)(hw:s.wf)(hs:s.right=true)(Ad Ar:Option Addr)(cd cr:Nat)(w:World)(h:Rd w .u8 A (cI C).length c (cI C))(h3:oJ w s Ad Ar cd cr):
  Ctr prog 130 [.slice A (cI C).length c,sv s Ad cd Ar cr] w [] (λx cs=>∃X:kb,x= .tuple #[sv (iE C s).1 X.Ad X.cd X.Ar X.cr,.int .i64 (iE C s).2]/\cs=[slD (iE C s).1 X.Ad X.cd,slR (iE C s).1 X.Ar X.cr]):=by
 have h0:=hm0_ok hw hs;have hm9:=Ht hC 4096 _ h0;have him:=Co hC 4096 ⟨List.replicate 16 0,Nl s,0⟩;have hrc:iE C s=BT s (jy C 4096 ⟨List.replicate 16 0,Nl s,0⟩):=rfl;obtain⟨W0,hW0⟩:=Zgn (Nl s);have HP:=λbm bw w hi h=>hput_ok bm bw s hs hw Ad Ar cd cr w hi h
 obtain⟨R0,hR0⟩:=Zgn (List.replicate 16 (0:Int));obtain⟨Z0,hZ0⟩:=Zgn (List.replicate 256 (0:Int));have HN:=hnew_ok;rw[hW0,hR0]at h0 hm9 hrc him;rw[hR0,hZ0]at HN HP;rw[hW0]at HP;have HR:=λbm bw Ac cc w hi=>K5 bm bw Ac cc C hC 4096 Wq5 ⟨R0,W0,0⟩ h0 w hi
 obtain⟨⟨⟨how,im⟩,m9⟩,hq⟩:=Zgn (jy C 4096 ⟨R0,W0,0⟩);rw[hq]at HR hrc hm9 him;dsimp only at HR hrc hm9 him;have hre:BT s ((how,im),m9)=bif how !=1 then(s,0)else bif mC m9.words then(nS m9.words s,im)else(s,0):=rfl
 rw[hrc,hre];clear hrc hq hre;have hR16:R0.length=16:=h0.rl;have HG:=λbm bw Ac cc w h1 h2 h3=>hget_ok bm bw Ac C.length cc m9.Na m9.words m9.pc hm9.rl hm9.wl hm9.w s Ad Ar cd cr w h1 h2 h3
 obtain⟨tk,htk⟩:=Zgn (mC m9.words);obtain⟨s9,hs9⟩:=Zgn (nS m9.words s);rw[htk,hs9]at HG|-;refine bN func130 rfl ntmps130 rfl (Inv.start w) ?_;refine Z_2 ?_;refine ZO λb3=>?_;refine ZN λb4=>?_
 refine Z_5 ?_;refine ZS (λw hi=>HN w) ?_;rintro _ _ ⟨_,⟨bm,bw,rfl,rfl⟩,rfl⟩;refine gy ?_;refine jl (cy rfl rfl) Zh Zrf Zrf (Zv rfl) rfl ?_;refine fF (cy rfl rfl) rfl (dY ([fY bm bw none 0 0 R0 0,hwC bw Z0]) rfl (λ_ _=>rfl) Zi (λw hi hin=>HP bm bw w hin (λw' hk=>⟨RdV.M6 h3.d hi Zi hk,RdV.M6 h3.r hi Zi hk,h3.hd,h3.hr⟩))) rfl ?_;rintro _ _ ⟨_,⟨rfl,rfl⟩,rfl⟩;refine Z_5 ?_;refine fF (cy rfl rfl) rfl (dY ([fY bm bw none 0 0 R0 0,hwC bw W0]) rfl (λ_ _=>rfl) Zi (λw hi hin=>K6 bm bw R0 W0 hR16 A c C hC hl w hin (λw' hk=>RdV.M6 h hi Zi hk))) rfl ?_;rintro _ _ ⟨_,⟨Ac,cc,rfl,rfl⟩,rfl⟩;refine Z_4 ?_;refine fS ?_;refine Z_5 ?_;refine ZcL (hmF bm bw Ac cc C ⟨R0,W0,0⟩) (λw hi hin=>HR bm bw Ac cc w hin) ?_;rintro _ _ ⟨_,⟨n,rfl,rfl⟩,rfl⟩;refine ri ?_;refine ZW ?_ ?_<;>intro hc5
 .rw[hc5,ac];refine Z_3 ?_;refine ZS (λw hi=>jv s Ad Ar cd cr w (h3.MZ hi)) ?_;rintro _ _ ⟨_,⟨A1,c1,A2,c2,rfl,rfl⟩,rfl⟩;refine ZM ?_;refine Z_5 ?_;refine lS (cs':=[slD s A1 c1,slR s A2 c2]) (.inl rfl) Zu rfl rfl rfl Zh Zrf Zrf ?_;exact⟨⟨A1,c1,A2,c2⟩,rfl,rfl⟩
 rw[hc5,aa];refine Z_6 ?_;refine ZS (λw hi=>HG bm bw Ac cc w (hi.get Zh) (hi.get Zh) (h3.MZ hi)) ?_;rintro _ _ ⟨_,⟨X,rfl,rfl⟩,rfl⟩;refine Z_3 ?_;refine ZN λb11=>?_
 refine ZM ?_;refine dS ?_;refine ZW ?_ ?_<;>intro hc8
 .obtain rfl:tk=false:=(by cases tk with|false=>rfl|true=>cases hc8);refine Z_3 ?_;refine ZM ?_;refine Z_5 ?_;refine lS (cs':=[slD s X.Ad X.cd,slR s X.Ar X.cr]) (.inl rfl) Zu rfl rfl rfl Zh Zrf Zrf ?_;exact⟨X,rfl,rfl⟩
 obtain rfl:tk=true:=(by cases tk with|true=>rfl|false=>cases hc8);refine Z_6 ?_;refine Zy (ce rfl rfl Zv0 Zl) ?_;refine ZM ?_;refine Z_4 ?_;refine lS (cs':=[slD s9 X.Ad X.cd,slR s9 X.Ar X.cr]) (.inl rfl) Zu rfl rfl rfl Zh Zrf Zrf ?_;exact⟨X,rfl,rfl⟩
end Go.Proofs.YtkegldppffignaaGreatDoor
namespace Go.Ink
open Go.RowKit
abbrev II.cells(x:II):List Value:=[.int .i64 x.op,.int .i64 x.dst,.int .i64 x.a,.int .i64 x.b,.int .u32 x.imm]
structure PAd where
 Ac:Option Addr
 cc:Nat
 Ad:Option Addr
 cd:Nat
 Ar:Option Addr
 cr:Nat
abbrev jR(p:Pg)(Q:PAd):List Value:=[.slice Q.Ac p.code.length Q.cc,.int .i64 p.MM,.int .i64 p.MO,.int .i64 p.Nc,.int .i64 p.Ng,.slice Q.Ad p.MV.length Q.cd,.slice Q.Ar p.MW.length Q.cr,.int .i64 p.flags,.int .u32 p.next,.int .i64 p.target,.int .i64 p.branch,.int .u32 p.taken,.int .i64 p.count,.int .i64 p.values]
abbrev pgv(p:Pg)(Q:PAd):Value:= .agg (jR p Q).toArray
structure CdS where
 b:Nat
 p:Pg
 Q:PAd
 pl:Pl
 Ag:Option Addr
 cg:Nat
 As:Option Addr
 cs:Nat
structure CAd where
 Al:Option Addr
 cl:Nat
 Af:Option Addr
 cf:Nat
abbrev oC(S:CdS)(n m:Nat)(X:CAd):List Value:=[.slice S.Q.Ac S.p.code.length S.Q.cc,.int .i64 S.p.MM,.int .i64 S.p.MO,.int .i64 S.p.Nc,.int .i64 S.p.Ng,.slice S.Q.Ad S.p.MV.length S.Q.cd,.slice S.Q.Ar S.p.MW.length S.Q.cr,.int .i64 S.p.flags,.int .u32 S.p.next,.int .i64 S.p.target,.int .i64 S.p.branch,.int .u32 S.p.taken,.int .i64 S.p.count,.int .i64 S.p.values,
 .slice S.Ag S.pl.reg.length S.cg,.slice S.As S.pl.slot.length S.cs,.int .i64 S.pl.Nf,.slice X.Al n X.cl,.slice X.Af m X.cf]
theorem hi_one(l:List HI):∀u∈l.flatMap HI.cells,u.oneCell'=true:=λu hu=>by
 obtain⟨i, -,h⟩:=List.mem_flatMap.1 hu;simp only[HI.cells,aJ,aY,or_false]at h;rcases h with rfl|rfl|rfl|rfl|rfl<;>rfl
theorem hi_flat(a b:List HI):a.flatMap HI.cells++b.flatMap HI.cells=(a++b).flatMap HI.cells:=by simp
end Go.Ink
namespace Go.Proofs.YtkegldppffignaaGreatDoor
open Go.RowKit Go.Ink Go.Proofs.Tryz
attribute [local irreducible] OpY bS
abbrev cdF(S:CdS)(l:List HI)(fix:List Int)(X:CAd):List bL:=[row S.b (oC S l.length fix.length X) 282,hiC X.Al X.cl l,sl .i64 3 X.Af fix.length X.cf fix]
structure Jc(S:CdS)(w:World):Prop where
 reg:Rd w .i64 S.Ag S.pl.reg.length S.cg S.pl.reg
 slot:Rd w .i64 S.As S.pl.slot.length S.cs S.pl.slot
 MV:Rd w .i64 S.Q.Ad S.p.MV.length S.Q.cd S.p.MV
 MW:Rd w .i64 S.Q.Ar S.p.MW.length S.Q.cr S.p.MW
 code:RdV w 5 S.Q.Ac S.p.code.length S.Q.cc (S.p.code.flatMap II.cells)
section
variable (S:CdS) (l:List HI) (fix:List Int) (X:CAd) (hl:l.length<=50000)
include hl in
theorem kI(xs:List HI)(A:Option Addr)(c:Nat)(hx:xs.length<=50000)(w:World)(hi:Inv w (bM (cdF S l fix X)) (cdF S l fix X) w)(h:∀w',dG (bM (cdF S l fix X)) w w'->RdV w' 5 A xs.length c (xs.flatMap HI.cells)):
  Ctr prog 179 [.pointer (some ⟨S.b,0,none⟩),.slice A xs.length c] w (cdF S l fix X) (λr9 cs=>∃l' X',l'=l++xs/\cs=cdF S l' fix X'):=by
 refine bN func179 rfl ntmps179 rfl hi ?_;refine Z_7 ?_;refine gj (cD (e:=290) (sz:=5) (bytes:=40) rfl rfl Za rfl rfl (λw hi=>(h w hi.Nb)) (hi_one xs) gS Wq1) rfl ?_;rintro _ _ ⟨A2,c2,rfl,rfl⟩;rw[hi_flat,<-ae];refine Z_2 ?_;refine ZL ?_;refine Zn (jb (cs':=cdF S (l++xs) fix ⟨A2,c2,X.Af,X.cf⟩) (.inr rfl) Zu rfl ?_);exact⟨_,_,rfl,rfl⟩
include hl in
theorem kW(rd v:Int)(w:World)(hi:Inv w (bM (cdF S l fix X)) (cdF S l fix X) w):
  Ctr prog 174 [.pointer (some ⟨S.b,0,none⟩),.int .i64 rd,.int .u32 v] w (cdF S l fix X) (λr9 cs=>∃l' X',l'=l++[⟨1,rd,0,0,v⟩]/\cs=cdF S l' fix X'):=by
 refine bN func174 rfl ntmps174 rfl hi ?_;refine Z_5 ?_;refine ro ?_;rintro _ _ ⟨b10,rfl,rfl⟩;refine ZcL (cdF S l fix X) (λw hi hin=>kI S l fix X hl [⟨1,rd,0,0,v⟩] (some ⟨b10,0,none⟩) 1 cE w hin (λw' hk=>dk (hi.Nv Zi (show Has _ (slv 290 5 (some ⟨b10,0,none⟩) 1 1 ([⟨1,rd,0,0,v⟩].flatMap HI.cells))from Zh) hk))) ?_;rintro _ _ ⟨_,⟨_,X2,rfl,rfl⟩,rfl⟩;refine Zn (jb (cs':=cdF S (l++[⟨1,rd,0,0,v⟩]) fix X2) (.inr rfl) Zu rfl ?_);exact⟨_,_,rfl,rfl⟩
include hl in
theorem ii(o rd ra rb:Int)(w:World)(hi:Inv w (bM (cdF S l fix X)) (cdF S l fix X) w):
  Ctr prog 225 [.pointer (some ⟨S.b,0,none⟩),.int .i64 o,.int .i64 rd,.int .i64 ra,.int .i64 rb] w (cdF S l fix X) (λr9 cs=>∃l' X',l'=l++[⟨o,rd,ra,rb,0⟩]/\cs=cdF S l' fix X'):=by
 refine bN func225 rfl ntmps225 rfl hi ?_;refine Z_7 ?_;refine ro ?_;rintro _ _ ⟨b16,rfl,rfl⟩;refine ZcL (cdF S l fix X) (λw hi hin=>kI S l fix X hl [⟨o,rd,ra,rb,0⟩] (some ⟨b16,0,none⟩) 1 cE w hin (λw' hk=>dk (hi.Nv Zi (show Has _ (slv 290 5 (some ⟨b16,0,none⟩) 1 1 ([⟨o,rd,ra,rb,0⟩].flatMap HI.cells))from Zh) hk))) ?_;rintro _ _ ⟨_,⟨_,X2,rfl,rfl⟩,rfl⟩;refine Zn (jb (cs':=cdF S (l++[⟨o,rd,ra,rb,0⟩]) fix X2) (.inr rfl) Zu rfl ?_);exact⟨_,_,rfl,rfl⟩
include hl in
theorem zr(rd ra v:Int)(w:World)(hi:Inv w (bM (cdF S l fix X)) (cdF S l fix X) w):
  Ctr prog 224 [.pointer (some ⟨S.b,0,none⟩),.int .i64 rd,.int .i64 ra,.int .u32 v] w (cdF S l fix X) (λr9 cs=>∃l' X',l'=l++[⟨14,rd,ra,0,v⟩]/\cs=cdF S l' fix X'):=by
 refine bN func224 rfl ntmps224 rfl hi ?_;refine Z_6 ?_;refine ro ?_;rintro _ _ ⟨b13,rfl,rfl⟩;refine ZcL (cdF S l fix X) (λw hi hin=>kI S l fix X hl [⟨14,rd,ra,0,v⟩] (some ⟨b13,0,none⟩) 1 cE w hin (λw' hk=>dk (hi.Nv Zi (show Has _ (slv 290 5 (some ⟨b13,0,none⟩) 1 1 ([⟨14,rd,ra,0,v⟩].flatMap HI.cells))from Zh) hk))) ?_;rintro _ _ ⟨_,⟨_,X2,rfl,rfl⟩,rfl⟩;refine Zn (jb (cs':=cdF S (l++[⟨14,rd,ra,0,v⟩]) fix X2) (.inr rfl) Zu rfl ?_);exact⟨_,_,rfl,rfl⟩
include hl in
theorem vN(ra v rb:Int)(w:World)(hi:Inv w (bM (cdF S l fix X)) (cdF S l fix X) w):
  Ctr prog 232 [.pointer (some ⟨S.b,0,none⟩),.int .i64 ra,.int .u32 v,.int .i64 rb] w (cdF S l fix X) (λr9 cs=>∃l' X',l'=l++[⟨15,0,ra,rb,v⟩]/\cs=cdF S l' fix X'):=by
 refine bN func232 rfl ntmps232 rfl hi ?_;refine Z_6 ?_;refine ro ?_;rintro _ _ ⟨b13,rfl,rfl⟩;refine ZcL (cdF S l fix X) (λw hi hin=>kI S l fix X hl [⟨15,0,ra,rb,v⟩] (some ⟨b13,0,none⟩) 1 cE w hin (λw' hk=>dk (hi.Nv Zi (show Has _ (slv 290 5 (some ⟨b13,0,none⟩) 1 1 ([⟨15,0,ra,rb,v⟩].flatMap HI.cells))from Zh) hk))) ?_;rintro _ _ ⟨_,⟨_,X2,rfl,rfl⟩,rfl⟩;refine Zn (jb (cs':=cdF S (l++[⟨15,0,ra,rb,v⟩]) fix X2) (.inr rfl) Zu rfl ?_);exact⟨_,_,rfl,rfl⟩
include hl in
theorem vM(r:Int)(hf:fix.length<=1000)(w:World)(hi:Inv w (bM (cdF S l fix X)) (cdF S l fix X) w):
  Ctr prog 226 [.pointer (some ⟨S.b,0,none⟩),.int .i64 r] w (cdF S l fix X) (λr9 cs=>∃l' X',l'=l++[⟨17,0,r,0,0⟩]/\cs=cdF S l' (fix++[(l.length:Int)]) X'):=by
 refine bN func226 rfl ntmps226 rfl hi ?_;refine Zs (bU ⟨λj=>List.elem j [11,14],[]⟩ Zk ?_);refine gO ?_;refine ZE 2 ?_;refine ZFe 3 18 ?_;refine ZG 4 ?_;refine ZE 5 ?_;refine ZE 6 ?_;refine ZFe 7 17 ?_;refine cn 8 Zk ?_;refine kY ?_;refine ZE 9 ?_;refine cn 10 Zk ?_;refine xI ?_;rintro _ _ ⟨b14,rfl,rfl⟩;refine cn 11 Zk ?_;refine kf rfl rfl (cD (e:=3) (sz:=1) (bytes:=8) rfl rfl Za rfl rfl (λw hi=>hi.rd (show Has _ (slv 3 1 (some ⟨b14,0,none⟩) 1 1 (ints .i64 [(l.length:Int)]))from Zh)) cN gS Wq1) ZJ rfl ?_;rintro _ _ ⟨A2,c2,rfl,rfl⟩;rw[cj,show fix.length+1=(fix++[(l.length:Int)]).length by simp];refine ZE 12 ?_;refine ZFe 13 18 ?_;refine cn 14 Zk ?_;refine ZQ ?_;refine dx ?_;refine Z_5 ?_;refine ro ?_;rintro _ _ ⟨b21,rfl,rfl⟩;refine ZcL (cdF S l (fix++[(l.length:Int)]) ⟨X.Al,X.cl,A2,c2⟩) (λw hi hin=>kI S l (fix++[(l.length:Int)]) ⟨X.Al,X.cl,A2,c2⟩ hl [⟨17,0,r,0,0⟩] (some ⟨b21,0,none⟩) 1 cE w hin (λw' hk=>dk (hi.Nv Zi (show Has _ (slv 290 5 (some ⟨b21,0,none⟩) 1 1 ([⟨17,0,r,0,0⟩].flatMap HI.cells))from Zh) hk))) ?_;rintro _ _ ⟨_,⟨_,X2,rfl,rfl⟩,rfl⟩;refine Zn (jb (cs':=cdF S (l++[⟨17,0,r,0,0⟩]) (fix++[(l.length:Int)]) X2) (.inr rfl) Zu rfl ?_);exact⟨_,_,rfl,rfl⟩
end
end Go.Proofs.YtkegldppffignaaGreatDoor
