/- Lemmas. -/
import Derived.Test.YtomjgmbccamgiaaGreatDoorQaa
import Derived.Test.YtomjgmbccamgiaaGreatDoorQab
import Derived.Test.YtomjgmbccamgiaaGreatDoorQah
import Derived.Test.YtomjgmbccamgiaaGreatDoorQal
set_option linter.unusedSimpArgs false
set_option linter.unusedVariables false
set_option maxRecDepth 100000
set_option maxHeartbeats 4000000
namespace Go.Proofs.YtomjgmbccamgiaaGreatDoor
open Go.RowKit Go.Ink Go.Proofs.Tryz
attribute [local irreducible] OpY bW
abbrev fK(bm bw:Nat)(Ac:Option Addr)(n cc:Nat)(R:List Int)(pc:Int):bJ:=row bm (iV R bw Ac n cc pc) 290
abbrev hwC(bw:Nat)(W:List Int):bJ:=sl .u32 34 (some ⟨bw,0,none⟩) 256 256 W
abbrev hmF(bm bw:Nat)(Ac:Option Addr)(cc:Nat)(C:List HI)(m:HM):List bJ:=[fK bm bw Ac C.length cc m.IF m.pc,hwC bw m.words,hiC Ac cc C]
theorem hnew_ok(w:World):Ctr prog 120 [.int .i64 256] w [] (fun v cs=>∃bm bw,v= .tuple #[.pointer (some ⟨bm,0,none⟩),.int .i64 0]∧cs=[fK bm bw none 0 0 (List.replicate 16 0) 0,hwC bw (List.replicate 256 0)]):=by
 refine bL func120 rfl ntmps120 rfl (Inv.start w) ?_;refine vo ?_;refine bY rfl (rfl) ?_;refine Z_5 ?_;refine dM (jr (bytes:=4) (n:=256) rfl rfl rfl rfl rfl rfl rfl (by omega) (by simp only[maxLen];omega)) rfl ?_;rintro _ _ ⟨b11,rfl,rfl⟩;refine ZA ?_;refine ZO fun b13=>?_
 rw[kW];refine kQ [fK b13 b11 none 0 0 (List.replicate 16 0) 0,hwC b11 (List.replicate 256 0)] Zj ?_;refine Z_5 ?_;refine fw (cs':=[row _ _ _,slv _ _ _ _ _ _]) (.inl rfl) Zu rfl rfl rfl ?_;exact⟨_,_,rfl,rfl⟩
section
variable (bm bw:Nat) (Ac:Option Addr) (n cc:Nat) (R W:List Int) (pc:Int)
theorem wD(hR:R.length=16)(w:World)(h:(fK bm bw Ac n cc R pc).ok w):Ctr prog 155 [.pointer (some ⟨bm,0,none⟩)] w [] (fun v cs=>v= .int .i64 256∧cs=[]):=by
 refine bL func155 rfl ntmps155 rfl (Inv.start w) ?_;refine eK ?_;refine dU (bM Zrf Zv0) (dL h (DL hR)) rfl ?_;refine Z_5 ?_;refine Zra ?_;exact⟨rfl,rfl⟩
theorem zm(hR:R.length=16)(hW:W.length=256)(k:Nat)(hk:k<256)(w:World)(h:(fK bm bw Ac n cc R pc).ok w)(h2:(hwC bw W).ok w):Ctr prog 160 [.pointer (some ⟨bm,0,none⟩),.int .i64 k] w [] (fun v cs=>v= .int .u32 (W.getD k 0)∧cs=[]):=by
 have hx:W[k]? =some (W.getD k 0):=by rw[ax,ak (by omega)];rfl
 refine bL func160 rfl ntmps160 rfl (Inv.start w) ?_;refine qp ?_;refine lA (bS rfl rfl) (bM Zrf (dc rfl)) (dL h (DL hR)) rfl ?_;refine Z_5 ?_;refine bY rfl ((by rw[aF (show¬(k:Int)<0 by omega),aF (show¬((256:Nat):Int)≤k by omega)];rfl)) ?_;refine Z_7 ?_;refine dU (bM Zrf Zv0) (dL h (DL hR)) rfl ?_;refine ZA ?_;refine Zy (dk (j:=k) rfl Zrf (Zv rfl) (Zv rfl) (fun _=>by omega) (fun _=>by omega)) ?_;refine dU (bM Zrf Zv0) (fe (dq h2) (df hx)) rfl ?_;refine Z_4 ?_;refine Zra ?_;exact⟨rfl,rfl⟩
theorem pj(hR:R.length=16)(hW:W.length=256)(k:Nat)(hk:k<256)(v:Int)(w:World)(hi:Inv w (bK [fK bm bw Ac n cc R pc,hwC bw W]) [fK bm bw Ac n cc R pc,hwC bw W] w):
  Ctr prog 156 [.pointer (some ⟨bm,0,none⟩),.int .i64 k,.int .u32 v] w [fK bm bw Ac n cc R pc,hwC bw W] (fun x cs=>x= .bool true∧cs=[fK bm bw Ac n cc R pc,hwC bw (W.set k v)]):=by
 refine bL func156 rfl ntmps156 rfl hi ?_;refine qp ?_;refine lA (bS rfl rfl) (bM Zrf (dc rfl)) (bR Zh (DL hR)) rfl ?_;refine Z_5 ?_;refine bY rfl ((by rw[aF (show¬(k:Int)<0 by omega),aF (show¬((256:Nat):Int)≤k by omega)];rfl)) ?_;refine Z_7 ?_;refine dU (bM Zrf Zv0) (bR Zh (DL hR)) rfl ?_;refine Z_2 ?_;refine Zy (cI (j:=k) (sz:=1) (r:=k) rfl Zrf (Zv rfl) (Zv rfl) (fun _=>by omega) (fun _=>by omega) (by omega)) ?_;refine dz (gi Zrf rfl rfl rfl Za (by omega)) ?_;rintro _ _ ⟨rfl,rfl⟩;rw[gC];refine Z_8 ?_;refine Zrb ([row _ _ _,slv _ _ _ _ _ _]) ?_;exact⟨rfl,rfl⟩
theorem DM(hR:R.length=16)(hW:W.length=256)(f:Nat)(hf:f≤100)(A:Option Addr)(c:Nat)(l:List Int)(hl:l.length≤16)(w:World)(hi:Inv w (bK [fK bm bw Ac n cc R pc,hwC bw W]) [fK bm bw Ac n cc R pc,hwC bw W] w)
  (h:∀w',dQ (bK [fK bm bw Ac n cc R pc,hwC bw W]) w w'→Rd w' .u32 A l.length c l):
  Ctr prog 157 [.pointer (some ⟨bm,0,none⟩),.int .i64 f,.slice A l.length c] w [fK bm bw Ac n cc R pc,hwC bw W] (fun x cs=>cs=[fK bm bw Ac n cc R pc,hwC bw (jx W f l 16)]):=by
 have h0:=h w (dQ.refl _ _);refine bL func157 rfl ntmps157 rfl hi ?_;refine Z_6 ?_;refine cJ (fun k:Nat=>[(0,.pointer (some ⟨bm,0,none⟩)),(1,.int .i64 f),(2,.slice A l.length c),(8,.int .i64 (k:Int))]) (fun k=>[fK bm bw Ac n cc R pc,hwC bw (jx W f l k)]) (fun k=>k≤16) (fun k=>16 - k) (0) ?_ ?_ ?_ ?_
 ·exact aw _
 ·exact Zwk
 ·exact Zu
 rintro k hk;have hlk:(jx W f l k).length=256:=(by rw[jK,hW]);refine Z_6 ?_;refine ZW ?_ ?_<;>intro hc1
 ·simp only[ap]at hc1;refine qp ?_;refine de (fun _:Unit=>[(0,.pointer (some ⟨bm,0,none⟩)),(1,.int .i64 f),(2,.slice A l.length c),(6,.int .i64 (k:Int)),(7,.int .u32 (l.getD k 0)),(8,.int .i64 (k:Int))]) (fun _=>[fK bm bw Ac n cc R pc,hwC bw (jx W f l k)]) (fun _=>True) ?_ ?_
  ·refine Z_8 ?_;refine ZW ?_ ?_<;>intro hc4
   ·simp only[ap]at hc4;obtain⟨ad,rfl⟩:=h0.some_ (by omega);have hx:l[k]? =some (l.getD k 0):=(by rw[ax,ak (by omega)];rfl);refine Z_3 ?_;refine Zy (dk (j:=k) rfl Zrf (Zv rfl) (Zv rfl) (fun _=>by omega) (fun _=>by omega)) ?_;refine dU (bM Zrf Zv0) (ju h (df hx)) rfl ?_;refine Z_2 ?_;refine eh (()) ?_ ?_ ?_
    ·trivial
    ·exact Zwk
    exact Zu
   simp only[aj]at hc4;have e0:l.getD k 0=0:=(by rw[ax,List.getElem?_eq_none (by omega)];rfl);rw[e0];refine Zc ?_;refine eh (()) ?_ ?_ ?_
   ·trivial
   ·exact Zwk
   exact Zu
  rintro - -;refine Z_4 ?_;refine Zy (cF (Zv rfl) (Zv rfl) (show _=((f+k:Nat):Int)from by rw[IntWalk.i64_in _ ⟨by omega,by omega⟩];omega)) ?_;refine ZA ?_;refine ZcM ([fK bm bw Ac n cc R pc,hwC bw (jx W f l k)]) (fun w hi hin=>pj bm bw Ac n cc R (jx W f l k) pc hR hlk (f+k) (by omega) (l.getD k 0) w hin) ?_;refine Z_4 ?_;refine Zy (cF Zv0 Zv0 Zl) ?_;refine Z_2 ?_;refine eh (k+1) ?_ ?_ ?_
  ·exact⟨by omega,by omega⟩
  ·exact Zwk
  exact Zu
 simp only[aj]at hc1;obtain rfl:k=16:=by omega
 refine Z_4 ?_;refine fL (cs':=[row _ _ _,slv _ _ _ _ _ _]) (.inr rfl) Zu rfl ?_;exact rfl
end
theorem hput_ok(bm bw:Nat)(s:St)(hs:s.right=true)(hw:s.wf)(Ad Ar:Option Addr)(cd cr:Nat)(w:World)(hi:Inv w (bK [fK bm bw none 0 0 (List.replicate 16 0) 0,hwC bw (List.replicate 256 0)]) [fK bm bw none 0 0 (List.replicate 16 0) 0,hwC bw (List.replicate 256 0)] w)
  (h:∀w',dQ (bK [fK bm bw none 0 0 (List.replicate 16 0) 0,hwC bw (List.replicate 256 0)]) w w'→mR w' s Ad Ar cd cr):
  Ctr prog 121 [.pointer (some ⟨bm,0,none⟩),sv s Ad cd Ar cr] w [fK bm bw none 0 0 (List.replicate 16 0) 0,hwC bw (List.replicate 256 0)] (fun x cs=>x= .bool true∧cs=[fK bm bw none 0 0 (List.replicate 16 0) 0,hwC bw (IU s)]):=by
 have hR:(List.replicate 16 (0:Int)).length=16:=aO;obtain⟨R,hRe⟩:=Zgn (List.replicate 16 (0:Int));have hpw:IU s=(jx (jx (((((List.replicate 256 (0:Int)).set 0 s.pc).set 1 s.flags).set 2 (s.d.length:Int)).set 3 (s.r.length:Int)) 4 s.d 16) 20 s.r 16).set 36 0:=rfl;have hW0:(List.replicate 256 (0:Int)).length=256:=aO;obtain⟨W0,hWe⟩:=Zgn (List.replicate 256 (0:Int));rw[hWe]at hW0 hpw hi h⊢;rw[hRe]at hR hi h⊢;rw[hpw];obtain⟨hd16,hr16, -⟩:=St.fits hs;have HR:=mC s;rw[hs]at HR;have hW1:(W0.set 0 s.pc).length=256:=by rw[aL,hW0]
 have hW2:((W0.set 0 s.pc).set 1 s.flags).length=256:=by rw[aL,hW1]
 have hW3:(((W0.set 0 s.pc).set 1 s.flags).set 2 (s.d.length:Int)).length=256:=by rw[aL,hW2]
 have hW4:((((W0.set 0 s.pc).set 1 s.flags).set 2 (s.d.length:Int)).set 3 (s.r.length:Int)).length=256:=by rw[aL,hW3]
 have HL1:=DM bm bw none 0 0 R _ 0 hR hW4 4 (by decide) Ad cd s.d hd16;obtain⟨W4,hW4e⟩:=Zgn ((((W0.set 0 s.pc).set 1 s.flags).set 2 (s.d.length:Int)).set 3 (s.r.length:Int));rw[hW4e]at hW4 HL1⊢;have hW5:(jx W4 4 s.d 16).length=256:=by rw[jK,hW4]
 have HL2:=DM bm bw none 0 0 R _ 0 hR hW5 20 (by decide) Ar cr s.r hr16;have hW6:(jx (jx W4 4 s.d 16) 20 s.r 16).length=256:=by rw[jK,hW5]
 refine bL func121 rfl ntmps121 rfl hi ?_;refine Z_2 ?_;refine ZO fun b3=>?_;refine eK ?_;refine ku (bS rfl rfl) rfl (eG rfl (fun _ _=>rfl) (fun w hi=>wD bm bw none 0 0 R 0 hR w (hi.get Zh))) rfl ?_;rintro _ _ ⟨_,⟨rfl,rfl⟩,rfl⟩;refine Z_3 ?_;refine iO (bS rfl rfl) Zh Zrf Zrf (Zv rfl) rfl ?_;refine ku (bS rfl rfl) rfl (eG rfl (fun _ _=>rfl) (fun w hi=>HR Ad Ar cd cr w)) rfl ?_;rintro _ _ ⟨_,⟨rfl,rfl⟩,rfl⟩;refine Z_4 ?_;refine bY rfl (rfl) ?_;refine Z_7 ?_;refine ZcM ([fK bm bw none 0 0 R 0,hwC bw W0]) (fun w hi hin=>pj bm bw none 0 0 R W0 0 hR hW0 0 (by decide) s.pc w hin) ?_;refine Z_7 ?_;refine ZcM ([fK bm bw none 0 0 R 0,hwC bw (W0.set 0 s.pc)]) (fun w hi hin=>pj bm bw none 0 0 R _ 0 hR hW1 1 (by decide) s.flags w hin) ?_;refine Z_8 ?_;refine Zy (cu rfl rfl (Zv rfl) (by first|exact IntWalk.u32_in _ ⟨by omega,by omega⟩|exact rfl)) ?_;refine ZcM ([fK bm bw none 0 0 R 0,hwC bw ((W0.set 0 s.pc).set 1 s.flags)]) (fun w hi hin=>pj bm bw none 0 0 R _ 0 hR hW2 2 (by decide) (s.d.length:Int) w hin) ?_;refine Z_8 ?_;refine Zy (cu rfl rfl (Zv rfl) (by first|exact IntWalk.u32_in _ ⟨by omega,by omega⟩|exact rfl)) ?_;refine ZcM ([fK bm bw none 0 0 R 0,hwC bw (((W0.set 0 s.pc).set 1 s.flags).set 2 (s.d.length:Int))]) (fun w hi hin=>pj bm bw none 0 0 R _ 0 hR hW3 3 (by decide) (s.r.length:Int) w hin) ?_;rw[hW4e];refine Z_7 ?_;refine ZcL ([fK bm bw none 0 0 R 0,hwC bw W4]) (fun w hi hin=>HL1 w hin (fun w' hk=>(h w' (hi.past (fun c hc=>by simp only[aM,a9,or_false]at hc;rcases hc with rfl|rfl;exact Has.mem (show Has _ _ from Zh);exact Has.mem (show Has _ _ from Zh)) hk)).d)) ?_;rintro _ _ ⟨_,rfl,rfl⟩;refine Z_7 ?_;refine ZcL ([fK bm bw none 0 0 R 0,hwC bw (jx W4 4 s.d 16)]) (fun w hi hin=>HL2 w hin (fun w' hk=>(h w' (hi.past (fun c hc=>by simp only[aM,a9,or_false]at hc;rcases hc with rfl|rfl;exact Has.mem (show Has _ _ from Zh);exact Has.mem (show Has _ _ from Zh)) hk)).r)) ?_;rintro _ _ ⟨_,rfl,rfl⟩;refine Z_5 ?_;refine ZcM ([fK bm bw none 0 0 R 0,hwC bw (jx (jx W4 4 s.d 16) 20 s.r 16)]) (fun w hi hin=>pj bm bw none 0 0 R _ 0 hR hW6 36 (by decide) 0 w hin) ?_;refine Z_8 ?_;refine Zrb ([row _ _ _,slv _ _ _ _ _ _]) ?_;exact⟨rfl,rfl⟩
theorem GF(bm bw:Nat)(R W:List Int)(hR:R.length=16)(A:Option Addr)(c:Nat)(C:List HI)(hg:ge C)(hl:C.length≤100000)(w:World)(hi:Inv w (bK [fK bm bw none 0 0 R 0,hwC bw W]) [fK bm bw none 0 0 R 0,hwC bw W] w)
  (h:∀w',dQ (bK [fK bm bw none 0 0 R 0,hwC bw W]) w w'→Rd w' .u8 A (cO C).length c (cO C)):
  Ctr prog 122 [.pointer (some ⟨bm,0,none⟩),.slice A (cO C).length c] w [fK bm bw none 0 0 R 0,hwC bw W] (fun x cs=>∃Ac cc,x= .int .i64 0∧cs=hmF bm bw Ac cc C ⟨R,W,0⟩):=by
 refine bL func122 rfl ntmps122 rfl hi ?_;refine Z_8 ?_;refine ZS (fun w hi=>hall_ok A c C hg hl w (h w hi.IG)) ?_;rintro _ _ ⟨_,⟨Ac,cc,rfl,rfl⟩,rfl⟩;refine ic ?_;refine bY rfl (rfl) ?_;refine Z_9 ?_;refine dz (dH Zrf rfl rfl rfl Za (by rw[HV hR];omega)) ?_;rintro _ _ ⟨rfl,rfl⟩;rw[hm_setc hR];refine Z_2 ?_;refine dz (dH Zrf rfl rfl rfl Za (by rw[HV hR];omega)) ?_;rintro _ _ ⟨rfl,rfl⟩;rw[iU hR];refine Z_8 ?_;refine Zrb ([row _ _ _,slv _ _ _ _ _ _,slv _ _ _ _ _ _]) ?_;exact⟨Ac,cc,rfl,rfl⟩
theorem DK(bm bw:Nat)(Ac:Option Addr)(cc:Nat)(C:List HI)(hC:ge C)(m:HM)(hm:m.ok)(w:World)(hi:Inv w (bK (hmF bm bw Ac cc C m)) (hmF bm bw Ac cc C m) w):
  Ctr prog 159 [.pointer (some ⟨bm,0,none⟩)] w (hmF bm bw Ac cc C m) (fun x cs=>x= .int .i64 (Iu C m).1∧cs=hmF bm bw Ac cc C (Iu C m).2):=by
 have hR:=hm.rl;have hW:=hm.wl;have hr:=hm.r;have hwd:=hm.w;have hp0:=hm.pc;obtain⟨R,W,pc⟩:=m;dsimp only at hR hW hr hwd hp0;obtain⟨p,rfl⟩:∃p:Nat,pc=p:=ar hp0;have hi:Inv w (bK [fK bm bw Ac C.length cc R (p:Int),hwC bw W,hiC Ac cc C]) [fK bm bw Ac C.length cc R (p:Int),hwC bw W,hiC Ac cc C] w:=hi
 change Ctr _ _ _ w [fK bm bw Ac C.length cc R (p:Int),hwC bw W,hiC Ac cc C] _
 have hcap:=(dq (hi.get (show Has _ (hiC Ac cc C)from by repeat (first|exact .head _ _|apply Has.tail)))).cap;have hmx:=(dq (hi.get (show Has _ (hiC Ac cc C)from by repeat (first|exact .head _ _|apply Has.tail)))).max;have hsome:=fun h=>(dq (hi.get (show Has _ (hiC Ac cc C)from by repeat (first|exact .head _ _|apply Has.tail)))).some_ h
 simp only[maxLen]at hmx;have hS:(Iu C ⟨R,W,(p:Int)⟩)=bif decide ((p:Int)<0)||decide ((C.length:Int)≤(p:Int))then(2,⟨R,W,(p:Int)⟩)else hdo (C.getD p HI.zero) ⟨R,W,(p:Int)⟩:=rfl
 obtain⟨⟨why,m9⟩,hq⟩:=Zgn (Iu C ⟨R,W,(p:Int)⟩);rw[hq]at hS⊢;refine bL func159 rfl ntmps159 rfl hi ?_;refine Z_7 ?_;refine cj ⟨fun j=>List.elem j [],[]⟩ Zk ?_;refine ZE 0 ?_;refine ZE 1 ?_;refine ZFe 2 18 ?_;refine eQ 3 rfl Zk Zk Zk Zk (bM Zrf Zv0) (bR Zh (hm_p hR)) rfl ?_;refine ZE 4 ?_;refine ZE 5 ?_;refine ZF 6 ?_;refine ZF 7 ?_;refine ZFf 8 18 ?_;refine BV 9 rfl Zk Zk Zk Zk (bS rfl rfl) (bM Zrf (dc rfl)) (bR Zh (hm_p hR)) rfl ?_;refine ZF 10 ?_;refine ZF 11 ?_;refine ZFf 12 17 ?_;refine BV 13 rfl Zk Zk Zk Zk (bS rfl rfl) (bM Zrf (dc rfl)) (bR Zh (hm_c hR)) rfl ?_;refine ZF 14 ?_;refine ZF 15 ?_;refine ZE 16 ?_;refine bO Zk ?_;refine Zt ?_;refine ZW ?_ ?_<;>intro hc1
 ·rw[hc1,ac]at hS;obtain⟨rfl,rfl⟩:=Prod.mk.inj hS;refine Z_7 ?_;refine Zrb ([row _ _ _,slv _ _ _ _ _ _,slv _ _ _ _ _ _]) ?_;exact⟨rfl,rfl⟩
 rw[hc1,aa]at hS;have hpl:p<C.length:=(by simp at hc1;omega);obtain⟨i,hx⟩:∃i,C[p]? =some i:=⟨_,ak hpl⟩;rw[show C.getD p HI.zero=i by rw[ax,hx];rfl]at hS;have hg:=hC i (aK hx);obtain⟨ad,rfl⟩:=hsome (by omega);obtain⟨rd1,rd2⟩:=hg.rd;obtain⟨ra1,ra2⟩:=hg.ra;obtain⟨rb1,rb2⟩:=hg.rb;obtain⟨im1,im2⟩:=hg.imm;obtain⟨op1,op2⟩:=hg.op;obtain⟨op,rd,ra,rb,im⟩:=i;dsimp only at rd1 rd2 ra1 ra2 rb1 rb2 im1 im2 op1 op2;obtain⟨rd,rfl⟩:∃k:Nat,rd=k:=ar rd1;obtain⟨ra,rfl⟩:∃k:Nat,ra=k:=ar ra1;obtain⟨rb,rfl⟩:∃k:Nat,rb=k:=ar rb1;have hd0:hdo ⟨op,(rd:Int),(ra:Int),(rb:Int),im⟩ ⟨R,W,(p:Int)⟩=(bif op==0 then(0,⟨R,W,(p:Int)+1⟩)else bif op==1 then(0,⟨R.set rd im,W,(p:Int)+1⟩)else bif op==14||op==15 then(bif decide ((W.length:Int)≤IntKind.u64.wrap (R.getD ra 0+im))then(4,⟨R,W,(p:Int)⟩)else bif op==14 then(0,⟨R.set rd (W.getD (IntKind.u64.wrap (R.getD ra 0+im)).toNat 0),W,(p:Int)+1⟩)else(0,⟨R,W.set (IntKind.u64.wrap (R.getD ra 0+im)).toNat (IntKind.u32.wrap (R.getD rb 0)),(p:Int)+1⟩))else bif op==16||op==17 then(0,⟨R,W,bif(R.getD ra 0==0)==(op==16)then im else(p:Int)+1⟩)else bif op==18 then(0,⟨R,W,im⟩)else bif op==19 then(1,⟨R,W,(p:Int)⟩)else(0,⟨R.set rd (eT op (R.getD ra 0) (R.getD rb 0)),W,(p:Int)+1⟩)):=rfl;rw[hd0,hW]at hS;have ea:=qx hr ra;have eb:=qx hr rb;obtain⟨a,hae⟩:=Zgn (R.getD ra 0);obtain⟨b,hbe⟩:=Zgn (R.getD rb 0);have hra:=hm_r (bw:=bw) (Ac:=some ad) (n:=C.length) (cc:=cc) (pc:=(p:Int)) hR (show ra<16 by omega);have hrb:=hm_r (bw:=bw) (Ac:=some ad) (n:=C.length) (cc:=cc) (pc:=(p:Int)) hR (show rb<16 by omega);rw[hae]at hS ea hra;rw[hbe]at hS eb hrb;have hpl2:IntKind.u64.wrap (a+im)=((IntKind.u64.wrap (a+im)).toNat:Nat):=(by rw[aW];omega);obtain⟨pl,hple⟩:∃k:Nat,(IntKind.u64.wrap (a+im)).toNat=k:=⟨_,rfl⟩;rw[hple]at hpl2;rw[hpl2,aS]at hS;refine Z_3 ?_;refine cj ⟨fun j=>List.elem j [11],[]⟩ Zk ?_;refine ZE 0 ?_;refine ZE 1 ?_;refine ZFe 2 17 ?_;refine eQ 3 rfl Zk Zk Zk Zk (bM Zrf Zv0) (bR Zh (hm_c hR)) rfl ?_;refine ZE 4 ?_;refine ZE 5 ?_;refine ZFe 6 18 ?_;refine eQ 7 rfl Zk Zk Zk Zk (bM Zrf Zv0) (bR Zh (hm_p hR)) rfl ?_;refine cR 8 rfl Zk Zk Zk (dk (j:=p) rfl Zrf (Zv rfl) (Zv rfl) (fun _=>by omega) (fun _=>by omega)) rfl ?_;refine eQ 9 rfl Zk Zk Zk Zk (cC (vs:=[.int .i64 op,.int .i64 rd,.int .i64 ra,.int .i64 rb,.int .u32 im]) Zrf Zrf Zv0) (Cw Zh (fun j v hj=>fF (f:=HI.cells) Zrf (i:=j) hx hj)) rfl ?_;refine cE 10 Zk ?_;refine ZP fun b3=>?_
 refine cE 11 Zk ?_;refine ZR ?_;refine bO Zk ?_;refine Z_2 ?_;refine cj ⟨fun j=>List.elem j [],[]⟩ Zk ?_;refine ZE 0 ?_;refine ZFe 1 2 ?_;refine ZG 2 ?_;refine ZE 3 ?_;refine ZFe 4 0 ?_;refine cR 5 rfl Zk Zk Zk (dy (j:=ra) (sz:=1) (r:=ra) rfl Zrf (Zv rfl) (Zv rfl) (fun _=>by omega) (fun _=>by omega) (by omega)) rfl ?_;refine eQ 6 rfl Zk Zk Zk Zk (bM Zrf Zv0) (bR Zh hra) rfl ?_;refine ZE 7 ?_;refine ZFe 8 3 ?_;refine ZG 9 ?_;refine ZE 10 ?_;refine ZFe 11 0 ?_;refine cR 12 rfl Zk Zk Zk (dy (j:=rb) (sz:=1) (r:=rb) rfl Zrf (Zv rfl) (Zv rfl) (fun _=>by omega) (fun _=>by omega) (by omega)) rfl ?_;refine eQ 13 rfl Zk Zk Zk Zk (bM Zrf Zv0) (bR Zh hrb) rfl ?_;refine ZE 14 ?_;refine ZE 15 ?_;refine bO Zk ?_;refine Z_6 ?_;refine Zy (cu rfl rfl (Zv rfl) (by first|exact IntWalk.u64_in _ ⟨by omega,by omega⟩|exact rfl)) ?_;refine Zy (cF Zv0 Zv0 hpl2) ?_;refine Z_8 ?_;refine dU (bM Zrf Zv0) (bR Zh (hm_p hR)) rfl ?_;refine Zy (cF Zv0 Zv0 Zl) ?_;refine vo ?_;refine ZW ?_ ?_<;>intro hc9
 ·rw[hc9,ac]at hS;obtain⟨rfl,rfl⟩:=Prod.mk.inj hS;refine Z_9 ?_;refine dz (dH Zrf rfl rfl rfl Za (by simp[ints,hR])) ?_;rintro _ _ ⟨rfl,rfl⟩;rw[iU (by simp[hR])];refine Z_8 ?_;refine Zrb ([row _ _ _,slv _ _ _ _ _ _,slv _ _ _ _ _ _]) ?_;exact⟨rfl,rfl⟩
 rw[hc9,aa]at hS;refine Z_6 ?_;refine ZW ?_ ?_<;>intro hc10
 ·rw[hc10,ac]at hS;obtain⟨rfl,rfl⟩:=Prod.mk.inj hS;refine cj ⟨fun j=>List.elem j [9],[]⟩ Zk ?_;refine ZE 0 ?_;refine ZFe 1 1 ?_;refine ZG 2 ?_;refine ZFe 3 4 ?_;refine ZG 4 ?_;refine cR 5 rfl Zk Zk Zk (cu rfl rfl (Zv rfl) (by first|exact IntWalk.u64_in _ ⟨by omega,by omega⟩|exact rfl)) rfl ?_;refine ZE 6 ?_;refine ZFe 7 0 ?_;refine cR 8 rfl Zk Zk Zk (dy (j:=rd) (sz:=1) (r:=rd) rfl Zrf (Zv rfl) (Zv rfl) (fun _=>by omega) (fun _=>by omega) (by omega)) rfl ?_;refine cE 9 Zk ?_;refine dC rfl rfl (dH Zrf rfl rfl rfl Za (by simp[ints,hR];omega)) ZJ ?_;rintro _ _ ⟨rfl,rfl⟩;rw[uZ hR (by omega)];refine bO Zk ?_;refine Z_8 ?_;refine dz (dH Zrf rfl rfl rfl Za (by simp[ints,hR])) ?_;rintro _ _ ⟨rfl,rfl⟩;rw[iU (by simp[hR])];refine Z_8 ?_;refine Zrb ([row _ _ _,slv _ _ _ _ _ _,slv _ _ _ _ _ _]) ?_;exact⟨rfl,rfl⟩
 rw[hc10,aa]at hS;refine Z_7 ?_;refine ZW ?_ ?_<;>intro hc12
 ·rw[show(op==14||op==15)=true from by rw[hc12];rfl,ac]at hS;refine Z_2 ?_;refine cB rfl (hc12) ?_;refine Z_7 ?_;refine dU (bM Zrf Zv0) (bR Zh (DL hR)) rfl ?_;refine ZA ?_;refine Zy (cu rfl rfl (Zv rfl) (by first|exact IntWalk.u64_in _ ⟨by omega,by omega⟩|exact rfl)) ?_;refine Z_3 ?_;refine ZW ?_ ?_<;>intro hc14
  ·rw[hc14,ac]at hS;obtain⟨rfl,rfl⟩:=Prod.mk.inj hS;refine Z_9 ?_;refine Zrb ([row _ _ _,slv _ _ _ _ _ _,slv _ _ _ _ _ _]) ?_;exact⟨rfl,rfl⟩
  rw[hc14,aa]at hS;have hp256:pl<256:=(by simp at hc14;omega);have hxw:W[pl]? =some (W.getD pl 0):=(by rw[ax,ak (by omega)];rfl);have hwb:=iz hwd pl;obtain⟨x,hxe⟩:=Zgn (W.getD pl 0);rw[hxe]at hxw hwb hS;refine Z_9 ?_;refine ZW ?_ ?_<;>intro hc16
  ·rw[hc16,ac]at hS;obtain⟨rfl,rfl⟩:=Prod.mk.inj hS;refine cj ⟨fun j=>List.elem j [14],[]⟩ Zk ?_;refine ZE 0 ?_;refine ZFe 1 1 ?_;refine ZG 2 ?_;refine ZE 3 ?_;refine ZE 4 ?_;refine ZFe 5 16 ?_;refine eQ 6 rfl Zk Zk Zk Zk (bM Zrf Zv0) (bR Zh (DL hR)) rfl ?_;refine ZE 7 ?_;refine cR 8 rfl Zk Zk Zk (dk (j:=pl) rfl Zrf (Zv rfl) (Zv rfl) (fun _=>by omega) (fun _=>by omega)) rfl ?_;refine eQ 9 rfl Zk Zk Zk Zk (bM Zrf Zv0) (oU Zh (df hxw)) rfl ?_;refine cR 10 rfl Zk Zk Zk (cu rfl rfl (Zv rfl) (by first|exact IntWalk.u64_in _ ⟨by omega,by omega⟩|exact rfl)) rfl ?_;refine ZE 11 ?_;refine ZFe 12 0 ?_;refine cR 13 rfl Zk Zk Zk (dy (j:=rd) (sz:=1) (r:=rd) rfl Zrf (Zv rfl) (Zv rfl) (fun _=>by omega) (fun _=>by omega) (by omega)) rfl ?_;refine cE 14 Zk ?_;refine dC rfl rfl (dH Zrf rfl rfl rfl Za (by simp[ints,hR];omega)) ZJ ?_;rintro _ _ ⟨rfl,rfl⟩;rw[uZ hR (by omega)];refine bO Zk ?_;refine Z_8 ?_;refine dz (dH Zrf rfl rfl rfl Za (by simp[ints,hR])) ?_;rintro _ _ ⟨rfl,rfl⟩;rw[iU (by simp[hR])];refine Z_8 ?_;refine Zrb ([row _ _ _,slv _ _ _ _ _ _,slv _ _ _ _ _ _]) ?_;exact⟨rfl,rfl⟩
  rw[hc16,aa]at hS;obtain⟨rfl,rfl⟩:=Prod.mk.inj hS;refine Z_4 ?_;refine dU (bM Zrf Zv0) (bR Zh (DL hR)) rfl ?_;refine Z_2 ?_;refine Zy (cu rfl rfl (Zv rfl) (by first|exact IntWalk.u32_in _ ⟨by omega,by omega⟩|exact rfl)) ?_;refine Zy (cI (j:=pl) (sz:=1) (r:=pl) rfl Zrf (Zv rfl) (Zv rfl) (fun _=>by omega) (fun _=>by omega) (by omega)) ?_;refine dz (gi Zrf rfl rfl rfl Za (by omega)) ?_;rintro _ _ ⟨rfl,rfl⟩;rw[gC];refine Z_9 ?_;refine dz (dH Zrf rfl rfl rfl Za (by simp[ints,hR])) ?_;rintro _ _ ⟨rfl,rfl⟩;rw[iU (by simp[hR])];refine Z_8 ?_;refine Zrb ([row _ _ _,slv _ _ _ _ _ _,slv _ _ _ _ _ _]) ?_;exact⟨rfl,rfl⟩
 refine Z_5 ?_;refine ZW ?_ ?_<;>intro hc13
 ·rw[show(op==14||op==15)=true from by rw[hc12,hc13];rfl,ac]at hS;refine Z_7 ?_;refine dU (bM Zrf Zv0) (bR Zh (DL hR)) rfl ?_;refine ZA ?_;refine Zy (cu rfl rfl (Zv rfl) (by first|exact IntWalk.u64_in _ ⟨by omega,by omega⟩|exact rfl)) ?_;refine Z_3 ?_;refine ZW ?_ ?_<;>intro hc14
  ·rw[hc14,ac]at hS;obtain⟨rfl,rfl⟩:=Prod.mk.inj hS;refine Z_9 ?_;refine Zrb ([row _ _ _,slv _ _ _ _ _ _,slv _ _ _ _ _ _]) ?_;exact⟨rfl,rfl⟩
  rw[hc14,aa]at hS;have hp256:pl<256:=(by simp at hc14;omega);have hxw:W[pl]? =some (W.getD pl 0):=(by rw[ax,ak (by omega)];rfl);have hwb:=iz hwd pl;obtain⟨x,hxe⟩:=Zgn (W.getD pl 0);rw[hxe]at hxw hwb hS;refine Z_9 ?_;refine ZW ?_ ?_<;>intro hc16
  ·rw[hc16,ac]at hS;obtain⟨rfl,rfl⟩:=Prod.mk.inj hS;refine cj ⟨fun j=>List.elem j [14],[]⟩ Zk ?_;refine ZE 0 ?_;refine ZFe 1 1 ?_;refine ZG 2 ?_;refine ZE 3 ?_;refine ZE 4 ?_;refine ZFe 5 16 ?_;refine eQ 6 rfl Zk Zk Zk Zk (bM Zrf Zv0) (bR Zh (DL hR)) rfl ?_;refine ZE 7 ?_;refine cR 8 rfl Zk Zk Zk (dk (j:=pl) rfl Zrf (Zv rfl) (Zv rfl) (fun _=>by omega) (fun _=>by omega)) rfl ?_;refine eQ 9 rfl Zk Zk Zk Zk (bM Zrf Zv0) (oU Zh (df hxw)) rfl ?_;refine cR 10 rfl Zk Zk Zk (cu rfl rfl (Zv rfl) (by first|exact IntWalk.u64_in _ ⟨by omega,by omega⟩|exact rfl)) rfl ?_;refine ZE 11 ?_;refine ZFe 12 0 ?_;refine cR 13 rfl Zk Zk Zk (dy (j:=rd) (sz:=1) (r:=rd) rfl Zrf (Zv rfl) (Zv rfl) (fun _=>by omega) (fun _=>by omega) (by omega)) rfl ?_;refine cE 14 Zk ?_;refine dC rfl rfl (dH Zrf rfl rfl rfl Za (by simp[ints,hR];omega)) ZJ ?_;rintro _ _ ⟨rfl,rfl⟩;rw[uZ hR (by omega)];refine bO Zk ?_;refine Z_8 ?_;refine dz (dH Zrf rfl rfl rfl Za (by simp[ints,hR])) ?_;rintro _ _ ⟨rfl,rfl⟩;rw[iU (by simp[hR])];refine Z_8 ?_;refine Zrb ([row _ _ _,slv _ _ _ _ _ _,slv _ _ _ _ _ _]) ?_;exact⟨rfl,rfl⟩
  rw[hc16,aa]at hS;obtain⟨rfl,rfl⟩:=Prod.mk.inj hS;refine Z_4 ?_;refine dU (bM Zrf Zv0) (bR Zh (DL hR)) rfl ?_;refine Z_2 ?_;refine Zy (cu rfl rfl (Zv rfl) (by first|exact IntWalk.u32_in _ ⟨by omega,by omega⟩|exact rfl)) ?_;refine Zy (cI (j:=pl) (sz:=1) (r:=pl) rfl Zrf (Zv rfl) (Zv rfl) (fun _=>by omega) (fun _=>by omega) (by omega)) ?_;refine dz (gi Zrf rfl rfl rfl Za (by omega)) ?_;rintro _ _ ⟨rfl,rfl⟩;rw[gC];refine Z_9 ?_;refine dz (dH Zrf rfl rfl rfl Za (by simp[ints,hR])) ?_;rintro _ _ ⟨rfl,rfl⟩;rw[iU (by simp[hR])];refine Z_8 ?_;refine Zrb ([row _ _ _,slv _ _ _ _ _ _,slv _ _ _ _ _ _]) ?_;exact⟨rfl,rfl⟩
 rw[show(op==14||op==15)=false from by rw[hc12,hc13];rfl,aa]at hS;refine Z_7 ?_;refine ZW ?_ ?_<;>intro hc19
 ·rw[show(op==16||op==17)=true from by rw[hc19];rfl,ac]at hS;refine Z_2 ?_;refine cB rfl (hc19) ?_;refine eK ?_;refine ZW ?_ ?_<;>intro hc21
  ·rw[hc21,ac]at hS;obtain⟨rfl,rfl⟩:=Prod.mk.inj hS;refine Z_3 ?_;refine Zy (cu rfl rfl Zv0 Zl) ?_;refine eK ?_;refine dz (dH Zrf rfl rfl rfl Za (by simp[ints,hR])) ?_;rintro _ _ ⟨rfl,rfl⟩;rw[iU (by simp[hR])];refine Z_8 ?_;refine Zrb ([row _ _ _,slv _ _ _ _ _ _,slv _ _ _ _ _ _]) ?_;exact⟨rfl,rfl⟩
  rw[hc21,aa]at hS;obtain⟨rfl,rfl⟩:=Prod.mk.inj hS;refine Z_9 ?_;refine dz (dH Zrf rfl rfl rfl Za (by simp[ints,hR])) ?_;rintro _ _ ⟨rfl,rfl⟩;rw[iU (by simp[hR])];refine Z_8 ?_;refine Zrb ([row _ _ _,slv _ _ _ _ _ _,slv _ _ _ _ _ _]) ?_;exact⟨rfl,rfl⟩
 refine Z_5 ?_;refine ZW ?_ ?_<;>intro hc20
 ·rw[show(op==16||op==17)=true from by rw[hc19,hc20];rfl,ac]at hS;refine eK ?_;refine ZW ?_ ?_<;>intro hc21
  ·rw[hc21,ac]at hS;obtain⟨rfl,rfl⟩:=Prod.mk.inj hS;refine Z_3 ?_;refine Zy (cu rfl rfl Zv0 Zl) ?_;refine eK ?_;refine dz (dH Zrf rfl rfl rfl Za (by simp[ints,hR])) ?_;rintro _ _ ⟨rfl,rfl⟩;rw[iU (by simp[hR])];refine Z_8 ?_;refine Zrb ([row _ _ _,slv _ _ _ _ _ _,slv _ _ _ _ _ _]) ?_;exact⟨rfl,rfl⟩
  rw[hc21,aa]at hS;obtain⟨rfl,rfl⟩:=Prod.mk.inj hS;refine Z_9 ?_;refine dz (dH Zrf rfl rfl rfl Za (by simp[ints,hR])) ?_;rintro _ _ ⟨rfl,rfl⟩;rw[iU (by simp[hR])];refine Z_8 ?_;refine Zrb ([row _ _ _,slv _ _ _ _ _ _,slv _ _ _ _ _ _]) ?_;exact⟨rfl,rfl⟩
 rw[show(op==16||op==17)=false from by rw[hc19,hc20];rfl,aa]at hS;refine Z_6 ?_;refine ZW ?_ ?_<;>intro hc23
 ·rw[hc23,ac]at hS;obtain⟨rfl,rfl⟩:=Prod.mk.inj hS;refine Z_3 ?_;refine Zy (cu rfl rfl Zv0 Zl) ?_;refine eK ?_;refine dz (dH Zrf rfl rfl rfl Za (by simp[ints,hR])) ?_;rintro _ _ ⟨rfl,rfl⟩;rw[iU (by simp[hR])];refine Z_8 ?_;refine Zrb ([row _ _ _,slv _ _ _ _ _ _,slv _ _ _ _ _ _]) ?_;exact⟨rfl,rfl⟩
 rw[hc23,aa]at hS;refine Z_6 ?_;refine ZW ?_ ?_<;>intro hc25
 ·rw[hc25,ac]at hS;obtain⟨rfl,rfl⟩:=Prod.mk.inj hS;refine Z_8 ?_;refine Zrb ([row _ _ _,slv _ _ _ _ _ _,slv _ _ _ _ _ _]) ?_;exact⟨rfl,rfl⟩
 rw[hc25,aa]at hS;obtain⟨rfl,rfl⟩:=Prod.mk.inj hS;refine cj ⟨fun j=>List.elem j [11],[]⟩ Zk ?_;refine ZE 0 ?_;refine ZFe 1 1 ?_;refine ZG 2 ?_;refine ZFe 3 0 ?_;refine ZG 4 ?_;refine ZE 5 ?_;refine ZE 6 ?_;refine ZE 8 ?_;refine ZFe 9 0 ?_;refine cE 7 Zk ?_;refine ZT (fun w hi=>Be op a b ea eb w) ?_;rintro _ _ ⟨_,⟨rfl,rfl⟩,rfl⟩;refine cR 10 rfl Zk Zk Zk (dy (j:=rd) (sz:=1) (r:=rd) rfl Zrf (Zv rfl) (Zv rfl) (fun _=>by omega) (fun _=>by omega) (by omega)) rfl ?_;refine cE 11 Zk ?_;refine dC rfl rfl (dH Zrf rfl rfl rfl Za (by simp[ints,hR];omega)) ZJ ?_;rintro _ _ ⟨rfl,rfl⟩;rw[uZ hR (by omega)];refine bO Zk ?_;refine Z_8 ?_;refine dz (dH Zrf rfl rfl rfl Za (by simp[ints,hR])) ?_;rintro _ _ ⟨rfl,rfl⟩;rw[iU (by simp[hR])];refine Z_8 ?_;refine Zrb ([row _ _ _,slv _ _ _ _ _ _,slv _ _ _ _ _ _]) ?_;exact⟨rfl,rfl⟩
end Go.Proofs.YtomjgmbccamgiaaGreatDoor
namespace Go.Ink
open Go.RowKit
theorem hdo_one{i:HI}{m:HM}(h:(hdo i m).1=1):(hdo i m).2=m:=by
 unfold hdo at h⊢;cases h0:i.op==0 with
 |true=>rw[h0]at h;cases h
 |false=>cases h1:i.op==1 with
  |true=>rw[h0,h1]at h;cases h
  |false=>cases h2:i.op==14||i.op==15 with
   |true=>
    rw[h0,h1,h2]at h;simp only[ac,aa]at h⊢;cases h3:decide ((m.words.length:Int)≤oe m.IF i)with
    |true=>rfl
    |false=>rw[h3]at h;cases h4:i.op==14<;>rw[h4]at h<;>cases h
   |false=>cases h5:i.op==16||i.op==17 with
    |true=>rw[h0,h1,h2,h5]at h;cases h
    |false=>cases h6:i.op==18 with
     |true=>rw[h0,h1,h2,h5,h6]at h;cases h
     |false=>cases h7:i.op==19 with
      |true=>rfl
      |false=>rw[h0,h1,h2,h5,h6,h7]at h;cases h
theorem Bc{C:List HI}{m:HM}(h:(Iu C m).1=1):(Iu C m).2=m∧0≤m.pc∧m.pc<C.length:=by
 unfold Iu at h⊢;cases hd:decide (m.pc<0)||decide ((C.length:Int)≤m.pc)with
 |true=>rw[hd]at h;cases h
 |false=>
  rw[hd]at h;simp only[aa]at h⊢;have:=hdo_one h;simp only[bl,aj]at hd;exact⟨this,by omega,by omega⟩
def lF(W:List Int):Bool:= !((decide (16<W.getD 2 0)||decide (16<W.getD 3 0))||decide (15<W.getD 1 0))
def yZ(s:St)(r:(Int×Int)×HM):St×Int:=bif r.1.1 !=1 then(s,0)else bif lF r.2.words then(mU r.2.words s,r.1.2)else(s,0)
def ij(C:List HI)(s:St):St×Int:=yZ s (jo C 4096 ⟨List.replicate 16 0,IU s,0⟩)
theorem zo{C:List HI}(hC:ge C):∀(f:Nat) (m:HM),0≤(jo C f m).1.2∧(jo C f m).1.2≤4294967295
 |0,m=>z32
 |f+1,m=>by
  show 0≤(bif(Iu C m).1==0 then jo C f (Iu C m).2 else bif(Iu C m).1==1 then((1,(C.getD (Iu C m).2.pc.toNat HI.zero).imm),(Iu C m).2)else(((Iu C m).1,0),(Iu C m).2)).1.2∧(bif(Iu C m).1==0 then jo C f (Iu C m).2 else bif(Iu C m).1==1 then((1,(C.getD (Iu C m).2.pc.toNat HI.zero).imm),(Iu C m).2)else(((Iu C m).1,0),(Iu C m).2)).1.2≤_;cases(Iu C m).1==0 with
  |true=>exact zo hC f _
  |false=>cases(Iu C m).1==1 with
   |true=>
    show 0≤(C.getD (Iu C m).2.pc.toNat HI.zero).imm∧(C.getD (Iu C m).2.pc.toNat HI.zero).imm≤_;rw[ax];by_cases hl:(Iu C m).2.pc.toNat<C.length
    ·rw[ak hl];exact(hC _ (List.getElem_mem hl)).imm
    rw[List.getElem?_eq_none (by omega)];exact⟨by decide,by decide⟩
   |false=>exact z32
theorem FT{s:St}(h:s.wf)(hr:s.right=true):wds (IU s):=by
 obtain⟨h1,h2, -⟩:=St.fits hr;have hset:∀(W:List Int) (k:Nat) (v:Int),wds W→(0≤v∧v≤4294967295)→wds (W.set k v):=fun W k v hW hv x hx=>by
  rcases x0 hx with q|q
  ·exact hW x q
  rw[q];exact hv
 have hlay:∀(W:List Int) (f:Nat) (l:List Int),wds W→wds l→∀k,wds (jx W f l k):=fun W f l hW hl k=>by
  induction k with
  |zero=>exact hW
  |succ k ih=>exact hset _ _ _ ih (iz hl k)
 have h0:wds (List.replicate 256 (0:Int)):=fun x hx=>by rw[(List.mem_replicate.1 hx).2];decide
 have hd:wds s.d:=fun x hx=>h.d x hx
 have hrr:wds s.r:=fun x hx=>h.r x hx
 have a1:=hset _ 0 s.pc h0 h.pc;have a2:=hset _ 1 s.flags a1 h.flags;have a3:=hset _ 2 (s.d.length:Int) a2 ⟨by omega,by omega⟩;have a4:=hset _ 3 (s.r.length:Int) a3 ⟨by omega,by omega⟩;have a5:=hlay _ 4 s.d a4 hd 16;have a6:=hlay _ 20 s.r a5 hrr 16;have a7:=hset _ 36 0 a6 ⟨by decide,by decide⟩;unfold IU;exact a7
theorem hm0_of{R W:List Int}(h0:R.length=16)(h1:W.length=256)(h2:r64 R)(h3:wds W):HM.ok ⟨R,W,0⟩:=⟨h0,h1,h2,h3,bF _⟩
theorem hm0_ok{s:St}(h:s.wf)(hr:s.right=true):HM.ok ⟨List.replicate 16 0,IU s,0⟩:=
 hm0_of aO (y7 s) (fun x hx=>by rw[(List.mem_replicate.1 hx).2];decide) (FT h hr)
theorem DJ{C:List HI}(hC:ge C):∀(f:Nat) (m:HM),m.ok→(jo C f m).2.ok
 |0,m,h=>h
 |f+1,m,h=>by
  have h1:=zn hC h;show(bif(Iu C m).1==0 then jo C f (Iu C m).2 else bif(Iu C m).1==1 then _ else _).2.ok;cases(Iu C m).1==0 with
  |true=>exact DJ hC f _ h1
  |false=>cases(Iu C m).1==1 with
   |true=>exact h1
   |false=>exact h1
end Go.Ink
namespace Go.Proofs.YtomjgmbccamgiaaGreatDoor
open Go.RowKit Go.Ink Go.Proofs.Tryz
attribute [local irreducible] OpY bW
theorem Is(bm bw:Nat)(Ac:Option Addr)(cc:Nat)(C:List HI)(hC:ge C)(steps:Nat)(hst:steps≤100000)(m:HM)(hm:m.ok)(w:World)(hi:Inv w (bK (hmF bm bw Ac cc C m)) (hmF bm bw Ac cc C m) w):
  Ctr prog 123 [.pointer (some ⟨bm,0,none⟩),.int .i64 steps] w (hmF bm bw Ac cc C m) (fun x cs=>∃n:Nat,x= .tuple #[.int .i64 (jo C steps m).1.1,.int .u32 (jo C steps m).1.2,.int .i64 n]∧cs=hmF bm bw Ac cc C (jo C steps m).2):=by
 have hcap:=(dq (hi.get (show Has _ (hiC Ac cc C)from by repeat (first|exact .head _ _|apply Has.tail)))).cap;have hmx:=(dq (hi.get (show Has _ (hiC Ac cc C)from by repeat (first|exact .head _ _|apply Has.tail)))).max;have hsome:=fun h=>(dq (hi.get (show Has _ (hiC Ac cc C)from by repeat (first|exact .head _ _|apply Has.tail)))).some_ h
 simp only[maxLen]at hmx;obtain⟨⟨⟨how,im⟩,m9⟩,hq⟩:=Zgn (jo C steps m);rw[hq];have hq0:jo C (steps - 0) m=((how,im),m9):=hq;refine bL func123 rfl ntmps123 rfl hi ?_;refine ic ?_;refine cJ (fun q:Nat×HM=>[(0,.pointer (some ⟨bm,0,none⟩)),(1,.int .i64 steps),(7,.int .i64 (q.1:Int))]) (fun q=>hmF bm bw Ac cc C q.2) (fun q=>q.1≤steps∧q.2.ok∧jo C (steps - q.1) q.2=((how,im),m9)) (fun q=>steps - q.1) (⟨0,m⟩) ?_ ?_ ?_ ?_
 ·exact⟨aw _,hm,hq0⟩
 ·exact Zwk
 ·exact Zu
 rintro⟨k,m⟩ ⟨hk,hm,hE⟩;dsimp only at hk hm hE⊢;have HS:=DK bm bw Ac cc C hC m hm;have hm2:=zn hC hm;have hex:=Bc (C:=C) (m:=m);refine Z_8 ?_;refine ZW ?_ ?_<;>intro hc2
 ·simp only[ap]at hc2;obtain⟨f,hf⟩:∃f,steps - k=f+1:=⟨steps - k - 1,by omega⟩;rw[hf]at hE;have hE:(bif(Iu C m).1==0 then jo C f (Iu C m).2 else bif(Iu C m).1==1 then((1,(C.getD (Iu C m).2.pc.toNat HI.zero).imm),(Iu C m).2)else(((Iu C m).1,0),(Iu C m).2))=((how,im),m9):=hE;obtain⟨⟨why,m2⟩,hsq⟩:=Zgn (Iu C m);rw[hsq]at hE HS hm2 hex;dsimp only at hE hm2 hex;refine Z_7 ?_;refine ZcM (hmF bm bw Ac cc C m) (fun w hi hin=>HS w hin) ?_;refine qp ?_;refine ZW ?_ ?_<;>intro hc7
  ·rw[hc7,ac]at hE;refine Z_6 ?_;refine Zy (cF Zv0 Zv0 Zl) ?_;refine Z_2 ?_;refine eh ((⟨k+1,m2⟩:Nat×HM)) ?_ ?_ ?_
   ·exact⟨⟨by omega,hm2,by show jo C (steps - (k+1)) m2=_;rw[show steps - (k+1)=f by omega];exact hE⟩,by show steps - (k+1)<steps - k;omega⟩
   ·exact Zwk
   exact Zu
  rw[hc7,aa]at hE;refine Z_6 ?_;refine ZW ?_ ?_<;>intro hc8
  ·rw[hc8,ac]at hE;obtain⟨he1,rfl⟩:=Prod.mk.inj hE;obtain⟨rfl,rfl⟩:=Prod.mk.inj he1;have hw1:why=1:=(by simpa using hc8);subst hw1;obtain⟨rfl,hp0,hpl⟩:=hex rfl;have hR:=hm.rl;obtain⟨p,hpe⟩:∃p:Nat,m2.pc=p:=ar hp0;rw[hpe]at hpl;have hx:C[p]? =some (C.getD p HI.zero):=(by rw[ax,ak (show p<C.length by omega)];rfl);rw[show m2.pc.toNat=p by omega];obtain⟨ad,rfl⟩:=hsome (by omega);obtain⟨i,hie⟩:=Zgn (C.getD p HI.zero);rw[hie]at hx⊢;refine Zs (cj ⟨fun j=>List.elem j [],[]⟩ Zk ?_);refine ZE 0 ?_;refine ZE 1 ?_;refine ZE 2 ?_;refine ZFe 3 17 ?_;refine eQ 4 rfl Zk Zk Zk Zk (bM Zrf Zv0) (bR Zh (hm_c hR)) rfl ?_;refine ZE 5 ?_;refine ZE 6 ?_;refine ZFe 7 18 ?_;refine eQ 8 rfl Zk Zk Zk Zk (bM Zrf Zv0) (bR Zh (hm_p hR)) rfl ?_;refine cR 9 rfl Zk Zk Zk (dk (j:=p) rfl Zrf (Zv rfl) (Zv rfl) (fun _=>hpe) (fun _=>by omega)) rfl ?_;refine cR 10 rfl Zk Zk Zk (E7 4 rfl (Zv rfl) ((pJ ad (p*5) 4))) rfl ?_;refine eQ 11 rfl Zk Zk Zk Zk (bM Zrf (Zv rfl)) (fun w hi z hz=>by rw[aN]at hz;subst hz;exact(hi.rd (show Has _ (hiC (some ad) cc C)from Zh)).at_ ad rfl (p*5+4) (.int .u32 i.imm) (fF (f:=HI.cells) Zrf (i:=4) hx rfl)) rfl ?_;refine ZE 12 ?_;refine ZE 13 ?_;refine ZE 14 ?_;refine ZE 15 ?_;refine bO Zk ?_;refine Z_8 ?_;refine tz (cs':=[row _ _ _,slv _ _ _ _ _ _,slv _ _ _ _ _ _]) (.inl rfl) Zu rfl rfl rfl rfl ?_;exact⟨_,rfl,rfl⟩
  rw[hc8,aa]at hE;obtain⟨he1,rfl⟩:=Prod.mk.inj hE;obtain⟨rfl,rfl⟩:=Prod.mk.inj he1;refine p5 ?_;refine tz (cs':=[row _ _ _,slv _ _ _ _ _ _,slv _ _ _ _ _ _]) (.inl rfl) Zu rfl rfl rfl rfl ?_;exact⟨_,rfl,rfl⟩
 simp only[aj]at hc2;obtain rfl:k=steps:=(by omega);rw[Nat.sub_self]at hE;obtain⟨he1,rfl⟩:=Prod.mk.inj hE;obtain⟨rfl,rfl⟩:=Prod.mk.inj he1;refine Z_8 ?_;refine Zy (zX (Zv rfl) (Zv rfl) (show _=((k:Nat):Int)from by split<;>omega)) ?_;refine Z_6 ?_;refine tz (cs':=[row _ _ _,slv _ _ _ _ _ _,slv _ _ _ _ _ _]) (.inl rfl) Zu rfl rfl rfl rfl ?_;exact⟨_,rfl,rfl⟩
theorem wF(bm bw:Nat)(Ac:Option Addr)(n cc:Nat)(R W:List Int)(pc:Int)(hR:R.length=16)(hW:W.length=256)(f k:Nat)(hf:f≤100)(hk:k≤16)(w:World)(h:(fK bm bw Ac n cc R pc).ok w)(h2:(hwC bw W).ok w):
  Ctr prog 161 [.pointer (some ⟨bm,0,none⟩),.int .i64 f,.int .u32 k] w [] (fun x cs=>∃A c,x= .slice A (fV W f k).length c∧cs=[sl .u32 34 A (fV W f k).length c (fV W f k)]):=by
 have hl:∀j,(fV W f j).length=j:=fun j=>by simp[fV]
 have hsn:∀j,fV W f (j+1)=fV W f j++[W.getD (f+j) 0]:=fun j=>by unfold fV;rw[List.range_succ,List.map_append];rfl
 refine bL func161 rfl ntmps161 rfl (Inv.start w) ?_;refine jW ?_;refine dB 34 1 ?_;refine ZA ?_;refine Zy (cu rfl rfl Zv0 Zl) ?_;refine Z_4 ?_;refine cJ (fun q:Nat×Option Addr×Nat=>[(0,.pointer (some ⟨bm,0,none⟩)),(1,.int .i64 f),(7,.slice q.2.1 (fV W f q.1).length q.2.2),(10,.int .i64 k),(11,.int .i64 (q.1:Int))]) (fun q=>[sl .u32 34 q.2.1 (fV W f q.1).length q.2.2 (fV W f q.1)]) (fun q=>q.1≤k) (fun q=>k - q.1) (⟨0,none,0⟩) ?_ ?_ ?_ ?_
 ·exact aw _
 ·exact Zwk
 ·exact Zu
 rintro⟨j,A,c⟩ hj;dsimp only at hj⊢;refine Z_6 ?_;refine ZW ?_ ?_<;>intro hc3
 ·simp only[ap]at hc3;have hlj:=hl j;refine qp ?_;refine Zy (cF (Zv rfl) (Zv rfl) (show _=((f+j:Nat):Int)from by rw[IntWalk.i64_in _ ⟨by omega,by omega⟩];omega)) ?_;refine ZSe (fun w hi=>zm bm bw Ac n cc R W pc hR hW (f+j) (by omega) w (bJ.old h hi) (bJ.old h2 hi)) ?_;refine dM (cm rfl rfl Zrf Zrf rfl rfl) rfl ?_;rintro _ _ ⟨b20,rfl,rfl⟩;refine dM (cM (e:=34) (sz:=1) (bytes:=4) rfl rfl Za rfl rfl (fun w hi=>hi.rd (show Has _ (slv 34 1 (some ⟨b20,0,none⟩) 1 1 (ints .u32 [W.getD (f+j) 0]))from Zh)) cY (by simp only[maxLen];omega) (by omega)) rfl ?_;rintro _ _ ⟨A2,c2,rfl,rfl⟩;rw[cD,←hsn,show(fV W f j).length+1=(fV W f (j+1)).length by rw[hl,hl]];refine Z_5 ?_;refine Zy (cF Zv0 Zv0 Zl) ?_;refine Z_2 ?_;refine eh ((⟨j+1,A2,c2⟩:Nat×Option Addr×Nat)) ?_ ?_ ?_
  ·exact⟨by omega,by omega⟩
  ·exact Zwk
  exact Zu
 simp only[aj]at hc3;obtain rfl:j=k:=by omega
 refine gK ?_;refine Zrb ([slv _ _ _ _ _ _]) ?_;exact⟨_,_,rfl,rfl⟩
theorem hget_ok(bm bw:Nat)(Ac:Option Addr)(n cc:Nat)(R W:List Int)(pc:Int)(hR:R.length=16)(hW:W.length=256)(hwd:wds W)(s:St)(Ad Ar:Option Addr)(cd cr:Nat)(w:World)(h:(fK bm bw Ac n cc R pc).ok w)(h2:(hwC bw W).ok w)(h3:mR w s Ad Ar cd cr):
  Ctr prog 124 [.pointer (some ⟨bm,0,none⟩),sv s Ad cd Ar cr] w [] (fun x cs=>∃X:iv,x= .tuple #[sv (bif lF W then mU W s else s) X.Ad X.cd X.Ar X.cr,.bool (lF W)]∧cs=[slD (bif lF W then mU W s else s) X.Ad X.cd,slR (bif lF W then mU W s else s) X.Ar X.cr]):=by
 have HW:=zm bm bw Ac n cc R W pc hR hW;obtain⟨x2,e2,y2⟩:=lB hwd 2;obtain⟨x3,e3,y3⟩:=lB hwd 3;have y36:=iz hwd 36;obtain⟨x36,e36⟩:=Zgn (W.getD 36 0);have hgs:mU W s=⟨W.getD 0 0,fV W 4 x2,fV W 20 x3,W.getD 1 0,s.Il,s.It,s.ie,s.root,s.vec,s.epc,s.Im,s.addr,s.Ix,s.eie,IntKind.u64.wrap (s.count+x36),s.halted⟩:=by unfold mU;rw[e2,e3,e36,aS,aS]
 have htk:lF W= !((decide (16<(x2:Int))||decide (16<(x3:Int)))||decide (15<W.getD 1 0)):=by unfold lF;rw[e2,e3]
 rw[e36]at y36;have W2:=HW 2 (by decide);have W3:=HW 3 (by decide);have W36:=HW 36 (by decide);rw[e2]at W2;rw[e3]at W3;rw[e36]at W36;obtain⟨b,hb⟩:=Zgn (lF W);rw[hb]at htk⊢;refine bL func124 rfl ntmps124 rfl (Inv.start w) ?_;refine Z_2 ?_;refine ZO fun b3=>?_;refine ZN fun b4=>?_
 refine Z_6 ?_;refine ZS (fun w hi=>jp s Ad Ar cd cr w (h3.IB hi)) ?_;rintro _ _ ⟨_,⟨A1,c1,A2,c2,rfl,rfl⟩,rfl⟩;refine ZM ?_;refine Z_9 ?_;refine dX (bS rfl rfl) (.cons (dc rfl) .nil) (fun _ _=>rfl) (fun hg w hi=>wD bm bw Ac n cc R pc hR w (bJ.old h hi)) rfl ?_;refine Z_4 ?_;refine dX (bS rfl rfl) (.cons (dc rfl) (.cons Zv0 .nil)) (fun _ _=>rfl) (fun hg w hi=>W2 w (bJ.old h hi) (bJ.old h2 hi)) rfl ?_;refine Z_4 ?_;refine dX (bS rfl rfl) (.cons (dc rfl) (.cons Zv0 .nil)) (fun _ _=>rfl) (fun hg w hi=>W3 w (bJ.old h hi) (bJ.old h2 hi)) rfl ?_;refine Z_4 ?_;refine dX (bS rfl rfl) (.cons (dc rfl) (.cons (Zv rfl) .nil)) (fun _ _=>rfl) (fun hg w hi=>HW 1 (by decide) w (bJ.old h hi) (bJ.old h2 hi)) rfl ?_;refine Z_4 ?_;refine ZW ?_ ?_<;>intro hc2
 ·have hc:((decide (16<(x2:Int))||decide (16<(x3:Int)))||decide (15<W.getD 1 0))=true:=hc2;rw[hc]at htk;obtain rfl:b=false:=htk;refine Z_3 ?_;refine ZM ?_;refine Z_5 ?_;refine ee (cs':=[slD s A1 c1,slR s A2 c2]) (.inl rfl) Zu rfl rfl rfl Zh Zrf Zrf ?_;exact⟨⟨A1,c1,A2,c2⟩,rfl,rfl⟩
 have hc:((decide (16<(x2:Int))||decide (16<(x3:Int)))||decide (15<W.getD 1 0))=false:=hc2;rw[hc]at htk;obtain rfl:b=true:=htk;simp only[bl,aj]at hc;have HT2:=wF bm bw Ac n cc R W pc hR hW 4 x2 (by decide) (by omega);have HT3:=wF bm bw Ac n cc R W pc hR hW 20 x3 (by decide) (by omega);rw[ac,hgs];refine Z_5 ?_;refine ZSe (fun w hi=>HW 0 (by decide) w (bJ.old h hi) (bJ.old h2 hi)) ?_;refine ZA ?_;refine ZSe (fun w hi=>HW 1 (by decide) w (bJ.old h hi) (bJ.old h2 hi)) ?_;refine Z_1 ?_;refine ZL ?_;refine Z_1 ?_;refine ZL ?_;refine Z_6 ?_;refine ZSe (fun w hi=>W2 w (bJ.old h hi) (bJ.old h2 hi)) ?_;refine ZS (fun w hi=>HT2 w (bJ.old h hi) (bJ.old h2 hi)) ?_;rintro _ _ ⟨_,⟨A3,c3,rfl,rfl⟩,rfl⟩;refine Z_2 ?_;refine ZSe (fun w hi=>W3 w (bJ.old h hi) (bJ.old h2 hi)) ?_;refine ZS (fun w hi=>HT3 w (bJ.old h hi) (bJ.old h2 hi)) ?_;rintro _ _ ⟨_,⟨A4,c4,rfl,rfl⟩,rfl⟩;refine Z_1 ?_;refine ZL ?_;refine Z_1 ?_;refine ZL ?_;refine Z_3 ?_;refine cj ⟨fun j=>List.elem j [7],[]⟩ Zk ?_;refine ZFe 0 14 ?_;refine ZG 1 ?_;refine ZE 2 ?_;refine cE 3 Zk ?_;refine ZT (fun w hi=>W36 w (bJ.old h hi) (bJ.old h2 hi)) ?_;rintro _ _ ⟨_,⟨rfl,rfl⟩,rfl⟩;refine cR 4 rfl Zk Zk Zk (cu rfl rfl (Zv rfl) (by first|exact IntWalk.u64_in _ ⟨by omega,by omega⟩|exact rfl)) rfl ?_;refine cR 5 rfl Zk Zk Zk (cF Zv0 Zv0 rfl) rfl ?_;refine ZFe 6 14 ?_;refine cE 7 Zk ?_;refine ZQ ?_;refine bO Zk ?_;refine Z_4 ?_;refine ZM ?_;refine Z_4 ?_;refine ee (cs':=[sl .u32 34 A3 (fV W 4 x2).length c3 (fV W 4 x2),sl .u32 34 A4 (fV W 20 x3).length c4 (fV W 20 x3)]) (.inl rfl) Zu rfl rfl rfl Zh Zrf Zrf ?_;exact⟨⟨A3,c3,A4,c4⟩,rfl,rfl⟩
theorem erun_ok(A:Option Addr)(c:Nat)(C:List HI)(hC:ge C)(hl:C.length≤100000)(s:St)(hw:s.wf)(hs:s.right=true)(Ad Ar:Option Addr)(cd cr:Nat)(w:World)(h:Rd w .u8 A (cO C).length c (cO C))(h3:mR w s Ad Ar cd cr):
  Ctr prog 92 [.slice A (cO C).length c,sv s Ad cd Ar cr] w [] (fun x cs=>∃X:iv,x= .tuple #[sv (ij C s).1 X.Ad X.cd X.Ar X.cr,.int .i64 (ij C s).2]∧cs=[slD (ij C s).1 X.Ad X.cd,slR (ij C s).1 X.Ar X.cr]):=by
 have h0:=hm0_ok hw hs;have hm9:=DJ hC 4096 _ h0;have him:=zo hC 4096 ⟨List.replicate 16 0,IU s,0⟩;have hrc:ij C s=yZ s (jo C 4096 ⟨List.replicate 16 0,IU s,0⟩):=rfl;obtain⟨W0,hW0⟩:=Zgn (IU s);have HP:=fun bm bw w hi h=>hput_ok bm bw s hs hw Ad Ar cd cr w hi h
 obtain⟨R0,hR0⟩:=Zgn (List.replicate 16 (0:Int));obtain⟨Z0,hZ0⟩:=Zgn (List.replicate 256 (0:Int));have HN:=hnew_ok;rw[hW0,hR0]at h0 hm9 hrc him;rw[hR0,hZ0]at HN HP;rw[hW0]at HP;have HR:=fun bm bw Ac cc w hi=>Is bm bw Ac cc C hC 4096 (by decide) ⟨R0,W0,0⟩ h0 w hi
 obtain⟨⟨⟨how,im⟩,m9⟩,hq⟩:=Zgn (jo C 4096 ⟨R0,W0,0⟩);rw[hq]at HR hrc hm9 him;dsimp only at HR hrc hm9 him;have hre:yZ s ((how,im),m9)=bif how !=1 then(s,0)else bif lF m9.words then(mU m9.words s,im)else(s,0):=rfl
 rw[hrc,hre];clear hrc hq hre;have hR16:R0.length=16:=h0.rl;have HG:=fun bm bw Ac cc w h1 h2 h3=>hget_ok bm bw Ac C.length cc m9.IF m9.words m9.pc hm9.rl hm9.wl hm9.w s Ad Ar cd cr w h1 h2 h3
 obtain⟨tk,htk⟩:=Zgn (lF m9.words);obtain⟨s9,hs9⟩:=Zgn (mU m9.words s);rw[htk,hs9]at HG⊢;refine bL func92 rfl ntmps92 rfl (Inv.start w) ?_;refine Z_2 ?_;refine ZO fun b3=>?_;refine ZN fun b4=>?_
 refine Z_5 ?_;refine ZS (fun w hi=>HN w) ?_;rintro _ _ ⟨_,⟨bm,bw,rfl,rfl⟩,rfl⟩;refine ic ?_;refine iO (bS rfl rfl) Zh Zrf Zrf (Zv rfl) rfl ?_;refine ku (bS rfl rfl) rfl (dR ([fK bm bw none 0 0 R0 0,hwC bw Z0]) rfl (fun _ _=>rfl) Zi (fun w hi hin=>HP bm bw w hin (fun w' hk=>⟨RdV.Iz h3.d hi Zi hk,RdV.Iz h3.r hi Zi hk,h3.hd,h3.hr⟩))) rfl ?_;rintro _ _ ⟨_,⟨rfl,rfl⟩,rfl⟩;refine Z_5 ?_;refine ku (bS rfl rfl) rfl (dR ([fK bm bw none 0 0 R0 0,hwC bw W0]) rfl (fun _ _=>rfl) Zi (fun w hi hin=>GF bm bw R0 W0 hR16 A c C hC hl w hin (fun w' hk=>RdV.Iz h hi Zi hk))) rfl ?_;rintro _ _ ⟨_,⟨Ac,cc,rfl,rfl⟩,rfl⟩;refine Z_4 ?_;refine bY rfl (rfl) ?_;refine Z_5 ?_;refine ZcL (hmF bm bw Ac cc C ⟨R0,W0,0⟩) (fun w hi hin=>HR bm bw Ac cc w hin) ?_;rintro _ _ ⟨_,⟨n,rfl,rfl⟩,rfl⟩;refine p5 ?_;refine ZW ?_ ?_<;>intro hc5
 ·rw[hc5,ac];refine Z_3 ?_;refine ZS (fun w hi=>jp s Ad Ar cd cr w (h3.IB hi)) ?_;rintro _ _ ⟨_,⟨A1,c1,A2,c2,rfl,rfl⟩,rfl⟩;refine ZM ?_;refine Z_5 ?_;refine ee (cs':=[slD s A1 c1,slR s A2 c2]) (.inl rfl) Zu rfl rfl rfl Zh Zrf Zrf ?_;exact⟨⟨A1,c1,A2,c2⟩,rfl,rfl⟩
 rw[hc5,aa];refine Z_6 ?_;refine ZS (fun w hi=>HG bm bw Ac cc w (hi.get Zh) (hi.get Zh) (h3.IB hi)) ?_;rintro _ _ ⟨_,⟨X,rfl,rfl⟩,rfl⟩;refine Z_3 ?_;refine ZN fun b11=>?_
 refine ZM ?_;refine eK ?_;refine ZW ?_ ?_<;>intro hc8
 ·obtain rfl:tk=false:=(by cases tk with|false=>rfl|true=>cases hc8);refine Z_3 ?_;refine ZM ?_;refine Z_5 ?_;refine ee (cs':=[slD s X.Ad X.cd,slR s X.Ar X.cr]) (.inl rfl) Zu rfl rfl rfl Zh Zrf Zrf ?_;exact⟨X,rfl,rfl⟩
 obtain rfl:tk=true:=(by cases tk with|true=>rfl|false=>cases hc8);refine Z_6 ?_;refine Zy (cu rfl rfl Zv0 Zl) ?_;refine ZM ?_;refine Z_4 ?_;refine ee (cs':=[slD s9 X.Ad X.cd,slR s9 X.Ar X.cr]) (.inl rfl) Zu rfl rfl rfl Zh Zrf Zrf ?_;exact⟨X,rfl,rfl⟩
end Go.Proofs.YtomjgmbccamgiaaGreatDoor
namespace Go.Ink
open Go.RowKit
abbrev II.cells(x:II):List Value:=[.int .i64 x.op,.int .i64 x.dst,.int .i64 x.a,.int .i64 x.b,.int .u32 x.imm]
structure PAd where
 Ac:Option Addr
 cc:Nat
 Ad:Option Addr
 cd:Nat
 Ar:Option Addr
 cr:Nat
abbrev jm(p:Pg)(Q:PAd):List Value:=[.slice Q.Ac p.code.length Q.cc,.int .i64 p.Ii,.int .i64 p.Ij,.int .i64 p.IK,.int .i64 p.IN,.slice Q.Ad p.Iq.length Q.cd,.slice Q.Ar p.Ir.length Q.cr,.int .i64 p.flags,.int .u32 p.next,.int .i64 p.target,.int .i64 p.branch,.int .u32 p.taken,.int .i64 p.count,.int .i64 p.values]
abbrev pgv(p:Pg)(Q:PAd):Value:= .agg (jm p Q).toArray
structure CdS where
 b:Nat
 p:Pg
 Q:PAd
 pl:Pl
 Ag:Option Addr
 cg:Nat
 As:Option Addr
 cs:Nat
structure CAd where
 Al:Option Addr
 cl:Nat
 Af:Option Addr
 cf:Nat
abbrev nq(S:CdS)(n m:Nat)(X:CAd):List Value:=[.slice S.Q.Ac S.p.code.length S.Q.cc,.int .i64 S.p.Ii,.int .i64 S.p.Ij,.int .i64 S.p.IK,.int .i64 S.p.IN,.slice S.Q.Ad S.p.Iq.length S.Q.cd,.slice S.Q.Ar S.p.Ir.length S.Q.cr,.int .i64 S.p.flags,.int .u32 S.p.next,.int .i64 S.p.target,.int .i64 S.p.branch,.int .u32 S.p.taken,.int .i64 S.p.count,.int .i64 S.p.values,
 .slice S.Ag S.pl.reg.length S.cg,.slice S.As S.pl.slot.length S.cs,.int .i64 S.pl.IM,.slice X.Al n X.cl,.slice X.Af m X.cf]
theorem hi_one(l:List HI):∀u∈l.flatMap HI.cells,u.oneCell'=true:=fun u hu=>by
 obtain⟨i, -,h⟩:=List.mem_flatMap.1 hu;simp only[HI.cells,aM,a9,or_false]at h;rcases h with rfl|rfl|rfl|rfl|rfl<;>rfl
theorem hi_flat(a b:List HI):a.flatMap HI.cells++b.flatMap HI.cells=(a++b).flatMap HI.cells:=by simp
end Go.Ink
namespace Go.Proofs.YtomjgmbccamgiaaGreatDoor
open Go.RowKit Go.Ink Go.Proofs.Tryz
attribute [local irreducible] OpY bW
abbrev cdF(S:CdS)(l:List HI)(fix:List Int)(X:CAd):List bJ:=[row S.b (nq S l.length fix.length X) 277,hiC X.Al X.cl l,sl .i64 3 X.Af fix.length X.cf fix]
structure EV(S:CdS)(w:World):Prop where
 reg:Rd w .i64 S.Ag S.pl.reg.length S.cg S.pl.reg
 slot:Rd w .i64 S.As S.pl.slot.length S.cs S.pl.slot
 Iq:Rd w .i64 S.Q.Ad S.p.Iq.length S.Q.cd S.p.Iq
 Ir:Rd w .i64 S.Q.Ar S.p.Ir.length S.Q.cr S.p.Ir
 code:RdV w 5 S.Q.Ac S.p.code.length S.Q.cc (S.p.code.flatMap II.cells)
section
variable (S:CdS) (l:List HI) (fix:List Int) (X:CAd) (hl:l.length≤50000)
include hl in
theorem jT(xs:List HI)(A:Option Addr)(c:Nat)(hx:xs.length≤50000)(w:World)(hi:Inv w (bK (cdF S l fix X)) (cdF S l fix X) w)(h:∀w',dQ (bK (cdF S l fix X)) w w'→RdV w' 5 A xs.length c (xs.flatMap HI.cells)):
  Ctr prog 153 [.pointer (some ⟨S.b,0,none⟩),.slice A xs.length c] w (cdF S l fix X) (fun r9 cs=>∃l' X',l'=l++xs∧cs=cdF S l' fix X'):=by
 refine bL func153 rfl ntmps153 rfl hi ?_;refine Z_7 ?_;refine dM (cM (e:=285) (sz:=5) (bytes:=40) rfl rfl Za rfl rfl (fun w hi=>(h w hi.IG)) (hi_one xs) (by simp only[maxLen];omega) (by omega)) rfl ?_;rintro _ _ ⟨A2,c2,rfl,rfl⟩;rw[hi_flat,←ae];refine Z_2 ?_;refine ZL ?_;refine Zn (fL (cs':=cdF S (l++xs) fix ⟨A2,c2,X.Af,X.cf⟩) (.inr rfl) Zu rfl ?_);exact⟨_,_,rfl,rfl⟩
include hl in
theorem kb(rd v:Int)(w:World)(hi:Inv w (bK (cdF S l fix X)) (cdF S l fix X) w):
  Ctr prog 148 [.pointer (some ⟨S.b,0,none⟩),.int .i64 rd,.int .u32 v] w (cdF S l fix X) (fun r9 cs=>∃l' X',l'=l++[⟨1,rd,0,0,v⟩]∧cs=cdF S l' fix X'):=by
 refine bL func148 rfl ntmps148 rfl hi ?_;refine Z_5 ?_;refine dM (di rfl rfl Zrf Zrf rfl rfl rfl) rfl ?_;rintro _ _ ⟨b10,rfl,rfl⟩;refine ZcL (cdF S l fix X) (fun w hi hin=>jT S l fix X hl [⟨1,rd,0,0,v⟩] (some ⟨b10,0,none⟩) 1 (by simp) w hin (fun w' hk=>dq (hi.IY Zi (show Has _ (slv 285 5 (some ⟨b10,0,none⟩) 1 1 ([⟨1,rd,0,0,v⟩].flatMap HI.cells))from Zh) hk))) ?_;rintro _ _ ⟨_,⟨_,X2,rfl,rfl⟩,rfl⟩;refine Zn (fL (cs':=cdF S (l++[⟨1,rd,0,0,v⟩]) fix X2) (.inr rfl) Zu rfl ?_);exact⟨_,_,rfl,rfl⟩
include hl in
theorem gU(o rd ra rb:Int)(w:World)(hi:Inv w (bK (cdF S l fix X)) (cdF S l fix X) w):
  Ctr prog 199 [.pointer (some ⟨S.b,0,none⟩),.int .i64 o,.int .i64 rd,.int .i64 ra,.int .i64 rb] w (cdF S l fix X) (fun r9 cs=>∃l' X',l'=l++[⟨o,rd,ra,rb,0⟩]∧cs=cdF S l' fix X'):=by
 refine bL func199 rfl ntmps199 rfl hi ?_;refine Z_7 ?_;refine dM (di rfl rfl Zrf Zrf rfl rfl rfl) rfl ?_;rintro _ _ ⟨b16,rfl,rfl⟩;refine ZcL (cdF S l fix X) (fun w hi hin=>jT S l fix X hl [⟨o,rd,ra,rb,0⟩] (some ⟨b16,0,none⟩) 1 (by simp) w hin (fun w' hk=>dq (hi.IY Zi (show Has _ (slv 285 5 (some ⟨b16,0,none⟩) 1 1 ([⟨o,rd,ra,rb,0⟩].flatMap HI.cells))from Zh) hk))) ?_;rintro _ _ ⟨_,⟨_,X2,rfl,rfl⟩,rfl⟩;refine Zn (fL (cs':=cdF S (l++[⟨o,rd,ra,rb,0⟩]) fix X2) (.inr rfl) Zu rfl ?_);exact⟨_,_,rfl,rfl⟩
include hl in
theorem wZ(rd ra v:Int)(w:World)(hi:Inv w (bK (cdF S l fix X)) (cdF S l fix X) w):
  Ctr prog 198 [.pointer (some ⟨S.b,0,none⟩),.int .i64 rd,.int .i64 ra,.int .u32 v] w (cdF S l fix X) (fun r9 cs=>∃l' X',l'=l++[⟨14,rd,ra,0,v⟩]∧cs=cdF S l' fix X'):=by
 refine bL func198 rfl ntmps198 rfl hi ?_;refine Z_6 ?_;refine dM (di rfl rfl Zrf Zrf rfl rfl rfl) rfl ?_;rintro _ _ ⟨b13,rfl,rfl⟩;refine ZcL (cdF S l fix X) (fun w hi hin=>jT S l fix X hl [⟨14,rd,ra,0,v⟩] (some ⟨b13,0,none⟩) 1 (by simp) w hin (fun w' hk=>dq (hi.IY Zi (show Has _ (slv 285 5 (some ⟨b13,0,none⟩) 1 1 ([⟨14,rd,ra,0,v⟩].flatMap HI.cells))from Zh) hk))) ?_;rintro _ _ ⟨_,⟨_,X2,rfl,rfl⟩,rfl⟩;refine Zn (fL (cs':=cdF S (l++[⟨14,rd,ra,0,v⟩]) fix X2) (.inr rfl) Zu rfl ?_);exact⟨_,_,rfl,rfl⟩
include hl in
theorem tW(ra v rb:Int)(w:World)(hi:Inv w (bK (cdF S l fix X)) (cdF S l fix X) w):
  Ctr prog 206 [.pointer (some ⟨S.b,0,none⟩),.int .i64 ra,.int .u32 v,.int .i64 rb] w (cdF S l fix X) (fun r9 cs=>∃l' X',l'=l++[⟨15,0,ra,rb,v⟩]∧cs=cdF S l' fix X'):=by
 refine bL func206 rfl ntmps206 rfl hi ?_;refine Z_6 ?_;refine dM (di rfl rfl Zrf Zrf rfl rfl rfl) rfl ?_;rintro _ _ ⟨b13,rfl,rfl⟩;refine ZcL (cdF S l fix X) (fun w hi hin=>jT S l fix X hl [⟨15,0,ra,rb,v⟩] (some ⟨b13,0,none⟩) 1 (by simp) w hin (fun w' hk=>dq (hi.IY Zi (show Has _ (slv 285 5 (some ⟨b13,0,none⟩) 1 1 ([⟨15,0,ra,rb,v⟩].flatMap HI.cells))from Zh) hk))) ?_;rintro _ _ ⟨_,⟨_,X2,rfl,rfl⟩,rfl⟩;refine Zn (fL (cs':=cdF S (l++[⟨15,0,ra,rb,v⟩]) fix X2) (.inr rfl) Zu rfl ?_);exact⟨_,_,rfl,rfl⟩
include hl in
theorem tV(r:Int)(hf:fix.length≤1000)(w:World)(hi:Inv w (bK (cdF S l fix X)) (cdF S l fix X) w):
  Ctr prog 200 [.pointer (some ⟨S.b,0,none⟩),.int .i64 r] w (cdF S l fix X) (fun r9 cs=>∃l' X',l'=l++[⟨17,0,r,0,0⟩]∧cs=cdF S l' (fix++[(l.length:Int)]) X'):=by
 refine bL func200 rfl ntmps200 rfl hi ?_;refine Zs (cj ⟨fun j=>List.elem j [11,14],[]⟩ Zk ?_);refine ZE 0 ?_;refine ZE 1 ?_;refine ZE 2 ?_;refine ZFe 3 18 ?_;refine ZG 4 ?_;refine ZE 5 ?_;refine ZE 6 ?_;refine ZFe 7 17 ?_;refine cE 8 Zk ?_;refine eN rfl (bM Zrf Zv0) (bR Zh rfl) rfl ?_;refine ZE 9 ?_;refine cE 10 Zk ?_;refine gu rfl rfl (cm rfl rfl Zrf Zrf rfl rfl) ZJ rfl ?_;rintro _ _ ⟨b14,rfl,rfl⟩;refine cE 11 Zk ?_;refine gu rfl rfl (cM (e:=3) (sz:=1) (bytes:=8) rfl rfl Za rfl rfl (fun w hi=>hi.rd (show Has _ (slv 3 1 (some ⟨b14,0,none⟩) 1 1 (ints .i64 [(l.length:Int)]))from Zh)) cY (by simp only[maxLen];omega) (by omega)) ZJ rfl ?_;rintro _ _ ⟨A2,c2,rfl,rfl⟩;rw[cD,show fix.length+1=(fix++[(l.length:Int)]).length by simp];refine ZE 12 ?_;refine ZFe 13 18 ?_;refine cE 14 Zk ?_;refine ZQ ?_;refine bO Zk ?_;refine Z_5 ?_;refine dM (di rfl rfl Zrf Zrf rfl rfl rfl) rfl ?_;rintro _ _ ⟨b21,rfl,rfl⟩;refine ZcL (cdF S l (fix++[(l.length:Int)]) ⟨X.Al,X.cl,A2,c2⟩) (fun w hi hin=>jT S l (fix++[(l.length:Int)]) ⟨X.Al,X.cl,A2,c2⟩ hl [⟨17,0,r,0,0⟩] (some ⟨b21,0,none⟩) 1 (by simp) w hin (fun w' hk=>dq (hi.IY Zi (show Has _ (slv 285 5 (some ⟨b21,0,none⟩) 1 1 ([⟨17,0,r,0,0⟩].flatMap HI.cells))from Zh) hk))) ?_;rintro _ _ ⟨_,⟨_,X2,rfl,rfl⟩,rfl⟩;refine Zn (fL (cs':=cdF S (l++[⟨17,0,r,0,0⟩]) (fix++[(l.length:Int)]) X2) (.inr rfl) Zu rfl ?_);exact⟨_,_,rfl,rfl⟩
end
end Go.Proofs.YtomjgmbccamgiaaGreatDoor
namespace Go.Ink
open Go.RowKit
theorem Inv.Jc{S:List Nat}{cs cin rest:List bJ}{w0 w w':World}(h:Inv w0 S cs w)(hp:jX cin cs rest)(hk:dQ (bK cin) w w'):dQ S w0 w':=
 h.past (fun c hc=>hp.perm.symm.subset (aC _ hc)) hk
theorem eL{k:IntKind}{l:List Int}{n:Nat}(h:n<l.length):(ints k l)[n]? =some (.int k (l.getD n 0)):=df (by simp[ak h])
section
variable {C:Cx} {Q:kM} {fr:Fr} {cs:List bJ} {x y:Operand} {d:Option Nat} {T:TypeId} {ty:TypeId} {pos:String} {af:Array Edge} {gd:Option (Nat×Bool)} {g:Bool} {k:IntKind}
theorem eV{A:Option Addr}{ad:Addr}(hA:A=some ad){n c j:Nat}{i:Int}{e sz:Nat}(hT:C.P.underlying T=some (.slice e))(hs:∀w,(sizeOf e).run C.P w= .ok sz w)(hx:Ev fr g x (.slice A n c))(hy:Ev fr g y (.int k i))(hj:g=true→i=(j:Int))(h1:g=true→j<n):
  OpY C ⟨d,.indexAddr T x y,ty,pos,af,gd⟩ fr g Any (.pointer (some (ad.add (j*sz)))):=dk (n:=n) (c:=c) hT hs (hA▸hx) hy hj h1
end
theorem iZ(pl:Pl)(n into:Int):(jj pl n into).length≤1:=by unfold jj;cases pl.inR n<;>simp
theorem Du(pl:Pl)(n r:Int):(iT pl n r).length≤1:=by unfold iT;cases pl.inR n<;>simp
theorem qJ(op rd a b:Int):(JI op rd a b).length≤3:=by unfold JI;cases uP op<;>simp[Hx]
theorem wP(op a b:Int):(la op a b).length≤24:=by
 have:=qJ op 9 a b;unfold la fZ;cases op==16<;>cases op==17||op==25<;>simp[jQ,jP,gI,gV,sG]<;>omega
theorem vt(x:Int):IntKind.u32.wrap (IntKind.i64.wrap (64+x))=IntKind.u32.wrap (64+x):=by rw[aE,aE,bI];omega
end Go.Ink
namespace Go.Proofs.YtomjgmbccamgiaaGreatDoor
open Go.RowKit Go.Ink Go.Proofs.Tryz
attribute [local irreducible] OpY bW
theorem host_ok(op:Int)(w:World):Ctr prog 232 [.int .u32 op] w [] (fun r cs=>r= .int .i64 (ka op)∧cs=[]):=by
 refine bL func232 rfl ntmps232 rfl (Inv.start w) ?_;refine xk ?_;refine ZW ?_ ?_<;>intro hc2
 ·refine Z_8 ?_;refine Zra ?_;exact⟨by unfold ka;rw[hc2];rfl,rfl⟩
 refine Z_6 ?_;refine ZW ?_ ?_<;>intro hc4
 ·refine Z_8 ?_;refine Zra ?_;exact⟨by unfold ka;rw[hc2,hc4];rfl,rfl⟩
 refine Z_6 ?_;refine ZW ?_ ?_<;>intro hc6
 ·refine Z_8 ?_;refine Zra ?_;exact⟨by unfold ka;rw[hc2,hc4,hc6];rfl,rfl⟩
 refine Z_6 ?_;refine ZW ?_ ?_<;>intro hc8
 ·refine Z_8 ?_;refine Zra ?_;exact⟨by unfold ka;rw[hc2,hc4,hc6,hc8];rfl,rfl⟩
 refine Z_6 ?_;refine ZW ?_ ?_<;>intro hc10
 ·refine Z_8 ?_;refine Zra ?_;exact⟨by unfold ka;rw[hc2,hc4,hc6,hc8,hc10];rfl,rfl⟩
 refine Z_6 ?_;refine ZW ?_ ?_<;>intro hc12
 ·refine Z_8 ?_;refine Zra ?_;exact⟨by unfold ka;rw[hc2,hc4,hc6,hc8,hc10,hc12];rfl,rfl⟩
 refine Z_6 ?_;refine ZW ?_ ?_<;>intro hc14
 ·refine Z_8 ?_;refine Zra ?_;exact⟨by unfold ka;rw[hc2,hc4,hc6,hc8,hc10,hc12,hc14];rfl,rfl⟩
 refine Z_9 ?_;refine Zra ?_;exact⟨by unfold ka;rw[hc2,hc4,hc6,hc8,hc10,hc12,hc14];rfl,rfl⟩
theorem Gu(op:Int)(w:World):Ctr prog 207 [.int .i64 op] w [] (fun r cs=>r= .tuple #[.int .u32 (fD op),.bool (gY op)]∧cs=[]):=by
 refine bL func207 rfl ntmps207 rfl (Inv.start w) ?_;refine He ?_;refine ZW ?_ ?_<;>intro hc2
 ·refine Z_9 ?_;refine fw (cs':=[]) (.inl rfl) Zu rfl rfl rfl ?_;exact⟨by unfold fD gY;rw[hc2];rfl,rfl⟩
 refine Z_6 ?_;refine ZW ?_ ?_<;>intro hc4
 ·refine Z_9 ?_;refine fw (cs':=[]) (.inl rfl) Zu rfl rfl rfl ?_;exact⟨by unfold fD gY;rw[hc2,hc4];rfl,rfl⟩
 refine Z_6 ?_;refine ZW ?_ ?_<;>intro hc6
 ·refine Z_9 ?_;refine fw (cs':=[]) (.inl rfl) Zu rfl rfl rfl ?_;exact⟨by unfold fD gY;rw[hc2,hc4,hc6];rfl,rfl⟩
 refine Z_6 ?_;refine ZW ?_ ?_<;>intro hc8
 ·refine Z_9 ?_;refine fw (cs':=[]) (.inl rfl) Zu rfl rfl rfl ?_;exact⟨by unfold fD gY;rw[hc2,hc4,hc6,hc8];rfl,rfl⟩
 refine eK ?_;refine fw (cs':=[]) (.inl rfl) Zu rfl rfl rfl ?_;exact⟨by unfold fD gY;rw[hc2,hc4,hc6,hc8];rfl,rfl⟩
section
variable (S:CdS) (l:List HI) (fix:List Int) (X:CAd)
theorem cto_ok(hl:l.length≤20000)(n:Nat)(hn:n<S.pl.reg.length)(w:World)(hi:Inv w (bK (cdF S l fix X)) (cdF S l fix X) w)(hK:∀w',dQ (bK (cdF S l fix X)) w w'→EV S w'):
  Ctr prog 201 [.pointer (some ⟨S.b,0,none⟩),.int .i64 n] w (cdF S l fix X) (fun r9 cs=>r9= .int .i64 (dW S.pl n 9)∧∃l' X',l'=l++[]∧cs=cdF S l' (fix) X'):=by
 have hreg0:=(hK w (dQ.refl _ _)).reg;obtain⟨ag,hag⟩:∃ag,S.Ag=some ag:=Option.ne_none_iff_exists'.1 (fun e=>by have:=(hreg0.nil e).1;omega);have hreg:∀w',dQ (bK (cdF S l fix X)) w w'→RdV w' 1 (some ag) S.pl.reg.length S.cg (ints .i64 S.pl.reg):=fun w' hk=>hag▸(hK w' hk).reg
 refine bL func201 rfl ntmps201 rfl hi ?_;refine ic ?_;refine Zy (eV (j:=n) hag rfl Zrf Zv0 Zv0 Zrf (fun _=>hn)) ?_;refine dU (bM Zrf Zv0) (ju (v:= .int .i64 (S.pl.r n)) hreg (eL hn)) rfl ?_;refine Z_9 ?_;refine ZW ?_ ?_<;>intro hc2
 ·have hr:S.pl.inR n=true:=hc2;refine Z_8 ?_;refine Zrb (cdF S l fix X) ?_;exact⟨by unfold dW;rw[hr];rfl,l,X,(by simp only[ac,aa,aq,aP,aR,ay]),rfl⟩
 have hr:S.pl.inR n=false:=hc2;refine Z_8 ?_;refine Zrb (cdF S l fix X) ?_;exact⟨by unfold dW;rw[hr];rfl,l,X,(by simp only[ac,aa,aq,aP,aR,ay]),rfl⟩
theorem pF(hl:l.length≤20000)(n:Nat)(into:Int)(hn:n<S.pl.reg.length)(hn2:n<S.pl.slot.length)(w:World)(hi:Inv w (bK (cdF S l fix X)) (cdF S l fix X) w)(hK:∀w',dQ (bK (cdF S l fix X)) w w'→EV S w'):
  Ctr prog 202 [.pointer (some ⟨S.b,0,none⟩),.int .i64 n,.int .i64 into] w (cdF S l fix X) (fun r9 cs=>r9= .int .i64 (dW S.pl n into)∧∃l' X',l'=l++jj S.pl n into∧cs=cdF S l' (fix) X'):=by
 have hreg0:=(hK w (dQ.refl _ _)).reg;obtain⟨ag,hag⟩:∃ag,S.Ag=some ag:=Option.ne_none_iff_exists'.1 (fun e=>by have:=(hreg0.nil e).1;omega);have hreg:∀w',dQ (bK (cdF S l fix X)) w w'→RdV w' 1 (some ag) S.pl.reg.length S.cg (ints .i64 S.pl.reg):=fun w' hk=>hag▸(hK w' hk).reg
 have hslot0:=(hK w (dQ.refl _ _)).slot;obtain⟨asl,has⟩:∃ag,S.As=some ag:=Option.ne_none_iff_exists'.1 (fun e=>by have:=(hslot0.nil e).1;omega);have hslot:∀w',dQ (bK (cdF S l fix X)) w w'→RdV w' 1 (some asl) S.pl.slot.length S.cs (ints .i64 S.pl.slot):=fun w' hk=>has▸(hK w' hk).slot
 refine bL func202 rfl ntmps202 rfl hi ?_;refine ic ?_;refine Zy (eV (j:=n) hag rfl Zrf Zv0 Zv0 Zrf (fun _=>hn)) ?_;refine dU (bM Zrf Zv0) (ju (v:= .int .i64 (S.pl.r n)) hreg (eL hn)) rfl ?_;refine Z_9 ?_;refine ZW ?_ ?_<;>intro hc2
 ·have hr:S.pl.inR n=true:=hc2;have e1:jj S.pl n into=[]:=by unfold jj;rw[hr];rfl
  refine Z_8 ?_;refine Zrb (cdF S l fix X) ?_;exact⟨by unfold dW;rw[hr];rfl,l,X,(by simp only[e1,ac,aa,aq,aP,aR,ay]),rfl⟩
 have hr:S.pl.inR n=false:=hc2;have e1:jj S.pl n into=[⟨14,into,15,0,IntKind.u32.wrap (64+S.pl.s n)⟩]:=by unfold jj;rw[hr];rfl
 refine gK ?_;refine Zy (eV (j:=n) has rfl Zrf Zv0 Zv0 Zrf (fun _=>hn2)) ?_;refine dU (bM Zrf Zv0) (ju (v:= .int .i64 (S.pl.s n)) hslot (eL hn2)) rfl ?_;refine Zy (cF Zv0 Zv0 rfl) ?_;refine Zy (cu rfl rfl (Zv rfl) (vt _)) ?_;refine ZcL (cdF S l fix X) (fun w hi hin=>wZ S l fix X (by first|omega|(simp only[ae,ai,ao];omega)) into 15 (IntKind.u32.wrap (64+S.pl.s n)) w hin) ?_;rintro _ _ ⟨_,⟨l1,X1,hl1,rfl⟩,rfl⟩;refine Z_9 ?_;refine Zrb (cdF S l1 fix X1) ?_;exact⟨by unfold dW;rw[hr];rfl,l1,X1,(by simp only[hl1,e1,ac,aa,aq,aP,aR,ay]),rfl⟩
theorem G3(hl:l.length≤20000)(n:Nat)(r:Int)(hn:n<S.pl.reg.length)(hn2:n<S.pl.slot.length)(w:World)(hi:Inv w (bK (cdF S l fix X)) (cdF S l fix X) w)(hK:∀w',dQ (bK (cdF S l fix X)) w w'→EV S w'):
  Ctr prog 205 [.pointer (some ⟨S.b,0,none⟩),.int .i64 n,.int .i64 r] w (cdF S l fix X) (fun r9 cs=>∃l' X',l'=l++iT S.pl n r∧cs=cdF S l' (fix) X'):=by
 have hreg0:=(hK w (dQ.refl _ _)).reg;obtain⟨ag,hag⟩:∃ag,S.Ag=some ag:=Option.ne_none_iff_exists'.1 (fun e=>by have:=(hreg0.nil e).1;omega);have hreg:∀w',dQ (bK (cdF S l fix X)) w w'→RdV w' 1 (some ag) S.pl.reg.length S.cg (ints .i64 S.pl.reg):=fun w' hk=>hag▸(hK w' hk).reg
 have hslot0:=(hK w (dQ.refl _ _)).slot;obtain⟨asl,has⟩:∃ag,S.As=some ag:=Option.ne_none_iff_exists'.1 (fun e=>by have:=(hslot0.nil e).1;omega);have hslot:∀w',dQ (bK (cdF S l fix X)) w w'→RdV w' 1 (some asl) S.pl.slot.length S.cs (ints .i64 S.pl.slot):=fun w' hk=>has▸(hK w' hk).slot
 refine bL func205 rfl ntmps205 rfl hi ?_;refine Z_8 ?_;refine Zy (eV (j:=n) hag rfl Zrf Zv0 Zv0 Zrf (fun _=>hn)) ?_;refine dU (bM Zrf Zv0) (ju (v:= .int .i64 (S.pl.r n)) hreg (eL hn)) rfl ?_;refine Z_3 ?_;refine ZW ?_ ?_<;>intro hc0
 ·have hr:S.pl.inR n=false:=by unfold Pl.inR;rw[ap]at hc0;rw[aj];omega
  have e1:iT S.pl n r=[⟨15,0,15,r,IntKind.u32.wrap (64+S.pl.s n)⟩]:=by unfold iT;rw[hr];rfl
  refine Z_8 ?_;refine Zy (eV (j:=n) has rfl Zrf Zv0 Zv0 Zrf (fun _=>hn2)) ?_;refine dU (bM Zrf Zv0) (ju (v:= .int .i64 (S.pl.s n)) hslot (eL hn2)) rfl ?_;refine Zy (cF Zv0 Zv0 rfl) ?_;refine Zy (cu rfl rfl (Zv rfl) (vt _)) ?_;refine ZA ?_;refine ZcL (cdF S l fix X) (fun w hi hin=>tW S l fix X (by first|omega|(simp only[ae,ai,ao];omega)) 15 (IntKind.u32.wrap (64+S.pl.s n)) r w hin) ?_;rintro _ _ ⟨_,⟨l1,X1,hl1,rfl⟩,rfl⟩;refine Zn (fL (cs':=cdF S l1 fix X1) (.inr rfl) Zu rfl ?_);exact⟨l1,X1,(by simp only[hl1,e1,ac,aa,aq,aP,aR,ay]),rfl⟩
 have hr:S.pl.inR n=true:=by unfold Pl.inR;rw[aj]at hc0;rw[ap];omega
 have e1:iT S.pl n r=[]:=by unfold iT;rw[hr];rfl
 refine Zc (fL (cs':=cdF S l fix X) (.inr rfl) Zu rfl ?_);exact⟨l,X,(by simp only[e1,ac,aa,aq,aP,aR,ay]),rfl⟩
theorem clow_ok(hl:l.length≤40000)(r:Int)(w:World)(hi:Inv w (bK (cdF S l fix X)) (cdF S l fix X) w):
  Ctr prog 233 [.pointer (some ⟨S.b,0,none⟩),.int .i64 r] w (cdF S l fix X) (fun r9 cs=>∃l' X',l'=l++Hx r∧cs=cdF S l' (fix) X'):=by
 refine bL func233 rfl ntmps233 rfl hi ?_;refine Z_3 ?_;refine ZcL (cdF S l fix X) (fun w hi hin=>kb S l fix X (by first|omega|(simp only[ae,ai,ao];omega)) 12 4294967295 w hin) ?_;rintro _ _ ⟨_,⟨l1,X1,hl1,rfl⟩,rfl⟩;refine Z_6 ?_;refine ZcL (cdF S l1 fix X1) (fun w hi hin=>gU S l1 fix X1 (by first|omega|(simp only[hl1,ae,ai,ao];omega)) 5 r r 12 w hin) ?_;rintro _ _ ⟨_,⟨l2,X2,hl2,rfl⟩,rfl⟩;refine Zn (fL (cs':=cdF S l2 fix X2) (.inr rfl) Zu rfl ?_);exact⟨l2,X2,(by simp only[hl1,hl2,Hx,ac,aa,aq,aP,aR,ay]),rfl⟩
theorem tX(hl:l.length≤40000)(rd r:Int)(w:World)(hi:Inv w (bK (cdF S l fix X)) (cdF S l fix X) w):
  Ctr prog 234 [.pointer (some ⟨S.b,0,none⟩),.int .i64 rd,.int .i64 r] w (cdF S l fix X) (fun r9 cs=>∃l' X',l'=l++gV rd r∧cs=cdF S l' (fix) X'):=by
 refine bL func234 rfl ntmps234 rfl hi ?_;refine Z_3 ?_;refine ZcL (cdF S l fix X) (fun w hi hin=>kb S l fix X (by first|omega|(simp only[ae,ai,ao];omega)) 12 31 w hin) ?_;rintro _ _ ⟨_,⟨l1,X1,hl1,rfl⟩,rfl⟩;refine Z_6 ?_;refine ZcL (cdF S l1 fix X1) (fun w hi hin=>gU S l1 fix X1 (by first|omega|(simp only[hl1,ae,ai,ao];omega)) 9 rd r 12 w hin) ?_;rintro _ _ ⟨_,⟨l2,X2,hl2,rfl⟩,rfl⟩;refine Zn (fL (cs':=cdF S l2 fix X2) (.inr rfl) Zu rfl ?_);exact⟨l2,X2,(by simp only[hl1,hl2,gV,ac,aa,aq,aP,aR,ay]),rfl⟩
theorem sx(hl:l.length≤40000)(r up:Int)(w:World)(hi:Inv w (bK (cdF S l fix X)) (cdF S l fix X) w):
  Ctr prog 235 [.pointer (some ⟨S.b,0,none⟩),.int .i64 r,.int .u32 up] w (cdF S l fix X) (fun r9 cs=>∃l' X',l'=l++sG r up∧cs=cdF S l' (fix) X'):=by
 refine bL func235 rfl ntmps235 rfl hi ?_;refine Z_4 ?_;refine ZcL (cdF S l fix X) (fun w hi hin=>kb S l fix X (by first|omega|(simp only[ae,ai,ao];omega)) 12 up w hin) ?_;rintro _ _ ⟨_,⟨l1,X1,hl1,rfl⟩,rfl⟩;refine Z_7 ?_;refine ZcL (cdF S l1 fix X1) (fun w hi hin=>gU S l1 fix X1 (by first|omega|(simp only[hl1,ae,ai,ao];omega)) 8 r r 12 w hin) ?_;rintro _ _ ⟨_,⟨l2,X2,hl2,rfl⟩,rfl⟩;refine Z_5 ?_;refine ZcL (cdF S l2 fix X2) (fun w hi hin=>gU S l2 fix X2 (by first|omega|(simp only[hl1,hl2,ae,ai,ao];omega)) 6 10 10 r w hin) ?_;rintro _ _ ⟨_,⟨l3,X3,hl3,rfl⟩,rfl⟩;refine Zn (fL (cs':=cdF S l3 fix X3) (.inr rfl) Zu rfl ?_);exact⟨l3,X3,(by simp only[hl1,hl2,hl3,sG,ac,aa,aq,aP,aR,ay]),rfl⟩
theorem EC(hl:l.length≤30000)(op rd a b:Int)(w:World)(hi:Inv w (bK (cdF S l fix X)) (cdF S l fix X) w):
  Ctr prog 203 [.pointer (some ⟨S.b,0,none⟩),.int .u32 op,.int .i64 rd,.int .i64 a,.int .i64 b] w (cdF S l fix X) (fun r9 cs=>∃l' X',l'=l++JI op rd a b∧cs=cdF S l' (fix) X'):=by
 refine bL func203 rfl ntmps203 rfl hi ?_;refine Z_4 ?_;refine ZSe (fun w hi=>host_ok op w) ?_;refine Z_3 ?_;refine ZcL (cdF S l fix X) (fun w hi hin=>gU S l fix X (by first|omega|(simp only[ae,ai,ao];omega)) (ka op) rd a b w hin) ?_;rintro _ _ ⟨_,⟨l1,X1,hl1,rfl⟩,rfl⟩;refine qp ?_;refine ZW ?_ ?_<;>intro hc3
 ·refine Z_2 ?_;refine cB rfl (hc3) ?_;refine Z_2 ?_;refine fL (cs':=cdF S l1 fix X1) (.inr rfl) Zu rfl ?_;exact⟨l1,X1,(by simp only[hl1,JI,uP,Bool.or_true,Bool.true_or,Bool.or_false,Bool.false_or,hc3,ac,aa,aq,aP,aR,ay]),rfl⟩
 refine Z_6 ?_;refine ZW ?_ ?_<;>intro hc4
 ·refine Z_2 ?_;refine cB rfl (hc4) ?_;refine Z_2 ?_;refine fL (cs':=cdF S l1 fix X1) (.inr rfl) Zu rfl ?_;exact⟨l1,X1,(by simp only[hl1,JI,uP,Bool.or_true,Bool.true_or,Bool.or_false,Bool.false_or,hc3,hc4,ac,aa,aq,aP,aR,ay]),rfl⟩
 refine Z_6 ?_;refine ZW ?_ ?_<;>intro hc5
 ·refine Z_2 ?_;refine cB rfl (hc5) ?_;refine Z_2 ?_;refine fL (cs':=cdF S l1 fix X1) (.inr rfl) Zu rfl ?_;exact⟨l1,X1,(by simp only[hl1,JI,uP,Bool.or_true,Bool.true_or,Bool.or_false,Bool.false_or,hc3,hc4,hc5,ac,aa,aq,aP,aR,ay]),rfl⟩
 refine Z_5 ?_;refine ZW ?_ ?_<;>intro hc6
 ·refine Z_2 ?_;refine fL (cs':=cdF S l1 fix X1) (.inr rfl) Zu rfl ?_;exact⟨l1,X1,(by simp only[hl1,JI,uP,Bool.or_true,Bool.true_or,Bool.or_false,Bool.false_or,hc3,hc4,hc5,hc6,ac,aa,aq,aP,aR,ay]),rfl⟩
 refine Z_3 ?_;refine ZcL (cdF S l1 fix X1) (fun w hi hin=>clow_ok S l1 fix X1 (by first|omega|(simp only[hl1,ae,ai,ao];omega)) rd w hin) ?_;rintro _ _ ⟨_,⟨l2,X2,hl2,rfl⟩,rfl⟩;refine Z_2 ?_;refine fL (cs':=cdF S l2 fix X2) (.inr rfl) Zu rfl ?_;exact⟨l2,X2,(by simp only[hl1,hl2,JI,uP,Bool.or_true,Bool.true_or,Bool.or_false,Bool.false_or,hc3,hc4,hc5,hc6,ac,aa,aq,aP,aR,ay]),rfl⟩
theorem G7(hl:l.length≤20000)(op a b:Int)(w:World)(hi:Inv w (bK (cdF S l fix X)) (cdF S l fix X) w):
  Ctr prog 204 [.pointer (some ⟨S.b,0,none⟩),.int .u32 op,.int .i64 a,.int .i64 b] w (cdF S l fix X) (fun r9 cs=>∃l' X',l'=l++la op a b∧cs=cdF S l' (fix) X'):=by
 have ha:=qJ op 9 a b;have hs:∀x y,(gV x y).length=2:=fun _ _=>rfl
 have hb:∀x y,(sG x y).length=3:=fun _ _=>rfl
 refine bL func204 rfl ntmps204 rfl hi ?_;refine Z_6 ?_;refine ZcL (cdF S l fix X) (fun w hi hin=>EC S l fix X (by first|omega|(simp only[hs,hb,ae,ai,ao];omega)) op 9 a b w hin) ?_;rintro _ _ ⟨_,⟨l1,X1,hl1,rfl⟩,rfl⟩;refine Z_5 ?_;refine ZcL (cdF S l1 fix X1) (fun w hi hin=>gU S l1 fix X1 (by first|omega|(simp only[hs,hb,hl1,ae,ai,ao];omega)) 13 10 9 15 w hin) ?_;rintro _ _ ⟨_,⟨l2,X2,hl2,rfl⟩,rfl⟩;refine Z_5 ?_;refine ZcL (cdF S l2 fix X2) (fun w hi hin=>tX S l2 fix X2 (by first|omega|(simp only[hs,hb,hl1,hl2,ae,ai,ao];omega)) 11 9 w hin) ?_;rintro _ _ ⟨_,⟨l3,X3,hl3,rfl⟩,rfl⟩;refine Z_5 ?_;refine ZcL (cdF S l3 fix X3) (fun w hi hin=>sx S l3 fix X3 (by first|omega|(simp only[hs,hb,hl1,hl2,hl3,ae,ai,ao];omega)) 11 1 w hin) ?_;rintro _ _ ⟨_,⟨l4,X4,hl4,rfl⟩,rfl⟩;refine Z_2 ?_;refine de (fun q:List HI×CAd=>[(0,.pointer (some ⟨S.b,0,none⟩))]) (fun q=>cdF S q.1 fix q.2) (fun q=>q.1.length≤l.length+30∧q.1++(⟨5,11,11,12,0⟩::(gV 11 11++sG 11 3))=l++la op a b) ?_ ?_
 ·refine gK ?_;refine ZW ?_ ?_<;>intro hc5
  ·refine Z_4 ?_;refine ZcL (cdF S l4 fix X4) (fun w hi hin=>gU S l4 fix X4 (by first|omega|(simp only[hs,hb,hl1,hl2,hl3,hl4,ae,ai,ao];omega)) 12 11 9 a w hin) ?_;rintro _ _ ⟨_,⟨l5,X5,hl5,rfl⟩,rfl⟩;refine Z_5 ?_;refine ZcL (cdF S l5 fix X5) (fun w hi hin=>sx S l5 fix X5 (by first|omega|(simp only[hs,hb,hl1,hl2,hl3,hl4,hl5,ae,ai,ao];omega)) 11 2 w hin) ?_;rintro _ _ ⟨_,⟨l6,X6,hl6,rfl⟩,rfl⟩;refine Z_6 ?_;refine ZcL (cdF S l6 fix X6) (fun w hi hin=>gU S l6 fix X6 (by first|omega|(simp only[hs,hb,hl1,hl2,hl3,hl4,hl5,hl6,ae,ai,ao];omega)) 7 11 a 9 w hin) ?_;rintro _ _ ⟨_,⟨l7,X7,hl7,rfl⟩,rfl⟩;refine Z_5 ?_;refine ZcL (cdF S l7 fix X7) (fun w hi hin=>gU S l7 fix X7 (by first|omega|(simp only[hs,hb,hl1,hl2,hl3,hl4,hl5,hl6,hl7,ae,ai,ao];omega)) 7 12 b 9 w hin) ?_;rintro _ _ ⟨_,⟨l8,X8,hl8,rfl⟩,rfl⟩;refine Z_2 ?_;refine eh (((l8,X8):List HI×CAd)) ?_ ?_ ?_
   ·exact⟨by simp only[hs,hb,hl1,hl2,hl3,hl4,hl5,hl6,hl7,hl8,ae,ai,ao];omega,by simp only[hl1,hl2,hl3,hl4,hl5,hl6,hl7,hl8,la,fZ,jQ,jP,gI,ac,aa,Bool.true_or,Bool.or_true,aq,aP,aR,hc5]⟩
   ·exact Zwk
   exact Zu
  refine Z_7 ?_;refine ZW ?_ ?_<;>intro hc10
  ·refine Z_2 ?_;refine cB rfl (hc10) ?_;refine Z_5 ?_;refine ZcL (cdF S l4 fix X4) (fun w hi hin=>gU S l4 fix X4 (by first|omega|(simp only[hs,hb,hl1,hl2,hl3,hl4,ae,ai,ao];omega)) 12 11 a b w hin) ?_;rintro _ _ ⟨_,⟨l5,X5,hl5,rfl⟩,rfl⟩;refine Z_5 ?_;refine ZcL (cdF S l5 fix X5) (fun w hi hin=>sx S l5 fix X5 (by first|omega|(simp only[hs,hb,hl1,hl2,hl3,hl4,hl5,ae,ai,ao];omega)) 11 2 w hin) ?_;rintro _ _ ⟨_,⟨l6,X6,hl6,rfl⟩,rfl⟩;refine Z_7 ?_;refine ZcL (cdF S l6 fix X6) (fun w hi hin=>gU S l6 fix X6 (by first|omega|(simp only[hs,hb,hl1,hl2,hl3,hl4,hl5,hl6,ae,ai,ao];omega)) 7 11 a b w hin) ?_;rintro _ _ ⟨_,⟨l7,X7,hl7,rfl⟩,rfl⟩;refine Z_5 ?_;refine ZcL (cdF S l7 fix X7) (fun w hi hin=>gU S l7 fix X7 (by first|omega|(simp only[hs,hb,hl1,hl2,hl3,hl4,hl5,hl6,hl7,ae,ai,ao];omega)) 7 12 a 9 w hin) ?_;rintro _ _ ⟨_,⟨l8,X8,hl8,rfl⟩,rfl⟩;refine Z_2 ?_;refine eh (((l8,X8):List HI×CAd)) ?_ ?_ ?_
   ·exact⟨by simp only[hs,hb,hl1,hl2,hl3,hl4,hl5,hl6,hl7,hl8,ae,ai,ao];omega,by simp only[hl1,hl2,hl3,hl4,hl5,hl6,hl7,hl8,la,fZ,jQ,jP,gI,ac,aa,Bool.true_or,Bool.or_true,aq,aP,aR,hc5,hc10]⟩
   ·exact Zwk
   exact Zu
  refine Z_5 ?_;refine ZW ?_ ?_<;>intro hc11
  ·refine Z_5 ?_;refine ZcL (cdF S l4 fix X4) (fun w hi hin=>gU S l4 fix X4 (by first|omega|(simp only[hs,hb,hl1,hl2,hl3,hl4,ae,ai,ao];omega)) 12 11 a b w hin) ?_;rintro _ _ ⟨_,⟨l5,X5,hl5,rfl⟩,rfl⟩;refine Z_5 ?_;refine ZcL (cdF S l5 fix X5) (fun w hi hin=>sx S l5 fix X5 (by first|omega|(simp only[hs,hb,hl1,hl2,hl3,hl4,hl5,ae,ai,ao];omega)) 11 2 w hin) ?_;rintro _ _ ⟨_,⟨l6,X6,hl6,rfl⟩,rfl⟩;refine Z_7 ?_;refine ZcL (cdF S l6 fix X6) (fun w hi hin=>gU S l6 fix X6 (by first|omega|(simp only[hs,hb,hl1,hl2,hl3,hl4,hl5,hl6,ae,ai,ao];omega)) 7 11 a b w hin) ?_;rintro _ _ ⟨_,⟨l7,X7,hl7,rfl⟩,rfl⟩;refine Z_5 ?_;refine ZcL (cdF S l7 fix X7) (fun w hi hin=>gU S l7 fix X7 (by first|omega|(simp only[hs,hb,hl1,hl2,hl3,hl4,hl5,hl6,hl7,ae,ai,ao];omega)) 7 12 a 9 w hin) ?_;rintro _ _ ⟨_,⟨l8,X8,hl8,rfl⟩,rfl⟩;refine Z_2 ?_;refine eh (((l8,X8):List HI×CAd)) ?_ ?_ ?_
   ·exact⟨by simp only[hs,hb,hl1,hl2,hl3,hl4,hl5,hl6,hl7,hl8,ae,ai,ao];omega,by simp only[hl1,hl2,hl3,hl4,hl5,hl6,hl7,hl8,la,fZ,jQ,jP,gI,ac,aa,Bool.true_or,Bool.or_true,aq,aP,aR,hc5,hc10,hc11]⟩
   ·exact Zwk
   exact Zu
  refine Z_3 ?_;refine fL (cs':=cdF S l4 fix X4) (.inl rfl) Zu rfl ?_;exact⟨l4,X4,(by simp only[hl1,hl2,hl3,hl4,la,fZ,hc5,hc10,hc11,Bool.or_false,ac,aa,aq,aP,aR,ay]),rfl⟩
 rintro⟨m9,s9⟩ ⟨hs8,hs9⟩;dsimp only at hs8 hs9⊢;refine Z_3 ?_;refine ZcL (cdF S m9 fix s9) (fun w hi hin=>gU S m9 fix s9 (by first|omega|(simp only[hs,hb,ae,ai,ao];omega)) 5 11 11 12 w hin) ?_;rintro _ _ ⟨_,⟨l21,X21,hl21,rfl⟩,rfl⟩;refine Z_5 ?_;refine ZcL (cdF S l21 fix X21) (fun w hi hin=>tX S l21 fix X21 (by first|omega|(simp only[hs,hb,hl21,ae,ai,ao];omega)) 11 11 w hin) ?_;rintro _ _ ⟨_,⟨l22,X22,hl22,rfl⟩,rfl⟩;refine Z_4 ?_;refine ZcL (cdF S l22 fix X22) (fun w hi hin=>sx S l22 fix X22 (by first|omega|(simp only[hs,hb,hl21,hl22,ae,ai,ao];omega)) 11 3 w hin) ?_;rintro _ _ ⟨_,⟨l23,X23,hl23,rfl⟩,rfl⟩;refine Zn (fL (cs':=cdF S l23 fix X23) (.inr rfl) Zu rfl ?_);exact⟨l23,X23,(by rw[←hs9,hl23,hl22,hl21];simp only[aq,aP,aR]),rfl⟩
end
end Go.Proofs.YtomjgmbccamgiaaGreatDoor
namespace Go.Ink
open Go.RowKit
theorem wa(pl:Pl)(base f:Int)(n:Int):∀(c:List Int) (k:Nat),tG pl base f (c++[n]) k=tG pl base f c k++(jj pl n 7++[⟨15,0,base,dW pl n 7,IntKind.u32.wrap (f+IntKind.u32.wrap ((k+c.length:Nat):Int))⟩])
 |[],k=>by simp[tG]
 |x::c,k=>by
  have ih:=wa pl base f n c (k+1);show jj pl x 7++(_::tG pl base f (c++[n]) (k+1))=(jj pl x 7++(_::tG pl base f c (k+1)))++_;rw[ih,show k+1+c.length=k+(x::c).length by simp;omega];simp only[aq,aP]
theorem uO(pl:Pl)(base f:Int):∀(c:List Int) (k:Nat),(tG pl base f c k).length≤2*c.length
 |[],_=>aQ _
 |x::c,k=>by
  have ih:=uO pl base f c (k+1);have h1:=iZ pl x 7;show(jj pl x 7++(_::tG pl base f c (k+1))).length≤2*(c.length+1);rw[ae,ai];omega
theorem F5(a b:Int)(pl:Pl)(n:Int)(x:II):(o9 a b pl n x).length≤30:=by
 have h1:=iZ pl x.a 7;have h2:=iZ pl x.b 8;have h3:=qJ x.imm (dW pl n 9) (dW pl x.a 7) (dW pl x.b 8);have h4:=wP x.imm (dW pl x.a 7) (dW pl x.b 8);have h5:=Du pl n (dW pl n 9);unfold o9;rw[ae];cases x.op==0<;>cases x.op==1<;>cases x.op==2<;>cases x.op==3<;>cases x.op==4<;>simp only[ac,aa,ae,ai,ao]<;>omega
theorem yD(c d i:Int):IntKind.u32.wrap (IntKind.i64.wrap (IntKind.i64.wrap (IntKind.i64.wrap (c+d) - 1) - IntKind.i64.wrap i))=IntKind.u32.wrap (c+d - 1 - i):=by
 rw[aE,aE,bI,bI,bI,bI];omega
end Go.Ink
namespace Go.Proofs.YtomjgmbccamgiaaGreatDoor
open Go.RowKit Go.Ink Go.Proofs.Tryz
attribute [local irreducible] OpY bW
section
variable (S:CdS) (l:List HI) (fix:List Int) (X:CAd)
theorem cone_ok(hl:l.length≤12000)(n:Nat)(op dst xa xb imm:Int)(hn:n<S.pl.reg.length)(hn2:n<S.pl.slot.length)(hab:(op==3)=true∨(op==4)=true→∃na nb:Nat,xa=na∧xb=nb∧(na<S.pl.reg.length∧na<S.pl.slot.length)∧(nb<S.pl.reg.length∧nb<S.pl.slot.length))(w:World)(hi:Inv w (bK (cdF S l fix X)) (cdF S l fix X) w)(hK:∀w',dQ (bK (cdF S l fix X)) w w'→EV S w'):
  Ctr prog 150 [.pointer (some ⟨S.b,0,none⟩),.int .i64 n,.agg #[.int .i64 op,.int .i64 dst,.int .i64 xa,.int .i64 xb,.int .u32 imm]] w (cdF S l fix X) (fun r9 cs=>∃l' X',l'=l++o9 S.p.Ii S.p.Ij S.pl n ⟨op,dst,xa,xb,imm⟩∧cs=cdF S l' (fix) X'):=by
 have gA:=iZ S.pl xa 7;have gB:=iZ S.pl xb 8;have aA:=qJ imm (dW S.pl n 9) (dW S.pl xa 7) (dW S.pl xb 8);have fA:=wP imm (dW S.pl xa 7) (dW S.pl xb 8);refine bL func150 rfl ntmps150 rfl hi ?_;refine Z_2 ?_;refine ZO fun b5=>?_;refine Z_6 ?_;refine ZcL (cdF S l fix X) (fun w hi hin=>cto_ok S l fix X (by first|omega|(simp only[ae,ai,ao];omega)) n hn w hin (fun w' hk=>hK w' (hi.Jc Zi hk))) ?_;rintro _ _ ⟨_,⟨rfl,l1,X1,hl1,rfl⟩,rfl⟩;refine Z_3 ?_;refine de (fun q:List HI×CAd=>[(0,.pointer (some ⟨S.b,0,none⟩)),(1,.int .i64 n),(6,.int .i64 (dW S.pl n 9))]) (fun q=>cdF S q.1 fix q.2) (fun q=>q.1.length≤l.length+30∧q.1++iT S.pl n (dW S.pl n 9)=l++o9 S.p.Ii S.p.Ij S.pl n ⟨op,dst,xa,xb,imm⟩) ?_ ?_
 ·refine jW ?_;refine ZW ?_ ?_<;>intro hc3
  ·refine Z_5 ?_;refine ZcL (cdF S l1 fix X1) (fun w hi hin=>kb S l1 fix X1 (by first|omega|(simp only[hl1,ae,ai,ao];omega)) (dW S.pl n 9) imm w hin) ?_;rintro _ _ ⟨_,⟨l2,X2,hl2,rfl⟩,rfl⟩;refine Z_2 ?_;refine eh (((l2,X2):List HI×CAd)) ?_ ?_ ?_
   ·exact⟨by simp only[hl1,hl2,ae,ai,ao];omega,by simp only[hl1,hl2,o9,ac,aa,aq,aP,aR,ay,hc3]⟩
   ·exact Zwk
   exact Zu
  refine Z_6 ?_;refine ZW ?_ ?_<;>intro hc5
  ·refine cj ⟨fun j=>List.elem j [14],rh b5 [.int .i64 op,.int .i64 dst,.int .i64 xa,.int .i64 xb,.int .u32 imm]⟩ Zk ?_;refine ZE 0 ?_;refine ZE 1 ?_;refine ZE 2 ?_;refine ZE 3 ?_;refine ZFe 4 0 ?_;refine ZFe 5 1 ?_;refine ZFe 9 4 ?_;refine iA 10 rfl Zk Zk Zk (bM Zrf (Zv rfl)) (by first|exact bZ rfl|exact aC _ (bZ rfl)|exact ah _ (bZ rfl)|exact ah _ (ah _ (aC _ (bZ rfl)))|exact ah _ (ah _ (ah _ (bZ rfl)))) (bX (t:=281) Zh) rfl ?_;refine cR 11 rfl Zk Zk Zk (cu rfl rfl Zv0 rfl) rfl ?_;refine cE 6 Zk ?_;refine eN rfl (bM Zrf Zv0) (bR Zh rfl) rfl ?_;refine cR 7 rfl Zk Zk Zk (cF Zv0 Zv0 rfl) rfl ?_;refine cR 8 rfl Zk Zk Zk (eP Zv0 Zv0 rfl) rfl ?_;refine cR 12 rfl Zk Zk Zk (eP Zv0 Zv0 rfl) rfl ?_;refine cR 13 rfl Zk Zk Zk (cu rfl rfl (Zv rfl) (yD _ _ _)) rfl ?_;refine cE 14 Zk ?_;refine gu rfl rfl (dR (cdF S l1 fix X1) rfl (fun _ _=>rfl) Zi (fun w hi hin=>wZ S l1 fix X1 (by first|omega|(simp only[hl1,ae,ai,ao];omega)) (dW S.pl n 9) 14 (IntKind.u32.wrap (4+S.p.Ii - 1 - imm)) w hin)) (fun _=>by rintro _ _ ⟨_,⟨l2,X2,hl2,rfl⟩,rfl⟩;exact bX (t:=281) Zh) rfl ?_;rintro _ _ ⟨_,⟨l2,X2,hl2,rfl⟩,rfl⟩;refine bO Zk ?_;refine Zo ?_;refine eh (((l2,X2):List HI×CAd)) ?_ ?_ ?_
   ·exact⟨by simp only[hl1,hl2,ae,ai,ao];omega,by simp only[hl1,hl2,o9,ac,aa,aq,aP,aR,ay,hc3,hc5]⟩
   ·exact Zwk
   exact Zu
  refine Z_6 ?_;refine ZW ?_ ?_<;>intro hc7
  ·refine cj ⟨fun j=>List.elem j [14],rh b5 [.int .i64 op,.int .i64 dst,.int .i64 xa,.int .i64 xb,.int .u32 imm]⟩ Zk ?_;refine ZE 0 ?_;refine ZE 1 ?_;refine ZE 2 ?_;refine ZE 3 ?_;refine ZFe 4 0 ?_;refine ZFe 5 2 ?_;refine ZFe 9 4 ?_;refine iA 10 rfl Zk Zk Zk (bM Zrf (Zv rfl)) (by first|exact bZ rfl|exact aC _ (bZ rfl)|exact ah _ (bZ rfl)|exact ah _ (ah _ (aC _ (bZ rfl)))|exact ah _ (ah _ (ah _ (bZ rfl)))) (bX (t:=281) Zh) rfl ?_;refine cR 11 rfl Zk Zk Zk (cu rfl rfl Zv0 rfl) rfl ?_;refine cE 6 Zk ?_;refine eN rfl (bM Zrf Zv0) (bR Zh rfl) rfl ?_;refine cR 7 rfl Zk Zk Zk (cF Zv0 Zv0 rfl) rfl ?_;refine cR 8 rfl Zk Zk Zk (eP Zv0 Zv0 rfl) rfl ?_;refine cR 12 rfl Zk Zk Zk (eP Zv0 Zv0 rfl) rfl ?_;refine cR 13 rfl Zk Zk Zk (cu rfl rfl (Zv rfl) (yD _ _ _)) rfl ?_;refine cE 14 Zk ?_;refine gu rfl rfl (dR (cdF S l1 fix X1) rfl (fun _ _=>rfl) Zi (fun w hi hin=>wZ S l1 fix X1 (by first|omega|(simp only[hl1,ae,ai,ao];omega)) (dW S.pl n 9) 13 (IntKind.u32.wrap (20+S.p.Ij - 1 - imm)) w hin)) (fun _=>by rintro _ _ ⟨_,⟨l2,X2,hl2,rfl⟩,rfl⟩;exact bX (t:=281) Zh) rfl ?_;rintro _ _ ⟨_,⟨l2,X2,hl2,rfl⟩,rfl⟩;refine bO Zk ?_;refine Zo ?_;refine eh (((l2,X2):List HI×CAd)) ?_ ?_ ?_
   ·exact⟨by simp only[hl1,hl2,ae,ai,ao];omega,by simp only[hl1,hl2,o9,ac,aa,aq,aP,aR,ay,hc3,hc5,hc7]⟩
   ·exact Zwk
   exact Zu
  refine Z_6 ?_;refine ZW ?_ ?_<;>intro hc9
  ·obtain⟨na,nb,rfl,rfl,⟨h1,h2⟩,h3,h4⟩:=hab (Or.inl hc9);refine Zs (cj ⟨fun j=>List.elem j [3,7],rh b5 [.int .i64 op,.int .i64 dst,.int .i64 na,.int .i64 nb,.int .u32 imm]⟩ Zk ?_);refine ZE 0 ?_;refine ZFe 1 2 ?_;refine iA 2 rfl Zk Zk Zk (bM Zrf (Zv rfl)) (by first|exact bZ rfl|exact aC _ (bZ rfl)|exact ah _ (bZ rfl)|exact ah _ (ah _ (aC _ (bZ rfl)))|exact ah _ (ah _ (ah _ (bZ rfl)))) (bX (t:=281) Zh) rfl ?_;refine ZE 4 ?_;refine ZFe 5 3 ?_;refine iA 6 rfl Zk Zk Zk (bM Zrf (Zv rfl)) (by first|exact bZ rfl|exact aC _ (bZ rfl)|exact ah _ (bZ rfl)|exact ah _ (ah _ (aC _ (bZ rfl)))|exact ah _ (ah _ (ah _ (bZ rfl)))) (bX (t:=281) Zh) rfl ?_;refine cE 3 Zk ?_;refine gu rfl rfl (dR (cdF S l1 fix X1) rfl (fun _ _=>rfl) Zi (fun w hi hin=>pF S l1 fix X1 (by first|omega|(simp only[hl1,ae,ai,ao];omega)) na 7 h1 h2 w hin (fun w' hk=>hK w' (hi.Jc Zi hk)))) (fun _=>by rintro _ _ ⟨_,⟨rfl,l2,X2,hl2,rfl⟩,rfl⟩;exact bX (t:=281) Zh) rfl ?_;rintro _ _ ⟨_,⟨rfl,l2,X2,hl2,rfl⟩,rfl⟩;refine cE 7 Zk ?_;refine gu rfl rfl (dR (cdF S l2 fix X2) rfl (fun _ _=>rfl) Zi (fun w hi hin=>pF S l2 fix X2 (by first|omega|(simp only[hl1,hl2,ae,ai,ao];omega)) nb 8 h3 h4 w hin (fun w' hk=>hK w' (hi.Jc Zi hk)))) (fun _=>by rintro _ _ ⟨_,⟨rfl,l3,X3,hl3,rfl⟩,rfl⟩;exact bX (t:=281) Zh) rfl ?_;rintro _ _ ⟨_,⟨rfl,l3,X3,hl3,rfl⟩,rfl⟩;refine ZE 8 ?_;refine ZE 9 ?_;refine bO Zk ?_;refine Z_8 ?_;refine ZcL (cdF S l3 fix X3) (fun w hi hin=>EC S l3 fix X3 (by first|omega|(simp only[hl1,hl2,hl3,ae,ai,ao];omega)) imm (dW S.pl n 9) (dW S.pl na 7) (dW S.pl nb 8) w hin) ?_;rintro _ _ ⟨_,⟨l4,X4,hl4,rfl⟩,rfl⟩;refine Z_2 ?_;refine eh (((l4,X4):List HI×CAd)) ?_ ?_ ?_
   ·exact⟨by simp only[hl1,hl2,hl3,hl4,ae,ai,ao];omega,by simp only[hl1,hl2,hl3,hl4,o9,ac,aa,aq,aP,aR,ay,hc3,hc5,hc7,hc9]⟩
   ·exact Zwk
   exact Zu
  refine Z_6 ?_;refine ZW ?_ ?_<;>intro hc12
  ·obtain⟨na,nb,rfl,rfl,⟨h1,h2⟩,h3,h4⟩:=hab (Or.inr hc12);refine Zs (cj ⟨fun j=>List.elem j [3,7],rh b5 [.int .i64 op,.int .i64 dst,.int .i64 na,.int .i64 nb,.int .u32 imm]⟩ Zk ?_);refine ZE 0 ?_;refine ZFe 1 2 ?_;refine iA 2 rfl Zk Zk Zk (bM Zrf (Zv rfl)) (by first|exact bZ rfl|exact aC _ (bZ rfl)|exact ah _ (bZ rfl)|exact ah _ (ah _ (aC _ (bZ rfl)))|exact ah _ (ah _ (ah _ (bZ rfl)))) (bX (t:=281) Zh) rfl ?_;refine ZE 4 ?_;refine ZFe 5 3 ?_;refine iA 6 rfl Zk Zk Zk (bM Zrf (Zv rfl)) (by first|exact bZ rfl|exact aC _ (bZ rfl)|exact ah _ (bZ rfl)|exact ah _ (ah _ (aC _ (bZ rfl)))|exact ah _ (ah _ (ah _ (bZ rfl)))) (bX (t:=281) Zh) rfl ?_;refine cE 3 Zk ?_;refine gu rfl rfl (dR (cdF S l1 fix X1) rfl (fun _ _=>rfl) Zi (fun w hi hin=>pF S l1 fix X1 (by first|omega|(simp only[hl1,ae,ai,ao];omega)) na 7 h1 h2 w hin (fun w' hk=>hK w' (hi.Jc Zi hk)))) (fun _=>by rintro _ _ ⟨_,⟨rfl,l2,X2,hl2,rfl⟩,rfl⟩;exact bX (t:=281) Zh) rfl ?_;rintro _ _ ⟨_,⟨rfl,l2,X2,hl2,rfl⟩,rfl⟩;refine cE 7 Zk ?_;refine gu rfl rfl (dR (cdF S l2 fix X2) rfl (fun _ _=>rfl) Zi (fun w hi hin=>pF S l2 fix X2 (by first|omega|(simp only[hl1,hl2,ae,ai,ao];omega)) nb 8 h3 h4 w hin (fun w' hk=>hK w' (hi.Jc Zi hk)))) (fun _=>by rintro _ _ ⟨_,⟨rfl,l3,X3,hl3,rfl⟩,rfl⟩;exact bX (t:=281) Zh) rfl ?_;rintro _ _ ⟨_,⟨rfl,l3,X3,hl3,rfl⟩,rfl⟩;refine ZE 8 ?_;refine ZE 9 ?_;refine bO Zk ?_;refine Z_8 ?_;refine ZcL (cdF S l3 fix X3) (fun w hi hin=>G7 S l3 fix X3 (by first|omega|(simp only[hl1,hl2,hl3,ae,ai,ao];omega)) imm (dW S.pl na 7) (dW S.pl nb 8) w hin) ?_;rintro _ _ ⟨_,⟨l4,X4,hl4,rfl⟩,rfl⟩;refine Z_6 ?_;refine dM (di rfl rfl Zrf Zrf rfl rfl rfl) rfl ?_;rintro _ _ ⟨b93,rfl,rfl⟩;refine ZcL (cdF S l4 fix X4) (fun w hi hin=>jT S l4 fix X4 (by first|omega|(simp only[hl1,hl2,hl3,hl4,ae,ai,ao];omega)) [⟨2,dW S.pl n 9,10,0,0⟩] (some ⟨b93,0,none⟩) 1 (by simp) w hin (fun w' hk=>dq (hi.IY Zi (show Has _ (slv 285 5 (some ⟨b93,0,none⟩) 1 1 ([⟨2,dW S.pl n 9,10,0,0⟩].flatMap HI.cells))from Zh) hk))) ?_;rintro _ _ ⟨_,⟨l5,X5,hl5,rfl⟩,rfl⟩;refine Z_2 ?_;refine eh (((l5,X5):List HI×CAd)) ?_ ?_ ?_
   ·exact⟨by simp only[hl1,hl2,hl3,hl4,hl5,ae,ai,ao];omega,by simp only[hl1,hl2,hl3,hl4,hl5,o9,ac,aa,aq,aP,aR,ay,hc3,hc5,hc7,hc9,hc12]⟩
   ·exact Zwk
   exact Zu
  refine Z_2 ?_;refine eh (((l1,X1):List HI×CAd)) ?_ ?_ ?_
  ·exact⟨by simp only[hl1,ae,ai,ao];omega,by simp only[hl1,o9,ac,aa,aq,aP,aR,ay,hc3,hc5,hc7,hc9,hc12]⟩
  ·exact Zwk
  exact Zu
 rintro⟨m9,s9⟩ ⟨hs8,hs9⟩;dsimp only at hs8 hs9⊢;refine Z_4 ?_;refine ZcL (cdF S m9 fix s9) (fun w hi hin=>G3 S m9 fix s9 (by first|omega|(simp only[ae,ai,ao];omega)) n (dW S.pl n 9) hn hn2 w hin (fun w' hk=>hK w' (hi.Jc Zi hk))) ?_;rintro _ _ ⟨_,⟨l21,X21,hl21,rfl⟩,rfl⟩;refine Zn (fL (cs':=cdF S l21 fix X21) (.inr rfl) Zu rfl ?_);exact⟨l21,X21,(by rw[hl21,hs9]),rfl⟩
theorem wW(hl:l.length≤10000)(base f word:Int)(A:Option Addr)(c:Nat)(o:List Int)(ho:o.length≤1000)(hoj:∀j,j∈o→∃n:Nat,j=n∧n<S.pl.reg.length∧n<S.pl.slot.length)(w:World)(hi:Inv w (bK (cdF S l fix X)) (cdF S l fix X) w)(hK:∀w',dQ (bK (cdF S l fix X)) w w'→EV S w')(hO:∀w',dQ (bK (cdF S l fix X)) w w'→Rd w' .i64 A o.length c o):
  Ctr prog 151 [.pointer (some ⟨S.b,0,none⟩),.int .i64 base,.int .u32 f,.int .u32 word,.slice A o.length c] w (cdF S l fix X) (fun r9 cs=>∃l' X',l'=l++hH S.pl base f word o∧cs=cdF S l' (fix) X'):=by
 refine bL func151 rfl ntmps151 rfl hi ?_;refine Z_9 ?_;refine cJ (fun q:Nat×List HI×CAd=>[(0,.pointer (some ⟨S.b,0,none⟩)),(1,.int .i64 base),(2,.int .u32 f),(3,.int .u32 word),(4,.slice A o.length c),(12,.slice A o.length c),(13,.int .i64 o.length),(14,.int .i64 (q.1:Int))]) (fun q=>cdF S q.2.1 fix q.2.2) (fun q=>q.1≤o.length∧q.2.1=l++tG S.pl base f (o.take q.1) 0) (fun q=>o.length - q.1) (⟨0,l,X⟩) ?_ ?_ ?_ ?_
 ·exact⟨aw _,(ay l).symm⟩
 ·exact Zwk
 ·exact Zu
 rintro⟨k,l0,X0⟩ ⟨hk,hl0⟩;dsimp only at hk hl0⊢;have ol:=uO S.pl base f (o.take k) 0;have ll:l0.length≤l.length+2*o.length:=(by rw[hl0,ae];rw[az]at ol;omega);refine Z_6 ?_;refine ZW ?_ ?_<;>intro hc1
 ·simp only[ap]at hc1;obtain⟨ad,had⟩:∃ad,A=some ad:=Option.ne_none_iff_exists'.1 (fun e=>by have:=((hO w (dQ.refl _ _)).nil e).1;omega);obtain⟨j,hj⟩:∃j,o[k]? =some j:=⟨_,ak (show k<o.length by omega)⟩;obtain⟨n,rfl,h1,h2⟩:=hoj j (aK hj);have htk:o.take (k+1)=o.take k++[(n:Int)]:=(by rw[List.take_add_one,hj];rfl);have hO2:∀w',dQ (bK (cdF S l fix X)) w w'→RdV w' 1 (some ad) o.length c (ints .i64 o):=fun w' hk=>had▸hO w' hk
  have hol:(o.take k).length=k:=(by rw[az];omega);have gA:=iZ S.pl n 7;refine Z_7 ?_;refine Zy (eV (j:=k) had rfl Zrf (Zv rfl) (Zv rfl) Zrf (fun _=>by omega)) ?_;refine dU (bM Zrf Zv0) (ju (v:= .int .i64 n) hO2 (df hj)) rfl ?_;refine Z_9 ?_;refine Zy (cu rfl rfl Zv0 rfl) ?_;refine Zy (cF Zv0 Zv0 rfl) ?_;refine Z_2 ?_;refine ZcL (cdF S l0 fix X0) (fun w hi hin=>pF S l0 fix X0 (by first|omega|(simp only[ae,ai,ao];omega)) n 7 h1 h2 w hin (fun w' hk=>hK w' (hi.Jc Zi hk))) ?_;rintro _ _ ⟨_,⟨rfl,l1,X1,hl1,rfl⟩,rfl⟩;refine ZcL (cdF S l1 fix X1) (fun w hi hin=>tW S l1 fix X1 (by first|omega|(simp only[hl1,ae,ai,ao];omega)) base (IntKind.u32.wrap (f+IntKind.u32.wrap (k:Int))) (dW S.pl n 7) w hin) ?_;rintro _ _ ⟨_,⟨l2,X2,hl2,rfl⟩,rfl⟩;refine Z_4 ?_;refine Zy (cF Zv0 Zv0 Zl) ?_;refine Z_2 ?_;refine eh ((⟨k+1,l2,X2⟩:Nat×List HI×CAd)) ?_ ?_ ?_
  ·exact⟨⟨by omega,by dsimp only;rw[htk,wa,hol,bo,hl2,hl1,hl0];simp only[aq]⟩,by dsimp only;omega⟩
  ·exact Zwk
  exact Zu
 simp only[aj]at hc1;obtain rfl:k=o.length:=by omega
 rw[bA]at hl0;refine eK ?_;refine Zy (cu rfl rfl Zv0 rfl) ?_;refine ZcL (cdF S l0 fix X0) (fun w hi hin=>kb S l0 fix X0 (by first|omega|(simp only[ae,ai,ao];omega)) 11 (IntKind.u32.wrap (o.length:Int)) w hin) ?_;rintro _ _ ⟨_,⟨l11,X11,hl11,rfl⟩,rfl⟩;refine Z_6 ?_;refine ZcL (cdF S l11 fix X11) (fun w hi hin=>gU S l11 fix X11 (by first|omega|(simp only[hl11,ae,ai,ao];omega)) 3 11 11 base w hin) ?_;rintro _ _ ⟨_,⟨l12,X12,hl12,rfl⟩,rfl⟩;refine Z_5 ?_;refine ZcL (cdF S l12 fix X12) (fun w hi hin=>tW S l12 fix X12 (by first|omega|(simp only[hl11,hl12,ae,ai,ao];omega)) 15 word 11 w hin) ?_;rintro _ _ ⟨_,⟨l13,X13,hl13,rfl⟩,rfl⟩;refine Zn (fL (cs':=cdF S l13 fix X13) (.inr rfl) Zu rfl ?_);exact⟨l13,X13,(by simp only[hl11,hl12,hl13,hl0,hH,ac,aa,aq,aP,aR,ay]),rfl⟩
theorem GX(hl:l.length≤10000)(base word Ik high:Int)(o:Nat)(hb1:0≤Ik∧Ik≤100000)(hb2: -100000≤high∧high≤100000)(hb3:o≤100000)(hf:fix.length≤100)(w:World)(hi:Inv w (bK (cdF S l fix X)) (cdF S l fix X) w):
  Ctr prog 149 [.pointer (some ⟨S.b,0,none⟩),.int .i64 base,.int .u32 word,.int .i64 Ik,.int .i64 high,.int .i64 o] w (cdF S l fix X) (fun r9 cs=>r9= .bool (!decide (iM Ik high o<Ik))∧∃l' f' X',l'=l++(bif(!decide (iM Ik high o<Ik))then m8 0 base word Ik (iM Ik high o)else[])∧f'=fix++(bif(!decide (iM Ik high o<Ik))then[((l.length+3:Nat):Int),((l.length+6:Nat):Int)]else[])∧cs=cdF S l' f' X'):=by
 have hm:(if(16:Int)+Ik - o<16 - high then(16:Int)+Ik - o else 16 - high)=iM Ik high o:=rfl;obtain⟨mo,hmo⟩:=Zgn (iM Ik high o);rw[hmo]at hm⊢;refine bL func149 rfl ntmps149 rfl hi ?_;refine Z_8 ?_;refine Zy (eP Zv0 Zv0 Zl) ?_;refine ZA ?_;refine Zy (cF Zv0 Zv0 Zl) ?_;refine ZA ?_;refine Zy (eP Zv0 Zv0 Zl) ?_;refine Zy (y_min Zv0 Zv0 hm) ?_;refine eo ?_;refine ZW ?_ ?_<;>intro hc2
 ·have hok:(!decide (mo<Ik))=false:=(by rw[hc2];rfl);rw[hok];refine Z_7 ?_;refine Zrb (cdF S l fix X) ?_;exact⟨rfl,l,fix,X,(ay l).symm,(ay fix).symm,rfl⟩
 have hok:(!decide (mo<Ik))=true:=(by rw[hc2];rfl);rw[hok];refine Z_7 ?_;refine ZcL (cdF S l fix X) (fun w hi hin=>wZ S l fix X (by first|omega|(simp only[ae,ai,ao];omega)) base 15 word w hin) ?_;rintro _ _ ⟨_,⟨l1,X1,hl1,rfl⟩,rfl⟩;refine Z_6 ?_;refine Zy (cu rfl rfl Zv0 rfl) ?_;refine ZcL (cdF S l1 fix X1) (fun w hi hin=>kb S l1 fix X1 (by first|omega|(simp only[hl1,ae,ai,ao];omega)) 11 (IntKind.u32.wrap Ik) w hin) ?_;rintro _ _ ⟨_,⟨l2,X2,hl2,rfl⟩,rfl⟩;refine Z_6 ?_;refine ZcL (cdF S l2 fix X2) (fun w hi hin=>gU S l2 fix X2 (by first|omega|(simp only[hl1,hl2,ae,ai,ao];omega)) 12 12 base 11 w hin) ?_;rintro _ _ ⟨_,⟨l3,X3,hl3,rfl⟩,rfl⟩;refine Z_5 ?_;refine ZcL (cdF S l3 fix X3) (fun w hi hin=>tV S l3 fix X3 (by first|omega|(simp only[hl1,hl2,hl3,ae,ai,ao];omega)) 12 (by first|omega|(simp only[ae,ai,ao];omega)) w hin) ?_;rintro _ _ ⟨_,⟨l4,X4,hl4,rfl⟩,rfl⟩;refine Z_6 ?_;refine Zy (cu rfl rfl Zv0 rfl) ?_;refine ZcL (cdF S l4 (fix++[(l3.length:Int)]) X4) (fun w hi hin=>kb S l4 (fix++[(l3.length:Int)]) X4 (by first|omega|(simp only[hl1,hl2,hl3,hl4,ae,ai,ao];omega)) 12 (IntKind.u32.wrap mo) w hin) ?_;rintro _ _ ⟨_,⟨l5,X5,hl5,rfl⟩,rfl⟩;refine Z_6 ?_;refine ZcL (cdF S l5 (fix++[(l3.length:Int)]) X5) (fun w hi hin=>gU S l5 (fix++[(l3.length:Int)]) X5 (by first|omega|(simp only[hl1,hl2,hl3,hl4,hl5,ae,ai,ao];omega)) 12 12 12 base w hin) ?_;rintro _ _ ⟨_,⟨l6,X6,hl6,rfl⟩,rfl⟩;refine Z_5 ?_;refine ZcL (cdF S l6 (fix++[(l3.length:Int)]) X6) (fun w hi hin=>tV S l6 (fix++[(l3.length:Int)]) X6 (by first|omega|(simp only[hl1,hl2,hl3,hl4,hl5,hl6,ae,ai,ao];omega)) 12 (by first|omega|(simp only[ae,ai,ao];omega)) w hin) ?_;rintro _ _ ⟨_,⟨l7,X7,hl7,rfl⟩,rfl⟩;refine Z_7 ?_;refine ZcL (cdF S l7 ((fix++[(l3.length:Int)])++[(l6.length:Int)]) X7) (fun w hi hin=>gU S l7 ((fix++[(l3.length:Int)])++[(l6.length:Int)]) X7 (by first|omega|(simp only[hl1,hl2,hl3,hl4,hl5,hl6,hl7,ae,ai,ao];omega)) 4 base base 11 w hin) ?_;rintro _ _ ⟨_,⟨l8,X8,hl8,rfl⟩,rfl⟩;refine Z_8 ?_;refine Zrb (cdF S l8 ((fix++[(l3.length:Int)])++[(l6.length:Int)]) X8) ?_;exact⟨rfl,l8,_,X8,(by simp only[hl1,hl2,hl3,hl4,hl5,hl6,hl7,hl8,m8,ac,aq,aP,aR]),(by simp only[hl1,hl2,hl3,hl4,hl5,hl6,hl7,hl8,ac,aq,aP,aR,ae,ai,ao]),rfl⟩
end
end Go.Proofs.YtomjgmbccamgiaaGreatDoor
