/- Lemmas. -/
import Derived.Test.YtakodpimdalajaaGreatDoorPaa
import Derived.Test.YtakodpimdalajaaGreatDoorPab
import Derived.Test.YtakodpimdalajaaGreatDoorPal
set_option linter.unusedSimpArgs false
set_option linter.unusedVariables false
set_option maxRecDepth 100000
set_option maxHeartbeats 4000000
namespace Go.Ink
open Go.RowKit
theorem hdo_one{i:HI}{m:HM}(h:(hdo i m).1=1):(hdo i m).2=m:=by
 unfold hdo at h⊢;cases h0:i.op==0 with
 |true=>rw[h0]at h;cases h
 |false=>cases h1:i.op==1 with
  |true=>rw[h0,h1]at h;cases h
  |false=>cases h2:i.op==14||i.op==15 with
   |true=>
    rw[h0,h1,h2]at h;simp only[ac,aa]at h⊢;cases h3:decide ((m.words.length:Int)≤oC m.JI i)with
    |true=>rfl
    |false=>rw[h3]at h;cases h4:i.op==14<;>rw[h4]at h<;>cases h
   |false=>cases h5:i.op==16||i.op==17 with
    |true=>rw[h0,h1,h2,h5]at h;cases h
    |false=>cases h6:i.op==18 with
     |true=>rw[h0,h1,h2,h5,h6]at h;cases h
     |false=>cases h7:i.op==19 with
      |true=>rfl
      |false=>rw[h0,h1,h2,h5,h6,h7]at h;cases h
theorem BV{C:List HI}{m:HM}(h:(Jy C m).1=1):(Jy C m).2=m∧0≤m.pc∧m.pc<C.length:=by
 unfold Jy at h⊢;cases hd:decide (m.pc<0)||decide ((C.length:Int)≤m.pc)with
 |true=>rw[hd]at h;cases h
 |false=>
  rw[hd]at h;simp only[aa]at h⊢;have:=hdo_one h;simp only[bj,ah]at hd;exact⟨this,by omega,by omega⟩
def lH(W:List Int):Bool:= !((decide (16<W.getD 2 0)||decide (16<W.getD 3 0))||decide (15<W.getD 1 0))
def zq(s:St)(r:(Int×Int)×HM):St×Int:=bif r.1.1 !=1 then(s,0)else bif lH r.2.words then(mY r.2.words s,r.1.2)else(s,0)
def ic(C:List HI)(s:St):St×Int:=zq s (jo C 4096 ⟨List.replicate 16 0,JV s,0⟩)
theorem zS{C:List HI}(hC:ga C):∀(f:Nat) (m:HM),0≤(jo C f m).1.2∧(jo C f m).1.2≤4294967295
 |0,m=>z32
 |f+1,m=>by
  show 0≤(bif(Jy C m).1==0 then jo C f (Jy C m).2 else bif(Jy C m).1==1 then((1,(C.getD (Jy C m).2.pc.toNat HI.zero).imm),(Jy C m).2)else(((Jy C m).1,0),(Jy C m).2)).1.2∧(bif(Jy C m).1==0 then jo C f (Jy C m).2 else bif(Jy C m).1==1 then((1,(C.getD (Jy C m).2.pc.toNat HI.zero).imm),(Jy C m).2)else(((Jy C m).1,0),(Jy C m).2)).1.2≤_;cases(Jy C m).1==0 with
  |true=>exact zS hC f _
  |false=>cases(Jy C m).1==1 with
   |true=>
    show 0≤(C.getD (Jy C m).2.pc.toNat HI.zero).imm∧(C.getD (Jy C m).2.pc.toNat HI.zero).imm≤_;rw[aw];by_cases hl:(Jy C m).2.pc.toNat<C.length
    ·rw[ai hl];exact(hC _ (List.getElem_mem hl)).imm
    rw[bH Wq1];exact⟨by decide,by decide⟩
   |false=>exact z32
theorem GF{s:St}(h:s.wf)(hr:s.right=true):wds (JV s):=by
 obtain⟨h1,h2, -⟩:=St.fits hr;have hset:∀(W:List Int) (k:Nat) (v:Int),wds W→(0≤v∧v≤4294967295)→wds (W.set k v):=fun W k v hW hv x hx=>by
  rcases yr hx with q|q
  ·exact hW x q
  rw[q];exact hv
 have hlay:∀(W:List Int) (f:Nat) (l:List Int),wds W→wds l→∀k,wds (jz W f l k):=fun W f l hW hl k=>by
  induction k with
  |zero=>exact hW
  |succ k ih=>exact hset _ _ _ ih (iB hl k)
 have h0:wds (List.replicate 256 (0:Int)):=fun x hx=>by rw[(List.mem_replicate.1 hx).2];decide
 have hd:wds s.d:=fun x hx=>h.d x hx
 have hrr:wds s.r:=fun x hx=>h.r x hx
 have a1:=hset _ 0 s.pc h0 h.pc;have a2:=hset _ 1 s.flags a1 h.flags;have a3:=hset _ 2 (s.d.length:Int) a2 ⟨by omega,by omega⟩;have a4:=hset _ 3 (s.r.length:Int) a3 ⟨by omega,by omega⟩;have a5:=hlay _ 4 s.d a4 hd 16;have a6:=hlay _ 20 s.r a5 hrr 16;have a7:=hset _ 36 0 a6 ⟨by decide,by decide⟩;unfold JV;exact a7
theorem hm0_of{R W:List Int}(h0:R.length=16)(h1:W.length=256)(h2:r64 R)(h3:wds W):HM.ok ⟨R,W,0⟩:=⟨h0,h1,h2,h3,Int.le_refl _⟩
theorem hm0_ok{s:St}(h:s.wf)(hr:s.right=true):HM.ok ⟨List.replicate 16 0,JV s,0⟩:=
 hm0_of aJ (zx s) (fun x hx=>by rw[(List.mem_replicate.1 hx).2];decide) (GF h hr)
theorem Ew{C:List HI}(hC:ga C):∀(f:Nat) (m:HM),m.ok→(jo C f m).2.ok
 |0,m,h=>h
 |f+1,m,h=>by
  have h1:=zR hC h;show(bif(Jy C m).1==0 then jo C f (Jy C m).2 else bif(Jy C m).1==1 then _ else _).2.ok;cases(Jy C m).1==0 with
  |true=>exact Ew hC f _ h1
  |false=>cases(Jy C m).1==1 with
   |true=>exact h1
   |false=>exact h1
end Go.Ink
namespace Go.Proofs.YtakodpimdalajaaGreatDoor
open Go.RowKit Go.Ink Go.Proofs.Tryz
attribute [local irreducible] OpY bP
theorem Hv(bm bw:Nat)(Ac:Option Addr)(cc:Nat)(C:List HI)(hC:ga C)(steps:Nat)(hst:steps≤100000)(m:HM)(hm:m.ok)(w:World)(hi:Inv w (bK (hmF bm bw Ac cc C m)) (hmF bm bw Ac cc C m) w):
  Ctr prog 134 [.pointer (some ⟨bm,0,none⟩),.int .i64 steps] w (hmF bm bw Ac cc C m) (fun x cs=>∃n:Nat,x= .tuple #[.int .i64 (jo C steps m).1.1,.int .u32 (jo C steps m).1.2,.int .i64 n]∧cs=hmF bm bw Ac cc C (jo C steps m).2):=by
 have hcap:=(de (hi.get (show Has _ (hiC Ac cc C)from by repeat (first|exact .head _ _|apply Has.tail)))).cap;have hmx:=(de (hi.get (show Has _ (hiC Ac cc C)from by repeat (first|exact .head _ _|apply Has.tail)))).max;have hsome:=fun h=>(de (hi.get (show Has _ (hiC Ac cc C)from by repeat (first|exact .head _ _|apply Has.tail)))).some_ h
 simp only[maxLen]at hmx;obtain⟨⟨⟨how,im⟩,m9⟩,hq⟩:=Zgn (jo C steps m);rw[hq];have hq0:jo C (steps - 0) m=((how,im),m9):=hq;refine bL func134 rfl ntmps134 rfl hi ?_;refine gL ?_;refine cw (fun q:Nat×HM=>[(0,.pointer (some ⟨bm,0,none⟩)),(1,.int .i64 steps),(7,.int .i64 (q.1:Int))]) (fun q=>hmF bm bw Ac cc C q.2) (fun q=>q.1≤steps∧q.2.ok∧jo C (steps - q.1) q.2=((how,im),m9)) (fun q=>steps - q.1) (⟨0,m⟩) ?_ ?_ ?_ ?_
 ·exact⟨au _,hm,hq0⟩
 ·exact Zwk
 ·exact Zu
 rintro⟨k,m⟩ ⟨hk,hm,hE⟩;dsimp only at hk hm hE⊢;have HS:=Ex bm bw Ac cc C hC m hm;have hm2:=zR hC hm;have hex:=BV (C:=C) (m:=m);refine Z_8 ?_;refine ZW ?_ ?_<;>intro hc2
 ·simp only[ak]at hc2;obtain⟨f,hf⟩:∃f,steps - k=f+1:=⟨steps - k - 1,by omega⟩;rw[hf]at hE;have hE:(bif(Jy C m).1==0 then jo C f (Jy C m).2 else bif(Jy C m).1==1 then((1,(C.getD (Jy C m).2.pc.toNat HI.zero).imm),(Jy C m).2)else(((Jy C m).1,0),(Jy C m).2))=((how,im),m9):=hE;obtain⟨⟨why,m2⟩,hsq⟩:=Zgn (Jy C m);rw[hsq]at hE HS hm2 hex;dsimp only at hE hm2 hex;refine Z_7 ?_;refine ZcM (hmF bm bw Ac cc C m) (fun w hi hin=>HS w hin) ?_;refine p6 ?_;refine ZW ?_ ?_<;>intro hc7
  ·rw[hc7,ac]at hE;refine Z_6 ?_;refine Wq8 ?_;refine dM ((⟨k+1,m2⟩:Nat×HM)) ?_ ?_ ?_
   ·exact⟨⟨by omega,hm2,by show jo C (steps - (k+1)) m2=_;rw[show steps - (k+1)=f by omega];exact hE⟩,by show steps - (k+1)<steps - k;omega⟩
   ·exact Zwk
   exact Zu
  rw[hc7,aa]at hE;refine Z_6 ?_;refine ZW ?_ ?_<;>intro hc8
  ·rw[hc8,ac]at hE;obtain⟨he1,rfl⟩:=Prod.mk.inj hE;obtain⟨rfl,rfl⟩:=Prod.mk.inj he1;have hw1:why=1:=(by simpa using hc8);subst hw1;obtain⟨rfl,hp0,hpl⟩:=hex rfl;have hR:=hm.rl;obtain⟨p,hpe⟩:∃p:Nat,m2.pc=p:=aq hp0;rw[hpe]at hpl;have hx:C[p]? =some (C.getD p HI.zero):=(by rw[aw,ai (show p<C.length by omega)];rfl);rw[show m2.pc.toNat=p by omega];obtain⟨ad,rfl⟩:=hsome Wq1;obtain⟨i,hie⟩:=Zgn (C.getD p HI.zero);rw[hie]at hx⊢;refine Zs (bR ⟨fun j=>List.elem j [],[]⟩ Zk ?_);refine gn ?_;refine ZE 2 ?_;refine ZFe 3 17 ?_;refine dm 4 rfl Zk Zk Zk Zk (bO Zrf Zv0) (cB Zh (hm_c hR)) rfl ?_;refine ZE 5 ?_;refine ZE 6 ?_;refine ZFe 7 18 ?_;refine dm 8 rfl Zk Zk Zk Zk (bO Zrf Zv0) (cB Zh (hm_p hR)) rfl ?_;refine cD 9 rfl Zk Zk Zk (cU (j:=p) rfl Zrf (Zv rfl) (Zv rfl) (fun _=>hpe) Wq4) rfl ?_;refine cD 10 rfl Zk Zk Zk (FY 4 rfl (Zv rfl) ((pJ ad (p*5) 4))) rfl ?_;refine dm 11 rfl Zk Zk Zk Zk (bO Zrf (Zv rfl)) (fun w hi z hz=>by rw[aL]at hz;subst hz;exact(hi.rd (show Has _ (hiC (some ad) cc C)from Zh)).at_ ad rfl (p*5+4) (.int .u32 i.imm) (fB (f:=HI.cells) Zrf (i:=4) hx rfl)) rfl ?_;refine ZE 12 ?_;refine ZE 13 ?_;refine ZE 14 ?_;refine ZE 15 ?_;refine dr ?_;refine Z_8 ?_;refine sK (cs':=[row _ _ _,slv _ _ _ _ _ _,slv _ _ _ _ _ _]) (.inl rfl) Zu rfl rfl rfl rfl ?_;exact⟨_,rfl,rfl⟩
  rw[hc8,aa]at hE;obtain⟨he1,rfl⟩:=Prod.mk.inj hE;obtain⟨rfl,rfl⟩:=Prod.mk.inj he1;refine p5 ?_;refine sK (cs':=[row _ _ _,slv _ _ _ _ _ _,slv _ _ _ _ _ _]) (.inl rfl) Zu rfl rfl rfl rfl ?_;exact⟨_,rfl,rfl⟩
 simp only[ah]at hc2;obtain rfl:k=steps:=Wq1;rw[Nat.sub_self]at hE;obtain⟨he1,rfl⟩:=Prod.mk.inj hE;obtain⟨rfl,rfl⟩:=Prod.mk.inj he1;refine Z_8 ?_;refine Zy (vH (Zv rfl) (Zv rfl) (show _=((k:Nat):Int)from by split<;>omega)) ?_;refine Z_6 ?_;refine sK (cs':=[row _ _ _,slv _ _ _ _ _ _,slv _ _ _ _ _ _]) (.inl rfl) Zu rfl rfl rfl rfl ?_;exact⟨_,rfl,rfl⟩
theorem wT(bm bw:Nat)(Ac:Option Addr)(n cc:Nat)(R W:List Int)(pc:Int)(hR:R.length=16)(hW:W.length=256)(f k:Nat)(hf:f≤100)(hk:k≤16)(w:World)(h:(fE bm bw Ac n cc R pc).ok w)(h2:(hwC bw W).ok w):
  Ctr prog 182 [.pointer (some ⟨bm,0,none⟩),.int .i64 f,.int .u32 k] w [] (fun x cs=>∃A c,x= .slice A (fR W f k).length c∧cs=[sl .u32 22 A (fR W f k).length c (fR W f k)]):=by
 have hl:∀j,(fR W f j).length=j:=fun j=>by simp[fR]
 have hsn:∀j,fR W f (j+1)=fR W f j++[W.getD (f+j) 0]:=fun j=>by unfold fR;rw[List.range_succ,List.map_append];rfl
 refine bL func182 rfl ntmps182 rfl (Inv.start w) ?_;refine jA ?_;refine dy 22 1 ?_;refine ZA ?_;refine Zy (bW rfl rfl Zv0 Zl) ?_;refine Z_4 ?_;refine cw (fun q:Nat×Option Addr×Nat=>[(0,.pointer (some ⟨bm,0,none⟩)),(1,.int .i64 f),(7,.slice q.2.1 (fR W f q.1).length q.2.2),(10,.int .i64 k),(11,.int .i64 (q.1:Int))]) (fun q=>[sl .u32 22 q.2.1 (fR W f q.1).length q.2.2 (fR W f q.1)]) (fun q=>q.1≤k) (fun q=>k - q.1) (⟨0,none,0⟩) ?_ ?_ ?_ ?_
 ·exact au _
 ·exact Zwk
 ·exact Zu
 rintro⟨j,A,c⟩ hj;dsimp only at hj⊢;refine Z_6 ?_;refine ZW ?_ ?_<;>intro hc3
 ·simp only[ak]at hc3;have hlj:=hl j;refine p6 ?_;refine Zy (cX (Zv rfl) (Zv rfl) (show _=((f+j:Nat):Int)from by rw[IntWalk.i64_in _ ⟨by omega,by omega⟩];omega)) ?_;refine ZSe (fun w hi=>zQ bm bw Ac n cc R W pc hR hW (f+j) Wq1 w (bJ.old h hi) (bJ.old h2 hi)) ?_;refine ku ?_;rintro _ _ ⟨b20,rfl,rfl⟩;refine fb (cC (e:=22) (sz:=1) (bytes:=4) rfl rfl Za rfl rfl (fun w hi=>hi.rd (show Has _ (slv 22 1 (some ⟨b20,0,none⟩) 1 1 (ints .u32 [W.getD (f+j) 0]))from Zh)) cO g9 Wq1) rfl ?_;rintro _ _ ⟨A2,c2,rfl,rfl⟩;rw[cj,←hsn,show(fR W f j).length+1=(fR W f (j+1)).length by rw[hl,hl]];refine Z_5 ?_;refine Wq8 ?_;refine dM ((⟨j+1,A2,c2⟩:Nat×Option Addr×Nat)) ?_ ?_ ?_
  ·exact⟨by omega,by omega⟩
  ·exact Zwk
  exact Zu
 simp only[ah]at hc3;obtain rfl:j=k:=by omega
 refine gE ?_;refine Zrb ([slv _ _ _ _ _ _]) ?_;exact⟨_,_,rfl,rfl⟩
theorem hget_ok(bm bw:Nat)(Ac:Option Addr)(n cc:Nat)(R W:List Int)(pc:Int)(hR:R.length=16)(hW:W.length=256)(hwd:wds W)(s:St)(Ad Ar:Option Addr)(cd cr:Nat)(w:World)(h:(fE bm bw Ac n cc R pc).ok w)(h2:(hwC bw W).ok w)(h3:lA w s Ad Ar cd cr):
  Ctr prog 135 [.pointer (some ⟨bm,0,none⟩),sv s Ad cd Ar cr] w [] (fun x cs=>∃X:jq,x= .tuple #[sv (bif lH W then mY W s else s) X.Ad X.cd X.Ar X.cr,.bool (lH W)]∧cs=[slD (bif lH W then mY W s else s) X.Ad X.cd,slR (bif lH W then mY W s else s) X.Ar X.cr]):=by
 have HW:=zQ bm bw Ac n cc R W pc hR hW;obtain⟨x2,e2,y2⟩:=lE hwd 2;obtain⟨x3,e3,y3⟩:=lE hwd 3;have y36:=iB hwd 36;obtain⟨x36,e36⟩:=Zgn (W.getD 36 0);have hgs:mY W s=⟨W.getD 0 0,fR W 4 x2,fR W 20 x3,W.getD 1 0,s.Jq,s.Jv,s.ie,s.root,s.vec,s.epc,s.Jr,s.addr,s.JC,s.eie,IntKind.u64.wrap (s.count+x36),s.halted⟩:=by unfold mY;rw[e2,e3,e36,aO,aO]
 have htk:lH W= !((decide (16<(x2:Int))||decide (16<(x3:Int)))||decide (15<W.getD 1 0)):=by unfold lH;rw[e2,e3]
 rw[e36]at y36;have W2:=HW 2 Wq5;have W3:=HW 3 Wq5;have W36:=HW 36 Wq5;rw[e2]at W2;rw[e3]at W3;rw[e36]at W36;obtain⟨b,hb⟩:=Zgn (lH W);rw[hb]at htk⊢;refine bL func135 rfl ntmps135 rfl (Inv.start w) ?_;refine Z_2 ?_;refine ZO fun b3=>?_;refine ZN fun b4=>?_
 refine Z_6 ?_;refine ZS (fun w hi=>iY s Ad Ar cd cr w (h3.Jz hi)) ?_;rintro _ _ ⟨_,⟨A1,c1,A2,c2,rfl,rfl⟩,rfl⟩;refine ZM ?_;refine Z_9 ?_;refine dE (cq rfl rfl) (.cons (dH rfl) .nil) (fun _ _=>rfl) (fun hg w hi=>wR bm bw Ac n cc R pc hR w (bJ.old h hi)) rfl ?_;refine Z_4 ?_;refine dE (cq rfl rfl) (.cons (dH rfl) (.cons Zv0 .nil)) (fun _ _=>rfl) (fun hg w hi=>W2 w (bJ.old h hi) (bJ.old h2 hi)) rfl ?_;refine Z_4 ?_;refine dE (cq rfl rfl) (.cons (dH rfl) (.cons Zv0 .nil)) (fun _ _=>rfl) (fun hg w hi=>W3 w (bJ.old h hi) (bJ.old h2 hi)) rfl ?_;refine Z_4 ?_;refine dE (cq rfl rfl) (.cons (dH rfl) (.cons (Zv rfl) .nil)) (fun _ _=>rfl) (fun hg w hi=>HW 1 Wq5 w (bJ.old h hi) (bJ.old h2 hi)) rfl ?_;refine Z_4 ?_;refine ZW ?_ ?_<;>intro hc2
 ·have hc:((decide (16<(x2:Int))||decide (16<(x3:Int)))||decide (15<W.getD 1 0))=true:=hc2;rw[hc]at htk;obtain rfl:b=false:=htk;refine Z_3 ?_;refine ZM ?_;refine Z_5 ?_;refine kV (cs':=[slD s A1 c1,slR s A2 c2]) (.inl rfl) Zu rfl rfl rfl Zh Zrf Zrf ?_;exact⟨⟨A1,c1,A2,c2⟩,rfl,rfl⟩
 have hc:((decide (16<(x2:Int))||decide (16<(x3:Int)))||decide (15<W.getD 1 0))=false:=hc2;rw[hc]at htk;obtain rfl:b=true:=htk;simp only[bj,ah]at hc;have HT2:=wT bm bw Ac n cc R W pc hR hW 4 x2 Wq5 Wq1;have HT3:=wT bm bw Ac n cc R W pc hR hW 20 x3 Wq5 Wq1;rw[ac,hgs];refine Z_5 ?_;refine ZSe (fun w hi=>HW 0 Wq5 w (bJ.old h hi) (bJ.old h2 hi)) ?_;refine ZA ?_;refine ZSe (fun w hi=>HW 1 Wq5 w (bJ.old h hi) (bJ.old h2 hi)) ?_;refine Z_1 ?_;refine ZL ?_;refine Z_1 ?_;refine ZL ?_;refine Z_6 ?_;refine ZSe (fun w hi=>W2 w (bJ.old h hi) (bJ.old h2 hi)) ?_;refine ZS (fun w hi=>HT2 w (bJ.old h hi) (bJ.old h2 hi)) ?_;rintro _ _ ⟨_,⟨A3,c3,rfl,rfl⟩,rfl⟩;refine Z_2 ?_;refine ZSe (fun w hi=>W3 w (bJ.old h hi) (bJ.old h2 hi)) ?_;refine ZS (fun w hi=>HT3 w (bJ.old h hi) (bJ.old h2 hi)) ?_;rintro _ _ ⟨_,⟨A4,c4,rfl,rfl⟩,rfl⟩;refine Z_1 ?_;refine ZL ?_;refine Z_1 ?_;refine ZL ?_;refine Z_3 ?_;refine bR ⟨fun j=>List.elem j [7],[]⟩ Zk ?_;refine ZFe 0 14 ?_;refine ZG 1 ?_;refine ZE 2 ?_;refine ce 3 Zk ?_;refine ZT (fun w hi=>W36 w (bJ.old h hi) (bJ.old h2 hi)) ?_;rintro _ _ ⟨_,⟨rfl,rfl⟩,rfl⟩;refine cD 4 rfl Zk Zk Zk (bW rfl rfl (Zv rfl) sF) rfl ?_;refine cD 5 rfl Zk Zk Zk (cX Zv0 Zv0 rfl) rfl ?_;refine ZFe 6 14 ?_;refine ce 7 Zk ?_;refine ZQ ?_;refine dr ?_;refine Z_4 ?_;refine ZM ?_;refine Z_4 ?_;refine kV (cs':=[sl .u32 22 A3 (fR W 4 x2).length c3 (fR W 4 x2),sl .u32 22 A4 (fR W 20 x3).length c4 (fR W 20 x3)]) (.inl rfl) Zu rfl rfl rfl Zh Zrf Zrf ?_;exact⟨⟨A3,c3,A4,c4⟩,rfl,rfl⟩
theorem erun_ok(A:Option Addr)(c:Nat)(C:List HI)(hC:ga C)(hl:C.length≤100000)(s:St)(hw:s.wf)(hs:s.right=true)(Ad Ar:Option Addr)(cd cr:Nat)(w:World)(h:Rd w .u8 A (cF C).length c (cF C))(h3:lA w s Ad Ar cd cr):
  Ctr prog 96 [.slice A (cF C).length c,sv s Ad cd Ar cr] w [] (fun x cs=>∃X:jq,x= .tuple #[sv (ic C s).1 X.Ad X.cd X.Ar X.cr,.int .i64 (ic C s).2]∧cs=[slD (ic C s).1 X.Ad X.cd,slR (ic C s).1 X.Ar X.cr]):=by
 have h0:=hm0_ok hw hs;have hm9:=Ew hC 4096 _ h0;have him:=zS hC 4096 ⟨List.replicate 16 0,JV s,0⟩;have hrc:ic C s=zq s (jo C 4096 ⟨List.replicate 16 0,JV s,0⟩):=rfl;obtain⟨W0,hW0⟩:=Zgn (JV s);have HP:=fun bm bw w hi h=>hput_ok bm bw s hs hw Ad Ar cd cr w hi h
 obtain⟨R0,hR0⟩:=Zgn (List.replicate 16 (0:Int));obtain⟨Z0,hZ0⟩:=Zgn (List.replicate 256 (0:Int));have HN:=hnew_ok;rw[hW0,hR0]at h0 hm9 hrc him;rw[hR0,hZ0]at HN HP;rw[hW0]at HP;have HR:=fun bm bw Ac cc w hi=>Hv bm bw Ac cc C hC 4096 Wq5 ⟨R0,W0,0⟩ h0 w hi
 obtain⟨⟨⟨how,im⟩,m9⟩,hq⟩:=Zgn (jo C 4096 ⟨R0,W0,0⟩);rw[hq]at HR hrc hm9 him;dsimp only at HR hrc hm9 him;have hre:zq s ((how,im),m9)=bif how !=1 then(s,0)else bif lH m9.words then(mY m9.words s,im)else(s,0):=rfl
 rw[hrc,hre];clear hrc hq hre;have hR16:R0.length=16:=h0.rl;have HG:=fun bm bw Ac cc w h1 h2 h3=>hget_ok bm bw Ac C.length cc m9.JI m9.words m9.pc hm9.rl hm9.wl hm9.w s Ad Ar cd cr w h1 h2 h3
 obtain⟨tk,htk⟩:=Zgn (lH m9.words);obtain⟨s9,hs9⟩:=Zgn (mY m9.words s);rw[htk,hs9]at HG⊢;refine bL func96 rfl ntmps96 rfl (Inv.start w) ?_;refine Z_2 ?_;refine ZO fun b3=>?_;refine ZN fun b4=>?_
 refine Z_5 ?_;refine ZS (fun w hi=>HN w) ?_;rintro _ _ ⟨_,⟨bm,bw,rfl,rfl⟩,rfl⟩;refine gL ?_;refine iQ (cq rfl rfl) Zh Zrf Zrf (Zv rfl) rfl ?_;refine iA (cq rfl rfl) rfl (eB ([fE bm bw none 0 0 R0 0,hwC bw Z0]) rfl (fun _ _=>rfl) Zi (fun w hi hin=>HP bm bw w hin (fun w' hk=>⟨RdV.JG h3.d hi Zi hk,RdV.JG h3.r hi Zi hk,h3.hd,h3.hr⟩))) rfl ?_;rintro _ _ ⟨_,⟨rfl,rfl⟩,rfl⟩;refine Z_5 ?_;refine iA (cq rfl rfl) rfl (eB ([fE bm bw none 0 0 R0 0,hwC bw W0]) rfl (fun _ _=>rfl) Zi (fun w hi hin=>Hw bm bw R0 W0 hR16 A c C hC hl w hin (fun w' hk=>RdV.JG h hi Zi hk))) rfl ?_;rintro _ _ ⟨_,⟨Ac,cc,rfl,rfl⟩,rfl⟩;refine Z_4 ?_;refine gx ?_;refine Z_5 ?_;refine ZcL (hmF bm bw Ac cc C ⟨R0,W0,0⟩) (fun w hi hin=>HR bm bw Ac cc w hin) ?_;rintro _ _ ⟨_,⟨n,rfl,rfl⟩,rfl⟩;refine p5 ?_;refine ZW ?_ ?_<;>intro hc5
 ·rw[hc5,ac];refine Z_3 ?_;refine ZS (fun w hi=>iY s Ad Ar cd cr w (h3.Jz hi)) ?_;rintro _ _ ⟨_,⟨A1,c1,A2,c2,rfl,rfl⟩,rfl⟩;refine ZM ?_;refine Z_5 ?_;refine kV (cs':=[slD s A1 c1,slR s A2 c2]) (.inl rfl) Zu rfl rfl rfl Zh Zrf Zrf ?_;exact⟨⟨A1,c1,A2,c2⟩,rfl,rfl⟩
 rw[hc5,aa];refine Z_6 ?_;refine ZS (fun w hi=>HG bm bw Ac cc w (hi.get Zh) (hi.get Zh) (h3.Jz hi)) ?_;rintro _ _ ⟨_,⟨X,rfl,rfl⟩,rfl⟩;refine Z_3 ?_;refine ZN fun b11=>?_
 refine ZM ?_;refine dS ?_;refine ZW ?_ ?_<;>intro hc8
 ·obtain rfl:tk=false:=(by cases tk with|false=>rfl|true=>cases hc8);refine Z_3 ?_;refine ZM ?_;refine Z_5 ?_;refine kV (cs':=[slD s X.Ad X.cd,slR s X.Ar X.cr]) (.inl rfl) Zu rfl rfl rfl Zh Zrf Zrf ?_;exact⟨X,rfl,rfl⟩
 obtain rfl:tk=true:=(by cases tk with|true=>rfl|false=>cases hc8);refine Z_6 ?_;refine Zy (bW rfl rfl Zv0 Zl) ?_;refine ZM ?_;refine Z_4 ?_;refine kV (cs':=[slD s9 X.Ad X.cd,slR s9 X.Ar X.cr]) (.inl rfl) Zu rfl rfl rfl Zh Zrf Zrf ?_;exact⟨X,rfl,rfl⟩
end Go.Proofs.YtakodpimdalajaaGreatDoor
namespace Go.Ink
open Go.RowKit
abbrev II.cells(x:II):List Value:=[.int .i64 x.op,.int .i64 x.dst,.int .i64 x.a,.int .i64 x.b,.int .u32 x.imm]
structure PAd where
 Ac:Option Addr
 cc:Nat
 Ad:Option Addr
 cd:Nat
 Ar:Option Addr
 cr:Nat
abbrev jm(p:Pg)(Q:PAd):List Value:=[.slice Q.Ac p.code.length Q.cc,.int .i64 p.Jn,.int .i64 p.Jo,.int .i64 p.JK,.int .i64 p.JN,.slice Q.Ad p.Jw.length Q.cd,.slice Q.Ar p.Jx.length Q.cr,.int .i64 p.flags,.int .u32 p.next,.int .i64 p.target,.int .i64 p.branch,.int .u32 p.taken,.int .i64 p.count,.int .i64 p.values]
abbrev pgv(p:Pg)(Q:PAd):Value:= .agg (jm p Q).toArray
structure CdS where
 b:Nat
 p:Pg
 Q:PAd
 pl:Pl
 Ag:Option Addr
 cg:Nat
 As:Option Addr
 cs:Nat
structure CAd where
 Al:Option Addr
 cl:Nat
 Af:Option Addr
 cf:Nat
abbrev ny(S:CdS)(n m:Nat)(X:CAd):List Value:=[.slice S.Q.Ac S.p.code.length S.Q.cc,.int .i64 S.p.Jn,.int .i64 S.p.Jo,.int .i64 S.p.JK,.int .i64 S.p.JN,.slice S.Q.Ad S.p.Jw.length S.Q.cd,.slice S.Q.Ar S.p.Jx.length S.Q.cr,.int .i64 S.p.flags,.int .u32 S.p.next,.int .i64 S.p.target,.int .i64 S.p.branch,.int .u32 S.p.taken,.int .i64 S.p.count,.int .i64 S.p.values,
 .slice S.Ag S.pl.reg.length S.cg,.slice S.As S.pl.slot.length S.cs,.int .i64 S.pl.JM,.slice X.Al n X.cl,.slice X.Af m X.cf]
theorem hi_one(l:List HI):∀u∈l.flatMap HI.cells,u.oneCell'=true:=fun u hu=>by
 obtain⟨i, -,h⟩:=List.mem_flatMap.1 hu;simp only[HI.cells,aK,aY,or_false]at h;rcases h with rfl|rfl|rfl|rfl|rfl<;>rfl
theorem hi_flat(a b:List HI):a.flatMap HI.cells++b.flatMap HI.cells=(a++b).flatMap HI.cells:=by simp
end Go.Ink
namespace Go.Proofs.YtakodpimdalajaaGreatDoor
open Go.RowKit Go.Ink Go.Proofs.Tryz
attribute [local irreducible] OpY bP
abbrev cdF(S:CdS)(l:List HI)(fix:List Int)(X:CAd):List bJ:=[row S.b (ny S l.length fix.length X) 291,hiC X.Al X.cl l,sl .i64 3 X.Af fix.length X.cf fix]
structure FR(S:CdS)(w:World):Prop where
 reg:Rd w .i64 S.Ag S.pl.reg.length S.cg S.pl.reg
 slot:Rd w .i64 S.As S.pl.slot.length S.cs S.pl.slot
 Jw:Rd w .i64 S.Q.Ad S.p.Jw.length S.Q.cd S.p.Jw
 Jx:Rd w .i64 S.Q.Ar S.p.Jx.length S.Q.cr S.p.Jx
 code:RdV w 5 S.Q.Ac S.p.code.length S.Q.cc (S.p.code.flatMap II.cells)
section
variable (S:CdS) (l:List HI) (fix:List Int) (X:CAd) (hl:l.length≤50000)
include hl in
theorem jW(xs:List HI)(A:Option Addr)(c:Nat)(hx:xs.length≤50000)(w:World)(hi:Inv w (bK (cdF S l fix X)) (cdF S l fix X) w)(h:∀w',dC (bK (cdF S l fix X)) w w'→RdV w' 5 A xs.length c (xs.flatMap HI.cells)):
  Ctr prog 174 [.pointer (some ⟨S.b,0,none⟩),.slice A xs.length c] w (cdF S l fix X) (fun r9 cs=>∃l' X',l'=l++xs∧cs=cdF S l' fix X'):=by
 refine bL func174 rfl ntmps174 rfl hi ?_;refine Z_7 ?_;refine fb (cC (e:=298) (sz:=5) (bytes:=40) rfl rfl Za rfl rfl (fun w hi=>(h w hi.JJ)) (hi_one xs) g9 Wq1) rfl ?_;rintro _ _ ⟨A2,c2,rfl,rfl⟩;rw[hi_flat,←ae];refine Z_2 ?_;refine ZL ?_;refine Zn (iF (cs':=cdF S (l++xs) fix ⟨A2,c2,X.Af,X.cf⟩) (.inr rfl) Zu rfl ?_);exact⟨_,_,rfl,rfl⟩
include hl in
theorem kb(rd v:Int)(w:World)(hi:Inv w (bK (cdF S l fix X)) (cdF S l fix X) w):
  Ctr prog 169 [.pointer (some ⟨S.b,0,none⟩),.int .i64 rd,.int .u32 v] w (cdF S l fix X) (fun r9 cs=>∃l' X',l'=l++[⟨1,rd,0,0,v⟩]∧cs=cdF S l' fix X'):=by
 refine bL func169 rfl ntmps169 rfl hi ?_;refine Z_5 ?_;refine fb (da rfl rfl Zrf Zrf rfl rfl rfl) rfl ?_;rintro _ _ ⟨b10,rfl,rfl⟩;refine ZcL (cdF S l fix X) (fun w hi hin=>jW S l fix X hl [⟨1,rd,0,0,v⟩] (some ⟨b10,0,none⟩) 1 cJ w hin (fun w' hk=>de (hi.JY Zi (show Has _ (slv 298 5 (some ⟨b10,0,none⟩) 1 1 ([⟨1,rd,0,0,v⟩].flatMap HI.cells))from Zh) hk))) ?_;rintro _ _ ⟨_,⟨_,X2,rfl,rfl⟩,rfl⟩;refine Zn (iF (cs':=cdF S (l++[⟨1,rd,0,0,v⟩]) fix X2) (.inr rfl) Zu rfl ?_);exact⟨_,_,rfl,rfl⟩
include hl in
theorem gK(o rd ra rb:Int)(w:World)(hi:Inv w (bK (cdF S l fix X)) (cdF S l fix X) w):
  Ctr prog 227 [.pointer (some ⟨S.b,0,none⟩),.int .i64 o,.int .i64 rd,.int .i64 ra,.int .i64 rb] w (cdF S l fix X) (fun r9 cs=>∃l' X',l'=l++[⟨o,rd,ra,rb,0⟩]∧cs=cdF S l' fix X'):=by
 refine bL func227 rfl ntmps227 rfl hi ?_;refine Z_7 ?_;refine fb (da rfl rfl Zrf Zrf rfl rfl rfl) rfl ?_;rintro _ _ ⟨b16,rfl,rfl⟩;refine ZcL (cdF S l fix X) (fun w hi hin=>jW S l fix X hl [⟨o,rd,ra,rb,0⟩] (some ⟨b16,0,none⟩) 1 cJ w hin (fun w' hk=>de (hi.JY Zi (show Has _ (slv 298 5 (some ⟨b16,0,none⟩) 1 1 ([⟨o,rd,ra,rb,0⟩].flatMap HI.cells))from Zh) hk))) ?_;rintro _ _ ⟨_,⟨_,X2,rfl,rfl⟩,rfl⟩;refine Zn (iF (cs':=cdF S (l++[⟨o,rd,ra,rb,0⟩]) fix X2) (.inr rfl) Zu rfl ?_);exact⟨_,_,rfl,rfl⟩
include hl in
theorem xt(rd ra v:Int)(w:World)(hi:Inv w (bK (cdF S l fix X)) (cdF S l fix X) w):
  Ctr prog 226 [.pointer (some ⟨S.b,0,none⟩),.int .i64 rd,.int .i64 ra,.int .u32 v] w (cdF S l fix X) (fun r9 cs=>∃l' X',l'=l++[⟨14,rd,ra,0,v⟩]∧cs=cdF S l' fix X'):=by
 refine bL func226 rfl ntmps226 rfl hi ?_;refine Z_6 ?_;refine fb (da rfl rfl Zrf Zrf rfl rfl rfl) rfl ?_;rintro _ _ ⟨b13,rfl,rfl⟩;refine ZcL (cdF S l fix X) (fun w hi hin=>jW S l fix X hl [⟨14,rd,ra,0,v⟩] (some ⟨b13,0,none⟩) 1 cJ w hin (fun w' hk=>de (hi.JY Zi (show Has _ (slv 298 5 (some ⟨b13,0,none⟩) 1 1 ([⟨14,rd,ra,0,v⟩].flatMap HI.cells))from Zh) hk))) ?_;rintro _ _ ⟨_,⟨_,X2,rfl,rfl⟩,rfl⟩;refine Zn (iF (cs':=cdF S (l++[⟨14,rd,ra,0,v⟩]) fix X2) (.inr rfl) Zu rfl ?_);exact⟨_,_,rfl,rfl⟩
include hl in
theorem ue(ra v rb:Int)(w:World)(hi:Inv w (bK (cdF S l fix X)) (cdF S l fix X) w):
  Ctr prog 234 [.pointer (some ⟨S.b,0,none⟩),.int .i64 ra,.int .u32 v,.int .i64 rb] w (cdF S l fix X) (fun r9 cs=>∃l' X',l'=l++[⟨15,0,ra,rb,v⟩]∧cs=cdF S l' fix X'):=by
 refine bL func234 rfl ntmps234 rfl hi ?_;refine Z_6 ?_;refine fb (da rfl rfl Zrf Zrf rfl rfl rfl) rfl ?_;rintro _ _ ⟨b13,rfl,rfl⟩;refine ZcL (cdF S l fix X) (fun w hi hin=>jW S l fix X hl [⟨15,0,ra,rb,v⟩] (some ⟨b13,0,none⟩) 1 cJ w hin (fun w' hk=>de (hi.JY Zi (show Has _ (slv 298 5 (some ⟨b13,0,none⟩) 1 1 ([⟨15,0,ra,rb,v⟩].flatMap HI.cells))from Zh) hk))) ?_;rintro _ _ ⟨_,⟨_,X2,rfl,rfl⟩,rfl⟩;refine Zn (iF (cs':=cdF S (l++[⟨15,0,ra,rb,v⟩]) fix X2) (.inr rfl) Zu rfl ?_);exact⟨_,_,rfl,rfl⟩
include hl in
theorem ud(r:Int)(hf:fix.length≤1000)(w:World)(hi:Inv w (bK (cdF S l fix X)) (cdF S l fix X) w):
  Ctr prog 228 [.pointer (some ⟨S.b,0,none⟩),.int .i64 r] w (cdF S l fix X) (fun r9 cs=>∃l' X',l'=l++[⟨17,0,r,0,0⟩]∧cs=cdF S l' (fix++[(l.length:Int)]) X'):=by
 refine bL func228 rfl ntmps228 rfl hi ?_;refine Zs (bR ⟨fun j=>List.elem j [11,14],[]⟩ Zk ?_);refine gn ?_;refine ZE 2 ?_;refine ZFe 3 18 ?_;refine ZG 4 ?_;refine ZE 5 ?_;refine ZE 6 ?_;refine ZFe 7 17 ?_;refine ce 8 Zk ?_;refine kg ?_;refine ZE 9 ?_;refine ce 10 Zk ?_;refine vD ?_;rintro _ _ ⟨b14,rfl,rfl⟩;refine ce 11 Zk ?_;refine iZ rfl rfl (cC (e:=3) (sz:=1) (bytes:=8) rfl rfl Za rfl rfl (fun w hi=>hi.rd (show Has _ (slv 3 1 (some ⟨b14,0,none⟩) 1 1 (ints .i64 [(l.length:Int)]))from Zh)) cO g9 Wq1) ZJ rfl ?_;rintro _ _ ⟨A2,c2,rfl,rfl⟩;rw[cj,show fix.length+1=(fix++[(l.length:Int)]).length by simp];refine ZE 12 ?_;refine ZFe 13 18 ?_;refine ce 14 Zk ?_;refine ZQ ?_;refine dr ?_;refine Z_5 ?_;refine fb (da rfl rfl Zrf Zrf rfl rfl rfl) rfl ?_;rintro _ _ ⟨b21,rfl,rfl⟩;refine ZcL (cdF S l (fix++[(l.length:Int)]) ⟨X.Al,X.cl,A2,c2⟩) (fun w hi hin=>jW S l (fix++[(l.length:Int)]) ⟨X.Al,X.cl,A2,c2⟩ hl [⟨17,0,r,0,0⟩] (some ⟨b21,0,none⟩) 1 cJ w hin (fun w' hk=>de (hi.JY Zi (show Has _ (slv 298 5 (some ⟨b21,0,none⟩) 1 1 ([⟨17,0,r,0,0⟩].flatMap HI.cells))from Zh) hk))) ?_;rintro _ _ ⟨_,⟨_,X2,rfl,rfl⟩,rfl⟩;refine Zn (iF (cs':=cdF S (l++[⟨17,0,r,0,0⟩]) (fix++[(l.length:Int)]) X2) (.inr rfl) Zu rfl ?_);exact⟨_,_,rfl,rfl⟩
end
end Go.Proofs.YtakodpimdalajaaGreatDoor
namespace Go.Ink
open Go.RowKit
theorem Inv.J5{S:List Nat}{cs cin rest:List bJ}{w0 w w':World}(h:Inv w0 S cs w)(hp:ji cin cs rest)(hk:dC (bK cin) w w'):dC S w0 w':=
 h.past (fun c hc=>hp.perm.symm.subset (List.mem_append_left _ hc)) hk
theorem ez{k:IntKind}{l:List Int}{n:Nat}(h:n<l.length):(ints k l)[n]? =some (.int k (l.getD n 0)):=cQ (by simp[ai h])
section
variable {C:Cx} {Q:kM} {fr:Fr} {cs:List bJ} {x y:Operand} {d:Option Nat} {T:TypeId} {ty:TypeId} {pos:String} {af:Array Edge} {gd:Option (Nat×Bool)} {g:Bool} {k:IntKind}
theorem eK{A:Option Addr}{ad:Addr}(hA:A=some ad){n c j:Nat}{i:Int}{e sz:Nat}(hT:C.P.underlying T=some (.slice e))(hs:∀w,(sizeOf e).run C.P w= .ok sz w)(hx:Ev fr g x (.slice A n c))(hy:Ev fr g y (.int k i))(hj:g=true→i=(j:Int))(h1:g=true→j<n):
  OpY C ⟨d,.indexAddr T x y,ty,pos,af,gd⟩ fr g Any (.pointer (some (ad.add (j*sz)))):=cU (n:=n) (c:=c) hT hs (hA▸hx) hy hj h1
end
theorem i3(pl:Pl)(n into:Int):(jj pl n into).length≤1:=by unfold jj;cases pl.inR n<;>simp
theorem Eg(pl:Pl)(n r:Int):(iT pl n r).length≤1:=by unfold iT;cases pl.inR n<;>simp
theorem qC(op rd a b:Int):(ul op rd a b).length≤3:=by unfold ul;cases uY op<;>simp[I0]
theorem xc(op a b:Int):(lb op a b).length≤24:=by
 have:=qC op 9 a b;unfold lb fW;cases op==16<;>cases op==17||op==25<;>simp[jT,jS,gv,gN,sD]<;>omega
theorem vI(x:Int):IntKind.u32.wrap (IntKind.i64.wrap (64+x))=IntKind.u32.wrap (64+x):=by rw[aE,aE,bI];omega
end Go.Ink
namespace Go.Proofs.YtakodpimdalajaaGreatDoor
open Go.RowKit Go.Ink Go.Proofs.Tryz
attribute [local irreducible] OpY bP
theorem host_ok(op:Int)(w:World):Ctr prog 261 [.int .u32 op] w [] (fun r cs=>r= .int .i64 (ka op)∧cs=[]):=by
 refine bL func261 rfl ntmps261 rfl (Inv.start w) ?_;refine AI ?_;refine ZW ?_ ?_<;>intro hc2
 ·refine fG ?_;exact⟨by unfold ka;rw[hc2];rfl,rfl⟩
 refine Z_6 ?_;refine ZW ?_ ?_<;>intro hc4
 ·refine fG ?_;exact⟨by unfold ka;rw[hc2,hc4];rfl,rfl⟩
 refine Z_6 ?_;refine ZW ?_ ?_<;>intro hc6
 ·refine fG ?_;exact⟨by unfold ka;rw[hc2,hc4,hc6];rfl,rfl⟩
 refine Z_6 ?_;refine ZW ?_ ?_<;>intro hc8
 ·refine fG ?_;exact⟨by unfold ka;rw[hc2,hc4,hc6,hc8];rfl,rfl⟩
 refine Z_6 ?_;refine ZW ?_ ?_<;>intro hc10
 ·refine fG ?_;exact⟨by unfold ka;rw[hc2,hc4,hc6,hc8,hc10];rfl,rfl⟩
 refine Z_6 ?_;refine ZW ?_ ?_<;>intro hc12
 ·refine fG ?_;exact⟨by unfold ka;rw[hc2,hc4,hc6,hc8,hc10,hc12];rfl,rfl⟩
 refine Z_6 ?_;refine ZW ?_ ?_<;>intro hc14
 ·refine fG ?_;exact⟨by unfold ka;rw[hc2,hc4,hc6,hc8,hc10,hc12,hc14];rfl,rfl⟩
 refine Z_9 ?_;refine Zra ?_;exact⟨by unfold ka;rw[hc2,hc4,hc6,hc8,hc10,hc12,hc14];rfl,rfl⟩
theorem Hk(op:Int)(w:World):Ctr prog 235 [.int .i64 op] w [] (fun r cs=>r= .tuple #[.int .u32 (fw op),.bool (gP op)]∧cs=[]):=by
 refine bL func235 rfl ntmps235 rfl (Inv.start w) ?_;refine FT ?_;refine ZW ?_ ?_<;>intro hc2
 ·refine Z_9 ?_;refine jh ?_;exact⟨by unfold fw gP;rw[hc2];rfl,rfl⟩
 refine Z_6 ?_;refine ZW ?_ ?_<;>intro hc4
 ·refine Z_9 ?_;refine jh ?_;exact⟨by unfold fw gP;rw[hc2,hc4];rfl,rfl⟩
 refine Z_6 ?_;refine ZW ?_ ?_<;>intro hc6
 ·refine Z_9 ?_;refine jh ?_;exact⟨by unfold fw gP;rw[hc2,hc4,hc6];rfl,rfl⟩
 refine Z_6 ?_;refine ZW ?_ ?_<;>intro hc8
 ·refine Z_9 ?_;refine jh ?_;exact⟨by unfold fw gP;rw[hc2,hc4,hc6,hc8];rfl,rfl⟩
 refine dS ?_;refine jh ?_;exact⟨by unfold fw gP;rw[hc2,hc4,hc6,hc8];rfl,rfl⟩
section
variable (S:CdS) (l:List HI) (fix:List Int) (X:CAd)
theorem cto_ok(hl:l.length≤20000)(n:Nat)(hn:n<S.pl.reg.length)(w:World)(hi:Inv w (bK (cdF S l fix X)) (cdF S l fix X) w)(hK:∀w',dC (bK (cdF S l fix X)) w w'→FR S w'):
  Ctr prog 229 [.pointer (some ⟨S.b,0,none⟩),.int .i64 n] w (cdF S l fix X) (fun r9 cs=>r9= .int .i64 (dP S.pl n 9)∧∃l' X',l'=l++[]∧cs=cdF S l' (fix) X'):=by
 have hreg0:=(hK w (dC.refl _ _)).reg;obtain⟨ag,hag⟩:∃ag,S.Ag=some ag:=Option.ne_none_iff_exists'.1 (fun e=>by have:=(hreg0.nil e).1;omega);have hreg:∀w',dC (bK (cdF S l fix X)) w w'→RdV w' 1 (some ag) S.pl.reg.length S.cg (ints .i64 S.pl.reg):=fun w' hk=>hag▸(hK w' hk).reg
 refine bL func229 rfl ntmps229 rfl hi ?_;refine gL ?_;refine Zy (eK (j:=n) hag rfl Zrf Zv0 Zv0 Zrf (fun _=>hn)) ?_;refine dL (bO Zrf Zv0) (jw (v:= .int .i64 (S.pl.r n)) hreg (ez hn)) rfl ?_;refine Z_9 ?_;refine ZW ?_ ?_<;>intro hc2
 ·have hr:S.pl.inR n=true:=hc2;refine Z_8 ?_;refine Zrb (cdF S l fix X) ?_;exact⟨by unfold dP;rw[hr];rfl,l,X,(by simp only[ac,aa,ap,aM,aP,ax]),rfl⟩
 have hr:S.pl.inR n=false:=hc2;refine Z_8 ?_;refine Zrb (cdF S l fix X) ?_;exact⟨by unfold dP;rw[hr];rfl,l,X,(by simp only[ac,aa,ap,aM,aP,ax]),rfl⟩
theorem pE(hl:l.length≤20000)(n:Nat)(into:Int)(hn:n<S.pl.reg.length)(hn2:n<S.pl.slot.length)(w:World)(hi:Inv w (bK (cdF S l fix X)) (cdF S l fix X) w)(hK:∀w',dC (bK (cdF S l fix X)) w w'→FR S w'):
  Ctr prog 230 [.pointer (some ⟨S.b,0,none⟩),.int .i64 n,.int .i64 into] w (cdF S l fix X) (fun r9 cs=>r9= .int .i64 (dP S.pl n into)∧∃l' X',l'=l++jj S.pl n into∧cs=cdF S l' (fix) X'):=by
 have hreg0:=(hK w (dC.refl _ _)).reg;obtain⟨ag,hag⟩:∃ag,S.Ag=some ag:=Option.ne_none_iff_exists'.1 (fun e=>by have:=(hreg0.nil e).1;omega);have hreg:∀w',dC (bK (cdF S l fix X)) w w'→RdV w' 1 (some ag) S.pl.reg.length S.cg (ints .i64 S.pl.reg):=fun w' hk=>hag▸(hK w' hk).reg
 have hslot0:=(hK w (dC.refl _ _)).slot;obtain⟨asl,has⟩:∃ag,S.As=some ag:=Option.ne_none_iff_exists'.1 (fun e=>by have:=(hslot0.nil e).1;omega);have hslot:∀w',dC (bK (cdF S l fix X)) w w'→RdV w' 1 (some asl) S.pl.slot.length S.cs (ints .i64 S.pl.slot):=fun w' hk=>has▸(hK w' hk).slot
 refine bL func230 rfl ntmps230 rfl hi ?_;refine gL ?_;refine Zy (eK (j:=n) hag rfl Zrf Zv0 Zv0 Zrf (fun _=>hn)) ?_;refine dL (bO Zrf Zv0) (jw (v:= .int .i64 (S.pl.r n)) hreg (ez hn)) rfl ?_;refine Z_9 ?_;refine ZW ?_ ?_<;>intro hc2
 ·have hr:S.pl.inR n=true:=hc2;have e1:jj S.pl n into=[]:=by unfold jj;rw[hr];rfl
  refine Z_8 ?_;refine Zrb (cdF S l fix X) ?_;exact⟨by unfold dP;rw[hr];rfl,l,X,(by simp only[e1,ac,aa,ap,aM,aP,ax]),rfl⟩
 have hr:S.pl.inR n=false:=hc2;have e1:jj S.pl n into=[⟨14,into,15,0,IntKind.u32.wrap (64+S.pl.s n)⟩]:=by unfold jj;rw[hr];rfl
 refine gE ?_;refine Zy (eK (j:=n) has rfl Zrf Zv0 Zv0 Zrf (fun _=>hn2)) ?_;refine dL (bO Zrf Zv0) (jw (v:= .int .i64 (S.pl.s n)) hslot (ez hn2)) rfl ?_;refine Zy (cX Zv0 Zv0 rfl) ?_;refine Zy (bW rfl rfl (Zv rfl) (vI _)) ?_;refine ZcL (cdF S l fix X) (fun w hi hin=>xt S l fix X xC into 15 (IntKind.u32.wrap (64+S.pl.s n)) w hin) ?_;rintro _ _ ⟨_,⟨l1,X1,hl1,rfl⟩,rfl⟩;refine Z_9 ?_;refine Zrb (cdF S l1 fix X1) ?_;exact⟨by unfold dP;rw[hr];rfl,l1,X1,(by simp only[hl1,e1,ac,aa,ap,aM,aP,ax]),rfl⟩
theorem Ir(hl:l.length≤20000)(n:Nat)(r:Int)(hn:n<S.pl.reg.length)(hn2:n<S.pl.slot.length)(w:World)(hi:Inv w (bK (cdF S l fix X)) (cdF S l fix X) w)(hK:∀w',dC (bK (cdF S l fix X)) w w'→FR S w'):
  Ctr prog 233 [.pointer (some ⟨S.b,0,none⟩),.int .i64 n,.int .i64 r] w (cdF S l fix X) (fun r9 cs=>∃l' X',l'=l++iT S.pl n r∧cs=cdF S l' (fix) X'):=by
 have hreg0:=(hK w (dC.refl _ _)).reg;obtain⟨ag,hag⟩:∃ag,S.Ag=some ag:=Option.ne_none_iff_exists'.1 (fun e=>by have:=(hreg0.nil e).1;omega);have hreg:∀w',dC (bK (cdF S l fix X)) w w'→RdV w' 1 (some ag) S.pl.reg.length S.cg (ints .i64 S.pl.reg):=fun w' hk=>hag▸(hK w' hk).reg
 have hslot0:=(hK w (dC.refl _ _)).slot;obtain⟨asl,has⟩:∃ag,S.As=some ag:=Option.ne_none_iff_exists'.1 (fun e=>by have:=(hslot0.nil e).1;omega);have hslot:∀w',dC (bK (cdF S l fix X)) w w'→RdV w' 1 (some asl) S.pl.slot.length S.cs (ints .i64 S.pl.slot):=fun w' hk=>has▸(hK w' hk).slot
 refine bL func233 rfl ntmps233 rfl hi ?_;refine Z_8 ?_;refine Zy (eK (j:=n) hag rfl Zrf Zv0 Zv0 Zrf (fun _=>hn)) ?_;refine dL (bO Zrf Zv0) (jw (v:= .int .i64 (S.pl.r n)) hreg (ez hn)) rfl ?_;refine Z_3 ?_;refine ZW ?_ ?_<;>intro hc0
 ·have hr:S.pl.inR n=false:=by unfold Pl.inR;rw[ak]at hc0;rw[ah];omega
  have e1:iT S.pl n r=[⟨15,0,15,r,IntKind.u32.wrap (64+S.pl.s n)⟩]:=by unfold iT;rw[hr];rfl
  refine Z_8 ?_;refine Zy (eK (j:=n) has rfl Zrf Zv0 Zv0 Zrf (fun _=>hn2)) ?_;refine dL (bO Zrf Zv0) (jw (v:= .int .i64 (S.pl.s n)) hslot (ez hn2)) rfl ?_;refine Zy (cX Zv0 Zv0 rfl) ?_;refine Zy (bW rfl rfl (Zv rfl) (vI _)) ?_;refine ZA ?_;refine ZcL (cdF S l fix X) (fun w hi hin=>ue S l fix X xC 15 (IntKind.u32.wrap (64+S.pl.s n)) r w hin) ?_;rintro _ _ ⟨_,⟨l1,X1,hl1,rfl⟩,rfl⟩;refine Zn (iF (cs':=cdF S l1 fix X1) (.inr rfl) Zu rfl ?_);exact⟨l1,X1,(by simp only[hl1,e1,ac,aa,ap,aM,aP,ax]),rfl⟩
 have hr:S.pl.inR n=true:=by unfold Pl.inR;rw[ah]at hc0;rw[ak];omega
 have e1:iT S.pl n r=[]:=by unfold iT;rw[hr];rfl
 refine Zc (iF (cs':=cdF S l fix X) (.inr rfl) Zu rfl ?_);exact⟨l,X,(by simp only[e1,ac,aa,ap,aM,aP,ax]),rfl⟩
theorem clow_ok(hl:l.length≤40000)(r:Int)(w:World)(hi:Inv w (bK (cdF S l fix X)) (cdF S l fix X) w):
  Ctr prog 262 [.pointer (some ⟨S.b,0,none⟩),.int .i64 r] w (cdF S l fix X) (fun r9 cs=>∃l' X',l'=l++I0 r∧cs=cdF S l' (fix) X'):=by
 refine bL func262 rfl ntmps262 rfl hi ?_;refine Z_3 ?_;refine ZcL (cdF S l fix X) (fun w hi hin=>kb S l fix X xC 12 4294967295 w hin) ?_;rintro _ _ ⟨_,⟨l1,X1,hl1,rfl⟩,rfl⟩;refine Z_6 ?_;refine ZcL (cdF S l1 fix X1) (fun w hi hin=>gK S l1 fix X1 Ct 5 r r 12 w hin) ?_;rintro _ _ ⟨_,⟨l2,X2,hl2,rfl⟩,rfl⟩;refine Zn (iF (cs':=cdF S l2 fix X2) (.inr rfl) Zu rfl ?_);exact⟨l2,X2,(by simp only[hl1,hl2,I0,ac,aa,ap,aM,aP,ax]),rfl⟩
theorem uf(hl:l.length≤40000)(rd r:Int)(w:World)(hi:Inv w (bK (cdF S l fix X)) (cdF S l fix X) w):
  Ctr prog 263 [.pointer (some ⟨S.b,0,none⟩),.int .i64 rd,.int .i64 r] w (cdF S l fix X) (fun r9 cs=>∃l' X',l'=l++gN rd r∧cs=cdF S l' (fix) X'):=by
 refine bL func263 rfl ntmps263 rfl hi ?_;refine Z_3 ?_;refine ZcL (cdF S l fix X) (fun w hi hin=>kb S l fix X xC 12 31 w hin) ?_;rintro _ _ ⟨_,⟨l1,X1,hl1,rfl⟩,rfl⟩;refine Z_6 ?_;refine ZcL (cdF S l1 fix X1) (fun w hi hin=>gK S l1 fix X1 Ct 9 rd r 12 w hin) ?_;rintro _ _ ⟨_,⟨l2,X2,hl2,rfl⟩,rfl⟩;refine Zn (iF (cs':=cdF S l2 fix X2) (.inr rfl) Zu rfl ?_);exact⟨l2,X2,(by simp only[hl1,hl2,gN,ac,aa,ap,aM,aP,ax]),rfl⟩
theorem sr(hl:l.length≤40000)(r up:Int)(w:World)(hi:Inv w (bK (cdF S l fix X)) (cdF S l fix X) w):
  Ctr prog 264 [.pointer (some ⟨S.b,0,none⟩),.int .i64 r,.int .u32 up] w (cdF S l fix X) (fun r9 cs=>∃l' X',l'=l++sD r up∧cs=cdF S l' (fix) X'):=by
 refine bL func264 rfl ntmps264 rfl hi ?_;refine Z_4 ?_;refine ZcL (cdF S l fix X) (fun w hi hin=>kb S l fix X xC 12 up w hin) ?_;rintro _ _ ⟨_,⟨l1,X1,hl1,rfl⟩,rfl⟩;refine Z_7 ?_;refine ZcL (cdF S l1 fix X1) (fun w hi hin=>gK S l1 fix X1 Ct 8 r r 12 w hin) ?_;rintro _ _ ⟨_,⟨l2,X2,hl2,rfl⟩,rfl⟩;refine Z_5 ?_;refine ZcL (cdF S l2 fix X2) (fun w hi hin=>gK S l2 fix X2 (by first|omega|(simp only[hl1,hl2,ae,aj,ao];omega)) 6 10 10 r w hin) ?_;rintro _ _ ⟨_,⟨l3,X3,hl3,rfl⟩,rfl⟩;refine Zn (iF (cs':=cdF S l3 fix X3) (.inr rfl) Zu rfl ?_);exact⟨l3,X3,(by simp only[hl1,hl2,hl3,sD,ac,aa,ap,aM,aP,ax]),rfl⟩
theorem Fu(hl:l.length≤30000)(op rd a b:Int)(w:World)(hi:Inv w (bK (cdF S l fix X)) (cdF S l fix X) w):
  Ctr prog 231 [.pointer (some ⟨S.b,0,none⟩),.int .u32 op,.int .i64 rd,.int .i64 a,.int .i64 b] w (cdF S l fix X) (fun r9 cs=>∃l' X',l'=l++ul op rd a b∧cs=cdF S l' (fix) X'):=by
 refine bL func231 rfl ntmps231 rfl hi ?_;refine Z_4 ?_;refine ZSe (fun w hi=>host_ok op w) ?_;refine Z_3 ?_;refine ZcL (cdF S l fix X) (fun w hi hin=>gK S l fix X xC (ka op) rd a b w hin) ?_;rintro _ _ ⟨_,⟨l1,X1,hl1,rfl⟩,rfl⟩;refine p6 ?_;refine ZW ?_ ?_<;>intro hc3
 ·refine Z_2 ?_;refine bU rfl (hc3) ?_;refine Z_2 ?_;refine iF (cs':=cdF S l1 fix X1) (.inr rfl) Zu rfl ?_;exact⟨l1,X1,(by simp only[hl1,ul,uY,Bool.or_true,Bool.true_or,Bool.or_false,Bool.false_or,hc3,ac,aa,ap,aM,aP,ax]),rfl⟩
 refine Z_6 ?_;refine ZW ?_ ?_<;>intro hc4
 ·refine Z_2 ?_;refine bU rfl (hc4) ?_;refine Z_2 ?_;refine iF (cs':=cdF S l1 fix X1) (.inr rfl) Zu rfl ?_;exact⟨l1,X1,(by simp only[hl1,ul,uY,Bool.or_true,Bool.true_or,Bool.or_false,Bool.false_or,hc3,hc4,ac,aa,ap,aM,aP,ax]),rfl⟩
 refine Z_6 ?_;refine ZW ?_ ?_<;>intro hc5
 ·refine Z_2 ?_;refine bU rfl (hc5) ?_;refine Z_2 ?_;refine iF (cs':=cdF S l1 fix X1) (.inr rfl) Zu rfl ?_;exact⟨l1,X1,(by simp only[hl1,ul,uY,Bool.or_true,Bool.true_or,Bool.or_false,Bool.false_or,hc3,hc4,hc5,ac,aa,ap,aM,aP,ax]),rfl⟩
 refine Z_5 ?_;refine ZW ?_ ?_<;>intro hc6
 ·refine Z_2 ?_;refine iF (cs':=cdF S l1 fix X1) (.inr rfl) Zu rfl ?_;exact⟨l1,X1,(by simp only[hl1,ul,uY,Bool.or_true,Bool.true_or,Bool.or_false,Bool.false_or,hc3,hc4,hc5,hc6,ac,aa,ap,aM,aP,ax]),rfl⟩
 refine Z_3 ?_;refine ZcL (cdF S l1 fix X1) (fun w hi hin=>clow_ok S l1 fix X1 Ct rd w hin) ?_;rintro _ _ ⟨_,⟨l2,X2,hl2,rfl⟩,rfl⟩;refine Z_2 ?_;refine iF (cs':=cdF S l2 fix X2) (.inr rfl) Zu rfl ?_;exact⟨l2,X2,(by simp only[hl1,hl2,ul,uY,Bool.or_true,Bool.true_or,Bool.or_false,Bool.false_or,hc3,hc4,hc5,hc6,ac,aa,ap,aM,aP,ax]),rfl⟩
theorem Iw(hl:l.length≤20000)(op a b:Int)(w:World)(hi:Inv w (bK (cdF S l fix X)) (cdF S l fix X) w):
  Ctr prog 232 [.pointer (some ⟨S.b,0,none⟩),.int .u32 op,.int .i64 a,.int .i64 b] w (cdF S l fix X) (fun r9 cs=>∃l' X',l'=l++lb op a b∧cs=cdF S l' (fix) X'):=by
 have ha:=qC op 9 a b;have hs:∀x y,(gN x y).length=2:=fun _ _=>rfl
 have hb:∀x y,(sD x y).length=3:=fun _ _=>rfl
 refine bL func232 rfl ntmps232 rfl hi ?_;refine Z_6 ?_;refine ZcL (cdF S l fix X) (fun w hi hin=>Fu S l fix X (by first|omega|(simp only[hs,hb,ae,aj,ao];omega)) op 9 a b w hin) ?_;rintro _ _ ⟨_,⟨l1,X1,hl1,rfl⟩,rfl⟩;refine Z_5 ?_;refine ZcL (cdF S l1 fix X1) (fun w hi hin=>gK S l1 fix X1 (by first|omega|(simp only[hs,hb,hl1,ae,aj,ao];omega)) 13 10 9 15 w hin) ?_;rintro _ _ ⟨_,⟨l2,X2,hl2,rfl⟩,rfl⟩;refine Z_5 ?_;refine ZcL (cdF S l2 fix X2) (fun w hi hin=>uf S l2 fix X2 (by first|omega|(simp only[hs,hb,hl1,hl2,ae,aj,ao];omega)) 11 9 w hin) ?_;rintro _ _ ⟨_,⟨l3,X3,hl3,rfl⟩,rfl⟩;refine Z_5 ?_;refine ZcL (cdF S l3 fix X3) (fun w hi hin=>sr S l3 fix X3 (by first|omega|(simp only[hs,hb,hl1,hl2,hl3,ae,aj,ao];omega)) 11 1 w hin) ?_;rintro _ _ ⟨_,⟨l4,X4,hl4,rfl⟩,rfl⟩;refine Z_2 ?_;refine cW (fun q:List HI×CAd=>[(0,.pointer (some ⟨S.b,0,none⟩))]) (fun q=>cdF S q.1 fix q.2) (fun q=>q.1.length≤l.length+30∧q.1++(⟨5,11,11,12,0⟩::(gN 11 11++sD 11 3))=l++lb op a b) ?_ ?_
 ·refine gE ?_;refine ZW ?_ ?_<;>intro hc5
  ·refine Z_4 ?_;refine ZcL (cdF S l4 fix X4) (fun w hi hin=>gK S l4 fix X4 (by first|omega|(simp only[hs,hb,hl1,hl2,hl3,hl4,ae,aj,ao];omega)) 12 11 9 a w hin) ?_;rintro _ _ ⟨_,⟨l5,X5,hl5,rfl⟩,rfl⟩;refine Z_5 ?_;refine ZcL (cdF S l5 fix X5) (fun w hi hin=>sr S l5 fix X5 (by first|omega|(simp only[hs,hb,hl1,hl2,hl3,hl4,hl5,ae,aj,ao];omega)) 11 2 w hin) ?_;rintro _ _ ⟨_,⟨l6,X6,hl6,rfl⟩,rfl⟩;refine Z_6 ?_;refine ZcL (cdF S l6 fix X6) (fun w hi hin=>gK S l6 fix X6 (by first|omega|(simp only[hs,hb,hl1,hl2,hl3,hl4,hl5,hl6,ae,aj,ao];omega)) 7 11 a 9 w hin) ?_;rintro _ _ ⟨_,⟨l7,X7,hl7,rfl⟩,rfl⟩;refine Z_5 ?_;refine ZcL (cdF S l7 fix X7) (fun w hi hin=>gK S l7 fix X7 (by first|omega|(simp only[hs,hb,hl1,hl2,hl3,hl4,hl5,hl6,hl7,ae,aj,ao];omega)) 7 12 b 9 w hin) ?_;rintro _ _ ⟨_,⟨l8,X8,hl8,rfl⟩,rfl⟩;refine Z_2 ?_;refine dM (((l8,X8):List HI×CAd)) ?_ ?_ ?_
   ·exact⟨by simp only[hs,hb,hl1,hl2,hl3,hl4,hl5,hl6,hl7,hl8,ae,aj,ao];omega,by simp only[hl1,hl2,hl3,hl4,hl5,hl6,hl7,hl8,lb,fW,jT,jS,gv,ac,aa,Bool.true_or,Bool.or_true,ap,aM,aP,hc5]⟩
   ·exact Zwk
   exact Zu
  refine Z_7 ?_;refine ZW ?_ ?_<;>intro hc10
  ·refine Z_2 ?_;refine bU rfl (hc10) ?_;refine Z_5 ?_;refine ZcL (cdF S l4 fix X4) (fun w hi hin=>gK S l4 fix X4 (by first|omega|(simp only[hs,hb,hl1,hl2,hl3,hl4,ae,aj,ao];omega)) 12 11 a b w hin) ?_;rintro _ _ ⟨_,⟨l5,X5,hl5,rfl⟩,rfl⟩;refine Z_5 ?_;refine ZcL (cdF S l5 fix X5) (fun w hi hin=>sr S l5 fix X5 (by first|omega|(simp only[hs,hb,hl1,hl2,hl3,hl4,hl5,ae,aj,ao];omega)) 11 2 w hin) ?_;rintro _ _ ⟨_,⟨l6,X6,hl6,rfl⟩,rfl⟩;refine Z_7 ?_;refine ZcL (cdF S l6 fix X6) (fun w hi hin=>gK S l6 fix X6 (by first|omega|(simp only[hs,hb,hl1,hl2,hl3,hl4,hl5,hl6,ae,aj,ao];omega)) 7 11 a b w hin) ?_;rintro _ _ ⟨_,⟨l7,X7,hl7,rfl⟩,rfl⟩;refine Z_5 ?_;refine ZcL (cdF S l7 fix X7) (fun w hi hin=>gK S l7 fix X7 (by first|omega|(simp only[hs,hb,hl1,hl2,hl3,hl4,hl5,hl6,hl7,ae,aj,ao];omega)) 7 12 a 9 w hin) ?_;rintro _ _ ⟨_,⟨l8,X8,hl8,rfl⟩,rfl⟩;refine Z_2 ?_;refine dM (((l8,X8):List HI×CAd)) ?_ ?_ ?_
   ·exact⟨by simp only[hs,hb,hl1,hl2,hl3,hl4,hl5,hl6,hl7,hl8,ae,aj,ao];omega,by simp only[hl1,hl2,hl3,hl4,hl5,hl6,hl7,hl8,lb,fW,jT,jS,gv,ac,aa,Bool.true_or,Bool.or_true,ap,aM,aP,hc5,hc10]⟩
   ·exact Zwk
   exact Zu
  refine Z_5 ?_;refine ZW ?_ ?_<;>intro hc11
  ·refine Z_5 ?_;refine ZcL (cdF S l4 fix X4) (fun w hi hin=>gK S l4 fix X4 (by first|omega|(simp only[hs,hb,hl1,hl2,hl3,hl4,ae,aj,ao];omega)) 12 11 a b w hin) ?_;rintro _ _ ⟨_,⟨l5,X5,hl5,rfl⟩,rfl⟩;refine Z_5 ?_;refine ZcL (cdF S l5 fix X5) (fun w hi hin=>sr S l5 fix X5 (by first|omega|(simp only[hs,hb,hl1,hl2,hl3,hl4,hl5,ae,aj,ao];omega)) 11 2 w hin) ?_;rintro _ _ ⟨_,⟨l6,X6,hl6,rfl⟩,rfl⟩;refine Z_7 ?_;refine ZcL (cdF S l6 fix X6) (fun w hi hin=>gK S l6 fix X6 (by first|omega|(simp only[hs,hb,hl1,hl2,hl3,hl4,hl5,hl6,ae,aj,ao];omega)) 7 11 a b w hin) ?_;rintro _ _ ⟨_,⟨l7,X7,hl7,rfl⟩,rfl⟩;refine Z_5 ?_;refine ZcL (cdF S l7 fix X7) (fun w hi hin=>gK S l7 fix X7 (by first|omega|(simp only[hs,hb,hl1,hl2,hl3,hl4,hl5,hl6,hl7,ae,aj,ao];omega)) 7 12 a 9 w hin) ?_;rintro _ _ ⟨_,⟨l8,X8,hl8,rfl⟩,rfl⟩;refine Z_2 ?_;refine dM (((l8,X8):List HI×CAd)) ?_ ?_ ?_
   ·exact⟨by simp only[hs,hb,hl1,hl2,hl3,hl4,hl5,hl6,hl7,hl8,ae,aj,ao];omega,by simp only[hl1,hl2,hl3,hl4,hl5,hl6,hl7,hl8,lb,fW,jT,jS,gv,ac,aa,Bool.true_or,Bool.or_true,ap,aM,aP,hc5,hc10,hc11]⟩
   ·exact Zwk
   exact Zu
  refine Z_3 ?_;refine iF (cs':=cdF S l4 fix X4) (.inl rfl) Zu rfl ?_;exact⟨l4,X4,(by simp only[hl1,hl2,hl3,hl4,lb,fW,hc5,hc10,hc11,Bool.or_false,ac,aa,ap,aM,aP,ax]),rfl⟩
 rintro⟨m9,s9⟩ ⟨hs8,hs9⟩;dsimp only at hs8 hs9⊢;refine Z_3 ?_;refine ZcL (cdF S m9 fix s9) (fun w hi hin=>gK S m9 fix s9 (by first|omega|(simp only[hs,hb,ae,aj,ao];omega)) 5 11 11 12 w hin) ?_;rintro _ _ ⟨_,⟨l21,X21,hl21,rfl⟩,rfl⟩;refine Z_5 ?_;refine ZcL (cdF S l21 fix X21) (fun w hi hin=>uf S l21 fix X21 (by first|omega|(simp only[hs,hb,hl21,ae,aj,ao];omega)) 11 11 w hin) ?_;rintro _ _ ⟨_,⟨l22,X22,hl22,rfl⟩,rfl⟩;refine Z_4 ?_;refine ZcL (cdF S l22 fix X22) (fun w hi hin=>sr S l22 fix X22 (by first|omega|(simp only[hs,hb,hl21,hl22,ae,aj,ao];omega)) 11 3 w hin) ?_;rintro _ _ ⟨_,⟨l23,X23,hl23,rfl⟩,rfl⟩;refine Zn (iF (cs':=cdF S l23 fix X23) (.inr rfl) Zu rfl ?_);exact⟨l23,X23,(by rw[←hs9,hl23,hl22,hl21];simp only[ap,aM,aP]),rfl⟩
end
end Go.Proofs.YtakodpimdalajaaGreatDoor
namespace Go.Ink
open Go.RowKit
theorem ww(pl:Pl)(base f:Int)(n:Int):∀(c:List Int) (k:Nat),tH pl base f (c++[n]) k=tH pl base f c k++(jj pl n 7++[⟨15,0,base,dP pl n 7,IntKind.u32.wrap (f+IntKind.u32.wrap ((k+c.length:Nat):Int))⟩])
 |[],k=>by simp[tH]
 |x::c,k=>by
  have ih:=ww pl base f n c (k+1);show jj pl x 7++(_::tH pl base f (c++[n]) (k+1))=(jj pl x 7++(_::tH pl base f c (k+1)))++_;rw[ih,show k+1+c.length=k+(x::c).length by simp;omega];simp only[ap,aM]
theorem uW(pl:Pl)(base f:Int):∀(c:List Int) (k:Nat),(tH pl base f c k).length≤2*c.length
 |[],_=>aN _
 |x::c,k=>by
  have ih:=uW pl base f c (k+1);have h1:=i3 pl x 7;show(jj pl x 7++(_::tH pl base f c (k+1))).length≤2*(c.length+1);rw[ae,aj];omega
theorem GU(a b:Int)(pl:Pl)(n:Int)(x:II):(pi a b pl n x).length≤30:=by
 have h1:=i3 pl x.a 7;have h2:=i3 pl x.b 8;have h3:=qC x.imm (dP pl n 9) (dP pl x.a 7) (dP pl x.b 8);have h4:=xc x.imm (dP pl x.a 7) (dP pl x.b 8);have h5:=Eg pl n (dP pl n 9);unfold pi;rw[ae];cases x.op==0<;>cases x.op==1<;>cases x.op==2<;>cases x.op==3<;>cases x.op==4<;>simp only[ac,aa,ae,aj,ao]<;>omega
theorem yZ(c d i:Int):IntKind.u32.wrap (IntKind.i64.wrap (IntKind.i64.wrap (IntKind.i64.wrap (c+d) - 1) - IntKind.i64.wrap i))=IntKind.u32.wrap (c+d - 1 - i):=by
 rw[aE,aE,bI,bI,bI,bI];omega
end Go.Ink
namespace Go.Proofs.YtakodpimdalajaaGreatDoor
open Go.RowKit Go.Ink Go.Proofs.Tryz
attribute [local irreducible] OpY bP
section
variable (S:CdS) (l:List HI) (fix:List Int) (X:CAd)
theorem cone_ok(hl:l.length≤12000)(n:Nat)(op dst xa xb imm:Int)(hn:n<S.pl.reg.length)(hn2:n<S.pl.slot.length)(hab:(op==3)=true∨(op==4)=true→∃na nb:Nat,xa=na∧xb=nb∧(na<S.pl.reg.length∧na<S.pl.slot.length)∧(nb<S.pl.reg.length∧nb<S.pl.slot.length))(w:World)(hi:Inv w (bK (cdF S l fix X)) (cdF S l fix X) w)(hK:∀w',dC (bK (cdF S l fix X)) w w'→FR S w'):
  Ctr prog 171 [.pointer (some ⟨S.b,0,none⟩),.int .i64 n,.agg #[.int .i64 op,.int .i64 dst,.int .i64 xa,.int .i64 xb,.int .u32 imm]] w (cdF S l fix X) (fun r9 cs=>∃l' X',l'=l++pi S.p.Jn S.p.Jo S.pl n ⟨op,dst,xa,xb,imm⟩∧cs=cdF S l' (fix) X'):=by
 have gA:=i3 S.pl xa 7;have gB:=i3 S.pl xb 8;have aA:=qC imm (dP S.pl n 9) (dP S.pl xa 7) (dP S.pl xb 8);have fA:=xc imm (dP S.pl xa 7) (dP S.pl xb 8);refine bL func171 rfl ntmps171 rfl hi ?_;refine Z_2 ?_;refine ZO fun b5=>?_;refine Z_6 ?_;refine ZcL (cdF S l fix X) (fun w hi hin=>cto_ok S l fix X xC n hn w hin (fun w' hk=>hK w' (hi.J5 Zi hk))) ?_;rintro _ _ ⟨_,⟨rfl,l1,X1,hl1,rfl⟩,rfl⟩;refine Z_3 ?_;refine cW (fun q:List HI×CAd=>[(0,.pointer (some ⟨S.b,0,none⟩)),(1,.int .i64 n),(6,.int .i64 (dP S.pl n 9))]) (fun q=>cdF S q.1 fix q.2) (fun q=>q.1.length≤l.length+30∧q.1++iT S.pl n (dP S.pl n 9)=l++pi S.p.Jn S.p.Jo S.pl n ⟨op,dst,xa,xb,imm⟩) ?_ ?_
 ·refine jA ?_;refine ZW ?_ ?_<;>intro hc3
  ·refine Z_5 ?_;refine ZcL (cdF S l1 fix X1) (fun w hi hin=>kb S l1 fix X1 Ct (dP S.pl n 9) imm w hin) ?_;rintro _ _ ⟨_,⟨l2,X2,hl2,rfl⟩,rfl⟩;refine Z_2 ?_;refine dM (((l2,X2):List HI×CAd)) ?_ ?_ ?_
   ·exact⟨by simp only[hl1,hl2,ae,aj,ao];omega,by simp only[hl1,hl2,pi,ac,aa,ap,aM,aP,ax,hc3]⟩
   ·exact Zwk
   exact Zu
  refine Z_6 ?_;refine ZW ?_ ?_<;>intro hc5
  ·refine bR ⟨fun j=>List.elem j [14],qY b5 [.int .i64 op,.int .i64 dst,.int .i64 xa,.int .i64 xb,.int .u32 imm]⟩ Zk ?_;refine gn ?_;refine ZE 2 ?_;refine ZE 3 ?_;refine ZFe 4 0 ?_;refine ZFe 5 1 ?_;refine ZFe 9 4 ?_;refine iC 10 rfl Zk Zk Zk (bO Zrf (Zv rfl)) Wq2 (bQ (t:=294) Zh) rfl ?_;refine cD 11 rfl Zk Zk Zk (bW rfl rfl Zv0 rfl) rfl ?_;refine ce 6 Zk ?_;refine kg ?_;refine cD 7 rfl Zk Zk Zk (cX Zv0 Zv0 rfl) rfl ?_;refine cD 8 rfl Zk Zk Zk (dY Zv0 Zv0 rfl) rfl ?_;refine cD 12 rfl Zk Zk Zk (dY Zv0 Zv0 rfl) rfl ?_;refine cD 13 rfl Zk Zk Zk (bW rfl rfl (Zv rfl) (yZ _ _ _)) rfl ?_;refine ce 14 Zk ?_;refine iZ rfl rfl (eB (cdF S l1 fix X1) rfl (fun _ _=>rfl) Zi (fun w hi hin=>xt S l1 fix X1 Ct (dP S.pl n 9) 14 (IntKind.u32.wrap (4+S.p.Jn - 1 - imm)) w hin)) (fun _=>by rintro _ _ ⟨_,⟨l2,X2,hl2,rfl⟩,rfl⟩;exact bQ (t:=294) Zh) rfl ?_;rintro _ _ ⟨_,⟨l2,X2,hl2,rfl⟩,rfl⟩;refine dr ?_;refine Zo ?_;refine dM (((l2,X2):List HI×CAd)) ?_ ?_ ?_
   ·exact⟨by simp only[hl1,hl2,ae,aj,ao];omega,by simp only[hl1,hl2,pi,ac,aa,ap,aM,aP,ax,hc3,hc5]⟩
   ·exact Zwk
   exact Zu
  refine Z_6 ?_;refine ZW ?_ ?_<;>intro hc7
  ·refine bR ⟨fun j=>List.elem j [14],qY b5 [.int .i64 op,.int .i64 dst,.int .i64 xa,.int .i64 xb,.int .u32 imm]⟩ Zk ?_;refine gn ?_;refine ZE 2 ?_;refine ZE 3 ?_;refine ZFe 4 0 ?_;refine ZFe 5 2 ?_;refine ZFe 9 4 ?_;refine iC 10 rfl Zk Zk Zk (bO Zrf (Zv rfl)) Wq2 (bQ (t:=294) Zh) rfl ?_;refine cD 11 rfl Zk Zk Zk (bW rfl rfl Zv0 rfl) rfl ?_;refine ce 6 Zk ?_;refine kg ?_;refine cD 7 rfl Zk Zk Zk (cX Zv0 Zv0 rfl) rfl ?_;refine cD 8 rfl Zk Zk Zk (dY Zv0 Zv0 rfl) rfl ?_;refine cD 12 rfl Zk Zk Zk (dY Zv0 Zv0 rfl) rfl ?_;refine cD 13 rfl Zk Zk Zk (bW rfl rfl (Zv rfl) (yZ _ _ _)) rfl ?_;refine ce 14 Zk ?_;refine iZ rfl rfl (eB (cdF S l1 fix X1) rfl (fun _ _=>rfl) Zi (fun w hi hin=>xt S l1 fix X1 Ct (dP S.pl n 9) 13 (IntKind.u32.wrap (20+S.p.Jo - 1 - imm)) w hin)) (fun _=>by rintro _ _ ⟨_,⟨l2,X2,hl2,rfl⟩,rfl⟩;exact bQ (t:=294) Zh) rfl ?_;rintro _ _ ⟨_,⟨l2,X2,hl2,rfl⟩,rfl⟩;refine dr ?_;refine Zo ?_;refine dM (((l2,X2):List HI×CAd)) ?_ ?_ ?_
   ·exact⟨by simp only[hl1,hl2,ae,aj,ao];omega,by simp only[hl1,hl2,pi,ac,aa,ap,aM,aP,ax,hc3,hc5,hc7]⟩
   ·exact Zwk
   exact Zu
  refine Z_6 ?_;refine ZW ?_ ?_<;>intro hc9
  ·obtain⟨na,nb,rfl,rfl,⟨h1,h2⟩,h3,h4⟩:=hab (Or.inl hc9);refine Zs (bR ⟨fun j=>List.elem j [3,7],qY b5 [.int .i64 op,.int .i64 dst,.int .i64 na,.int .i64 nb,.int .u32 imm]⟩ Zk ?_);refine ZE 0 ?_;refine ZFe 1 2 ?_;refine iC 2 rfl Zk Zk Zk (bO Zrf (Zv rfl)) Wq2 (bQ (t:=294) Zh) rfl ?_;refine ZE 4 ?_;refine ZFe 5 3 ?_;refine iC 6 rfl Zk Zk Zk (bO Zrf (Zv rfl)) Wq2 (bQ (t:=294) Zh) rfl ?_;refine ce 3 Zk ?_;refine iZ rfl rfl (eB (cdF S l1 fix X1) rfl (fun _ _=>rfl) Zi (fun w hi hin=>pE S l1 fix X1 Ct na 7 h1 h2 w hin (fun w' hk=>hK w' (hi.J5 Zi hk)))) (fun _=>by rintro _ _ ⟨_,⟨rfl,l2,X2,hl2,rfl⟩,rfl⟩;exact bQ (t:=294) Zh) rfl ?_;rintro _ _ ⟨_,⟨rfl,l2,X2,hl2,rfl⟩,rfl⟩;refine ce 7 Zk ?_;refine iZ rfl rfl (eB (cdF S l2 fix X2) rfl (fun _ _=>rfl) Zi (fun w hi hin=>pE S l2 fix X2 (by first|omega|(simp only[hl1,hl2,ae,aj,ao];omega)) nb 8 h3 h4 w hin (fun w' hk=>hK w' (hi.J5 Zi hk)))) (fun _=>by rintro _ _ ⟨_,⟨rfl,l3,X3,hl3,rfl⟩,rfl⟩;exact bQ (t:=294) Zh) rfl ?_;rintro _ _ ⟨_,⟨rfl,l3,X3,hl3,rfl⟩,rfl⟩;refine ZE 8 ?_;refine ZE 9 ?_;refine dr ?_;refine Z_8 ?_;refine ZcL (cdF S l3 fix X3) (fun w hi hin=>Fu S l3 fix X3 (by first|omega|(simp only[hl1,hl2,hl3,ae,aj,ao];omega)) imm (dP S.pl n 9) (dP S.pl na 7) (dP S.pl nb 8) w hin) ?_;rintro _ _ ⟨_,⟨l4,X4,hl4,rfl⟩,rfl⟩;refine Z_2 ?_;refine dM (((l4,X4):List HI×CAd)) ?_ ?_ ?_
   ·exact⟨by simp only[hl1,hl2,hl3,hl4,ae,aj,ao];omega,by simp only[hl1,hl2,hl3,hl4,pi,ac,aa,ap,aM,aP,ax,hc3,hc5,hc7,hc9]⟩
   ·exact Zwk
   exact Zu
  refine Z_6 ?_;refine ZW ?_ ?_<;>intro hc12
  ·obtain⟨na,nb,rfl,rfl,⟨h1,h2⟩,h3,h4⟩:=hab (Or.inr hc12);refine Zs (bR ⟨fun j=>List.elem j [3,7],qY b5 [.int .i64 op,.int .i64 dst,.int .i64 na,.int .i64 nb,.int .u32 imm]⟩ Zk ?_);refine ZE 0 ?_;refine ZFe 1 2 ?_;refine iC 2 rfl Zk Zk Zk (bO Zrf (Zv rfl)) Wq2 (bQ (t:=294) Zh) rfl ?_;refine ZE 4 ?_;refine ZFe 5 3 ?_;refine iC 6 rfl Zk Zk Zk (bO Zrf (Zv rfl)) Wq2 (bQ (t:=294) Zh) rfl ?_;refine ce 3 Zk ?_;refine iZ rfl rfl (eB (cdF S l1 fix X1) rfl (fun _ _=>rfl) Zi (fun w hi hin=>pE S l1 fix X1 Ct na 7 h1 h2 w hin (fun w' hk=>hK w' (hi.J5 Zi hk)))) (fun _=>by rintro _ _ ⟨_,⟨rfl,l2,X2,hl2,rfl⟩,rfl⟩;exact bQ (t:=294) Zh) rfl ?_;rintro _ _ ⟨_,⟨rfl,l2,X2,hl2,rfl⟩,rfl⟩;refine ce 7 Zk ?_;refine iZ rfl rfl (eB (cdF S l2 fix X2) rfl (fun _ _=>rfl) Zi (fun w hi hin=>pE S l2 fix X2 (by first|omega|(simp only[hl1,hl2,ae,aj,ao];omega)) nb 8 h3 h4 w hin (fun w' hk=>hK w' (hi.J5 Zi hk)))) (fun _=>by rintro _ _ ⟨_,⟨rfl,l3,X3,hl3,rfl⟩,rfl⟩;exact bQ (t:=294) Zh) rfl ?_;rintro _ _ ⟨_,⟨rfl,l3,X3,hl3,rfl⟩,rfl⟩;refine ZE 8 ?_;refine ZE 9 ?_;refine dr ?_;refine Z_8 ?_;refine ZcL (cdF S l3 fix X3) (fun w hi hin=>Iw S l3 fix X3 (by first|omega|(simp only[hl1,hl2,hl3,ae,aj,ao];omega)) imm (dP S.pl na 7) (dP S.pl nb 8) w hin) ?_;rintro _ _ ⟨_,⟨l4,X4,hl4,rfl⟩,rfl⟩;refine Z_6 ?_;refine fb (da rfl rfl Zrf Zrf rfl rfl rfl) rfl ?_;rintro _ _ ⟨b93,rfl,rfl⟩;refine ZcL (cdF S l4 fix X4) (fun w hi hin=>jW S l4 fix X4 (by first|omega|(simp only[hl1,hl2,hl3,hl4,ae,aj,ao];omega)) [⟨2,dP S.pl n 9,10,0,0⟩] (some ⟨b93,0,none⟩) 1 cJ w hin (fun w' hk=>de (hi.JY Zi (show Has _ (slv 298 5 (some ⟨b93,0,none⟩) 1 1 ([⟨2,dP S.pl n 9,10,0,0⟩].flatMap HI.cells))from Zh) hk))) ?_;rintro _ _ ⟨_,⟨l5,X5,hl5,rfl⟩,rfl⟩;refine Z_2 ?_;refine dM (((l5,X5):List HI×CAd)) ?_ ?_ ?_
   ·exact⟨by simp only[hl1,hl2,hl3,hl4,hl5,ae,aj,ao];omega,by simp only[hl1,hl2,hl3,hl4,hl5,pi,ac,aa,ap,aM,aP,ax,hc3,hc5,hc7,hc9,hc12]⟩
   ·exact Zwk
   exact Zu
  refine Z_2 ?_;refine dM (((l1,X1):List HI×CAd)) ?_ ?_ ?_
  ·exact⟨by simp only[hl1,ae,aj,ao];omega,by simp only[hl1,pi,ac,aa,ap,aM,aP,ax,hc3,hc5,hc7,hc9,hc12]⟩
  ·exact Zwk
  exact Zu
 rintro⟨m9,s9⟩ ⟨hs8,hs9⟩;dsimp only at hs8 hs9⊢;refine Z_4 ?_;refine ZcL (cdF S m9 fix s9) (fun w hi hin=>Ir S m9 fix s9 xC n (dP S.pl n 9) hn hn2 w hin (fun w' hk=>hK w' (hi.J5 Zi hk))) ?_;rintro _ _ ⟨_,⟨l21,X21,hl21,rfl⟩,rfl⟩;refine Zn (iF (cs':=cdF S l21 fix X21) (.inr rfl) Zu rfl ?_);exact⟨l21,X21,(by rw[hl21,hs9]),rfl⟩
theorem xk(hl:l.length≤10000)(base f word:Int)(A:Option Addr)(c:Nat)(o:List Int)(ho:o.length≤1000)(hoj:∀j,j∈o→∃n:Nat,j=n∧n<S.pl.reg.length∧n<S.pl.slot.length)(w:World)(hi:Inv w (bK (cdF S l fix X)) (cdF S l fix X) w)(hK:∀w',dC (bK (cdF S l fix X)) w w'→FR S w')(hO:∀w',dC (bK (cdF S l fix X)) w w'→Rd w' .i64 A o.length c o):
  Ctr prog 172 [.pointer (some ⟨S.b,0,none⟩),.int .i64 base,.int .u32 f,.int .u32 word,.slice A o.length c] w (cdF S l fix X) (fun r9 cs=>∃l' X',l'=l++gS S.pl base f word o∧cs=cdF S l' (fix) X'):=by
 refine bL func172 rfl ntmps172 rfl hi ?_;refine Z_9 ?_;refine cw (fun q:Nat×List HI×CAd=>[(0,.pointer (some ⟨S.b,0,none⟩)),(1,.int .i64 base),(2,.int .u32 f),(3,.int .u32 word),(4,.slice A o.length c),(12,.slice A o.length c),(13,.int .i64 o.length),(14,.int .i64 (q.1:Int))]) (fun q=>cdF S q.2.1 fix q.2.2) (fun q=>q.1≤o.length∧q.2.1=l++tH S.pl base f (o.take q.1) 0) (fun q=>o.length - q.1) (⟨0,l,X⟩) ?_ ?_ ?_ ?_
 ·exact⟨au _,(ax l).symm⟩
 ·exact Zwk
 ·exact Zu
 rintro⟨k,l0,X0⟩ ⟨hk,hl0⟩;dsimp only at hk hl0⊢;have ol:=uW S.pl base f (o.take k) 0;have ll:l0.length≤l.length+2*o.length:=(by rw[hl0,ae];rw[aC]at ol;omega);refine Z_6 ?_;refine ZW ?_ ?_<;>intro hc1
 ·simp only[ak]at hc1;obtain⟨ad,had⟩:∃ad,A=some ad:=Option.ne_none_iff_exists'.1 (fun e=>by have:=((hO w (dC.refl _ _)).nil e).1;omega);obtain⟨j,hj⟩:∃j,o[k]? =some j:=⟨_,ai (show k<o.length by omega)⟩;obtain⟨n,rfl,h1,h2⟩:=hoj j (aI hj);have htk:o.take (k+1)=o.take k++[(n:Int)]:=(by rw[List.take_add_one,hj];rfl);have hO2:∀w',dC (bK (cdF S l fix X)) w w'→RdV w' 1 (some ad) o.length c (ints .i64 o):=fun w' hk=>had▸hO w' hk
  have hol:(o.take k).length=k:=(by rw[aC];omega);have gA:=i3 S.pl n 7;refine Z_7 ?_;refine Zy (eK (j:=k) had rfl Zrf (Zv rfl) (Zv rfl) Zrf Wq4) ?_;refine dL (bO Zrf Zv0) (jw (v:= .int .i64 n) hO2 (cQ hj)) rfl ?_;refine Z_9 ?_;refine Zy (bW rfl rfl Zv0 rfl) ?_;refine Zy (cX Zv0 Zv0 rfl) ?_;refine Z_2 ?_;refine ZcL (cdF S l0 fix X0) (fun w hi hin=>pE S l0 fix X0 xC n 7 h1 h2 w hin (fun w' hk=>hK w' (hi.J5 Zi hk))) ?_;rintro _ _ ⟨_,⟨rfl,l1,X1,hl1,rfl⟩,rfl⟩;refine ZcL (cdF S l1 fix X1) (fun w hi hin=>ue S l1 fix X1 Ct base (IntKind.u32.wrap (f+IntKind.u32.wrap (k:Int))) (dP S.pl n 7) w hin) ?_;rintro _ _ ⟨_,⟨l2,X2,hl2,rfl⟩,rfl⟩;refine Z_4 ?_;refine Wq8 ?_;refine dM ((⟨k+1,l2,X2⟩:Nat×List HI×CAd)) ?_ ?_ ?_
  ·exact⟨⟨by omega,by dsimp only;rw[htk,ww,hol,bl,hl2,hl1,hl0];simp only[ap]⟩,by dsimp only;omega⟩
  ·exact Zwk
  exact Zu
 simp only[ah]at hc1;obtain rfl:k=o.length:=by omega
 rw[bA]at hl0;refine dS ?_;refine Zy (bW rfl rfl Zv0 rfl) ?_;refine ZcL (cdF S l0 fix X0) (fun w hi hin=>kb S l0 fix X0 xC 11 (IntKind.u32.wrap (o.length:Int)) w hin) ?_;rintro _ _ ⟨_,⟨l11,X11,hl11,rfl⟩,rfl⟩;refine Z_6 ?_;refine ZcL (cdF S l11 fix X11) (fun w hi hin=>gK S l11 fix X11 (by first|omega|(simp only[hl11,ae,aj,ao];omega)) 3 11 11 base w hin) ?_;rintro _ _ ⟨_,⟨l12,X12,hl12,rfl⟩,rfl⟩;refine Z_5 ?_;refine ZcL (cdF S l12 fix X12) (fun w hi hin=>ue S l12 fix X12 (by first|omega|(simp only[hl11,hl12,ae,aj,ao];omega)) 15 word 11 w hin) ?_;rintro _ _ ⟨_,⟨l13,X13,hl13,rfl⟩,rfl⟩;refine Zn (iF (cs':=cdF S l13 fix X13) (.inr rfl) Zu rfl ?_);exact⟨l13,X13,(by simp only[hl11,hl12,hl13,hl0,gS,ac,aa,ap,aM,aP,ax]),rfl⟩
theorem Im(hl:l.length≤10000)(base word Jp high:Int)(o:Nat)(hb1:0≤Jp∧Jp≤100000)(hb2: -100000≤high∧high≤100000)(hb3:o≤100000)(hf:fix.length≤100)(w:World)(hi:Inv w (bK (cdF S l fix X)) (cdF S l fix X) w):
  Ctr prog 170 [.pointer (some ⟨S.b,0,none⟩),.int .i64 base,.int .u32 word,.int .i64 Jp,.int .i64 high,.int .i64 o] w (cdF S l fix X) (fun r9 cs=>r9= .bool (!decide (iO Jp high o<Jp))∧∃l' f' X',l'=l++(bif(!decide (iO Jp high o<Jp))then nh 0 base word Jp (iO Jp high o)else[])∧f'=fix++(bif(!decide (iO Jp high o<Jp))then[((l.length+3:Nat):Int),((l.length+6:Nat):Int)]else[])∧cs=cdF S l' f' X'):=by
 have hm:(if(16:Int)+Jp - o<16 - high then(16:Int)+Jp - o else 16 - high)=iO Jp high o:=rfl;obtain⟨mo,hmo⟩:=Zgn (iO Jp high o);rw[hmo]at hm⊢;refine bL func170 rfl ntmps170 rfl hi ?_;refine Z_8 ?_;refine Zy (dY Zv0 Zv0 Zl) ?_;refine ZA ?_;refine Zy (cX Zv0 Zv0 Zl) ?_;refine ZA ?_;refine Zy (dY Zv0 Zv0 Zl) ?_;refine Zy (y_min Zv0 Zv0 hm) ?_;refine fF ?_;refine ZW ?_ ?_<;>intro hc2
 ·have hok:(!decide (mo<Jp))=false:=(by rw[hc2];rfl);rw[hok];refine Z_7 ?_;refine Zrb (cdF S l fix X) ?_;exact⟨rfl,l,fix,X,(ax l).symm,(ax fix).symm,rfl⟩
 have hok:(!decide (mo<Jp))=true:=(by rw[hc2];rfl);rw[hok];refine Z_7 ?_;refine ZcL (cdF S l fix X) (fun w hi hin=>xt S l fix X xC base 15 word w hin) ?_;rintro _ _ ⟨_,⟨l1,X1,hl1,rfl⟩,rfl⟩;refine Z_6 ?_;refine Zy (bW rfl rfl Zv0 rfl) ?_;refine ZcL (cdF S l1 fix X1) (fun w hi hin=>kb S l1 fix X1 Ct 11 (IntKind.u32.wrap Jp) w hin) ?_;rintro _ _ ⟨_,⟨l2,X2,hl2,rfl⟩,rfl⟩;refine Z_6 ?_;refine ZcL (cdF S l2 fix X2) (fun w hi hin=>gK S l2 fix X2 (by first|omega|(simp only[hl1,hl2,ae,aj,ao];omega)) 12 12 base 11 w hin) ?_;rintro _ _ ⟨_,⟨l3,X3,hl3,rfl⟩,rfl⟩;refine Z_5 ?_;refine ZcL (cdF S l3 fix X3) (fun w hi hin=>ud S l3 fix X3 (by first|omega|(simp only[hl1,hl2,hl3,ae,aj,ao];omega)) 12 xC w hin) ?_;rintro _ _ ⟨_,⟨l4,X4,hl4,rfl⟩,rfl⟩;refine Z_6 ?_;refine Zy (bW rfl rfl Zv0 rfl) ?_;refine ZcL (cdF S l4 (fix++[(l3.length:Int)]) X4) (fun w hi hin=>kb S l4 (fix++[(l3.length:Int)]) X4 (by first|omega|(simp only[hl1,hl2,hl3,hl4,ae,aj,ao];omega)) 12 (IntKind.u32.wrap mo) w hin) ?_;rintro _ _ ⟨_,⟨l5,X5,hl5,rfl⟩,rfl⟩;refine Z_6 ?_;refine ZcL (cdF S l5 (fix++[(l3.length:Int)]) X5) (fun w hi hin=>gK S l5 (fix++[(l3.length:Int)]) X5 (by first|omega|(simp only[hl1,hl2,hl3,hl4,hl5,ae,aj,ao];omega)) 12 12 12 base w hin) ?_;rintro _ _ ⟨_,⟨l6,X6,hl6,rfl⟩,rfl⟩;refine Z_5 ?_;refine ZcL (cdF S l6 (fix++[(l3.length:Int)]) X6) (fun w hi hin=>ud S l6 (fix++[(l3.length:Int)]) X6 (by first|omega|(simp only[hl1,hl2,hl3,hl4,hl5,hl6,ae,aj,ao];omega)) 12 xC w hin) ?_;rintro _ _ ⟨_,⟨l7,X7,hl7,rfl⟩,rfl⟩;refine Z_7 ?_;refine ZcL (cdF S l7 ((fix++[(l3.length:Int)])++[(l6.length:Int)]) X7) (fun w hi hin=>gK S l7 ((fix++[(l3.length:Int)])++[(l6.length:Int)]) X7 (by first|omega|(simp only[hl1,hl2,hl3,hl4,hl5,hl6,hl7,ae,aj,ao];omega)) 4 base base 11 w hin) ?_;rintro _ _ ⟨_,⟨l8,X8,hl8,rfl⟩,rfl⟩;refine Z_8 ?_;refine Zrb (cdF S l8 ((fix++[(l3.length:Int)])++[(l6.length:Int)]) X8) ?_;exact⟨rfl,l8,_,X8,(by simp only[hl1,hl2,hl3,hl4,hl5,hl6,hl7,hl8,nh,ac,ap,aM,aP]),(by simp only[hl1,hl2,hl3,hl4,hl5,hl6,hl7,hl8,ac,ap,aM,aP,ae,aj,ao]),rfl⟩
end
end Go.Proofs.YtakodpimdalajaaGreatDoor
