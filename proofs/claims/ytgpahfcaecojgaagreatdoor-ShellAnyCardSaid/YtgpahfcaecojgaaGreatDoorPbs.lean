/- For every input the law ShellAny answers true and leaves every argument as it was; the table of math/bits is what the program's text lays (the card ties it); no other condition. -/
import Derived.Test.YtgpahfcaecojgaaGreatDoorPbg
import Derived.Test.YtgpahfcaecojgaaGreatDoorPbi
import Derived.Test.YtgpahfcaecojgaaGreatDoorPbl
import Derived.Test.YtgpahfcaecojgaaGreatDoorPbn
import Derived.JoinedOf
import Derived.Test.YtgpahfcaecojgaaGreatDoorCards
import Derived.Test.YtgpahfcaecojgaaGreatDoorTie
import Derived.SevenTiedAt
import Derived.Test.YtgpahfcaecojgaaGreatDoorPbsF
set_option linter.all false
set_option maxRecDepth 100000
set_option maxHeartbeats 4000000
namespace Go.Proofs.YtgpahfcaecojgaaGreatDoor
open Go
open Go.RowKit Go.Ink Go.Proofs.Tryz
attribute [local irreducible] OpY bN
theorem TY{I:List Si}(h:kg I=0):1<=I.length:=by
 unfold kg jB at h;rw[ax]at h;cases hc:(decide ((I.length:Int)<1)||decide ((4:Int)<(I.length:Int)))with
 |true=>rw[hc]at h;cases h
 |false=>
  rw[aS,aa]at hc;omega
theorem Fg(A0:Oa)(c0:Nat)(bl:Li)(hbl:u8s bl)(tr:Bool)(w:World)(h0:Rd w .u8 A0 bl.length c0 bl)(ht:fc w):
  CW prog 11 [.slice A0 bl.length c0,.bool tr] w (.bool true):=by
 have hcap0:=h0.cap;have h1:=iv h0 400;have hb:u8s (bl.take 400):=λx hx=>hbl x (aB hx)
 have HC:=λw=>tA A0 c0 bl 400 w hcap0
 obtain⟨b,hbe⟩:=Zgn (bl.take 400);rw[hbe]at h1 hb HC;obtain⟨hR0,hask, -⟩:=PM hb;refine Zfs func11 ntmps11 ?_;refine Z_8 ?_;refine BV ?_;refine Z_6 ?_;refine ZSn (λw hi=>kp A0 c0 b hb w (h1.Wh hi)) ?_;rintro _ _ ⟨S,hS,rfl,rfl⟩;obtain⟨A3,c3,L,J,B3,e3,T,K⟩:=S;obtain⟨hl,hT,hj,hk,hlb,htb⟩:=hS;dsimp only at hl hT hj hk hlb htb;rw[<-hl,<-hT]at hR0;rw[<-hT]at hask;obtain⟨hL4,hT5, -, -⟩:=ja hR0;rw[ax]at hL4 hT5;have hde:=BK _ _ hR0;rw[hask]at hde;have hE:=BE (I:=L.map Im.si) (T:=T.map ItR.it) (λx hx=>(by obtain⟨y,hy,rfl⟩:=aZ.1 hx;exact⟨(hlb y hy).1,(hlb y hy).2.1⟩)) (λx hx=>(by obtain⟨y,hy,rfl⟩:=aZ.1 hx;exact(htb y hy).1));have HY:=λ{w:World} h hr k kr=>lW (A:=A3) (B:=B3) (c:=c3) (e:=e3) hR0 (w:=w) h hr k kr
 have him3:∀x,x∈L->u8s x.l/\u8s x.k/\x.l.length<=4611686018427387904:=(λx hx=>⟨(hlb x hx).1,(hlb x hx).2.1,aK (hlb x hx).2.2.1 bX⟩);have hm2:=BQ (p:=500) (f:=λ_=>500) (λn=>by decide) (T:=T) (λx hx=>⟨(htb x hx).1,aK (htb x hx).2.1 bX,Int.le_trans bX (htb x hx).2.2⟩);have hr2:=λ(w:World) (h:(bP K).ok w)=>Gq (p:=500) (f:=λ_=>500) (w:=w) (hk w h)
 obtain⟨F,hF⟩:=Zgn (TX 500 (λ_=>500));have hFy:=λ(kd g n:Int) (A:Oa) (c:Nat) (b:Li) (q:500<n)=>BP (f:=λ_=>500) (kd:=kd) (g:=g) (A:=A) (c:=c) (b:=b) q
 have hFn:=λ(x:ItR) (q:¬500<x.n)=>Gr (f:=λ_=>500) q
 rw[hF]at hm2 hr2 hFy hFn;obtain⟨E,hEe⟩:=Zgn (pV (L.map Im.si) (T.map ItR.it));rw[hEe]at hde hE HY;refine ZN λb5=>?_
 refine mR ?_;refine ZSn (λw hi=>HY (hi.rd (Zhc (imC A3 c3 L))) (hj w (hi.get (Zhc (bP J)))) (hi.rd (Zhc (iU B3 e3 T))) (hk w (hi.get (Zhc (bP K))))) ?_;rintro _ _ ⟨A4,c4,rfl,rfl⟩;refine Z_9 ?_;refine uf ?_;refine Wq236 ?_;rintro _ _ ⟨_,⟨S1,hS1,rfl,rfl⟩,rfl⟩;obtain⟨A6,c6,L6,J6,B6,e6,T6,K6⟩:=S1;obtain⟨l6,t6,j6,k6, -, -⟩:=hS1;dsimp only at l6 t6 j6 k6;rw[hde]at l6 t6;dsimp only at l6 t6;refine cW 6 Zk (p6 rfl rfl (bQ rfl rfl) rfl (dh rfl (λ_ _=>rfl) (λw hi=>nD A6 B6 A3 B3 c6 e6 c3 e3 L6 L T6 T l6 t6 w (hi.rd (Zhc (imC A6 c6 L6))) (hi.rd (Zhc (imC A3 c3 L))) (j6 w (hi.get (Zhc (bP J6)))) (hj w (hi.get (Zhc (bP J)))) (hi.rd (Zhc (iU B6 e6 T6))) (hi.rd (Zhc (iU B3 e3 T))) (k6 w (hi.get (Zhc (bP K6)))) (hk w (hi.get (Zhc (bP K)))))) ZJ rfl ?_);rintro _ _ ⟨_,⟨rfl,rfl⟩,rfl⟩;refine ZF 7 ?_;refine ZE 8 ?_;refine ZE 9 ?_;refine ZFf 10 0 ?_;refine Zy7 11 rfl (bQ rfl rfl) (bM Zrf (cA rfl)) (cB Zh rfl) ?_;refine ZF 12 ?_;refine Zy6 13 rfl (bQ rfl rfl) (LU (cA rfl) (Zv rfl) (show _=false from aF (show¬(4:Int)<(L.length:Int) by omega))) ?_;refine ZE 14 ?_;refine ZE 15 ?_;refine ZFf 16 1 ?_;refine Zy7 17 rfl (bQ rfl rfl) (bM Zrf (cA rfl)) (cB Zh rfl) ?_;refine ZF 18 ?_;refine Zy6 19 rfl (bQ rfl rfl) (LU (cA rfl) (Zv rfl) (show _=false from aF (show¬(512:Int)<(T.length:Int) by omega))) ?_;refine ZE 20 ?_;refine dR ?_;refine Zt (cy rfl (rfl) ?_);refine Z_5 ?_;rw[show iU B3 e3 T=itM B3 e3 T.length (mix F T 0)from rfl];refine eY [row b5 [.slice A3 L.length c3,.slice B3 T.length e3] 27,imC A3 c3 L,bP J,itM B3 e3 T.length (mix F T 0),bP K] Zj (Z_4 ?_);refine wLo (λj:Nat=>[(1,.bool tr),(5,.p b5),(8,.i (j:Int))]) (λj=>[row b5 [.slice A3 L.length c3,.slice B3 T.length e3] 27,imC A3 c3 L,bP J,itM B3 e3 T.length (mix F T j),bP K]) (λj=>j<=T.length) (λj=>T.length - j) (0) (ap _) ?_;rintro j hj0;refine mZ ?_ ?_<;>intro hc7
 .simp only[ac]at hc7;have hjl:j<T.length:=Wq1;refine lp (λw hi=>dV (hi.get (Zhc (itM B3 e3 T.length (mix F T j)))) Wq1) (λhq=>?_);obtain⟨bz,rfl⟩:=hq;obtain⟨x,hx⟩:∃x,T[j]? =some x:=⟨_,ae hjl⟩;have hmx:=Bf (F:=F) hx;have hms:=Bc (F:=F) hx;have hmn:=λq=>Be (F:=F) hx (hFn x q)
  obtain⟨kd,g,n,xA,xc,xb⟩:=x;have hFx:=hFy kd g n xA xc xb;refine Wq112 ?_;refine ZW ?_ ?_<;>intro hc9
  .simp only[ac]at hc9;have hF1:=hFx hc9;refine Z_4 ?_;refine Zy (cw (j:=j) (sz:=4) (r:=j*4) rfl Zrf (Zv rfl) (Zv rfl) Wq2 Wq2 Wq1) ?_;refine Z_1 ?_;refine eT (uv Zrf rfl rfl rfl Za Wq1) ?_;rintro _ _ ⟨rfl,rfl⟩;rw[uM ItR.V8 (y:=⟨kd,g,500,xA,xc,xb⟩) hmx (show 2<4 by decide) rfl,<-hF1,hms];refine lI ?_;refine qMP (j+1) ⟨by omega,by omega⟩
  simp only[aa]at hc9;rw[hmn hc9];refine lI ?_;refine qMP (j+1) ⟨by omega,by omega⟩
 simp only[aa]at hc7;obtain rfl:j=T.length:=Wq1;have hma:=FO (F:=F) (T:=T) (aL _);have hml:(T.map F).length=T.length:=ax ..;rw[hma];obtain⟨T2,hT2⟩:=Zgn (T.map F);rw[hT2]at hm2 hr2 hml|-;rw[<-hml];have ht5:(T2.map ItR.it).take 512=T2.map ItR.it:=aM GA;refine Z_9 ?_;refine ZSn (λw hi=>sS tr A3 c3 L B3 e3 T2 him3 hm2 w (hi.rd (Zhc (imC A3 c3 L))) (hj w (hi.get (Zhc (bP J)))) (hi.rd (Zhc (iU B3 e3 T2))) (hr2 w (hi.get (Zhc (bP K)))) (ht.old hi)) ?_;rintro _ _ ⟨R1,hR1,rfl,rfl⟩;rw[ht5]at hR1;have hw1:=hR1.why;have hzl:=hR1.zlen;have hvl:=hR1.vlen;obtain⟨A5,c5,Z5,J5,B5,e5,V5,K5,w5⟩:=R1;dsimp only at hw1 hzl hvl;refine ZN λb9=>?_
 refine sF ?_;refine ZW ?_ ?_<;>intro hc12
 .have hno:kg (L.map Im.si)≠0:=(by rw[<-hw1];exact bne_iff_ne.1 hc12);exact Wq497
 have hyes:kg (L.map Im.si)=0:=(by rw[<-hw1];simpa using hc12);have hzl2:Z5.length=T2.length:=(by rw[hzl,AJ hyes,ax]);have hvl2:V5.length=L.length:=(by rw[hvl,uy hyes,ax]);have hpos:=TY hyes;rw[ax]at hpos;refine fH ?_;refine Zy (jn (Zv rfl) (Zv rfl) (show _=true from by rw[hzl2];exact beq_self_eq_true _)) ?_;refine Z_7 ?_;refine Zyy rfl rfl (jn (cA rfl) (cA rfl) (show _=true from by rw[hvl2];exact beq_self_eq_true _)) ?_;refine Z_5 ?_;refine Zyy rfl rfl (LU (cA rfl) (Zv rfl) (show _=true from aE (show(0:Int)<(V5.length:Int) by omega))) ?_;exact Wq432
theorem dm{W:World}(h:laidMetH prog Rows.shellAnyRow.laid W):fc W:=
 fV (t:=318) (e:=5) (WE:=qf) h (MakeChecks.laidMetH_plain _ _ _ Wq4) rfl (g:=0) Wq4 Wq4 Wq4 Wq4 Wq4 rfl Wq9
theorem eP(os:Os)(args:Array Value):laidMetH prog Rows.shellAnyRow.laid ((World.doorLaid prog 400 os).forCall (λ_ _=>0) ⟨#[],args,[]⟩).memory:=
 laidMetH_of_parts3 (fuel:=8) (laidMet_of_run' 8 Wq4 Wq4) Wq4 Wq4
set_option maxRecDepth 100000 in
theorem vI(os:Os)(started:os.Started)(H:Type)(enc:TypeId×Value->H):
  ReturnsInHanded {} checked os 11 .any (λw args=>(Rows.shellAnySpec.pre enc prog f11 [] false w args/\laidMetH prog Rows.shellAnyRow.laid w)/\sizedMet enc prog f11 (OpenSpec.ofChange Rows.shellAnySpec) false w args) (Rows.shellAnySpec.post enc prog f11 false true false false):=
 hH (C:=checked) (ts:=[22,4]) QL started Wq4 func11
  (ChangeSpec.witness_shaped (enc:=enc) (C:=checked) (os:=os) (X:=λw _=>laidMetH prog Rows.shellAnyRow.laid w) false (World.doorLaid prog 400 os) #[.slice none 0 0,.bool false] 8 rfl (World.shaped_of_RefB Wq4 Wq4) Wq4 Wq4 Wq4 (eP os _))
  rfl rfl rfl rfl (λds h=>by match ds,h with|[_,_],_=>rfl) wm Wq4 (λW vs h hx=>by
   have ht:=dm hx;obtain⟨v0,_,rfl,a0,v1,_,rfl,a1,rfl⟩:=h;obtain⟨A0,c0,bl,rfl,h0,hb0⟩:=r7 a0;obtain⟨e1,rfl⟩:=a1.bool rfl;exact jk (Fg A0 c0 bl hb0 e1 W h0 ht))
set_option maxHeartbeats 0 in
theorem Au:Rows.ShellAnySaid:=
 OpenClaim.holds_of_wide 11 f11 rfl rfl rfl rfl rfl rfl rfl ⟨rfl,rfl,rfl,rfl,rfl⟩ rfl rfl rfl rfl rfl xX func11 xY Aw Aq
  (λos started H enc _=>vI os started H enc)
set_option maxHeartbeats 0 in
theorem shellAny_holds:Rows.ShellAnyCardSaid:=
 Claim7.holds_tied_plain_at .later [] [.data] true Rows.shellAnyCard.stood.harness false
  Au (λ_ h=>by cases h) Wq4 (λ_ h=>by cases h) shellAny_row_tie rfl ⟨rfl,rfl⟩ Wq4 rfl
  (λf fn hf hfn=>by
   obtain rfl:f=11:=ay ((show prog.funcNamed "innkeeper/innkeeperlaw28.ShellAny" =some 11 by as_aux_lemma=>kernel_rfl).symm.trans hf)|>.symm
   obtain rfl:fn=f11:=(ay (func11.symm.trans hfn)).symm;exact⟨by as_aux_lemma=>kernel_rfl,λj t ht=>by
    have hm:t∈f11.params.toList:=by simpa using Array.mem_of_getElem? ht
    have hall:(f11.params.toList.all λu=> !prog.wantsStandIn u)=true:=by as_aux_lemma=>kernel_rfl
    exact(show prog.wantsStandIn t=false by simpa using aQ.1 hall t hm)⟩)
  Wq4
#print axioms shellAny_holds
end Go.Proofs.YtgpahfcaecojgaaGreatDoor
