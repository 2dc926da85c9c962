/- For every input the law ShellBack answers true and leaves every argument as it was; the table of math/bits is what the program's text lays (the card ties it); no other condition. -/
import Derived.Test.YtgpahfcaecojgaaGreatDoorPbg
import Derived.Test.YtgpahfcaecojgaaGreatDoorPbl
import Derived.Test.YtgpahfcaecojgaaGreatDoorPbm
import Derived.Test.YtgpahfcaecojgaaGreatDoorPbn
import Derived.JoinedOf
import Derived.Test.YtgpahfcaecojgaaGreatDoorCards
import Derived.Test.YtgpahfcaecojgaaGreatDoorTie
import Derived.SevenTiedAt
import Derived.Test.YtgpahfcaecojgaaGreatDoorPbqF
set_option linter.all false
set_option maxRecDepth 100000
set_option maxHeartbeats 4000000
namespace Go.Proofs.YtgpahfcaecojgaaGreatDoor
open Go
open Go.RowKit Go.Ink Go.Proofs.Tryz
attribute [local irreducible] OpY bN
theorem Fl{I:List Si}{T:List It}(h:fC I T=0):fC I []=0:=by
 obtain⟨h1, -,h3, -⟩:=ja h;exact qr h1 (ap _) h3 rfl
theorem OV(I:List Si)(T:List It):(pV I []).length<=(pV I T).length:=by
 show(I.flatMap o3++[]).length+1<=(I.flatMap o3++T.flatMap kN).length+1;rw[aj,aj,List.length_nil];omega
theorem Jh(T:List ItR):(T.map mP).map ItR.it=(T.map ItR.it).map It.ask:=by
 rw[List.map_map,List.map_map]
 rfl
theorem rdvNils(w:World)(sz:Nat):RdV w sz none 0 0 []:=⟨by simp,aL _,by decide,λ_=>⟨rfl,rfl⟩,λ_ h=>by cases h⟩
theorem CN(A B:Oa)(c e:Nat)(l:List Bo4)(its:List ItR)(at_:Int)(w:World)(h:RdV w 4 A l.length c (l.flatMap Bo4.cells))(hl:∀y,y∈l->y.x.ok w)(h2:RdV w 4 B its.length e (its.flatMap ItR.cells))(hit:∀x,x∈its->x.okN w)(ht:fc w):
  CW prog 9 [.slice A l.length c,.slice B its.length e,.i at_] w (.bool true):=by
 have hT:=qI (λx hx=>(hit x hx).o);have hTl:=wv its;have hTr:=λx hx=>(hT x hx).1.rd
 have hTb:∀x,x∈(iT its).map mP->Rd w .u8 x.A x.b.length x.c x.b:=λx hx=>by
  obtain⟨y,hy,rfl⟩:=aZ.1 hx;exact askR_rd (hTr y hy)
 have hTn:=OB hT;obtain⟨T,hTe⟩:=Zgn (iT its);have HS:=mw A c l B e its;rw[hTe]at hT hTl hTr hTb hTn HS;refine Zfs func9 ntmps9 ?_;refine Wq284 ?_;rintro _ _ ⟨_,⟨A3,c3,L,J,B3,e3,hI,rfl,rfl⟩,rfl⟩;refine ZN λb7=>?_
 refine jj ?_;refine ZSe (λw hi=>yM A3 B3 c3 e3 L T w (hi.rd (Zhc (imC A3 c3 L))) (hi.rd (Zhc (iU B3 e3 T)))) ?_;refine Zw3 ?_ ?_<;>intro hc2
 .refine Z_2 ?_;refine ZSe (λw hi=>lU w (ht.old hi)) ?_;exact xy
 have hR:fC (L.map Im.si) (T.map ItR.it)=0:=(by simpa using hc2);have hR0:fC (L.map Im.si) (([]:List ItR).map ItR.it)=0:=Fl hR;have hE:=BE (F5 hI) hTn;have hde:=BK (L.map Im.si) (T.map ItR.it) hR;have hcut:=λj=>TI (L.map Im.si) (T.map ItR.it) j hR
 have hhl:=OV (L.map Im.si) (T.map ItR.it);obtain⟨hE1,hE2⟩:=IX hR;have HY:=λ{w:World} h hr k kr=>lW (A:=A3) (B:=B3) (c:=c3) (e:=e3) hR (w:=w) h hr k kr
 have HZ:=λ{w:World} h hr k kr=>lW (A:=A3) (B:=none) (c:=c3) (e:=0) hR0 (w:=w) h hr k kr
 obtain⟨E,hEe⟩:=Zgn (pV (L.map Im.si) (T.map ItR.it));obtain⟨H,hHe⟩:=Zgn (pV (L.map Im.si) (([]:List ItR).map ItR.it));rw[hEe]at hE hde hcut hhl hE1 hE2 HY;rw[show pV (L.map Im.si) []=H from hHe]at hhl hcut;rw[hHe]at HZ;refine Z_5 ?_;refine ZSn (λw hi=>HY (hi.rd (Zhc (imC A3 c3 L))) (hI.rd w (λa ha=>(hl a ha).dk.Wh hi) (hi.get (Zhc (bP J)))) (hi.rd (Zhc (iU B3 e3 T))) (λx hx=>(hTr x hx).Wh hi)) ?_;rintro _ _ ⟨A4,c4,rfl,rfl⟩;refine fH ?_;refine ZSn (λw hi=>Le A3 B3 c3 e3 L.length T Wq1 w (hi.rd (Zhc (iU B3 e3 T)))) ?_;rintro _ _ ⟨B5,e5,rfl,rfl⟩;refine ZN λb10=>?_
 refine jC ?_;refine uf ?_;refine Wq236 ?_;rintro _ _ ⟨_,⟨S1,hS1,rfl,rfl⟩,rfl⟩;obtain⟨A6,c6,L6,J6,B6,e6,T6,K6⟩:=S1;obtain⟨l6,t6,j6,k6, -, -⟩:=hS1;dsimp only at l6 t6 j6 k6;rw[hde]at l6 t6;dsimp only at l6 t6;refine cW 6 Zk (p6 rfl rfl (bQ rfl rfl) rfl (dh rfl (λ_ _=>rfl) (λw hi=>nD A6 B6 A3 B5 c6 e6 c3 e5 L6 L T6 (T.map mP) l6 (t6.trans (Jh T).symm) w (hi.rd (Zhc (imC A6 c6 L6))) (hi.rd (Zhc (imC A3 c3 L))) (j6 w (hi.get (Zhc (bP J6)))) (hI.rd w (λa ha=>(hl a ha).dk.Wh hi) (hi.get (Zhc (bP J)))) (hi.rd (Zhc (iU B6 e6 T6))) (hi.rd (Zhc (iU B5 e5 (T.map mP)))) (k6 w (hi.get (Zhc (bP K6)))) (λx hx=>(hTb x hx).Wh hi))) ZJ rfl ?_);rintro _ _ ⟨_,⟨rfl,rfl⟩,rfl⟩;refine ZF 7 ?_;refine ZE 8 ?_;refine dR ?_;refine Zt (cy rfl (rfl) ?_);refine Z_7 ?_;refine ZSn (λw hi=>HZ (hi.rd (Zhc (imC A3 c3 L))) (hI.rd w (λa ha=>(hl a ha).dk.Wh hi) (hi.get (Zhc (bP J)))) (rdvNils w 4) (λx hx=>jT)) ?_;rintro _ _ ⟨A7,c7,rfl,rfl⟩;refine ue ?_;refine Zyn rfl rfl (LU (cA rfl) (cA rfl) (show _=false from aF Wq1)) ?_;refine iX ?_;refine Z_4 ?_;refine dU (λw hi=>(hi.rd (Zhc (u8C A4 c4 E))).cap) (λhcap4=>?_);have HW:=λw=>eU at_ (H.length:Int) (E.length:Int) w Wq1 Wq1 Wq1
 have hrg:=fU at_ (H.length:Int) (E.length:Int) Wq1;obtain⟨j,hj⟩:∃j:Nat,dF at_ (H.length:Int) (E.length:Int)=j:=ao Wq1;rw[hj]at HW hrg;obtain⟨n,hn,hdn⟩:=hcut j Wq1;rw[ax]at hn;have hjl:(E.take j).length=j:=ri;have hEj:u8s (E.take j):=(λx hx=>hE x (aB hx));refine Z_6 ?_;refine ZSe (λw hi=>HW w) ?_;refine Qo ?_;rw[<-hjl];refine ZSn (λw hi=>kp A4 c4 (E.take j) hEj w (iv (hi.rd (Zhc (u8C A4 c4 E))) j)) ?_;rintro _ _ ⟨S2,hS2,rfl,rfl⟩;obtain⟨A8,c8,L8,J8,B8,e8,T8,K8⟩:=S2;obtain⟨l8,t8,j8,k8, -, -⟩:=hS2;dsimp only at l8 t8 j8 k8;rw[hdn]at l8 t8;dsimp only at l8 t8;have hT8:T8.length=((T.map mP).take n).length:=(by have q:=congrArg List.length t8;rw[ax,aD,ax,ax]at q;rw[aD,ax];exact q);have hT9:((T.map mP).take n).length<=(T.map mP).length:=ri;have hT10:(T.map mP).length<=20:=(by rw[ax];exact hTl);refine ZN λb13=>?_
 refine jj ?_;refine dU (λw hi=>(hi.rd (Zhc (iU B5 e5 (T.map mP)))).cap) (λhcap5=>?_);rw[hT8];refine Z_5 ?_;refine bU (Zdn []) Zk (Ln ?_);refine ZE 3 ?_;refine Zy4 4 rfl (LR (Zv rfl) (Zv rfl) (show _=true from aE Wq1)) ?_;refine ZE 5 ?_;refine i7 6 rfl Zk Zk Zk Zk (bS rfl rfl) Zh Zrf Zrf (Zv rfl) rfl (ZFf 7 0 ?_);refine Zy7 8 rfl (bS rfl rfl) (bM Zrf (cA rfl)) (cB Zh rfl) ?_;refine ZFf 9 1 ?_;refine Zy7 10 rfl (bS rfl rfl) (bM Zrf (cA rfl)) (cB Zh rfl) ?_;refine ZF 11 ?_;refine Zy6 12 rfl (bS rfl rfl) (eC _ rfl Zrf (cA rfl) (cA rfl) pe Wq2) ?_;refine ZF 13 ?_;refine cW 14 Zk (p6 rfl rfl (bS rfl rfl) rfl (dh rfl (λ_ _=>rfl) (λw hi=>nD A8 B8 A3 B5 c8 e8 c3 e5 L8 L T8 ((T.map mP).take n) l8 (t8.trans (by rw[List.map_take,Jh])) w (hi.rd (Zhc (imC A8 c8 L8))) (hi.rd (Zhc (imC A3 c3 L))) (j8 w (hi.get (Zhc (bP J8)))) (hI.rd w (λa ha=>(hl a ha).dk.Wh hi) (hi.get (Zhc (bP J)))) (hi.rd (Zhc (iU B8 e8 T8))) (AM ItR.V8 (hi.rd (Zhc (iU B5 e5 (T.map mP)))) n) (k8 w (hi.get (Zhc (bP K8)))) (λx hx=>(hTb x (aB hx)).Wh hi))) ZJ rfl ?_);rintro _ _ ⟨_,⟨rfl,rfl⟩,rfl⟩;refine ZE 15 ?_;refine ZE 16 ?_;refine cW 17 Zk (UZ ?_);rintro _ _ ⟨_,⟨rfl,rfl⟩,rfl⟩;refine ZE 18 ?_;refine ZE 19 ?_;refine jU ?_;exact ru
theorem dm{W:World}(h:laidMetH prog Rows.shellBackRow.laid W):fc W:=
 fV (t:=318) (e:=5) (WE:=qf) h (MakeChecks.laidMetH_plain _ _ _ Wq4) rfl (g:=0) Wq4 Wq4 Wq4 Wq4 Wq4 rfl Wq9
theorem eP(os:Os)(args:Array Value):laidMetH prog Rows.shellBackRow.laid ((World.doorLaid prog 400 os).forCall (λ_ _=>0) ⟨#[],args,[]⟩).memory:=
 laidMetH_of_parts3 (fuel:=8) (laidMet_of_run' 8 Wq4 Wq4) Wq4 Wq4
set_option maxRecDepth 100000 in
theorem tS(os:Os)(started:os.Started)(H:Type)(enc:TypeId×Value->H):
  ReturnsInHanded {} checked os 9 .any (λw args=>(Rows.shellBackSpec.pre enc prog f9 [] false w args/\laidMetH prog Rows.shellBackRow.laid w)/\sizedMet enc prog f9 (OpenSpec.ofChange Rows.shellBackSpec) false w args) (Rows.shellBackSpec.post enc prog f9 false true false false):=
 hH (C:=checked) (ts:=[23,24,3]) QL started Wq4 func9
  (ChangeSpec.witness_shaped (enc:=enc) (C:=checked) (os:=os) (X:=λw _=>laidMetH prog Rows.shellBackRow.laid w) false (World.doorLaid prog 400 os) #[.slice none 0 0,.slice none 0 0,.i 0] 8 rfl (World.shaped_of_RefB Wq4 Wq4) Wq4 Wq4 Wq4 (eP os _))
  rfl rfl rfl rfl (λds h=>by match ds,h with|[_,_,_],_=>rfl) wm Wq4 (λW vs h hx=>by
   have ht:=dm hx;obtain⟨v0,_,rfl,a0,v1,_,rfl,a1,v2,_,rfl,a2,rfl⟩:=h;obtain⟨A,c,l,rfl,hl,hr⟩:=jv a0;obtain⟨B,cb,b,rfl,h2,hi2⟩:=ix a1;obtain⟨n2,rfl,w2⟩:=a2.int (k:= .i64) rfl;exact jk (CN A B c cb l b n2 W hl hr h2 hi2 ht))
set_option maxHeartbeats 0 in
theorem xV:Rows.ShellBackSaid:=
 OpenClaim.holds_of_wide 9 f9 rfl rfl rfl rfl rfl rfl rfl ⟨rfl,rfl,rfl,rfl,rfl⟩ rfl rfl rfl rfl rfl vG func9 vH xW xU
  (λos started H enc _=>tS os started H enc)
set_option maxHeartbeats 0 in
theorem shellBack_holds:Rows.ShellBackCardSaid:=
 Claim7.holds_tied_plain_at .later [] [.data] true Rows.shellBackCard.stood.harness false
  xV (λ_ h=>by cases h) Wq4 (λ_ h=>by cases h) shellBack_row_tie rfl ⟨rfl,rfl⟩ Wq4 rfl
  (λf fn hf hfn=>by
   obtain rfl:f=9:=ay ((show prog.funcNamed "innkeeper/innkeeperlaw28.ShellBack" =some 9 by as_aux_lemma=>kernel_rfl).symm.trans hf)|>.symm
   obtain rfl:fn=f9:=(ay (func9.symm.trans hfn)).symm;exact⟨by as_aux_lemma=>kernel_rfl,λj t ht=>by
    have hm:t∈f9.params.toList:=by simpa using Array.mem_of_getElem? ht
    have hall:(f9.params.toList.all λu=> !prog.wantsStandIn u)=true:=by as_aux_lemma=>kernel_rfl
    exact(show prog.wantsStandIn t=false by simpa using aQ.1 hall t hm)⟩)
  Wq4
#print axioms shellBack_holds
end Go.Proofs.YtgpahfcaecojgaaGreatDoor
