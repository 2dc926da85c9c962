/- For every input the law MonitorLooks answers true and leaves every argument as it was; the table of math/bits is what the program's text lays (the card ties it); no other condition. -/
import Derived.Test.YtbkgmdgackknfaaGreatDoorPay
import Derived.JoinedOf
import Derived.Test.YtbkgmdgackknfaaGreatDoorCards
import Derived.Test.YtbkgmdgackknfaaGreatDoorTie
import Derived.SevenTiedAt
import Derived.Test.YtbkgmdgackknfaaGreatDoorPbhF
set_option linter.unusedSimpArgs false
set_option linter.unusedVariables false
set_option maxRecDepth 100000
set_option maxHeartbeats 4000000
namespace Go.Proofs.YtbkgmdgackknfaaGreatDoor
open Go.RowKit Go.Ink Go.Proofs.Tryz
attribute [local irreducible] OpY bH
theorem vr(A A2:Option Addr)(c c2:Nat)(l:List BoR)(its:List ItR)(w:World)(h:RdV w 3 A l.length c (l.flatMap BoR.cells))(hl:∀a,a∈l->a.ok w)(h2:RdV w 4 A2 its.length c2 (its.flatMap ItR.cells))(hit:∀x,x∈its->x.ok w)(ht:fE w):
  Ctr prog 5 [.slice A l.length c,.slice A2 its.length c2] w [] (λv cs=>v= .bool true/\cs=[]):=by
 refine Zfs func5 ntmps5 ?_;refine M7 ?_;rintro _ _ ⟨_,⟨A3,c3,L,J,⟨hI,hL1⟩,rfl,rfl⟩,rfl⟩;have hL4:=hI.n4;have hboot:=fj hL1 hL4 hI.Sj;have hg3:=gO hI.Sj;refine Wq168 ?_;rintro _ _ ⟨_,⟨bm,m,⟨hm,hlm⟩,rfl,rfl⟩,rfl⟩;refine fB ?_;refine Wq84 ?_;rintro _ _ ⟨_,⟨bw,u,⟨hu,hlu⟩,rfl,rfl⟩,rfl⟩;refine kX ?_;refine Z_6 ?_;refine iU ?_;refine fB ?_;have hld:u.l.length=L.length:=(by rw[hlu,aV]);rw[<-hlu]at hlm;clear hlu hboot;refine cT 35 4 (dN (itC none 0 []::(dq bm m++dq bw u)) Zj (Z_4 ?_));refine bN (λq:Nat×Mon×List ItR×Option Addr×Nat=>[(1,.slice A2 its.length c2),(5,.slice A3 L.length c3),(6,.p bm),(8,.p bw),(10,.slice q.2.2.2.1 q.2.2.1.length q.2.2.2.2),(11,.i (q.1:Int))]) (λq=>itC q.2.2.2.1 q.2.2.2.2 q.2.2.1::(dq bm q.2.1++dq bw u)) (λq=>q.1<=15/\q.2.1.ok (80000*q.1)/\q.2.2.1.length=q.1/\q.2.1.l=DW u.l (q.2.2.1.map ItR.it)/\∀y,y∈q.2.2.1->y.may w) (λq=>15 - q.1) ((⟨0,m,[],none,0⟩:Nat×Mon×List ItR×Option Addr×Nat)) ?_ ?_ ?_ ?_
 .exact⟨au _,hm,rfl,hlm,λy hy=>by cases hy⟩
 .exact Zwk
 .exact Zu
 rintro⟨i,m,ys,A4,c4⟩ ⟨hi15,hm,hyl,hlm,hys⟩;dsimp only at hi15 hm hyl hlm hys|-;have hml:m.l.length=L.length:=(by rw[hlm,ot,hld]);refine uw ?_ ?_<;>intro hc8
 .have hc8':i<its.length/\i<15:=(by simp only[aD,ae]at hc8;omega);obtain⟨hil,hi3⟩:=hc8';obtain⟨ad,rfl⟩:=h2.some_ Wq1;obtain⟨x,hx⟩:∃x,its[i]? =some x:=⟨_,aa hil⟩;have hxo:=hit x (ak hx);have HT:=lB x hxo.rd.cap L.length hL1 hL4;have hyg:=nU hxo L.length;obtain⟨y,hy⟩:=Zgn (jK x L.length);rw[hy]at HT hyg;have HD:=fw bm m (80000*i) hm Wq1 y hyg.b hyg.l hyg.n;have hsn:=BT (l:=u.l) (xs:=ys.map ItR.it) (x:=y.it);rw[<-hlm]at hsn;rw[<-hsn]at HD;rw[show ys.map ItR.it++[y.it]=(ys++[y]).map ItR.it from(by rw[List.map_append];rfl)]at HD;have hrl:(DW u.l ((ys++[y]).map ItR.it)).length=L.length:=(by rw[ot,hld]);have hys2:=zN hys hyg;obtain⟨e1,e2⟩:=Ec (ys:=ys) (y:=y);refine Wq34 ?_;refine ZN λb12=>?_
  refine jh ?_;refine jj ?_;rintro _ _ ⟨b67,rfl,rfl⟩;refine fW (cj (e:=35) (sz:=4) (bytes:=48) rfl rfl Za rfl rfl (λw hi=>hi.rd (show Has _ (slv 35 4 (sA b67) 1 1 y.cells)from Zh)) (zT y) gq Wq1) rfl ?_;rintro _ _ ⟨A5,c5,rfl,rfl⟩;rw[e1,e2];refine Z_7 ?_;refine jj ?_;rintro _ _ ⟨b71,rfl,rfl⟩;refine dz (dq bm m) (λw hi hin=>HD (sA b71) 1 w hin (λw' hk=>hi.Sr Zi (show Has _ (slv 35 4 (sA b71) 1 1 y.cells)from Zh) hk) (λw' hk=>RdV.RT hyg.rd hi Zi hk) (λw' hk=>RdV.RT ht hi Zi hk)) ?_;rintro _ _ ⟨m2,Y,bz,cz,J2,⟨hm2,hl2, -⟩,rfl,rfl⟩;clear HD;refine Z_4 ?_;rw[<-hl2]at hrl;refine dN (itC A5 c5 (ys++[y])::(dq bm m2++dq bw u)) Zj (Z_4 ?_);refine bN (λq:Nat×Mon=>[(1,.slice (some ad) its.length c2),(5,.slice A3 L.length c3),(6,.p bm),(8,.p bw),(10,.slice A5 (ys++[y]).length c5),(11,.i (i:Int)),(13,.i (q.1:Int))]) (λq=>itC A5 c5 (ys++[y])::(dq bm q.2++dq bw u)) (λq=>q.1<=L.length/\q.2.ok (80000*i+80000)/\q.2.l=m2.l) (λq=>L.length - q.1) ((⟨0,m2⟩:Nat×Mon)) ?_ ?_ ?_ ?_
  .exact⟨au _,hm2,rfl⟩
  .exact Zwk
  .exact Zu
  rintro⟨k,m3⟩ ⟨hkL,hm3,hl3⟩;dsimp only at hkL hm3 hl3|-;refine Zw9 ?_ ?_<;>intro hc14
  .simp only[ae]at hc14;obtain⟨a,ha⟩:∃a,m3.l[k]? =some a:=⟨_,aa (show k<m3.l.length by rw[hl3];omega)⟩;have hlk:∀b:Ag,b.one ⟨6,k,0,[]⟩=(b,⟨0,b.view,0⟩):=(λb=>OL rfl);have hke:=FD (l:=m3.l) (x:=⟨6,k,0,[]⟩) (λb=>by rw[hlk]);have hoe:=ku (x:=⟨6,k,0,[]⟩) ha rfl;rw[hlk]at hoe;have hgw:=(hm3.f _ (ak ha)).wf;have HE:=λB d w hi hA ht=>fw bm m3 (80000*i+80000) hm3 Wq1 ⟨6,k,0,none,0,[]⟩ eM (au _) (show(-9223372036854775808:Int)<=0 by decide) B d w hi hA (λw' _=>jq w' .u8) ht
   rw[hke,hoe]at HE;refine Z_9 ?_;refine jj ?_;rintro _ _ ⟨b82,rfl,rfl⟩;refine dz (dq bm m3) (λw hi hin=>HE (sA b82) 1 w hin (λw' hk=>hi.Sr Zi (show Has _ (slv 35 4 (sA b82) 1 1 [.i 6,.i (k:Int),.i 0,.slice none 0 0])from Zh) hk) (λw' hk=>RdV.RT ht hi Zi hk)) ?_;rintro _ _ ⟨m4,Y3,bz3,cz3,J3,⟨hm4,hl4,hR3⟩,rfl,rfl⟩;have hm5:=hm3.Sf hm4 hl4;have ha4:m4.l[k]? =some a:=(by rw[hl4];exact ha);refine Z_7 ?_;refine ZSn (λw hi=>ft bm m4 _ hm5 Wq1 k a ha4 w hi Zi) ?_;rintro _ _ ⟨Y4,J4,hR4,rfl,rfl⟩;refine Z_3 ?_;refine ZN λb15=>?_
   refine iD ?_;refine Wq281 ?_;refine Zy6 5 rfl (bE rfl rfl) (bS (j:=0) rfl Zrf (bU rfl) (Zv rfl) Wq2 Wq2) ?_;refine Zy6 6 rfl (bE rfl rfl) (ce 24 rfl (bU rfl) ((dI (j:=24) rfl))) ?_;refine Zy7 7 rfl (bE rfl rfl) (bF Zrf (bU rfl)) (dh (show Has _ (ouC bz3 cz3 ⟨0,a.view,0⟩ Y3)from Zh) rfl) ?_;refine ZF 8 ?_;refine ZE 9 ?_;refine ZE 10 ?_;refine ZF 11 ?_;refine Zy6 12 rfl (bE rfl rfl) (bS (j:=0) rfl Zrf (bU rfl) (Zv rfl) Wq2 Wq2) ?_;refine Zy6 13 rfl (bE rfl rfl) (ce 0 rfl (bU rfl) ((dI (j:=0) rfl))) ?_;refine Zy7 14 rfl (bE rfl rfl) (bF Zrf (bU rfl)) (dh (show Has _ (ouC bz3 cz3 ⟨0,a.view,0⟩ Y3)from Zh) rfl) ?_;refine ZF 15 ?_;refine ZE 16 ?_;refine ZE 17 ?_;refine ZF 18 ?_;refine ZF 19 ?_;refine ZE 20 ?_;refine ZE 21 ?_;refine ZF 22 ?_;refine Zy6 23 rfl (bE rfl rfl) (bS (j:=0) rfl Zrf (bU rfl) (Zv rfl) Wq2 Wq2) ?_;refine Zy6 24 rfl (bE rfl rfl) (ce 1 rfl (bU rfl) ((dI (j:=1) rfl))) ?_;refine Zy7 25 rfl (bE rfl rfl) (bP (vs:=a.view.cells Y3) Zrf Zrf (bU rfl)) (i7 (show Has _ (ouC bz3 cz3 ⟨0,a.view,0⟩ Y3)from Zh) (λj v hj=>by rw[Nat.add_comm];exact(aZ (aj.1 hj).1).trans hj)) ?_;refine oY 26 rfl Zk Zk Zk Zk (bE rfl rfl) Zh Zrf Zrf (Zv rfl) rfl (cn 27 Zk (wi_tg rfl rfl (bE rfl rfl) rfl (dW rfl (λ_ _=>rfl) (λw hi=>mj a.view a.view Y3 Y4 hgw hgw w (hR3 w (hi.get (show Has _ (bQ J3)from Zh))) (hR4 w (hi.get (show Has _ (bQ J4)from Zh))))) ZJ rfl ?_));rintro _ _ ⟨_,⟨⟨r,rfl,hrr⟩,rfl⟩,rfl⟩;obtain rfl:r=true:=hrr.2 rfl;refine ZF 28 ?_;refine ZE 29 ?_;refine eQ ?_;refine Zt (cJ rfl (rfl) ?_);refine gv ?_;refine bJ ((⟨k+1,m4⟩:Nat×Mon)) ?_ ?_ ?_
   .exact⟨⟨show k+1<=L.length by omega,hm5,hl4.trans hl3⟩,show L.length - (k+1)<L.length - k by omega⟩
   .exact Zwk
   exact Zj
  simp only[ac]at hc14;refine Z_8 ?_;refine Wq6 ?_;have hl5:m3.l=DW u.l ((ys++[y]).map ItR.it):=hl3.trans hl2;have hyl2:(ys++[y]).length=i+1:=(by rw[<-e1,hyl]);refine bJ ((⟨i+1,m3,ys++[y],A5,c5⟩:Nat×Mon×List ItR×Option Addr×Nat)) ?_ ?_ ?_
  .exact⟨⟨show i+1<=15 by omega,hm3.le Wq1,hyl2,hl5,hys2⟩,show 15 - (i+1)<15 - i by omega⟩
  .exact Zwk
  exact Zj
 refine fB ?_;refine dz (dq bw u) (λw hi hin=>xR bw u 0 hu ys Wq1 A4 c4 (λy hy=>⟨(hys y hy).b,(hys y hy).l,(hys y hy).n⟩) w hin (λw' hk=>hi.Sr Zi (show Has _ (itC A4 c4 ys)from Zh) hk) (λw' hk y hy=>RdV.RT (hys y hy).rd hi Zi hk) (λw' hk=>RdV.RT ht hi Zi hk)) ?_;rintro _ _ ⟨u2,Z,A6,c6,J6,⟨hu2,hl6,hZ, -⟩,rfl,rfl⟩;have hZl:Z.length=ys.length:=(by have e:=congrArg List.length hZ;rw[aV,vq,aV]at e;exact e);rw[hZl];refine Z_3 ?_;refine Zy (j8 (Zv rfl) (Zv rfl) (bj _)) ?_;refine Z_2 ?_;refine rh ?_;rw[<-hlm]at hl6;refine dN (dq bm m++dq bw u2) Zj (Z_4 ?_);refine bN (λq:Nat=>[(5,.slice A3 L.length c3),(6,.p bm),(8,.p bw),(17,.i (q:Int))]) (λq=>dq bm m++dq bw u2) (λq=>q<=L.length) (λq=>L.length - q) (0) ?_ ?_ ?_ ?_
 .exact au _
 .exact Zwk
 .exact Zu
 rintro k hkL;refine Zw9 ?_ ?_<;>intro hc23
 .simp only[ae]at hc23;obtain⟨a,ha⟩:∃a,m.l[k]? =some a:=⟨_,aa (show k<m.l.length by omega)⟩;have ha2:u2.l[k]? =some a:=(by rw[hl6];exact ha);have hgw:=(hm.f _ (ak ha)).wf;refine Z_8 ?_;refine ZSn (λw hi=>ft bm m _ hm Wq1 k a ha w hi Zi) ?_;rintro _ _ ⟨Y4,J4,hR4,rfl,rfl⟩;refine Z_3 ?_;refine ZN λb18=>?_
  refine ZM ?_;refine Z_7 ?_;refine ZSn (λw hi=>ft bw u2 _ hu2 Wq1 k a ha2 w hi Zi) ?_;rintro _ _ ⟨Y5,J5,hR5,rfl,rfl⟩;refine Z_3 ?_;refine ZN λb20=>?_
  refine Wq293 ?_;rintro _ _ ⟨_,⟨⟨r,rfl,hrr⟩,rfl⟩,rfl⟩;obtain rfl:r=true:=hrr.2 rfl;refine Z_4 ?_;refine iU ?_;refine gv ?_;refine bJ (k+1) ?_ ?_ ?_
  .exact wH
  .exact Zwk
  exact Zj
 simp only[ac]at hc23;exact Qy
open Go
theorem cX{W:World}(h:laidMetH prog Rows.monitorLooksRow.laid W):fE W:=
 fU (t:=280) (e:=5) (Si:=qe) h (MakeChecks.laidMetH_plain _ _ _ Wq4) rfl (g:=0) Wq4 Wq4 Wq4 Wq4 Wq4 rfl gq
theorem eO(os:Os)(args:Array Value):laidMetH prog Rows.monitorLooksRow.laid ((World.doorLaid prog 400 os).forCall (λ_ _=>0) ⟨#[],args,[]⟩).memory:=
 laidMetH_of_parts3 (fuel:=8) (laidMet_of_run' 8 Wq4 Wq4) Wq4 Wq4
set_option maxRecDepth 100000 in
theorem px(os:Os)(started:os.Started)(H:Type)(enc:TypeId×Value->H):
  ReturnsInHanded {} checked os 5 .any (λw args=>(Rows.monitorLooksSpec.pre enc prog f5 [] false w args/\laidMetH prog Rows.monitorLooksRow.laid w)/\sizedMet enc prog f5 (OpenSpec.ofChange Rows.monitorLooksSpec) false w args) (Rows.monitorLooksSpec.post enc prog f5 false true false false):=
 hH (C:=checked) (ts:=[22,23]) Nj started Wq4 func5
  (ChangeSpec.witness_shaped (enc:=enc) (C:=checked) (os:=os) (X:=λw _=>laidMetH prog Rows.monitorLooksRow.laid w) false (World.doorLaid prog 400 os) #[.slice none 0 0,.slice none 0 0] 8 rfl (World.shaped_of_RefB Wq4 Wq4) Wq4 Wq4 Wq4 (eO os _))
  rfl rfl rfl rfl (λds h=>by match ds,h with|[_,_],_=>rfl) vJ Wq4 (λW vs h hx=>by
   have ht:=cX hx;obtain⟨v0,_,rfl,a0,v1,_,rfl,a1,rfl⟩:=h;obtain⟨A,c,l,rfl,hl,hr⟩:=ju a0;obtain⟨B,cb,b,rfl,h2,hi2⟩:=gM a1;exact jl (vr A B c cb l b W hl hr h2 hi2 ht))
set_option maxHeartbeats 0 in
theorem rR:Rows.MonitorLooksSaid:=
 OpenClaim.holds_of_wide 5 f5 rfl rfl rfl rfl rfl rfl rfl ⟨rfl,rfl,rfl,rfl,rfl⟩ rfl rfl rfl rfl rfl qw func5 qx rS rQ
  (λos started H enc _=>px os started H enc)
set_option maxHeartbeats 0 in
theorem monitorLooks_holds:Rows.MonitorLooksCardSaid:=
 Claim7.holds_tied_plain_at .later [] [.data] true Rows.monitorLooksCard.stood.harness false
  rR (λ_ h=>by cases h) Wq4 (λ_ h=>by cases h) monitorLooks_row_tie rfl ⟨rfl,rfl⟩ Wq4 rfl
  (λf fn hf hfn=>by
   obtain rfl:f=5:=ax ((show prog.funcNamed "innkeeper/innkeeperlaw26.MonitorLooks" =some 5 by as_aux_lemma=>kernel_rfl).symm.trans hf)|>.symm
   obtain rfl:fn=f5:=(ax (func5.symm.trans hfn)).symm;exact⟨by as_aux_lemma=>kernel_rfl,λj t ht=>by
    have hm:t∈f5.params.toList:=by simpa using Array.mem_of_getElem? ht
    have hall:(f5.params.toList.all λu=> !prog.wantsStandIn u)=true:=by as_aux_lemma=>kernel_rfl
    exact(show prog.wantsStandIn t=false by simpa using aY.1 hall t hm)⟩)
  Wq4
#print axioms monitorLooks_holds
end Go.Proofs.YtbkgmdgackknfaaGreatDoor
