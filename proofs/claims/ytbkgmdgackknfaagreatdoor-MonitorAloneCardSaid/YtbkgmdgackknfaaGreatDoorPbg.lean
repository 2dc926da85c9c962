/- For every input the law MonitorAlone answers true and leaves every argument as it was; the table of math/bits is what the program's text lays (the card ties it); no other condition. -/
import Derived.Test.YtbkgmdgackknfaaGreatDoorPay
import Derived.JoinedOf
import Derived.Test.YtbkgmdgackknfaaGreatDoorCards
import Derived.Test.YtbkgmdgackknfaaGreatDoorTie
import Derived.SevenTiedAt
import Derived.Test.YtbkgmdgackknfaaGreatDoorPbgF
set_option linter.unusedSimpArgs false
set_option linter.unusedVariables false
set_option maxRecDepth 100000
set_option maxHeartbeats 4000000
namespace Go.Proofs.YtbkgmdgackknfaaGreatDoor
open Go.RowKit Go.Ink Go.Proofs.Tryz
attribute [local irreducible] OpY bH
theorem vw(A A2:Option Addr)(c c2:Nat)(l:List BoR)(its:List ItR)(wh:Int)(tr:Bool)(w:World)(h:RdV w 3 A l.length c (l.flatMap BoR.cells))(hl:∀a,a∈l->a.ok w)(h2:RdV w 4 A2 its.length c2 (its.flatMap ItR.cells))(hit:∀x,x∈its->x.ok w)(ht:fE w):
  Ctr prog 3 [.slice A l.length c,.slice A2 its.length c2,.i wh,.bool tr] w [] (λv cs=>v= .bool true/\cs=[]):=by
 refine Zfs func3 ntmps3 ?_;refine M7 ?_;rintro _ _ ⟨_,⟨A3,c3,L,J,⟨hI,hL1⟩,rfl,rfl⟩,rfl⟩;have hL4:=hI.n4;have hboot:=fj hL1 hL4 hI.Sj;have hg3:=gO hI.Sj;obtain⟨k,hk⟩:∃k:Nat,gx wh 0 ((L.length:Int) - 1)=k:=ap (fT wh 0 ((L.length:Int) - 1) Wq1).1;have hkr:=fT wh 0 ((L.length:Int) - 1) Wq1;rw[hk]at hkr;have HW:=λw=>hk▸fu wh 0 ((L.length:Int) - 1) w Wq7 Wq1 Wq1
 obtain⟨x0,hx0,hxa⟩:=ag_at (L:=L) (k:=k) Wq1;have hx0m:=ak hx0;refine dZ (λw hi=>dO (hi.get (show Has _ (slv 33 3 A3 L.length c3 (L.flatMap Im.cells))from Zh)) Wq1) (λhq=>?_);obtain⟨bi,rfl⟩:=hq;refine Z_8 ?_;refine oN ?_;refine ZSe (λw hi=>HW w) ?_;refine Z_7 ?_;refine Wq350 ?_;rintro _ _ ⟨_,⟨bm,m,⟨hm,hlm⟩,rfl,rfl⟩,rfl⟩;refine kM ?_;refine CS ?_;refine dK (bP (vs:=x0.cells) Zrf Zrf Zv0) (lD Zh (λj v hj=>da Im.RO (i:=j) hx0 hj)) rfl (jj ?_);rintro _ _ ⟨b43,rfl,rfl⟩;refine ZSn (λw hi=>iR (L:=[x0]) (fj (aL _) (show 1<=4 by decide) (λy hy=>by rw[aB.1 hy];exact hI.Sj x0 hx0m)) (λy hy=>by rw[aB.1 hy];exact hg3 x0 hx0m) (hi.rd (show Has _ (slv 33 3 (sA b43) 1 1 x0.cells)from Zh)) (λy hy=>by rw[aB.1 hy];exact hI.rd w (λa ha=>(hl a ha).dk.RU hi) (hi.get (show Has _ (bQ J)from Zh)) x0 hx0m)) ?_;rintro _ _ ⟨ba,a,⟨ha,hla⟩,rfl,rfl⟩;refine kX ?_;refine Z_6 ?_;refine rh ?_;have hlm2:m.l.length=L.length:=(by rw[hlm,aV]);have hmk:m.l[k]? =some x0.ag:=(by rw[hlm];exact hxa);have hla:a.l=[x0.ag]:=hla;clear hlm hboot;refine dN (dq bm m++dq ba a) Zj (Z_4 ?_);refine bN (λq:Nat×Mon×Mon=>[(1,.slice A2 its.length c2),(9,.slice (sA bi) L.length c3),(10,.i (k:Int)),(11,.p bm),(13,.p ba),(15,.i (q.1:Int))]) (λq=>dq bm q.2.1++dq ba q.2.2) (λq=>q.1<=30/\q.2.1.ok (80000*q.1)/\q.2.2.ok (80000*q.1)/\q.2.1.l.length=L.length/\∃x,q.2.1.l[k]? =some x/\q.2.2.l=[x]) (λq=>30 - q.1) ((⟨0,m,a⟩:Nat×Mon×Mon)) ?_ ?_ ?_ ?_
 .exact⟨au _,hm,ha,hlm2,x0.ag,hmk,hla⟩
 .exact Zwk
 .exact Zu
 rintro⟨i,m,a⟩ ⟨hi30,hm,ha,hlm,g,hmk,hal⟩;dsimp only at hi30 hm ha hlm hmk hal|-;refine uw ?_ ?_<;>intro hc8
 .have hc8':i<its.length/\i<30:=(by simp only[aD,ae]at hc8;omega);obtain⟨hil,hi3⟩:=hc8';obtain⟨ad,rfl⟩:=h2.some_ Wq1;obtain⟨x,hx⟩:∃x,its[i]? =some x:=⟨_,aa hil⟩;have hxo:=hit x (ak hx);have HT:=lB x hxo.rd.cap L.length hL1 hL4;obtain⟨hy1,hy2,hy3,hy4⟩:=oZ hxo L.length;obtain⟨y,hy⟩:=Zgn (jK x L.length);rw[hy]at HT hy1 hy2 hy3 hy4;have HD:=fw bm m (80000*i) hm Wq1 y hy1 hy2 hy3;obtain⟨kd,gu,n,yA,yc,yb⟩:=y;dsimp only at hy1 hy2 hy3 hy4;have HE:=fw ba a (80000*i) ha Wq1 ⟨kd,0,n,yA,yc,yb⟩ hy1 hy2 hy3;dsimp only at HD HE;have hlen2:=kv (l:=m.l) (x:=⟨kd,gu,n,yb⟩);have hkp:=ud (l:=m.l) (x:=⟨kd,gu,n,yb⟩) (i:=k);have hal2:=Iz (m:=m.l) (k:=k) (a:=g) (x:=⟨kd,gu,n,yb⟩) hmk;have hwf:=zJ (l:=m.l) (x:=⟨kd,gu,n,yb⟩) hm.f;rw[hal]at HE;obtain⟨⟨l2,⟨on,ov,ow⟩⟩,hr⟩:=Zgn (dB m.l ⟨kd,gu,n,yb⟩);rw[hr]at HD hlen2 hkp hal2 hwf;dsimp only at HD hlen2 hkp hal2 hwf;refine Wq34 ?_;refine ZN λb16=>?_
  refine jh ?_;refine jj ?_;rintro _ _ ⟨b80,rfl,rfl⟩;refine dz (dq bm m) (λw hi hin=>HD (sA b80) 1 w hin (λw' hk=>hi.Sr Zi (show Has _ (slv 35 4 (sA b80) 1 1 [.i kd,.i gu,.i n,.slice yA yb.length yc])from Zh) hk) (λw' hk=>RdV.RT hy4 hi Zi hk) (λw' hk=>RdV.RT ht hi Zi hk)) ?_;rintro _ _ ⟨m2,Y,bz,cz,J2,⟨hm2,hl2,hR2⟩,rfl,rfl⟩;refine fD ?_;refine ZW ?_ ?_<;>intro hc12
  .have hne:gu≠(k:Int):=(by simpa using hc12);refine Z_6 ?_;refine Wq6 ?_;have hk2:m2.l[k]? =some g:=(by rw[hl2,hkp hne];exact hmk);refine bJ ((⟨i+1,m2,a⟩:Nat×Mon×Mon)) ?_ ?_ ?_
   .exact⟨⟨show i+1<=30 by omega,hm2.le Wq1,ha.le Wq1,by rw[hl2];exact hlen2.trans hlm,g,hk2,hal⟩,show 30 - (i+1)<30 - i by omega⟩
   .exact Zwk
   exact Zj
  obtain rfl:gu=(k:Int):=(by simpa using hc12);obtain⟨e1,e2,e3⟩:=hal2 rfl;rw[<-e1,e3]at HE;refine Z_5 ?_;refine ZL ?_;refine Z_6 ?_;refine jj ?_;rintro _ _ ⟨b89,rfl,rfl⟩;refine dz (dq ba a) (λw hi hin=>HE (sA b89) 1 w hin (λw' hk=>hi.Sr Zi (show Has _ (slv 35 4 (sA b89) 1 1 [.i kd,.i 0,.i n,.slice yA yb.length yc])from Zh) hk) (λw' hk=>RdV.RT hy4 hi Zi hk) (λw' hk=>RdV.RT ht hi Zi hk)) ?_;rintro _ _ ⟨a2,Y2,by2,cy2,J3,⟨ha2,hb2,hR3⟩,rfl,rfl⟩;refine Z_5 ?_;refine Wq281 ?_;refine ZF 5 ?_;refine Zy6 6 rfl (bE rfl rfl) (j8 (bU rfl) (Zv rfl) (show _=false from rfl)) ?_;refine ZE 7 ?_;refine ZE 8 ?_;refine ZF 9 ?_;refine Wq183 ?_;refine ZE 19 ?_;refine Wq178 ?_;refine Wq261 ?_;refine Zy7 34 rfl (bE rfl rfl) (bP (vs:=ov.cells Y) Zrf Zrf (bU rfl)) (i7 (show Has _ (ouC bz cz ⟨on,ov,ow⟩ Y)from Zh) (λj v hj=>by rw[Nat.add_comm];exact(aZ (aj.1 hj).1).trans hj)) ?_;refine Wq302 ?_;refine Zy7 38 rfl (bE rfl rfl) (bP (vs:=ov.cells Y2) Zrf Zrf (bU rfl)) (i7 (show Has _ (ouC by2 cy2 ⟨on,ov,ow⟩ Y2)from Zh) (λj v hj=>by rw[Nat.add_comm];exact(aZ (aj.1 hj).1).trans hj)) ?_;refine cn 39 Zk (Wq139 ?_);rintro _ _ ⟨_,⟨⟨r,rfl,hrr⟩,rfl⟩,rfl⟩;obtain rfl:r=true:=hrr.2 rfl;refine ZF 40 ?_;refine ZE 41 ?_;refine eQ ?_;refine Zt (cJ rfl (rfl) ?_);refine Z_4 ?_;have hk2:m2.l[k]? =some (g.one ⟨kd,k,n,yb⟩).1:=(by rw[hl2];exact e2);have hv0:a2.l[0]? =some (g.one ⟨kd,k,n,yb⟩).1:=(by rw[hb2];rfl);have hgw:=(hm2.f _ (ak hk2)).wf;refine Z_2 ?_;refine ZSn (λw hi=>ft bm m2 _ hm2 Wq1 k _ hk2 w hi Zi) ?_;rintro _ _ ⟨Y4,J4,hR4,rfl,rfl⟩;refine Z_3 ?_;refine ZN λb19=>?_
  refine jh ?_;refine ZSn (λw hi=>ft ba a2 _ ha2 Wq1 0 _ hv0 w hi Zi) ?_;rintro _ _ ⟨Y5,J5,hR5,rfl,rfl⟩;refine Z_3 ?_;refine ZN λb21=>?_
  refine Wq81 ?_;refine gU (bE rfl rfl) rfl (dW rfl (λ_ _=>rfl) (λw hi=>mj _ _ Y4 Y5 hgw hgw w (hR4 w (hi.get (show Has _ (bQ J4)from Zh))) (hR5 w (hi.get (show Has _ (bQ J5)from Zh))))) rfl ?_;rintro _ _ ⟨_,⟨⟨r,rfl,hrr⟩,rfl⟩,rfl⟩;obtain rfl:r=true:=hrr.2 rfl;refine Z_4 ?_;refine iU ?_;refine gv ?_;refine bJ ((⟨i+1,m2,a2⟩:Nat×Mon×Mon)) ?_ ?_ ?_
  .exact⟨⟨show i+1<=30 by omega,hm2.le Wq1,ha2.le Wq1,by rw[hl2];exact hlen2.trans hlm,_,hk2,hb2⟩,show 30 - (i+1)<30 - i by omega⟩
  .exact Zwk
  exact Zj
 exact Qy
open Go
theorem cX{W:World}(h:laidMetH prog Rows.monitorAloneRow.laid W):fE W:=
 fU (t:=280) (e:=5) (Si:=qe) h (MakeChecks.laidMetH_plain _ _ _ Wq4) rfl (g:=0) Wq4 Wq4 Wq4 Wq4 Wq4 rfl gq
theorem eO(os:Os)(args:Array Value):laidMetH prog Rows.monitorAloneRow.laid ((World.doorLaid prog 400 os).forCall (λ_ _=>0) ⟨#[],args,[]⟩).memory:=
 laidMetH_of_parts3 (fuel:=8) (laidMet_of_run' 8 Wq4 Wq4) Wq4 Wq4
set_option maxRecDepth 100000 in
theorem pD(os:Os)(started:os.Started)(H:Type)(enc:TypeId×Value->H):
  ReturnsInHanded {} checked os 3 .any (λw args=>(Rows.monitorAloneSpec.pre enc prog f3 [] false w args/\laidMetH prog Rows.monitorAloneRow.laid w)/\sizedMet enc prog f3 (OpenSpec.ofChange Rows.monitorAloneSpec) false w args) (Rows.monitorAloneSpec.post enc prog f3 false true false false):=
 hH (C:=checked) (ts:=[22,23,3,4]) Nj started Wq4 func3
  (ChangeSpec.witness_shaped (enc:=enc) (C:=checked) (os:=os) (X:=λw _=>laidMetH prog Rows.monitorAloneRow.laid w) false (World.doorLaid prog 400 os) #[.slice none 0 0,.slice none 0 0,.i 0,.bool false] 8 rfl (World.shaped_of_RefB Wq4 Wq4) Wq4 Wq4 Wq4 (eO os _))
  rfl rfl rfl rfl (λds h=>by match ds,h with|[_,_,_,_],_=>rfl) vJ Wq4 (λW vs h hx=>by
   have ht:=cX hx;obtain⟨v0,_,rfl,a0,v1,_,rfl,a1,v2,_,rfl,a2,v3,_,rfl,a3,rfl⟩:=h;obtain⟨A,c,l,rfl,hl,hr⟩:=ju a0;obtain⟨B,cb,b,rfl,h2,hi2⟩:=gM a1;obtain⟨n2,rfl,w2⟩:=a2.int (k:= .i64) rfl;obtain⟨e3,rfl⟩:=a3.bool rfl;exact jl (vw A B c cb l b n2 e3 W hl hr h2 hi2 ht))
set_option maxHeartbeats 0 in
theorem r7:Rows.MonitorAloneSaid:=
 OpenClaim.holds_of_wide 3 f3 rfl rfl rfl rfl rfl rfl rfl ⟨rfl,rfl,rfl,rfl,rfl⟩ rfl rfl rfl rfl rfl qF func3 qG r8 rZ
  (λos started H enc _=>pD os started H enc)
set_option maxHeartbeats 0 in
theorem monitorAlone_holds:Rows.MonitorAloneCardSaid:=
 Claim7.holds_tied_plain_at .later [] [.data] true Rows.monitorAloneCard.stood.harness false
  r7 (λ_ h=>by cases h) Wq4 (λ_ h=>by cases h) monitorAlone_row_tie rfl ⟨rfl,rfl⟩ Wq4 rfl
  (λf fn hf hfn=>by
   obtain rfl:f=3:=ax ((show prog.funcNamed "innkeeper/innkeeperlaw26.MonitorAlone" =some 3 by as_aux_lemma=>kernel_rfl).symm.trans hf)|>.symm
   obtain rfl:fn=f3:=(ax (func3.symm.trans hfn)).symm;exact⟨by as_aux_lemma=>kernel_rfl,λj t ht=>by
    have hm:t∈f3.params.toList:=by simpa using Array.mem_of_getElem? ht
    have hall:(f3.params.toList.all λu=> !prog.wantsStandIn u)=true:=by as_aux_lemma=>kernel_rfl
    exact(show prog.wantsStandIn t=false by simpa using aY.1 hall t hm)⟩)
  Wq4
#print axioms monitorAlone_holds
end Go.Proofs.YtbkgmdgackknfaaGreatDoor
