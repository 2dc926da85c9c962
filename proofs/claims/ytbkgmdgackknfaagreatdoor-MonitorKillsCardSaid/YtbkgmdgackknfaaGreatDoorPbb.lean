/- For every input the law MonitorKills answers true and leaves every argument as it was; the table of math/bits is what the program's text lays (the card ties it); no other condition. -/
import Derived.Test.YtbkgmdgackknfaaGreatDoorPay
import Derived.JoinedOf
import Derived.Test.YtbkgmdgackknfaaGreatDoorCards
import Derived.Test.YtbkgmdgackknfaaGreatDoorTie
import Derived.SevenTiedAt
import Derived.Test.YtbkgmdgackknfaaGreatDoorPbbF
set_option linter.unusedSimpArgs false
set_option linter.unusedVariables false
set_option maxRecDepth 100000
set_option maxHeartbeats 4000000
namespace Go.Proofs.YtbkgmdgackknfaaGreatDoor
open Go.RowKit Go.Ink Go.Proofs.Tryz
attribute [local irreducible] OpY bH
theorem wX(bm:Nat)(m:Mon)(k:Nat)(hm:m.ok k)(i:Nat)(a:Ag)(ha:m.l[i]? =some a)(hd:a.dead=true)(w:World){w0:World}{S:List Nat}{cs rest:List bC}(hi:Inv w0 S cs w)(hs:eJ (dq bm m) cs rest):
  Ctr prog 25 [.p bm,.i (i:Int)] w [] (λv cs=>v= .slice none 0 0/\cs=[]):=by
 obtain⟨g,hg,rfl⟩:=Mon.get ha;have hil:=(aj.1 hg).1;have h1:(mI bm m).ok w:=hi.okS hs _ (.head _);have h2:(ptrC m).ok w:=hi.okS hs _ (.tail _ (.head _));have hi2:Inv w0 S (dq bm m++rest) w:=hi.perm hs.perm;obtain⟨r,hs2⟩:∃r,eJ (iE m.bp m.P m.gs) (dq bm m++rest) r:=⟨_,by repeat (first|exact .nil _|(apply eJ.cons;(repeat (first|exact .head _ _|apply Del.tail))))⟩;obtain⟨ad,hA⟩:=dV h2 Wq1;have HI:=sP bm m i;rw[ay (show(0:Int)<=(i:Int) by omega),ay (show(i:Int)<(m.gs.length:Int) by omega)]at HI;have hp:(m.gs.map pU)[i]? =some (pU g):=by rw[aW,hg];rfl
 have hr:RdV w 1 m.A m.gs.length m.c (m.gs.map pU):=eL h2;rw[hA]at hr;have h3:=ue hg hd hi2 hs2;refine Wq233 ?_;refine ZSe (λw hi=>vX g.H g.G w (bC.old h3 hi)) ?_;exact mF
theorem vt(A A2:Option Addr)(c c2:Nat)(l:List BoR)(its:List ItR)(wh:Int)(w:World)(h:RdV w 3 A l.length c (l.flatMap BoR.cells))(hl:∀a,a∈l->a.ok w)(h2:RdV w 4 A2 its.length c2 (its.flatMap ItR.cells))(hit:∀x,x∈its->x.ok w)(ht:fE w):
  Ctr prog 8 [.slice A l.length c,.slice A2 its.length c2,.i wh] w [] (λv cs=>v= .bool true/\cs=[]):=by
 refine Zfs func8 ntmps8 ?_;refine M7 ?_;rintro _ _ ⟨_,⟨A3,c3,L,J,⟨hI,hL1⟩,rfl,rfl⟩,rfl⟩;have hL4:=hI.n4;have hboot:=fj hL1 hL4 hI.Sj;have hg3:=gO hI.Sj;obtain⟨k,hk⟩:∃k:Nat,gx wh 0 ((L.length:Int) - 1)=k:=ap (fT wh 0 ((L.length:Int) - 1) Wq1).1;have hkr:=fT wh 0 ((L.length:Int) - 1) Wq1;rw[hk]at hkr;have HW:=λw=>hk▸fu wh 0 ((L.length:Int) - 1) w Wq7 Wq1 Wq1
 obtain⟨x0,hx0,hxa⟩:=ag_at (L:=L) (k:=k) Wq1;refine Z_8 ?_;refine oN ?_;refine ZSe (λw hi=>HW w) ?_;refine Wq168 ?_;rintro _ _ ⟨_,⟨bm,m,⟨hm,hlm⟩,rfl,rfl⟩,rfl⟩;refine fB ?_;refine Wq84 ?_;rintro _ _ ⟨_,⟨bw,u,⟨hu,hlu⟩,rfl,rfl⟩,rfl⟩;refine kX ?_;refine Z_6 ?_;refine rh ?_;have hmk:m.l[k]? =some x0.ag:=(by rw[hlm];exact hxa);obtain⟨hK,ho⟩:=EN.first (x:=⟨5,k,0,[]⟩) hmk rfl rfl rfl;have hlen:=kv (l:=m.l) (x:=⟨5,k,0,[]⟩);have hld:u.l.length=L.length:=(by rw[hlu,aV]);have HD:=λB d w hi hA ht=>fw bm m 0 hm Wq7 ⟨5,k,0,none,0,[]⟩ eM (au _) (show(-9223372036854775808:Int)<=0 by decide) B d w hi hA (λw' _=>jq w' .u8) ht
 obtain⟨⟨l2,o⟩,hr⟩:=Zgn (dB m.l ⟨5,k,0,[]⟩);rw[hr]at HD hK ho hlen;dsimp only at HD hK ho hlen;subst ho;rw[hlm,<-hlu]at hK;refine Z_3 ?_;refine jj ?_;rintro _ _ ⟨b54,rfl,rfl⟩;refine dz (dq bm m) (λw hi hin=>HD (sA b54) 1 w hin (λw' hk=>hi.Sr Zi (show Has _ (slv 35 4 (sA b54) 1 1 [.i 5,.i (k:Int),.i 0,.slice none 0 0])from Zh) hk) (λw' hk=>RdV.RT ht hi Zi hk)) ?_;rintro _ _ ⟨m2,Y,bz,cz,J2,⟨hm2,hl2,hR2⟩,rfl,rfl⟩;subst hl2;obtain⟨ad0,had,hdd⟩:=hK.dead;refine Z_7 ?_;refine Zy (j8 (Zv rfl) (Zv rfl) (show _=false from rfl)) ?_;refine Z_2 ?_;refine Zyn rfl rfl (bS (j:=0) rfl Zrf (bU rfl) (Zv rfl) Wq2 Wq2) ?_;refine Zyn rfl rfl (ce 24 rfl (bU rfl) ((dI (j:=24) rfl))) ?_;refine fN (bE rfl rfl) (bF Zrf (bU rfl)) (dh (show Has _ (ouC bz cz ⟨0,dT,0⟩ Y)from Zh) rfl) rfl (Z_5 ?_);refine gU (bE rfl rfl) rfl (dW rfl (λ_ _=>rfl) (λw hi=>wX bm m2 _ hm2 k ad0 had hdd w hi Zi)) rfl ?_;rintro _ _ ⟨_,⟨rfl,rfl⟩,rfl⟩;refine ZB ?_;refine Zyn rfl rfl (j8 (bU rfl) (Zv rfl) (show _=false from rfl)) ?_;refine ji ?_;refine Z_5 ?_;refine dN (dq bm m2++dq bw u) Zj (Z_4 ?_);refine bN (λq:Nat×Mon×Mon=>[(1,.slice A2 its.length c2),(7,.slice A3 L.length c3),(8,.i (k:Int)),(9,.p bm),(11,.p bw),(14,.i (q.1:Int))]) (λq=>dq bm q.2.1++dq bw q.2.2) (λq=>q.1<=20/\q.2.1.ok (80000+80000*q.1)/\q.2.2.ok (80000+80000*q.1)/\EN k q.2.1.l q.2.2.l/\q.2.2.l.length=L.length) (λq=>20 - q.1) ((⟨0,m2,u⟩:Nat×Mon×Mon)) ?_ ?_ ?_ ?_
 .exact⟨au _,hm2,hu.le Wq1,hK,hld⟩
 .exact Zwk
 .exact Zu
 rintro⟨i,m,u⟩ ⟨hi20,hm,hu,hK,hld⟩;dsimp only at hi20 hm hu hK hld|-;refine uw ?_ ?_<;>intro hc11
 .have hc11':i<its.length/\i<20:=(by simp only[aD,ae]at hc11;omega);obtain⟨hil,hi3⟩:=hc11';obtain⟨ad,rfl⟩:=h2.some_ Wq1;obtain⟨x,hx⟩:∃x,its[i]? =some x:=⟨_,aa hil⟩;have hxo:=hit x (ak hx);have HT:=lB x hxo.rd.cap L.length hL1 hL4;obtain⟨hy1,hy2,hy3,hy4⟩:=oZ hxo L.length;obtain⟨y,hy⟩:=Zgn (jK x L.length);rw[hy]at HT hy1 hy2 hy3 hy4;have HD:=fw bm m (80000+80000*i) hm Wq1 y hy1 hy2 hy3;have HE:=fw bw u (80000+80000*i) hu Wq1 y hy1 hy2 hy3;obtain⟨kd,gu,n,yA,yc,yb⟩:=y;dsimp only at hy1 hy2 hy3 hy4 HD HE;obtain⟨hK2,hs1,hs2⟩:=hK.step ⟨kd,gu,n,yb⟩;have hld2:=kv (l:=u.l) (x:=⟨kd,gu,n,yb⟩);have hwf:=zJ (l:=m.l) (x:=⟨kd,gu,n,yb⟩) hm.f;obtain⟨⟨l2,o1⟩,hr⟩:=Zgn (dB m.l ⟨kd,gu,n,yb⟩);obtain⟨⟨l3,o2⟩,hr2⟩:=Zgn (dB u.l ⟨kd,gu,n,yb⟩);rw[hr]at HD hK2 hs1 hs2 hwf;rw[hr2]at HE hK2 hs1 hld2;dsimp only at HD HE hK2 hs1 hs2 hwf hld2;refine Wq34 ?_;refine ZN λb15=>?_
  refine ZM ?_;refine Z_2 ?_;refine cD (λq:Mon×Mon×(Nat×Nat×VAd×List bC)×(Nat×Nat×VAd×List bC)=>[(1,.slice (some ad) its.length c2),(7,.slice A3 L.length c3),(8,.i (k:Int)),(9,.p bm),(11,.p bw),(14,.i (i:Int)),(15,.p b15),(16,.slice (sA q.2.2.1.1) 1 q.2.2.1.2.1),(17,.slice (sA q.2.2.2.1) 1 q.2.2.2.2.1)]) (λq=>ouC q.2.2.1.1 q.2.2.1.2.1 o1 q.2.2.1.2.2.1::bQ q.2.2.1.2.2.2::ouC q.2.2.2.1 q.2.2.2.2.1 o2 q.2.2.2.2.2.1::bQ q.2.2.2.2.2.2::row b15 [.i kd,.i gu,.i n,.slice yA yb.length yc] 35::(dq bm q.1++dq bw q.2.1)) (λq=>q.1.ok (80000+80000*i+80000)/\q.2.1.ok (80000+80000*i+80000)/\q.1.l=l2/\q.2.1.l=l3/\(∀w,(bQ q.2.2.1.2.2.2).ok w->xf w o1.v q.2.2.1.2.2.1)/\∀w,(bQ q.2.2.2.2.2.2).ok w->xf w o2.v q.2.2.2.2.2.1) ?_ ?_
  .refine bL ⟨λj=>List.elem j [3,7],tx b15 [.i kd,.i gu,.i n,.slice yA yb.length yc]⟩ Zk (Wq263 ?_);refine ke 2 6 Zk ?_ ?_
   .refine jT rfl rfl (gD rfl rfl Zrf Zrf rfl rfl rfl) (λ_=>by rintro _ _ ⟨b92,rfl,rfl⟩;exact bK (t:=35) Zh) rfl ?_;rintro _ _ ⟨b92,rfl,rfl⟩;refine ke 3 6 Zk ?_ ?_
    .refine Wq50 ?_;rintro _ _ ⟨_,⟨m2,Y,bz,cz,J2,⟨hm2,hl2,hR2⟩,rfl,rfl⟩,rfl⟩;refine cn 6 Zk (Wq264 ?_);rintro _ _ ⟨b96,rfl,rfl⟩;refine Wq47 ?_;rintro _ _ ⟨_,⟨u2,Y2,by2,cy2,J3,⟨hu2,hb2,hR3⟩,rfl,rfl⟩,rfl⟩;refine CT ?_;refine bJ (((m2,u2,(bz,cz,Y,J2),(by2,cy2,Y2,J3)):Mon×Mon×(Nat×Nat×VAd×List bC)×(Nat×Nat×VAd×List bC))) ?_ ?_ ?_
     .exact⟨hm2,hu2,hl2,hb2,hR2,hR3⟩
     .exact Zwk
     exact Zj
    refine Wq264 ?_;rintro _ _ ⟨b96,rfl,rfl⟩;refine cn 3 Zk (Wq50 ?_);rintro _ _ ⟨_,⟨m2,Y,bz,cz,J2,⟨hm2,hl2,hR2⟩,rfl,rfl⟩,rfl⟩;refine Wq47 ?_;rintro _ _ ⟨_,⟨u2,Y2,by2,cy2,J3,⟨hu2,hb2,hR3⟩,rfl,rfl⟩,rfl⟩;refine CT ?_;refine bJ (((m2,u2,(bz,cz,Y,J2),(by2,cy2,Y2,J3)):Mon×Mon×(Nat×Nat×VAd×List bC)×(Nat×Nat×VAd×List bC))) ?_ ?_ ?_
    .exact⟨hm2,hu2,hl2,hb2,hR2,hR3⟩
    .exact Zwk
    exact Zj
   refine Wq264 ?_;rintro _ _ ⟨b96,rfl,rfl⟩;refine cn 2 Zk (jT rfl rfl (gD rfl rfl Zrf Zrf rfl rfl rfl) (λ_=>by rintro _ _ ⟨b92,rfl,rfl⟩;exact bK (t:=35) Zh) rfl ?_);rintro _ _ ⟨b92,rfl,rfl⟩;refine cn 3 Zk (Wq50 ?_);rintro _ _ ⟨_,⟨m2,Y,bz,cz,J2,⟨hm2,hl2,hR2⟩,rfl,rfl⟩,rfl⟩;refine Wq47 ?_;rintro _ _ ⟨_,⟨u2,Y2,by2,cy2,J3,⟨hu2,hb2,hR3⟩,rfl,rfl⟩,rfl⟩;refine CT ?_;refine bJ (((m2,u2,(bz,cz,Y,J2),(by2,cy2,Y2,J3)):Mon×Mon×(Nat×Nat×VAd×List bC)×(Nat×Nat×VAd×List bC))) ?_ ?_ ?_
   .exact⟨hm2,hu2,hl2,hb2,hR2,hR3⟩
   .exact Zwk
   exact Zj
  rintro⟨m2,u2,⟨bz,cz,Y,J2⟩,⟨by2,cy2,Y2,J3⟩⟩ ⟨hm2,hu2,rfl,rfl,hR2,hR3⟩;dsimp only at hm2 hu2 hR2 hR3|-;have hld3:=hld2.trans hld;refine Z_5 ?_;refine Zy (j8 (Zv rfl) (Zv rfl) (show _=false from rfl)) ?_;refine Z_3 ?_;refine Zyn rfl rfl (j8 (bU rfl) (Zv rfl) (show _=false from rfl)) ?_;refine ji ?_;refine gK ?_;refine ZW ?_ ?_<;>intro hc17
  .obtain rfl:gu=(k:Int):=jZ hc17;have ho1:=hs2 rfl;refine Z_2 ?_;by_cases hk6:kd=6
   .subst hk6;rw[if_pos rfl]at ho1;subst ho1;refine Z_6 ?_;refine Zyy rfl rfl (bS (j:=0) rfl Zrf (bU rfl) (Zv rfl) Wq2 Wq2) ?_;refine Zyy rfl rfl (ce 1 rfl (bU rfl) ((dI (j:=1) rfl))) ?_;refine Zyy rfl rfl (ce 22 rfl (bU rfl) ((Ma (j:=23) rfl))) ?_;refine fN (bM rfl rfl) (bF Zrf (bU rfl)) (dh (show Has _ (ouC bz cz ⟨0,mN,0⟩ Y)from Zh) rfl) rfl (Z_7 ?_);refine Wq142 ?_;refine Wq142 ?_;refine fa (cu rfl rfl) rfl rfl (Zyn rfl rfl (yK (q:=false) (bU rfl) ⟨_,rfl,λ_ e=>by simp at e⟩) ?_);refine ji ?_;refine Z_8 ?_;refine Wq6 ?_;refine bJ ((⟨i+1,m2,u2⟩:Nat×Mon×Mon)) ?_ ?_ ?_
    .exact Wq299
    .exact Zwk
    exact Zj
   rw[if_neg hk6]at ho1;subst ho1;refine Z_3 ?_;refine Zy (AY (Zv rfl) (Zv rfl) (show _=false from by rw[beq_eq_false_iff_ne];exact hk6)) ?_;refine ZA ?_;refine Wq15 ?_;refine fa (bM rfl rfl) rfl rfl (fa (bM rfl rfl) rfl rfl (Zy (yK (q:=false) (Zv rfl) ⟨_,rfl,λ_ e=>by simp at e⟩) ?_));refine Z_3 ?_;refine Zyn rfl rfl (j8 (bU rfl) (Zv rfl) (show _=true from by rw[bne_iff_ne];exact hk6)) ?_;refine Z_2 ?_;refine fN (cu rfl rfl) (bS (j:=0) rfl Zrf (bU rfl) (Zv rfl) Wq2 Wq2) (λ_ _=>trivial) rfl (fN (cu rfl rfl) (ce 24 rfl (bU rfl) ((dI (j:=24) rfl))) (λ_ _=>trivial) rfl (fN (cu rfl rfl) (bF Zrf (bU rfl)) (dh (show Has _ (ouC bz cz ⟨0,dT,26⟩ Y)from Zh) rfl) rfl (Z_5 ?_)));refine iU ?_;refine Z_8 ?_;refine Wq6 ?_;refine bJ ((⟨i+1,m2,u2⟩:Nat×Mon×Mon)) ?_ ?_ ?_
   .exact Wq299
   .exact Zwk
   exact Zj
  have hne:gu≠(k:Int):=(by simpa using hc17);obtain rfl:=hs1 hne;obtain⟨on,ov,ow⟩:=o1;dsimp only at hwf hR2 hR3|-;refine Z_3 ?_;refine Wq30 ?_;refine Zy4 1 rfl (bS (j:=0) rfl Zrf (Zv rfl) (Zv rfl) Wq2 Wq2) ?_;refine Zy4 2 rfl (ce 0 rfl Zv0 ((dI (j:=0) rfl))) ?_;refine Zy5 3 rfl (bF Zrf (Zv rfl)) (dh (show Has _ (ouC bz cz ⟨on,ov,ow⟩ Y)from Zh) rfl) ?_;refine ZE 4 ?_;refine Zy4 5 rfl (bS (j:=0) rfl Zrf (Zv rfl) (Zv rfl) Wq2 Wq2) ?_;refine Zy4 6 rfl (ce 0 rfl Zv0 ((dI (j:=0) rfl))) ?_;refine Zy5 7 rfl (bF Zrf (Zv rfl)) (dh (show Has _ (ouC by2 cy2 ⟨on,ov,ow⟩ Y2)from Zh) rfl) ?_;refine Zy4 8 rfl (j8 (Zv rfl) (Zv rfl) (bj on)) ?_;refine ZE 9 ?_;refine ZF 10 ?_;refine Zy6 11 rfl (bE rfl rfl) (bS (j:=0) rfl Zrf (bU rfl) (Zv rfl) Wq2 Wq2) ?_;refine Zy6 12 rfl (bE rfl rfl) (ce 24 rfl (bU rfl) ((dI (j:=24) rfl))) ?_;refine Zy7 13 rfl (bE rfl rfl) (bF Zrf (bU rfl)) (dh (show Has _ (ouC bz cz ⟨on,ov,ow⟩ Y)from Zh) rfl) ?_;refine ZF 14 ?_;refine Zy6 15 rfl (bE rfl rfl) (bS (j:=0) rfl Zrf (bU rfl) (Zv rfl) Wq2 Wq2) ?_;refine Zy6 16 rfl (bE rfl rfl) (ce 24 rfl (bU rfl) ((dI (j:=24) rfl))) ?_;refine Zy7 17 rfl (bE rfl rfl) (bF Zrf (bU rfl)) (dh (show Has _ (ouC by2 cy2 ⟨on,ov,ow⟩ Y2)from Zh) rfl) ?_;refine Zy6 18 rfl (bE rfl rfl) (j8 (bU rfl) (bU rfl) (bj ow)) ?_;refine ZE 19 ?_;refine ZE 20 ?_;refine ZF 21 ?_;refine Zy6 22 rfl (bE rfl rfl) (bS (j:=0) rfl Zrf (bU rfl) (Zv rfl) Wq2 Wq2) ?_;refine Zy6 23 rfl (bE rfl rfl) (ce 1 rfl (bU rfl) ((dI (j:=1) rfl))) ?_;refine Zy7 24 rfl (bE rfl rfl) (bP (vs:=ov.cells Y) Zrf Zrf (bU rfl)) (i7 (show Has _ (ouC bz cz ⟨on,ov,ow⟩ Y)from Zh) (λj v hj=>by rw[Nat.add_comm];exact(aZ (aj.1 hj).1).trans hj)) ?_;refine ZF 25 ?_;refine Zy6 26 rfl (bE rfl rfl) (bS (j:=0) rfl Zrf (bU rfl) (Zv rfl) Wq2 Wq2) ?_;refine Zy6 27 rfl (bE rfl rfl) (ce 1 rfl (bU rfl) ((dI (j:=1) rfl))) ?_;refine Zy7 28 rfl (bE rfl rfl) (bP (vs:=ov.cells Y2) Zrf Zrf (bU rfl)) (i7 (show Has _ (ouC by2 cy2 ⟨on,ov,ow⟩ Y2)from Zh) (λj v hj=>by rw[Nat.add_comm];exact(aZ (aj.1 hj).1).trans hj)) ?_;refine cn 29 Zk (Wq139 ?_);rintro _ _ ⟨_,⟨⟨r,rfl,hrr⟩,rfl⟩,rfl⟩;obtain rfl:r=true:=hrr.2 rfl;refine ZF 30 ?_;refine ZE 31 ?_;refine eQ ?_;refine Zt (cJ rfl (rfl) ?_);refine gv ?_;refine bJ ((⟨i+1,m2,u2⟩:Nat×Mon×Mon)) ?_ ?_ ?_
  .exact Wq299
  .exact Zwk
  exact Zj
 obtain⟨ad1,had1,hdd1⟩:=hK.dead;have hvw:ad1.view=mN:=(by unfold Ag.view;rw[hdd1];rfl);have HV:=λ{w0:World} {S:List Nat} {cs rest:List bC} (w:World) (hi:Inv w0 S cs w) (hs:eJ (dq bm m) cs rest)=>ft bm m _ hm Wq1 k ad1 had1 w hi hs
 rw[hvw]at HV;refine Z_9 ?_;refine ZSn (λw hi=>HV w hi Zi) ?_;rintro _ _ ⟨Y4,J4,hR4,rfl,rfl⟩;refine Z_3 ?_;refine ZN λb18=>?_
 refine ZM ?_;refine Z_7 ?_;refine fJ (bM rfl rfl) Zh Zrf Zrf (Zv rfl) rfl (ZB ?_);refine gU (bM rfl rfl) rfl (dW rfl (λ_ _=>rfl) (λw hi=>mj mN mN Y4 uc Ay Ay w (hR4 w (hi.get (show Has _ (bQ J4)from Zh))) (AA w))) rfl ?_;rintro _ _ ⟨_,⟨⟨r,rfl,hrr⟩,rfl⟩,rfl⟩;obtain rfl:r=true:=hrr.2 rfl;refine Z_2 ?_;exact Wq335
open Go
theorem cX{W:World}(h:laidMetH prog Rows.monitorKillsRow.laid W):fE W:=
 fU (t:=280) (e:=5) (Si:=qe) h (MakeChecks.laidMetH_plain _ _ _ Wq4) rfl (g:=0) Wq4 Wq4 Wq4 Wq4 Wq4 rfl gq
theorem eO(os:Os)(args:Array Value):laidMetH prog Rows.monitorKillsRow.laid ((World.doorLaid prog 400 os).forCall (λ_ _=>0) ⟨#[],args,[]⟩).memory:=
 laidMetH_of_parts3 (fuel:=8) (laidMet_of_run' 8 Wq4 Wq4) Wq4 Wq4
set_option maxRecDepth 100000 in
theorem pz(os:Os)(started:os.Started)(H:Type)(enc:TypeId×Value->H):
  ReturnsInHanded {} checked os 8 .any (λw args=>(Rows.monitorKillsSpec.pre enc prog f8 [] false w args/\laidMetH prog Rows.monitorKillsRow.laid w)/\sizedMet enc prog f8 (OpenSpec.ofChange Rows.monitorKillsSpec) false w args) (Rows.monitorKillsSpec.post enc prog f8 false true false false):=
 hH (C:=checked) (ts:=[22,23,3]) Nj started Wq4 func8
  (ChangeSpec.witness_shaped (enc:=enc) (C:=checked) (os:=os) (X:=λw _=>laidMetH prog Rows.monitorKillsRow.laid w) false (World.doorLaid prog 400 os) #[.slice none 0 0,.slice none 0 0,.i 0] 8 rfl (World.shaped_of_RefB Wq4 Wq4) Wq4 Wq4 Wq4 (eO os _))
  rfl rfl rfl rfl (λds h=>by match ds,h with|[_,_,_],_=>rfl) vJ Wq4 (λW vs h hx=>by
   have ht:=cX hx;obtain⟨v0,_,rfl,a0,v1,_,rfl,a1,v2,_,rfl,a2,rfl⟩:=h;obtain⟨A,c,l,rfl,hl,hr⟩:=ju a0;obtain⟨B,cb,b,rfl,h2,hi2⟩:=gM a1;obtain⟨n2,rfl,w2⟩:=a2.int (k:= .i64) rfl;exact jl (vt A B c cb l b n2 W hl hr h2 hi2 ht))
set_option maxHeartbeats 0 in
theorem rU:Rows.MonitorKillsSaid:=
 OpenClaim.holds_of_wide 8 f8 rfl rfl rfl rfl rfl rfl rfl ⟨rfl,rfl,rfl,rfl,rfl⟩ rfl rfl rfl rfl rfl qy func8 qz rV rT
  (λos started H enc _=>pz os started H enc)
set_option maxHeartbeats 0 in
theorem monitorKills_holds:Rows.MonitorKillsCardSaid:=
 Claim7.holds_tied_plain_at .later [] [.data] true Rows.monitorKillsCard.stood.harness false
  rU (λ_ h=>by cases h) Wq4 (λ_ h=>by cases h) monitorKills_row_tie rfl ⟨rfl,rfl⟩ Wq4 rfl
  (λf fn hf hfn=>by
   obtain rfl:f=8:=ax ((show prog.funcNamed "innkeeper/innkeeperlaw26.MonitorKills" =some 8 by as_aux_lemma=>kernel_rfl).symm.trans hf)|>.symm
   obtain rfl:fn=f8:=(ax (func8.symm.trans hfn)).symm;exact⟨by as_aux_lemma=>kernel_rfl,λj t ht=>by
    have hm:t∈f8.params.toList:=by simpa using Array.mem_of_getElem? ht
    have hall:(f8.params.toList.all λu=> !prog.wantsStandIn u)=true:=by as_aux_lemma=>kernel_rfl
    exact(show prog.wantsStandIn t=false by simpa using aY.1 hall t hm)⟩)
  Wq4
#print axioms monitorKills_holds
end Go.Proofs.YtbkgmdgackknfaaGreatDoor
