/- For every input the law MonitorOrders answers true and leaves every argument as it was; the table of math/bits is what the program's text lays (the card ties it); no other condition. -/
import Derived.Test.YtbkgmdgackknfaaGreatDoorPay
import Derived.JoinedOf
import Derived.Test.YtbkgmdgackknfaaGreatDoorCards
import Derived.Test.YtbkgmdgackknfaaGreatDoorTie
import Derived.SevenTiedAt
import Derived.Test.YtbkgmdgackknfaaGreatDoorPbcF
set_option linter.unusedSimpArgs false
set_option linter.unusedVariables false
set_option maxRecDepth 100000
set_option maxHeartbeats 4000000
namespace Go.Proofs.YtbkgmdgackknfaaGreatDoor
open Go.RowKit Go.Ink Go.Proofs.Tryz
attribute [local irreducible] OpY bH
theorem FQ(ys:List ItR):∀u∈ys.flatMap ItR.cells,u.oneCell'=true:=λu hu=>by
 obtain⟨y, -,hy⟩:=List.mem_flatMap.1 hu;exact zT y u hy
abbrev yW(ys:List ItR)(i:Nat):List It:=(ys.take i).map ItR.it
theorem yV{ys:List ItR}{i:Nat}{y:ItR}(h:ys[i]? =some y):yW ys (i+1)=yW ys i++[y.it]:=by
 unfold yW;rw[List.take_add_one,h];simp
theorem qh{ys:List ItR}{i:Nat}(h:ys.length<=i):yW ys i=ys.map ItR.it:=by
 unfold yW;rw[List.take_of_length_le h]
theorem rx{ys:List ItR}{i:Nat}(h:ys.length<=i):yW ys (i+1)=yW ys i:=by rw[qh h,qh Wq1]
theorem tz(A A2 A3:Option Addr)(c c2 c3:Nat)(l:List BoR)(is1 is2:List ItR)(tr:Bool)(w:World)(h:RdV w 3 A l.length c (l.flatMap BoR.cells))(hl:∀a,a∈l->a.ok w)(h2:RdV w 4 A2 is1.length c2 (is1.flatMap ItR.cells))(hi1:∀x,x∈is1->x.ok w)(h3:RdV w 4 A3 is2.length c3 (is2.flatMap ItR.cells))(hi2:∀x,x∈is2->x.ok w)(ht:fE w):
  Ctr prog 4 [.slice A l.length c,.slice A2 is1.length c2,.slice A3 is2.length c3,.bool tr] w [] (λv cs=>v= .bool true/\cs=[]):=by
 refine Zfs func4 ntmps4 ?_;refine M7 ?_;rintro _ _ ⟨_,⟨Ai,ci,L,J,⟨hI,hL1⟩,rfl,rfl⟩,rfl⟩;have hL4:=hI.n4;have hboot:=fj hL1 hL4 hI.Sj;have hg3:=gO hI.Sj;refine gK ?_;refine ZW ?_ ?_<;>intro hc2
 .refine Z_2 ?_;refine ZSe (λw hi=>oB w (ht.old hi)) ?_;refine Z_5 ?_;exact pM
 refine Z_6 ?_;refine ZSn (λw hi=>iR hboot hg3 (hi.rd (show Has _ (slv 33 3 Ai L.length ci (L.flatMap Im.cells))from Zh)) (hI.rd w (λa ha=>(hl a ha).dk.RU hi) (hi.get Zh))) ?_;rintro _ _ ⟨bm,m,⟨hm,hlm⟩,rfl,rfl⟩;refine gK ?_;refine ZSn (λw hi=>iR hboot hg3 (hi.rd (show Has _ (slv 33 3 Ai L.length ci (L.flatMap Im.cells))from Zh)) (hI.rd w (λa ha=>(hl a ha).dk.RU hi) (hi.get (show Has _ (bQ J)from Zh)))) ?_;rintro _ _ ⟨bw,u,⟨hu,hlu⟩,rfl,rfl⟩;refine kX ?_;refine Z_6 ?_;refine iU ?_;refine gK ?_;have hld:u.l.length=L.length:=(by rw[hlu,aV]);rw[<-hlu]at hlm;clear hlu hboot;refine cT 35 4 (dN (itC none 0 []::(dq bm m++dq bw u)) Zj (Z_4 ?_));refine bN (λq:Nat×List ItR×Option Addr×Nat=>[(1,.slice A2 is1.length c2),(2,.slice A3 is2.length c3),(9,.slice Ai L.length ci),(10,.p bm),(12,.p bw),(14,.slice q.2.2.1 q.2.1.length q.2.2.2),(15,.slice none 0 0),(16,.i (q.1:Int))]) (λq=>itC q.2.2.1 q.2.2.2 q.2.1::(dq bm m++dq bw u)) (λq=>q.1<=10/\q.2.1.length=q.1/\(∀y,y∈q.2.1->y.may w)/\∀y,y∈q.2.1->y.RP=0) (λq=>10 - q.1) ((⟨0,[],none,0⟩:Nat×List ItR×Option Addr×Nat)) ?_ ?_ ?_ ?_
 .exact⟨au _,rfl,λy hy=>(by cases hy),λy hy=>(by cases hy)⟩
 .exact Zwk
 .exact Zu
 rintro⟨i,xs,A4,c4⟩ ⟨hi10,hxl,hxm,hx0⟩;dsimp only at hi10 hxl hxm hx0|-;refine uw ?_ ?_<;>intro hc10
 .have hc10':i<is1.length/\i<10:=(by simp only[aD,ae]at hc10;omega);obtain⟨hil,hi3⟩:=hc10';obtain⟨ad,rfl⟩:=h2.some_ Wq1;obtain⟨x,hx⟩:∃x,is1[i]? =some x:=⟨_,aa hil⟩;have hxo:=hi1 x (ak hx);have HT:=lB x hxo.rd.cap L.length hL1 hL4;have hyg:=nU hxo L.length;obtain⟨y,hy⟩:=Zgn (jK x L.length);rw[hy]at HT hyg;obtain⟨kd,gu,n,yA,yc,yb⟩:=y;have hyg:(⟨kd,0,n,yA,yc,yb⟩:ItR).may w:=⟨hyg.b,hyg.l,hyg.n,hyg.rd⟩;obtain⟨e1,e2⟩:=Ec (ys:=xs) (y:=⟨kd,0,n,yA,yc,yb⟩);have hxm2:=zN hxm hyg;refine Wq34 ?_;refine ZN λb17=>?_
  refine mC ?_;refine ZL ?_;refine Z_5 ?_;refine jj ?_;rintro _ _ ⟨b78,rfl,rfl⟩;refine fW (cj (e:=35) (sz:=4) (bytes:=48) rfl rfl Za rfl rfl (λw hi=>hi.rd (show Has _ (slv 35 4 (sA b78) 1 1 (ItR.cells ⟨kd,0,n,yA,yc,yb⟩))from Zh)) (zT ⟨kd,0,n,yA,yc,yb⟩) gq Wq1) rfl ?_;rintro _ _ ⟨A5,c5,rfl,rfl⟩;rw[e1,e2];refine Z_6 ?_;refine Wq6 ?_;refine bJ ((⟨i+1,xs++[(⟨kd,0,n,yA,yc,yb⟩:ItR)],A5,c5⟩:Nat×List ItR×Option Addr×Nat)) ?_ ?_ ?_
  .exact⟨⟨show i+1<=10 by omega,e1.symm.trans (by rw[hxl]),hxm2,λy hy=>by rcases aF.1 hy with q|q;exact hx0 y q;rw[aB.1 q]⟩,show 10 - (i+1)<10 - i by omega⟩
  .exact Zwk
  exact Zj
 clear hc10;rw[<-hxl]at hi10;refine IP ?_;refine Zt (Zs (Zs (Zr (cT 35 4 ?_))));refine dN (itC none 0 []::itC A4 c4 xs::(dq bm m++dq bw u)) Zj (ZA ?_);refine Zn (Zt (Zx ?_));refine bN (λq:Nat×List ItR×Option Addr×Nat=>[(2,.slice A3 is2.length c3),(9,.slice Ai L.length ci),(10,.p bm),(12,.p bw),(14,.slice A4 xs.length c4),(15,.slice q.2.2.1 q.2.1.length q.2.2.2),(18,.i (q.1:Int))]) (λq=>itC q.2.2.1 q.2.2.2 q.2.1::itC A4 c4 xs::(dq bm m++dq bw u)) (λq=>q.1<=10/\q.2.1.length=q.1/\(∀y,y∈q.2.1->y.may w)/\∀y,y∈q.2.1->y.RP=1) (λq=>10 - q.1) ((⟨0,[],none,0⟩:Nat×List ItR×Option Addr×Nat)) ?_ ?_ ?_ ?_
 .exact⟨au _,rfl,λy hy=>(by cases hy),λy hy=>(by cases hy)⟩
 .exact Zwk
 .exact Zu
 rintro⟨j,ys,A6,c6⟩ ⟨hj10,hyl,hym,hy1⟩;dsimp only at hj10 hyl hym hy1|-;refine uw ?_ ?_<;>intro hc16
 .have hc16':j<is2.length/\j<10:=(by simp only[aD,ae]at hc16;omega);obtain⟨hil,hi3⟩:=hc16';obtain⟨ad,rfl⟩:=h3.some_ Wq1;obtain⟨x,hx⟩:∃x,is2[j]? =some x:=⟨_,aa hil⟩;have hxo:=hi2 x (ak hx);have HT:=lB x hxo.rd.cap L.length hL1 hL4;have hyg:=nU hxo L.length;obtain⟨y,hy⟩:=Zgn (jK x L.length);rw[hy]at HT hyg;obtain⟨kd,gu,n,yA,yc,yb⟩:=y;have hyg:(⟨kd,1,n,yA,yc,yb⟩:ItR).may w:=⟨hyg.b,hyg.l,hyg.n,hyg.rd⟩;obtain⟨e1,e2⟩:=Ec (ys:=ys) (y:=⟨kd,1,n,yA,yc,yb⟩);have hym2:=zN hym hyg;refine Z_8 ?_;refine Zy (bS (j:=j) rfl Zrf (Zv rfl) (Zv rfl) Wq2 Wq2) ?_;refine dK (bP (vs:=x.cells) Zrf Zrf Zv0) (dY h3 (λj v hj=>da ItR.RO (i:=j) hx hj)) rfl (Z_2 ?_);refine ZSe (λw hi=>HT w) ?_;refine ZN λb19=>?_
  refine mC ?_;refine ZL ?_;refine Z_5 ?_;refine jj ?_;rintro _ _ ⟨b100,rfl,rfl⟩;refine fW (cj (e:=35) (sz:=4) (bytes:=48) rfl rfl Za rfl rfl (λw hi=>hi.rd (show Has _ (slv 35 4 (sA b100) 1 1 (ItR.cells ⟨kd,1,n,yA,yc,yb⟩))from Zh)) (zT ⟨kd,1,n,yA,yc,yb⟩) gq Wq1) rfl ?_;rintro _ _ ⟨A5,c5,rfl,rfl⟩;rw[e1,e2];refine Z_6 ?_;refine Wq6 ?_;refine bJ ((⟨j+1,ys++[(⟨kd,1,n,yA,yc,yb⟩:ItR)],A5,c5⟩:Nat×List ItR×Option Addr×Nat)) ?_ ?_ ?_
  .exact⟨⟨show j+1<=10 by omega,e1.symm.trans (by rw[hyl]),hym2,λy hy=>by rcases aF.1 hy with q|q;exact hy1 y q;rw[aB.1 q]⟩,show 10 - (j+1)<10 - j by omega⟩
  .exact Zwk
  exact Zj
 clear hc16;rw[<-hyl]at hj10;refine IP ?_;refine Zt (Zs (Zr (ZA ?_)));refine jj ?_;rintro _ _ ⟨b103,rfl,rfl⟩;refine ZA ?_;refine fW (cj (e:=35) (sz:=4) (bytes:=48) rfl rfl Za rfl rfl (λw hi=>hi.rd (show Has _ (itC A4 c4 xs)from Zh)) (FQ xs) gq Wq1) rfl ?_;rintro _ _ ⟨A7,c7,rfl,rfl⟩;rw[Nat.zero_add,List.flatMap_nil,aP];refine ZA ?_;refine fW (cj (e:=35) (sz:=4) (bytes:=48) rfl rfl Za rfl rfl (λw hi=>hi.rd (show Has _ (itC A6 c6 ys)from Zh)) (FQ ys) gq Wq1) rfl ?_;rintro _ _ ⟨A8,c8,rfl,rfl⟩;rw[<-aq,<-List.flatMap_append];refine dz (dq bm m) (λw hi hin=>xR bm m 0 hm (xs++ys) (by rw[aq];omega) A8 c8 (λy hy=>by have hq:=(aF.1 hy).elim (hxm y) (hym y);exact⟨hq.b,hq.l,hq.n⟩) w hin (λw' hk=>hi.Sr Zi (show Has _ (itC A8 c8 (xs++ys))from Zh) hk) (λw' hk y hy=>RdV.RT ((aF.1 hy).elim (hxm y) (hym y)).rd hi Zi hk) (λw' hk=>RdV.RT ht hi Zi hk)) ?_;rintro _ _ ⟨m2,Z,Az,cz,Jz,⟨hm2,hl2, -, -⟩,rfl,rfl⟩;rw[List.map_append]at hl2;have hO:C0 m.l m2.l (xs.map ItR.it) (ys.map ItR.it):=(by rw[hl2];exact C0.all (λz hz=>by obtain⟨y,hy,rfl⟩:=bn.1 hz;exact hx0 y hy) (λz hz=>by obtain⟨y,hy,rfl⟩:=bn.1 hz;exact hy1 y hy));have hxy:(xs++ys).length<=20:=(by rw[aq];omega);refine Zn (Zt (Zs (Zs (Zr ?_))));rw[hlm]at hO;have hm2l:m2.l.length=L.length:=(by rw[hl2,ot,hlm];exact hld);refine dN (itC A4 c4 xs::itC A6 c6 ys::(dq bm m2++dq bw u)) Zj (ZA ?_);refine Zn (Zt (Zx ?_));refine bN (λq:Nat×Mon=>[(9,.slice Ai L.length ci),(10,.p bm),(12,.p bw),(14,.slice A4 xs.length c4),(15,.slice A6 ys.length c6),(20,.i (q.1:Int))]) (λq=>itC A4 c4 xs::itC A6 c6 ys::(dq bm m2++dq bw q.2)) (λq=>q.1<=10/\q.2.ok (160000*q.1)/\C0 u.l q.2.l (yW xs q.1) (yW ys q.1)) (λq=>10 - q.1) ((⟨0,u⟩:Nat×Mon)) ?_ ?_ ?_ ?_
 .exact⟨au _,hu,C0.nil⟩
 .exact Zwk
 .exact Zu
 rintro⟨i,v⟩ ⟨hi2,hv,hOr⟩;dsimp only at hi2 hv hOr|-;refine sx ?_;refine ZW ?_ ?_<;>intro hc23
 .have hc23':i<xs.length\/i<ys.length:=(by simpa using hc23);refine uw ?_ ?_<;>intro hc25
  .simp only[ae]at hc25;have hc25:i<ys.length:=Wq1;refine mU (λw hi=>dO (hi.get (show Has _ (itC A6 c6 ys)from Zh)) Wq1) (λhq=>?_);obtain⟨by_,rfl⟩:=hq;obtain⟨y,hy⟩:∃y,ys[i]? =some y:=⟨_,aa hc25⟩;have hyg:=hym y (ak hy);have hg1:=hy1 y (ak hy);have HD:=fw bw v (160000*i) hv Wq1 y hyg.b hyg.l hyg.n;have hOr:=hOr.addy (y:=y.it) hg1;rw[<-yV hy]at hOr;refine Z_4 ?_;refine wJ ?_;refine dK (bP (vs:=y.cells) Zrf Zrf Zv0) (lD Zh (λj v hj=>da ItR.RO (i:=j) hy hj)) rfl (jj ?_);rintro _ _ ⟨b130,rfl,rfl⟩;refine dz (dq bw v) (λw hi hin=>HD (sA b130) 1 w hin (λw' hk=>hi.Sr Zi (show Has _ (slv 35 4 (sA b130) 1 1 y.cells)from Zh) hk) (λw' hk=>RdV.RT hyg.rd hi Zi hk) (λw' hk=>RdV.RT ht hi Zi hk)) ?_;rintro _ _ ⟨v2,Y3,bz3,cz3,J3,⟨hv2,hl3, -⟩,rfl,rfl⟩;rw[<-hl3]at hOr;clear HD hv hg1 hyg;obtain⟨v,rfl⟩:∃v',v2=v':=⟨_,rfl⟩;have hv:=hv2;refine pV ?_ ?_<;>intro hc27
   .simp only[ae]at hc27;have hc27:i<xs.length:=Wq1;refine mU (λw hi=>dO (hi.get (show Has _ (itC A4 c4 xs)from Zh)) Wq1) (λhq=>?_);obtain⟨bx_,rfl⟩:=hq;obtain⟨x,hx⟩:∃x,xs[i]? =some x:=⟨_,aa hc27⟩;have hxg:=hxm x (ak hx);have hg0:=hx0 x (ak hx);have HE:=fw bw _ (160000*i+80000) hv Wq1 x hxg.b hxg.l hxg.n;have hOr:=hOr.addx (x:=x.it) hg0;rw[<-yV hx]at hOr;refine Z_4 ?_;refine wJ ?_;refine dK (bP (vs:=x.cells) Zrf Zrf Zv0) (lD Zh (λj v hj=>da ItR.RO (i:=j) hx hj)) rfl (jj ?_);rintro _ _ ⟨b141,rfl,rfl⟩;refine Wq280 ?_;rintro _ _ ⟨_,⟨v5,Y5,bz5,cz5,J5,⟨hv5,hl5, -⟩,rfl,rfl⟩,rfl⟩;rw[<-hl5]at hOr;refine gv ?_;refine bJ ((⟨i+1,v5⟩:Nat×Mon)) ?_ ?_ ?_
    .exact⟨⟨show i+1<=10 by omega,hv5.le Wq1,hOr⟩,show 10 - (i+1)<10 - i by omega⟩
    .exact Zwk
    exact Zj
   simp only[ac]at hc27;rw[<-rx (show xs.length<=i by omega)]at hOr;have hv:=hv.le (show 160000*i+80000<=160000*(i+1) by omega);refine gv ?_;refine bJ ((⟨i+1,v2⟩:Nat×Mon)) ?_ ?_ ?_
   .exact⟨⟨show i+1<=10 by omega,hv,hOr⟩,show 10 - (i+1)<10 - i by omega⟩
   .exact Zwk
   exact Zj
  simp only[ac]at hc25;rw[<-rx (show ys.length<=i by omega)]at hOr;have hv:=hv.le (show 160000*i<=160000*i+80000 by omega);refine pV ?_ ?_<;>intro hc27
  .simp only[ae]at hc27;have hc27:i<xs.length:=Wq1;refine mU (λw hi=>dO (hi.get (show Has _ (itC A4 c4 xs)from Zh)) Wq1) (λhq=>?_);obtain⟨bx_,rfl⟩:=hq;obtain⟨x,hx⟩:∃x,xs[i]? =some x:=⟨_,aa hc27⟩;have hxg:=hxm x (ak hx);have hg0:=hx0 x (ak hx);have HE:=fw bw _ (160000*i+80000) hv Wq1 x hxg.b hxg.l hxg.n;have hOr:=hOr.addx (x:=x.it) hg0;rw[<-yV hx]at hOr;refine Z_4 ?_;refine wJ ?_;refine dK (bP (vs:=x.cells) Zrf Zrf Zv0) (lD Zh (λj v hj=>da ItR.RO (i:=j) hx hj)) rfl (jj ?_);rintro _ _ ⟨b141,rfl,rfl⟩;refine Wq280 ?_;rintro _ _ ⟨_,⟨v5,Y5,bz5,cz5,J5,⟨hv5,hl5, -⟩,rfl,rfl⟩,rfl⟩;rw[<-hl5]at hOr;refine gv ?_;refine bJ ((⟨i+1,v5⟩:Nat×Mon)) ?_ ?_ ?_
   .exact⟨⟨show i+1<=10 by omega,hv5.le Wq1,hOr⟩,show 10 - (i+1)<10 - i by omega⟩
   .exact Zwk
   exact Zj
  simp only[ac]at hc27;rw[<-rx (show xs.length<=i by omega)]at hOr;have hv:=hv.le (show 160000*i+80000<=160000*(i+1) by omega);refine gv ?_;refine bJ ((⟨i+1,v⟩:Nat×Mon)) ?_ ?_ ?_
  .exact⟨⟨show i+1<=10 by omega,hv,hOr⟩,show 10 - (i+1)<10 - i by omega⟩
  .exact Zwk
  exact Zj
 have hc23':xs.length<=i/\ys.length<=i:=(by simpa using hc23);rw[qh hc23'.1,qh hc23'.2]at hOr;have hme:=hO.eq hOr;refine Z_8 ?_;refine dN (dq bm m2++dq bw v) Zj (Z_4 ?_);refine bN (λq:Nat=>[(9,.slice Ai L.length ci),(10,.p bm),(12,.p bw),(21,.i (q:Int))]) (λq=>dq bm m2++dq bw v) (λq=>q<=L.length) (λq=>L.length - q) (0) ?_ ?_ ?_ ?_
 .exact au _
 .exact Zwk
 .exact Zu
 rintro k hkL;refine Zw9 ?_ ?_<;>intro hc30
 .simp only[ae]at hc30;obtain⟨a,ha⟩:∃a,m2.l[k]? =some a:=⟨_,aa (show k<m2.l.length by omega)⟩;have ha2:v.l[k]? =some a:=(by rw[<-hme];exact ha);have hgw:=(hm2.f _ (ak ha)).wf;refine Z_8 ?_;refine ZSn (λw hi=>ft bm m2 _ hm2 Wq1 k a ha w hi Zi) ?_;rintro _ _ ⟨Y4,J4,hR4,rfl,rfl⟩;refine Z_3 ?_;refine ZN λb22=>?_
  refine ZM ?_;refine Z_7 ?_;refine ZSn (λw hi=>ft bw v _ hv Wq1 k a ha2 w hi Zi) ?_;rintro _ _ ⟨Y5,J5,hR5,rfl,rfl⟩;refine Z_3 ?_;refine ZN λb24=>?_
  refine Wq293 ?_;rintro _ _ ⟨_,⟨⟨r,rfl,hrr⟩,rfl⟩,rfl⟩;obtain rfl:r=true:=hrr.2 rfl;refine Z_4 ?_;refine iU ?_;refine gv ?_;refine bJ (k+1) ?_ ?_ ?_
  .exact wH
  .exact Zwk
  exact Zj
 simp only[ac]at hc30;exact Qy
open Go
theorem cX{W:World}(h:laidMetH prog Rows.monitorOrdersRow.laid W):fE W:=
 fU (t:=280) (e:=5) (Si:=qe) h (MakeChecks.laidMetH_plain _ _ _ Wq4) rfl (g:=0) Wq4 Wq4 Wq4 Wq4 Wq4 rfl gq
theorem eO(os:Os)(args:Array Value):laidMetH prog Rows.monitorOrdersRow.laid ((World.doorLaid prog 400 os).forCall (λ_ _=>0) ⟨#[],args,[]⟩).memory:=
 laidMetH_of_parts3 (fuel:=8) (laidMet_of_run' 8 Wq4 Wq4) Wq4 Wq4
set_option maxRecDepth 100000 in
theorem oH(os:Os)(started:os.Started)(H:Type)(enc:TypeId×Value->H):
  ReturnsInHanded {} checked os 4 .any (λw args=>(Rows.monitorOrdersSpec.pre enc prog f4 [] false w args/\laidMetH prog Rows.monitorOrdersRow.laid w)/\sizedMet enc prog f4 (OpenSpec.ofChange Rows.monitorOrdersSpec) false w args) (Rows.monitorOrdersSpec.post enc prog f4 false true false false):=
 hH (C:=checked) (ts:=[22,23,23,4]) Nj started Wq4 func4
  (ChangeSpec.witness_shaped (enc:=enc) (C:=checked) (os:=os) (X:=λw _=>laidMetH prog Rows.monitorOrdersRow.laid w) false (World.doorLaid prog 400 os) #[.slice none 0 0,.slice none 0 0,.slice none 0 0,.bool false] 8 rfl (World.shaped_of_RefB Wq4 Wq4) Wq4 Wq4 Wq4 (eO os _))
  rfl rfl rfl rfl (λds h=>by match ds,h with|[_,_,_,_],_=>rfl) vJ Wq4 (λW vs h hx=>by
   have ht:=cX hx;obtain⟨v0,_,rfl,a0,v1,_,rfl,a1,v2,_,rfl,a2,v3,_,rfl,a3,rfl⟩:=h;obtain⟨A,c,l,rfl,hl,hr⟩:=ju a0;obtain⟨B,cb,b,rfl,h2,hi2⟩:=gM a1;obtain⟨D,cd,d,rfl,h3,hi3⟩:=gM a2;obtain⟨e3,rfl⟩:=a3.bool rfl;exact jl (tz A B D c cb cd l b d e3 W hl hr h2 hi2 h3 hi3 ht))
set_option maxHeartbeats 0 in
theorem qu:Rows.MonitorOrdersSaid:=
 OpenClaim.holds_of_wide 4 f4 rfl rfl rfl rfl rfl rfl rfl ⟨rfl,rfl,rfl,rfl,rfl⟩ rfl rfl rfl rfl rfl pq func4 pt qv qt
  (λos started H enc _=>oH os started H enc)
set_option maxHeartbeats 0 in
theorem monitorOrders_holds:Rows.MonitorOrdersCardSaid:=
 Claim7.holds_tied_plain_at .later [] [.data] true Rows.monitorOrdersCard.stood.harness false
  qu (λ_ h=>by cases h) Wq4 (λ_ h=>by cases h) monitorOrders_row_tie rfl ⟨rfl,rfl⟩ Wq4 rfl
  (λf fn hf hfn=>by
   obtain rfl:f=4:=ax ((show prog.funcNamed "innkeeper/innkeeperlaw26.MonitorOrders" =some 4 by as_aux_lemma=>kernel_rfl).symm.trans hf)|>.symm
   obtain rfl:fn=f4:=(ax (func4.symm.trans hfn)).symm;exact⟨by as_aux_lemma=>kernel_rfl,λj t ht=>by
    have hm:t∈f4.params.toList:=by simpa using Array.mem_of_getElem? ht
    have hall:(f4.params.toList.all λu=> !prog.wantsStandIn u)=true:=by as_aux_lemma=>kernel_rfl
    exact(show prog.wantsStandIn t=false by simpa using aY.1 hall t hm)⟩)
  Wq4
#print axioms monitorOrders_holds
end Go.Proofs.YtbkgmdgackknfaaGreatDoor
