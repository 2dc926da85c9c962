/- For every input the law TopApart answers true and leaves every argument as it was; the table of math/bits is what the program's text lays (the card ties it); no other condition. -/
import Derived.Test.YtbkgmdgackknfaaGreatDoorPaz
import Derived.JoinedOf
import Derived.Test.YtbkgmdgackknfaaGreatDoorCards
import Derived.Test.YtbkgmdgackknfaaGreatDoorTie
import Derived.SevenTiedAt
import Derived.Test.YtbkgmdgackknfaaGreatDoorPbjF
set_option linter.unusedSimpArgs false
set_option linter.unusedVariables false
set_option maxRecDepth 100000
set_option maxHeartbeats 4000000
namespace Go.Proofs.YtbkgmdgackknfaaGreatDoor
open Go.RowKit Go.Ink Go.Proofs.Tryz
attribute [local irreducible] OpY bH
theorem AV{l:List Ag}{x:It}(h:0<x.RP):(dB l x).1[0]? =l[0]? :=ud (i:=0) Wq1
theorem Dq(A B A2 A4:Option Addr)(c d c2 c4:Nat)(l k:List BoR)(its os:List ItR)(ta tb:Bool)(w:World)(h:RdV w 3 A l.length c (l.flatMap BoR.cells))(hl:∀a,a∈l->a.ok w)(h3:RdV w 3 B k.length d (k.flatMap BoR.cells))(hk:∀a,a∈k->a.ok w)(h2:RdV w 4 A2 its.length c2 (its.flatMap ItR.cells))(hit:∀x,x∈its->x.ok w)(h4:RdV w 4 A4 os.length c4 (os.flatMap ItR.cells))(hos:∀x,x∈os->x.ok w)(ht:fE w):
  Ctr prog 10 [.slice A l.length c,.slice B k.length d,.slice A2 its.length c2,.slice A4 os.length c4,.bool ta,.bool tb] w [] (λv cs=>v= .bool true/\cs=[]):=by
 have hcp:=h4.cap;have hmx:=h4.max;simp only[maxLen]at hmx;refine Zfs func10 ntmps10 ?_;refine Z_8 ?_;refine ZSn (λw hi=>sb A c l w (h.RU hi) (λa ha=>(hl a ha).RU hi)) ?_;rintro _ _ ⟨A3,c3,L,J,⟨hI,hL1,hL0⟩,rfl,rfl⟩;refine ZA ?_;refine ZSn (λw hi=>sb B d k w (h3.RU hi) (λa ha=>(hk a ha).RU hi)) ?_;rintro _ _ ⟨A5,c5,K,J5,⟨hI5,hK1,hK0⟩,rfl,rfl⟩;have hL4:=hI.n4;have hboot:=fj hL1 hL4 hI.Sj;have hg3:=gO hI.Sj;have hK4:=hI5.n4;have hboot5:=fj hK1 hK4 hI5.Sj;have hg5:=gO hI5.Sj;refine Z_8 ?_;refine Wq84 ?_;rintro _ _ ⟨_,⟨bm,m,⟨hm,hlm⟩,rfl,rfl⟩,rfl⟩;refine gK ?_;refine ZSn (λw hi=>iR hboot5 hg5 (hi.rd (show Has _ (slv 33 3 A5 K.length c5 (K.flatMap Im.cells))from Zh)) (hI5.rd w (λa ha=>(hk a ha).dk.RU hi) (hi.get (show Has _ (bQ J5)from Zh)))) ?_;rintro _ _ ⟨bw,u,⟨hu,hlu⟩,rfl,rfl⟩;refine kX ?_;refine Z_6 ?_;refine rh ?_;rw[<-hlm]at hL0;rw[<-hlu]at hK0;clear hboot hboot5 hlm hlu;refine dN (dq bm m++dq bw u) Zj (Z_4 ?_);refine bN (λq:Nat×Mon×Mon=>[(2,.slice A2 its.length c2),(3,.slice A4 os.length c4),(13,.slice A3 L.length c3),(14,.slice A5 K.length c5),(15,.p bm),(17,.p bw),(19,.i (q.1:Int))]) (λq=>dq bm q.2.1++dq bw q.2.2) (λq=>q.1<=20/\q.2.1.ok (160000*q.1)/\q.2.2.ok (160000*q.1)/\∃a,q.2.1.l[0]? =some a/\q.2.2.l[0]? =some a) (λq=>20 - q.1) ((⟨0,m,u⟩:Nat×Mon×Mon)) ?_ ?_ ?_ ?_
 .exact⟨au _,hm,hu,ag0,hL0,hK0⟩
 .exact Zwk
 .exact Zu
 rintro⟨i,m,u⟩ ⟨hi20,hm,hu,a,ha,hb⟩;dsimp only at hi20 hm hu ha hb|-;refine uw ?_ ?_<;>intro hc7
 .have hc7':i<its.length/\i<20:=(by simp only[aD,ae]at hc7;omega);obtain⟨hil,hi3⟩:=hc7';obtain⟨ad,rfl⟩:=h2.some_ Wq1;obtain⟨x,hx⟩:∃x,its[i]? =some x:=⟨_,aa hil⟩;have hxo:=hit x (ak hx);refine Z_4 ?_;refine cD (λq:Mon×Mon=>[(2,.slice (some ad) its.length c2),(3,.slice A4 os.length c4),(13,.slice A3 L.length c3),(14,.slice A5 K.length c5),(15,.p bm),(17,.p bw),(19,.i (i:Int))]) (λq=>dq bm q.1++dq bw q.2) (λq=>q.1.ok (160000*i+80000)/\q.2.ok (160000*i+80000)/\q.1.l[0]? =some a/\q.2.l[0]? =some a) ?_ ?_
  .refine Zw8 ?_ ?_<;>intro hc9
   .simp only[ae]at hc9;have hol:i<os.length:=Wq1;obtain⟨ao,rfl⟩:=h4.some_ Wq1;obtain⟨o,ho⟩:∃o,os[i]? =some o:=⟨_,aa hol⟩;have hoo:=hos o (ak ho);have HT:=tR o hoo.rd.cap L.length hL1 hL4;have hyg:=qi hoo L.length;obtain⟨y,hy⟩:=Zgn (yZ o L.length);rw[hy]at HT hyg;have HD:=fw bm m (160000*i) hm Wq1 y hyg.b hyg.l hyg.n;obtain⟨p,hp⟩:∃p,os[os.length - 1 - i]? =some p:=⟨_,aa (show os.length - 1 - i<os.length by omega)⟩;have hpo:=hos p (ak hp);have HT2:=tR p hpo.rd.cap K.length hK1 hK4;have hzg:=qi hpo K.length;obtain⟨z,hz⟩:=Zgn (yZ p K.length);rw[hz]at HT2 hzg;have HE:=fw bw u (160000*i) hu Wq1 z hzg.b hzg.l hzg.n;have hky:=AV (l:=m.l) (x:=y.it);have hkz:=AV (l:=u.l) (x:=z.it);obtain⟨yk,yg,yn,yA,yc,yb⟩:=y;obtain⟨zk,zg,zn,zA,zc,zb⟩:=z;dsimp only at HD HE hky hkz;have hyr:=hyg.rd;have hzr:=hzg.rd;dsimp only at hyr hzr;refine Z_4 ?_;refine wJ ?_;refine dK (bP (vs:=o.cells) Zrf Zrf Zv0) (dY h4 (λj v hj=>da ItR.RO (i:=j) ho hj)) rfl (Z_2 ?_);refine ZSe (λw hi=>HT w) ?_;refine ZN λb20=>?_
    refine ZM ?_;refine Z_2 ?_;refine cD (λq:Mon=>[(2,.slice (some ad) its.length c2),(3,.slice (some ao) os.length c4),(13,.slice A3 L.length c3),(14,.slice A5 K.length c5),(15,.p bm),(17,.p bw),(19,.i (i:Int)),(20,.p b20)]) (λq=>row b20 [.i yk,.i yg,.i yn,.slice yA yb.length yc] 35::(dq bm q++dq bw u)) (λq=>q.ok (160000*i+80000)/\q.l[0]? =some a) ?_ ?_
    .refine Zw7 ?_ ?_<;>intro hc11
     .simp only[ae]at hc11;refine Z_3 ?_;refine jj ?_;rintro _ _ ⟨b84,rfl,rfl⟩;refine dz (dq bm m) (λw hi hin=>HD (sA b84) 1 w hin (λw' hk=>hi.Sr Zi (show Has _ (slv 35 4 (sA b84) 1 1 [.i yk,.i yg,.i yn,.slice yA yb.length yc])from Zh) hk) (λw' hk=>RdV.RT hyr hi Zi hk) (λw' hk=>RdV.RT ht hi Zi hk)) ?_;rintro _ _ ⟨m2,Y,bz,cz,J2,⟨hm2,hl2, -⟩,rfl,rfl⟩;refine Zn (bJ (m2) ?_ ?_ ?_)
      .exact⟨hm2,by rw[hl2,hky hc11];exact ha⟩
      .exact Zwk
      exact Zj
     refine Zc (bJ (m) ?_ ?_ ?_)
     .exact⟨hm.le Wq1,ha⟩
     .exact Zwk
     exact Zj
    rintro m3 ⟨hm3,ha3⟩;refine Z_5 ?_;refine oN ?_;refine ZA ?_;refine Zy (gr (Zv rfl) (Zv rfl) (show _=((os.length - 1 - i:Nat):Int)from by rw[IntWalk.i64_in _ ⟨by omega,by omega⟩];omega)) ?_;refine Zy (bS (j:=(os.length - 1 - i)) rfl Zrf (Zv rfl) (Zv rfl) Wq2 Wq2) ?_;refine dK (bP (vs:=p.cells) Zrf Zrf Zv0) (dY h4 (λj v hj=>da ItR.RO (i:=j) hp hj)) rfl (Z_2 ?_);refine ZSe (λw hi=>HT2 w) ?_;refine ZM ?_;refine Zw9 ?_ ?_<;>intro hc14
    .simp only[ae]at hc14;refine Z_3 ?_;refine jj ?_;rintro _ _ ⟨b102,rfl,rfl⟩;refine dz (dq bw u) (λw hi hin=>HE (sA b102) 1 w hin (λw' hk=>hi.Sr Zi (show Has _ (slv 35 4 (sA b102) 1 1 [.i zk,.i zg,.i zn,.slice zA zb.length zc])from Zh) hk) (λw' hk=>RdV.RT hzr hi Zi hk) (λw' hk=>RdV.RT ht hi Zi hk)) ?_;rintro _ _ ⟨u2,Y2,bz2,cz2,J3,⟨hu2,hl3, -⟩,rfl,rfl⟩;refine Zn (bJ (((m3,u2):Mon×Mon)) ?_ ?_ ?_)
     .exact⟨hm3,hu2,ha3,by rw[hl3,hkz hc14];exact hb⟩
     .exact Zwk
     exact Zj
    refine Zc (bJ (((m3,u):Mon×Mon)) ?_ ?_ ?_)
    .exact⟨hm3,hu.le Wq1,ha3,hb⟩
    .exact Zwk
    exact Zj
   refine Zc (bJ (((m,u):Mon×Mon)) ?_ ?_ ?_)
   .exact⟨hm.le Wq1,hu.le Wq1,ha,hb⟩
   .exact Zwk
   exact Zj
  rintro⟨m,u⟩ ⟨hm,hu,ha,hb⟩;dsimp only at hm hu ha hb|-;have HT:=tR x hxo.rd.cap 1 (aL _) Wq7;have hyg:=qi hxo 1;have hgz:=Ds (x:=x) (g:=1) (aL _);obtain⟨y,hy⟩:=Zgn (yZ x 1);rw[hy]at HT hyg hgz;have HD:=fw bm m (160000*i+80000) hm Wq1 y hyg.b hyg.l hyg.n;have HE:=fw bw u (160000*i+80000) hu Wq1 y hyg.b hyg.l hyg.n;have ho1:=ku (i:=0) ha (show y.it.RP=((0:Nat):Int) by show y.RP=0;omega);have ho2:=ku (i:=0) hb (show y.it.RP=((0:Nat):Int) by show y.RP=0;omega);have hu1:=vx (i:=0) ha (show y.it.RP=((0:Nat):Int) by show y.RP=0;omega);have hu2:=vx (i:=0) hb (show y.it.RP=((0:Nat):Int) by show y.RP=0;omega);have hwf:=zJ (l:=m.l) (x:=y.it) hm.f;rw[<-ho1]at ho2;rw[ho2]at HE;obtain⟨a2,ha2⟩:=Zgn ((a.one y.it).1);rw[ha2]at hu1 hu2;clear ho1 ho2 ha2;obtain⟨l3,hl3⟩:=Zgn ((dB u.l y.it).1);obtain⟨⟨l2,⟨on,ov,ow⟩⟩,hr⟩:=Zgn (dB m.l y.it);rw[hr]at HD HE hwf hu1;rw[hl3]at HE hu2;dsimp only at HD HE hwf hu1;obtain⟨kd,gu,n,yA,yc,yb⟩:=y;have hy4:=hyg.rd;dsimp only at hy4 HD HE;refine Z_4 ?_;refine wJ ?_;refine dK (bP (vs:=x.cells) Zrf Zrf Zv0) (dY h2 (λj v hj=>da ItR.RO (i:=j) hx hj)) rfl (ZSe (λw hi=>HT w) ?_);refine ZN λb21=>?_
  refine ZM ?_;refine Z_2 ?_;refine cD (λq:Mon×Mon×(Nat×Nat×VAd×List bC)×(Nat×Nat×VAd×List bC)=>[(2,.slice (some ad) its.length c2),(3,.slice A4 os.length c4),(13,.slice A3 L.length c3),(14,.slice A5 K.length c5),(15,.p bm),(17,.p bw),(19,.i (i:Int)),(22,.slice (sA q.2.2.1.1) 1 q.2.2.1.2.1),(23,.slice (sA q.2.2.2.1) 1 q.2.2.2.2.1)]) (λq=>ouC q.2.2.1.1 q.2.2.1.2.1 ⟨on,ov,ow⟩ q.2.2.1.2.2.1::bQ q.2.2.1.2.2.2::ouC q.2.2.2.1 q.2.2.2.2.1 ⟨on,ov,ow⟩ q.2.2.2.2.2.1::bQ q.2.2.2.2.2.2::(dq bm q.1++dq bw q.2.1)) (λq=>q.1.ok (160000*i+80000+80000)/\q.2.1.ok (160000*i+80000+80000)/\q.1.l=l2/\q.2.1.l=l3/\(∀w,(bQ q.2.2.1.2.2.2).ok w->xf w ov q.2.2.1.2.2.1)/\∀w,(bQ q.2.2.2.2.2.2).ok w->xf w ov q.2.2.2.2.2.1) ?_ ?_
  .refine bL ⟨λj=>List.elem j [3,7],tx b21 [.i kd,.i gu,.i n,.slice yA yb.length yc]⟩ Zk (Wq263 ?_);refine ke 2 6 Zk ?_ ?_
   .refine jT rfl rfl (gD rfl rfl Zrf Zrf rfl rfl rfl) (λ_=>by rintro _ _ ⟨b111,rfl,rfl⟩;exact bK (t:=35) Zh) rfl ?_;rintro _ _ ⟨b111,rfl,rfl⟩;refine ke 3 6 Zk ?_ ?_
    .refine Wq49 ?_;rintro _ _ ⟨_,⟨m2,Y,bz,cz,J2,⟨hm2,hl2,hR2⟩,rfl,rfl⟩,rfl⟩;refine cn 6 Zk (Wq260 ?_);rintro _ _ ⟨b115,rfl,rfl⟩;refine Wq45 ?_;rintro _ _ ⟨_,⟨u3,Y2,by2,cy2,J3,⟨hu3,hb2,hR3⟩,rfl,rfl⟩,rfl⟩;refine CT ?_;refine bJ (((m2,u3,(bz,cz,Y,J2),(by2,cy2,Y2,J3)):Mon×Mon×(Nat×Nat×VAd×List bC)×(Nat×Nat×VAd×List bC))) ?_ ?_ ?_
     .exact⟨hm2,hu3,hl2,hb2,hR2,hR3⟩
     .exact Zwk
     exact Zj
    refine Wq260 ?_;rintro _ _ ⟨b115,rfl,rfl⟩;refine cn 3 Zk (Wq49 ?_);rintro _ _ ⟨_,⟨m2,Y,bz,cz,J2,⟨hm2,hl2,hR2⟩,rfl,rfl⟩,rfl⟩;refine Wq45 ?_;rintro _ _ ⟨_,⟨u3,Y2,by2,cy2,J3,⟨hu3,hb2,hR3⟩,rfl,rfl⟩,rfl⟩;refine CT ?_;refine bJ (((m2,u3,(bz,cz,Y,J2),(by2,cy2,Y2,J3)):Mon×Mon×(Nat×Nat×VAd×List bC)×(Nat×Nat×VAd×List bC))) ?_ ?_ ?_
    .exact⟨hm2,hu3,hl2,hb2,hR2,hR3⟩
    .exact Zwk
    exact Zj
   refine Wq260 ?_;rintro _ _ ⟨b115,rfl,rfl⟩;refine cn 2 Zk (jT rfl rfl (gD rfl rfl Zrf Zrf rfl rfl rfl) (λ_=>by rintro _ _ ⟨b111,rfl,rfl⟩;exact bK (t:=35) Zh) rfl ?_);rintro _ _ ⟨b111,rfl,rfl⟩;refine cn 3 Zk (Wq49 ?_);rintro _ _ ⟨_,⟨m2,Y,bz,cz,J2,⟨hm2,hl2,hR2⟩,rfl,rfl⟩,rfl⟩;refine Wq45 ?_;rintro _ _ ⟨_,⟨u3,Y2,by2,cy2,J3,⟨hu3,hb2,hR3⟩,rfl,rfl⟩,rfl⟩;refine CT ?_;refine bJ (((m2,u3,(bz,cz,Y,J2),(by2,cy2,Y2,J3)):Mon×Mon×(Nat×Nat×VAd×List bC)×(Nat×Nat×VAd×List bC))) ?_ ?_ ?_
   .exact⟨hm2,hu3,hl2,hb2,hR2,hR3⟩
   .exact Zwk
   exact Zj
  rintro⟨m2,u3,⟨bz,cz,Y,J2⟩,⟨by2,cy2,Y2,J3⟩⟩ ⟨hm2,hu3,hl2,hb2,hR2,hR3⟩;dsimp only at hm2 hu3 hl2 hb2 hR2 hR3|-;rw[<-hl2]at hu1;rw[<-hb2]at hu2;have hgw:=(hm2.f _ (ak hu1)).wf;refine Z_2 ?_;refine Wq281 ?_;refine ZF 5 ?_;refine Zy6 6 rfl (bE rfl rfl) (j8 (bU rfl) (Zv rfl) (show _=false from rfl)) ?_;refine ZE 7 ?_;refine ZE 8 ?_;refine ZF 9 ?_;refine Wq183 ?_;refine ZE 19 ?_;refine Wq178 ?_;refine Wq261 ?_;refine Zy7 34 rfl (bE rfl rfl) (bP (vs:=ov.cells Y) Zrf Zrf (bU rfl)) (i7 (show Has _ (ouC bz cz ⟨on,ov,ow⟩ Y)from Zh) (λj v hj=>by rw[Nat.add_comm];exact(aZ (aj.1 hj).1).trans hj)) ?_;refine Wq302 ?_;refine Zy7 38 rfl (bE rfl rfl) (bP (vs:=ov.cells Y2) Zrf Zrf (bU rfl)) (i7 (show Has _ (ouC by2 cy2 ⟨on,ov,ow⟩ Y2)from Zh) (λj v hj=>by rw[Nat.add_comm];exact(aZ (aj.1 hj).1).trans hj)) ?_;refine cn 39 Zk (Wq139 ?_);rintro _ _ ⟨_,⟨⟨r,rfl,hrr⟩,rfl⟩,rfl⟩;obtain rfl:r=true:=hrr.2 rfl;refine ZF 40 ?_;refine ZE 41 ?_;refine eQ ?_;refine Zt (cJ rfl (rfl) ?_);refine Z_5 ?_;refine ZSn (λw hi=>ft bm m2 _ hm2 Wq1 0 a2 hu1 w hi Zi) ?_;rintro _ _ ⟨Y6,J6,hR6,rfl,rfl⟩;refine Z_3 ?_;refine ZN λb24=>?_
  refine jh ?_;refine ZSn (λw hi=>ft bw u3 _ hu3 Wq1 0 a2 hu2 w hi Zi) ?_;rintro _ _ ⟨Y7,J7,hR7,rfl,rfl⟩;refine Z_3 ?_;refine ZN λb26=>?_
  refine Wq81 ?_;refine gU (bE rfl rfl) rfl (dW rfl (λ_ _=>rfl) (λw hi=>mj a2.view a2.view Y6 Y7 hgw hgw w (hR6 w (hi.get (show Has _ (bQ J6)from Zh))) (hR7 w (hi.get (show Has _ (bQ J7)from Zh))))) rfl ?_;rintro _ _ ⟨_,⟨⟨r,rfl,hrr⟩,rfl⟩,rfl⟩;obtain rfl:r=true:=hrr.2 rfl;refine Z_4 ?_;refine iU ?_;refine gv ?_;refine bJ ((⟨i+1,m2,u3⟩:Nat×Mon×Mon)) ?_ ?_ ?_
  .exact⟨⟨show i+1<=20 by omega,hm2.le Wq1,hu3.le Wq1,a2,hu1,hu2⟩,show 20 - (i+1)<20 - i by omega⟩
  .exact Zwk
  exact Zj
 refine Z_7 ?_;refine ZSe (λw hi=>AE w (ht.old hi)) ?_;exact mF
open Go
theorem cX{W:World}(h:laidMetH prog Rows.topApartRow.laid W):fE W:=
 fU (t:=280) (e:=5) (Si:=qe) h (MakeChecks.laidMetH_plain _ _ _ Wq4) rfl (g:=0) Wq4 Wq4 Wq4 Wq4 Wq4 rfl gq
theorem eO(os:Os)(args:Array Value):laidMetH prog Rows.topApartRow.laid ((World.doorLaid prog 400 os).forCall (λ_ _=>0) ⟨#[],args,[]⟩).memory:=
 laidMetH_of_parts3 (fuel:=8) (laidMet_of_run' 8 Wq4 Wq4) Wq4 Wq4
set_option maxRecDepth 100000 in
theorem uR(os:Os)(started:os.Started)(H:Type)(enc:TypeId×Value->H):
  ReturnsInHanded {} checked os 10 .any (λw args=>(Rows.topApartSpec.pre enc prog f10 [] false w args/\laidMetH prog Rows.topApartRow.laid w)/\sizedMet enc prog f10 (OpenSpec.ofChange Rows.topApartSpec) false w args) (Rows.topApartSpec.post enc prog f10 false true false false):=
 hH (C:=checked) (ts:=[63,63,23,23,4,4]) Nj started Wq4 func10
  (ChangeSpec.witness_shaped (enc:=enc) (C:=checked) (os:=os) (X:=λw _=>laidMetH prog Rows.topApartRow.laid w) false (World.doorLaid prog 400 os) #[.slice none 0 0,.slice none 0 0,.slice none 0 0,.slice none 0 0,.bool false,.bool false] 8 rfl (World.shaped_of_RefB Wq4 Wq4) Wq4 Wq4 Wq4 (eO os _))
  rfl rfl rfl rfl (λds h=>by match ds,h with|[_,_,_,_,_,_],_=>rfl) vJ Wq4 (λW vs h hx=>by
   have ht:=cX hx;obtain⟨v0,_,rfl,a0,v1,_,rfl,a1,v2,_,rfl,a2,v3,_,rfl,a3,v4,_,rfl,a4,v5,_,rfl,a5,rfl⟩:=h;obtain⟨A,c,l,rfl,hl,hr⟩:=pk a0;obtain⟨A2,c2,l2,rfl,hl2,hr2⟩:=pk a1;obtain⟨B,cb,b,rfl,h2,hi2⟩:=gM a2;obtain⟨D,cd,d,rfl,h3,hi3⟩:=gM a3;obtain⟨e4,rfl⟩:=a4.bool rfl;obtain⟨e5,rfl⟩:=a5.bool rfl;exact jl (Dq A A2 B D c c2 cb cd l l2 b d e4 e5 W hl hr hl2 hr2 h2 hi2 h3 hi3 ht))
set_option maxHeartbeats 0 in
theorem yT:Rows.TopApartSaid:=
 OpenClaim.holds_of_wide 10 f10 rfl rfl rfl rfl rfl rfl rfl ⟨rfl,rfl,rfl,rfl,rfl⟩ rfl rfl rfl rfl rfl wS func10 wT yU yS
  (λos started H enc _=>uR os started H enc)
set_option maxHeartbeats 0 in
theorem topApart_holds:Rows.TopApartCardSaid:=
 Claim7.holds_tied_plain_at .later [] [.data] true Rows.topApartCard.stood.harness false
  yT (λ_ h=>by cases h) Wq4 (λ_ h=>by cases h) topApart_row_tie rfl ⟨rfl,rfl⟩ Wq4 rfl
  (λf fn hf hfn=>by
   obtain rfl:f=10:=ax ((show prog.funcNamed "innkeeper/innkeepertop.TopApart" =some 10 by as_aux_lemma=>kernel_rfl).symm.trans hf)|>.symm
   obtain rfl:fn=f10:=(ax (func10.symm.trans hfn)).symm;exact⟨by as_aux_lemma=>kernel_rfl,λj t ht=>by
    have hm:t∈f10.params.toList:=by simpa using Array.mem_of_getElem? ht
    have hall:(f10.params.toList.all λu=> !prog.wantsStandIn u)=true:=by as_aux_lemma=>kernel_rfl
    exact(show prog.wantsStandIn t=false by simpa using aY.1 hall t hm)⟩)
  Wq4
#print axioms topApart_holds
end Go.Proofs.YtbkgmdgackknfaaGreatDoor
