/- For every input the law TopRefines answers true and leaves every argument as it was; the table of math/bits is what the program's text lays (the card ties it); no other condition. -/
import Derived.Test.YtepfimeihngjoaaGreatDoorXbt
import Derived.JoinedOf
import Derived.Test.YtepfimeihngjoaaGreatDoorCards
import Derived.Test.YtepfimeihngjoaaGreatDoorTie
import Derived.SevenTiedAt
import Derived.Test.YtepfimeihngjoaaGreatDoorXzcF
set_option linter.all false
set_option maxRecDepth 100000
set_option maxHeartbeats 4000000
namespace Go.Proofs.YtepfimeihngjoaaGreatDoor
open List renaming length→J
open IntKind renaming wrap→V9
open Go.RowKit Go.Ink Go.Proofs.Tryz
attribute [local irreducible] Ve bN
variable{W:World}
set_option maxRecDepth 100000 in
theorem Ph{es:List Value}(h:VE prog W 138 es):∃a:uh,es=a.cells/\a.ok W:=by
 obtain⟨hl,hf⟩:=h.struct I;have hl:J es=4:=hl
 match es,hl with
 |[c0,c1,c2,c3],_=>
  have k0:VE prog W _ [c0]:=hf 0 _ I;have k1:VE prog W _ [c1]:=hf 1 _ I;have k2:VE prog W _ [c2]:=hf 2 _ I;have k3:VE prog W _ [c3]:=hf 3 _ I;obtain⟨n0,rfl,m0⟩:=x8 I k0;obtain⟨n1,rfl,m1⟩:=x8 I k1;obtain⟨n2,rfl,m2⟩:=x8 I k2;obtain⟨A3,d3,x3,e3,r3,b3,z3⟩:=k3.ints (e:=5) (k:= .u8) I I I;obtain rfl:c3=_:=by simpa using e3
  exact YS
set_option maxRecDepth 100000 in
theorem K2{v:Value}(h:tK prog W 137 v):∃(A:Oa) (c:Nat) (l:List uh),v= .slice A (J l) c/\U5 W 4 A (J l) c (l.flatMap uh.cells)/\∀a,a∈l->a.ok W:=by
 obtain⟨A,c,xs,h1,h2,h3,h4⟩:=tK.rows (e:=138) I I uh.Tm ⟨0,0,0,none,0,[]⟩ (λes he=>Ph he) h;exact⟨A,c,xs,h1,h2,h3⟩
theorem yy(A B C:Oa)(c e cc:Nat)(l:List w7)(SV:Int)(k:Li)(hk:Vh k)(evs:List uh)(w:World)(h:U5 w 5 A (J l) c (l.flatMap w7.cells))(hl:∀a,a∈l->a.ok w)(hB:Rd w .u8 B (J k) e k)(hE:U5 w 4 C (J evs) cc (evs.flatMap uh.cells))(hel:∀a,a∈evs->a.ok w)(ht:iU w):
  CW prog 11 [.slice A (J l) c,.i SV,.slice B (J k) e,.slice C (J evs) cc] w (.bool true):=by
 have hem:J evs<=maxLen:=aN hE.cap hE.max;simp only[maxLen]at hem;have HI:=zx A B c e l SV k hk;have hk2:J (k.take 1024)<=1024:=by rw[aO];omega
 have hkb:Vh (k.take 1024):=λx hx=>hk x (aM hx)
 have hB2:=fI hB 1024;refine UV func11 ntmps11 ?_;refine Θ ?_;rintro _ _ ⟨_,⟨A1,c1,E,E2,N,⟨hE1,⟨hn1,hn2⟩,hE2⟩,rfl,rfl⟩,rfl⟩;have hE1':Vh (E.take (N*64)):=(λx hx=>hE1 x (aM hx));have HF:=uD N hn1 O A1 B c1 e (E.take (N*64)) (k.take 1024) hE2 hE1' hk2 hkb true;have HR:=sB A1 B c1 e N (E.take (N*64)) (k.take 1024) O hE2 hk2;refine ZN λb9=>?_
 refine ij ?_;refine Rz ?_;refine Vl (λw hi=>HF w (fI (hi.rd (UJ (sl .u8 5 A1 (J E) c1 E))) (N*64)) (hB2.Tb hi)) ?_;rintro _ _ ⟨H,⟨s,XG,Y,Ug,d,og⟩,hBo,rfl,rfl⟩;obtain⟨rfl,rfl,hP⟩:=hBo.pair hn1 O hE2 hE1' hk2 hkb;clear hBo;refine UQ ?_;refine Rz ?_;refine Vl (λw hi=>HR w (fI (hi.rd (UJ (sl .u8 5 A1 (J E) c1 E))) (N*64)) (hB2.Tb hi)) ?_;rintro _ _ ⟨R,rfl,rfl⟩;refine eL ?_;refine j6 ?_;clear HF HR HI;obtain⟨M0,hM0⟩:=Do (UO.init N (E.take (N*64)));obtain⟨T0,hT0⟩:=Do (cX);obtain⟨d0,hd0⟩:=Do (UF.init (k.take 1024));rw[hM0,hT0,hd0]at hP|-;refine Nv ?_;refine gE (Vp H ⟨St.new,XG,Y,Ug,d0,og⟩++Wx R N St.new g0S g0D (⟨M0,T0⟩:UI) d0) Zj (UK ?_);refine mB (λq:(Nat×UI)×(VS×dz×dJ)=>[(3,.slice C (J evs) cc),(10,.p H.bg),(11,.p R.bg),(12,.i (q.1.1:Int))]) (λq=>Vp H q.2.1++Wx R N q.2.1.s q.2.2.1 q.2.2.2 q.1.2 q.2.1.d) (λq=>q.1.1<=25/\wz H N (400*q.1.1) q.2.1 q.1.2) (λq=>25 - q.1.1) (⟨⟨0,(⟨M0,T0⟩:UI)⟩,⟨⟨St.new,XG,Y,Ug,d0,og⟩,g0S,g0D⟩⟩) ?_ ?_ ?_ ?_
 .exact⟨ax _,hP⟩
 .exact Xq
 .exact CB
 rintro⟨⟨j,U⟩,⟨⟨s,X,Y,Ug,d,og⟩,X2,Z2⟩⟩ ⟨hj,hP⟩;dsimp only at hj hP|-;refine Ab ?_ ?_<;>intro hc7
 .have hc7':(decide ((j:Int)<(J evs:Int))&&decide ((j:Int)<25))=true:=hc7;simp only[ay,ai]at hc7';have hkl:j<J evs:=O;obtain⟨ad,rfl⟩:=hE.some_ O;obtain⟨a,ha⟩:∃a,evs[j]? =some a:=⟨_,ak hkl⟩;have hao:=hel a (aG ha);obtain⟨kd,en,at_,B9,cb,bs⟩:=a;obtain⟨hrd,hbs,hat⟩:=hao;dsimp only at hrd hbs hat;obtain⟨km,hkm⟩:=Do (eN kd 0 1000);have HW:=λw=>hkm▸fy kd 0 1000 w ne ne ne
  have hkr:=eM kd 0 1000 ne;obtain⟨nm,hnm⟩:=Do (eN en 0 7);have HV:=λw=>hnm▸fy en 0 7 w ne ne ne
  have hnr:=eM en 0 7 ne;obtain⟨m,hm⟩:=Do (eN en 0 50);have HM:=λw=>hm▸fy en 0 50 w ne ne ne
  have hmr:=eM en 0 50 ne;rw[hkm]at hkr;rw[hnm]at hnr;rw[hm]at hmr;obtain⟨nm,rfl⟩:∃m:Nat,nm=m:=aj hnr.1;obtain⟨km,rfl⟩:∃m:Nat,km=m:=aj hkr.1;obtain⟨at_,rfl⟩:∃m:Nat,at_=m:=aj hat.1;refine Va ?_;refine NB ?_;refine dZ (bX (vs:=uh.cells ⟨kd,en,(at_:Int),B9,cb,bs⟩) ir ir py) (fB hE (λi v hi=>fw uh.Tm (i:=i) ha hi)) I ?_;refine ZN λb13=>?_
  refine ZM ?_;refine An ?_;refine cj (λq:UI×(VS×dz×dJ)=>[(3,.slice (some ad) (J evs) cc),(10,.p H.bg),(11,.p R.bg),(12,.i (j:Int))]) (λq=>Vp H q.2.1++Wx R N q.2.1.s q.2.2.1 q.2.2.2 q.1 q.2.1.d) (λq=>wz H N (400*(j+1)) q.2.1 q.1) ?_ ?_
  .refine UK ?_;refine wV ?_;refine Zy (fG (Zv I) (Zv I) O (show _=((km%6:Nat):Int)from by rw[aq O];omega)) ?_;refine ZH ?_;refine ZW ?_ ?_<;>intro hc14
   .refine An ?_;have h64:=hP.g.i.i64;dsimp only at h64;have h9:J (bs.take 9)<=1000:=I0;have H1:=xO H ⟨s,X,Y,Ug,d,og⟩ h64 B9 cb (bs.take 9) O;have H2:=pA R.by_ R.K.bm R.bd Z2 d h64 B9 cb (bs.take 9) h9;have hP1:wz H N (400*(j+1)) ⟨s,X,Y,Ug,d.Tp (bs.take 9),og⟩ U:=⟨hP.hn,⟨(p8 hP.ok.g hP.g.i (od hbs 9)).1,hP.ok.e⟩,(hP.g.type (od hbs 9)).le O,hP.e,hP.sd⟩;obtain⟨T,hT⟩:=Do (d.Tp (bs.take 9));obtain⟨TN,hTN⟩:=Do (d.Tz (bs.take 9));dsimp only at H1;rw[hT]at H1 H2 hP1;rw[hTN]at H1 H2;refine An ?_;refine UZ (λw hi=>sO B9 cb bs 9 w hrd.cap) ?_;refine UK ?_;refine bQ (WM [2,8] (m5 R.bg (dgL R s X2))) Zk (lO ?_);refine ZE 3 ?_;refine Wq469 ?_;refine jm I I (dh (Vp H ⟨s,X,Y,Ug,d,og⟩) I (λ_ _=>I) Zi (λw hi hin=>H1 w hin (λw' hk=>fI (U5.Th hrd hi Zi hk) 9))) (λ_=>by rintro _ _ ⟨_,⟨Y2,rfl,rfl⟩,rfl⟩;exact bP (t:=41) Zh) I ?_;rintro _ _ ⟨_,⟨Y2,rfl,rfl⟩,rfl⟩;refine gg ?_;refine jm I I (dh (eI R.by_ R.K.bm R.bd Z2 d) I (λ_ _=>I) Zi (λw hi hin=>H2 w hin (λw' hk=>fI (U5.Th hrd hi Zi hk) 9))) (λ_=>by rintro _ _ ⟨_,⟨Z3,rfl,rfl⟩,rfl⟩;exact bP (t:=41) Zh) I ?_;rintro _ _ ⟨_,⟨Z3,rfl,rfl⟩,rfl⟩;refine UY 9 I (Aw (Zv I) (Zv I) (bne_self_eq_false _)) ?_;refine fh ?_;refine Zt (cK I (I) ?_);refine An ?_;refine Vd ((⟨U,⟨⟨s,X,Y2,Ug,T,og⟩,X2,Z3⟩⟩:UI×(VS×dz×dJ))) ⟨hP1.hn,⟨hP1.ok.g,hP1.ok.e⟩,hP1.g,hP1.e,hP1.sd⟩
   refine ZU ?_;refine ZW ?_ ?_<;>intro hc18
   .refine An ?_;have hz:(decide ((nm:Int)<0)||decide (8<=(nm:Int)))=false:=(by rw[aZ];exact⟨ao O,ao O⟩);have H3:=λA c w hi h=>B1 H ⟨s,X,Y,Ug,d,og⟩ A c (nm:Int) w hi h
    rw[hz]at H3;dsimp only[ac,Bool.not_false]at H3;rw[aV]at H3;have hP2:wz H N (400*(j+1)) ⟨s,X,Y,Ug,d.raise nm,og⟩ U:=⟨hP.hn,⟨(oB hP.ok.g hP.g.i nm).1,hP.ok.e⟩,(hP.g.raise nm).le O,hP.e,hP.sd⟩;obtain⟨L,hL⟩:=Do (ju [nm]);have hL2:V9 .u32 (1*2^(min (nm:Int).toNat IntKind.u32.bits))=L:=(by rw[<-hL,zr nm O];exact Dh nm O);unfold UF.raise at H3 hP2;rw[hL]at H3 hP2;refine An ?_;refine UZ (λw hi=>HV w) ?_;refine UK ?_;refine bQ (Vg [17]) Zk (lO ?_);refine UE 2 17 ?_;refine wP ?_;refine UE 6 17 ?_;refine ZG 7 ?_;refine ZE 8 ?_;refine UE 9 1 ?_;refine ZG 10 ?_;refine ZE 11 ?_;refine Wq265 ?_;refine cP 17 Zk (iT ?_);refine gP ?_;refine jQ ?_;rintro _ _ ⟨b114,rfl,rfl⟩;refine Vq (Vp H ⟨s,X,Y,Ug,d,og⟩) (λw hi hin=>H3 (sA b114) 1 w hin (λw' hk=>hi.TU Zi (UJ (slv 3 1 (sA b114) 1 1 (ints .i64 [(nm:Int)]))) hk)) ?_;refine rZ ?_;refine An ?_;refine Vd ((⟨U,⟨⟨s,X,Y,Ug,{d with S7:=bits .or .u32 d.S7 L},og⟩,X2,Z2⟩⟩:UI×(VS×dz×dJ))) hP2
   refine An ?_;refine Zy (ly (Zv I) (Zv I) (jI _ 3)) ?_;refine VP ?_ ?_<;>intro hc23
   .refine An ?_;refine dH (Vp H ⟨s,X,Y,Ug,d,og⟩) (λw hi hin=>vH H ⟨s,X,Y,Ug,d,og⟩ N hP.ok w hin) ?_;rintro _ _ ⟨⟨s6,X6,Y6,U6,d6,o6⟩,⟨h6,e6⟩,rfl⟩;simp only[aB]at e6;obtain⟨rfl,rfl,rfl⟩:=e6;refine An ?_;refine Vd ((⟨U,⟨⟨s6,X6,Y6,U6,d6,o6⟩,X2,Z2⟩⟩:UI×(VS×dz×dJ))) ⟨hP.hn,h6,hP.g.le O,hP.e,hP.sd⟩
   refine An ?_;refine Zy (ly (Zv I) (Zv I) (jI _ 4)) ?_;refine VP ?_ ?_<;>intro hc25
   .refine Zs (bQ (Vg []) Zk ?_);obtain⟨Mg,Tg⟩:=Ug;obtain⟨Md,Td⟩:=U;have haz:at_%(N*64)<N*64:=Nat.mod_lt _ O;obtain⟨pl,hpl⟩:=Do (at_%(N*64));rw[hpl]at haz;obtain⟨b,hb⟩:=Do (V9 .u8 en);have hb2:0<=b/\b<=255:=(by rw[<-hb,IntKind.wrap_u8];omega);have hP3:=(hP.put haz hb2).le (show 400*j<=400*(j+1) by omega);have hMd:=hP.g.m;have hnn:=hP.hn;dsimp only at hMd;refine UE 0 2 ?_;refine ZG 1 ?_;refine ZE 2 ?_;refine ZE 3 ?_;refine UE 4 16 ?_;refine ZG 5 ?_;refine ZE 6 ?_;refine UE 7 0 ?_;refine wT ?_;refine UE 10 0 ?_;refine ZG 11 ?_;refine ZE 12 ?_;refine UY 13 I (cz I I (Zv I) (show _=((N*64:Nat):Int)from u32_wrap_id _ O O)) ?_;refine UY 14 I (fG (Zv I) (Zv I) O (show((at_:Nat):Int).tmod ((N*64:Nat):Int)=(pl:Int)from by rw[aq O,<-hpl];omega)) ?_;refine ZE 15 ?_;refine pk ?_;refine bQ (WM [11] (m5 R.bg (dgL R s X2))) Zk (lO ?_);refine UE 2 16 ?_;refine eY 3 I Zk Zk Zk (bO ir py) (dx I) (bP (t:=41) Zh) I (ZE 4 ?_);refine UE 5 0 ?_;refine ZG 6 ?_;refine ZE 7 ?_;refine UE 8 1 ?_;refine kt ?_;refine m4 ?_;refine UY 10 I (cz I I py hb) ?_;refine cP 11 Zk (jm I I (dh (V6 R.K N Md) I (λ_ _=>I) Zi (λw hi hin=>i4 R.K N Md hMd pl haz b w hin)) (λ_=>by refine Vz ?_;exact bP (t:=41) Zh) I ?_);refine Vz ?_;refine pk ?_;refine bQ (Vg [8]) Zk (wx ?_);refine ZG 3 ?_;refine ZE 4 ?_;refine UE 5 1 ?_;refine cP 6 Zk (m4 ?_);refine UY 7 I (cz I I py hb) ?_;refine gg ?_;refine rX ([fM H.L Mg]) (λw hi hin=>ro H.L Mg pl (by rw[hnn];exact haz) b hb2 w hin) ?_;refine UR ?_;refine ZE 9 ?_;refine fh ?_;refine Zt (cK I (I) ?_);refine An ?_;refine Vd ((⟨⟨Md.put pl b,Td⟩,⟨⟨s,X,Y,⟨Mg.put pl b,Tg⟩,d,og⟩,X2,Z2⟩⟩:UI×(VS×dz×dJ))) hP3
   refine An ?_;have hgo:=hP.g.o;dsimp only at hgo;have H4:=λw hi ht=>vE H ⟨s,X,Y,Ug,d,og⟩ (by rw[hP.hn];omega) (by rw[hP.hn];exact hP.ok) m O O CD w hi ht
   have H5:=uW R.K R.bx N R.by_ R.bd Z2 s X2 U d (400*j) hP.g m O O O;have hP4:=λG' a b=>hP.run (G':=G') m a b
   rw[hP.hn]at H4;dsimp only at H4 hP4;obtain⟨⟨s3,U3,d3⟩,hq3⟩:=Do (eH N m s Ug d);obtain⟨⟨s2,U2,d2⟩,hq2⟩:=Do (eH N m s U d);rw[hq3]at H4;rw[hq2]at H5;rw[hq3,hq2]at hP4;dsimp only at H4 H5 hP4;refine An ?_;refine UZ (λw hi=>HM w) ?_;refine UK ?_;refine Wq313 ?_;refine wT ?_;refine ZZ ?_;refine rX (dsF R.K R.bx N R.by_ R.bd s X2 Z2 U d) (λw hi hin=>H5 w hin) ?_;rintro _ _ ⟨X3,Z3,rfl,rfl⟩;refine Wq276 ?_;refine UR ?_;refine fh ?_;refine UK ?_;refine dH (Vp H ⟨s,X,Y,Ug,d,og⟩) (λw hi hin=>H4 w hin (λw' hk=>U5.Th ht hi Zi hk)) ?_;rintro _ _ ⟨⟨s7,X7,Y7,U7,d7,o7⟩,⟨h7,e7, -⟩,rfl,rfl⟩;obtain⟨hP7,e8,e9⟩:=hP4 ⟨s7,X7,Y7,U7,d7,o7⟩ h7 e7;dsimp only at e8 e9 hP7;simp only[aB]at e7;obtain⟨rfl,rfl,rfl⟩:=e7;subst e8 e9;refine An ?_;refine Vd ((⟨U2,⟨⟨s7,X7,Y7,U7,d7,o7⟩,X3,Z3⟩⟩:UI×(VS×dz×dJ))) (hP7.le O)
  clear hP;rintro⟨U,⟨⟨s,X,Y,Ug,d,og⟩,X2,Z2⟩⟩ hP;dsimp only at hP|-;obtain⟨v1,v2⟩:=hP.view;have ho7:=hP.g.o;have hsr7:=hP.ok.g.right;have hda:=hP.g.m.m.dl;have hdk:=hP.g.g.dv.wf.S8;dsimp only at ho7 hsr7 hdk;obtain⟨hd17,hr17, -⟩:=St.fits hsr7;refine Zs (Zr (ZA ?_));refine Vl (λw hi=>tX H ⟨s,X,Y,Ug,d,og⟩ (by rw[hP.hn];exact hP.ok) (by show J d.out<=_;omega) w (hi.okS Zi)) ?_;rintro _ _ ⟨Y1,rfl,rfl⟩;rw[v1];refine ZA ?_;refine UZ (λw hi=>Ge R N s X2 U.t Z2 d U.m.data hda hdk w (hi.get Zh) (hi.get Zh) (hi.get Zh) (hi.get Zh)) ?_;refine Vl (λw hi=>zt (GU s U d) (GU s U d) Y1 (dvY R N X2 Z2) v2 v2 w (Oe (hi.okS (Zic (vwC (GU s U d) Y1))) (by show J s.d*4<=_;omega) (by show J s.r*4<=_;omega)) ⟨hi.TX (UJ (Vf s X2.Ad X2.cd)) (UJ (Vj s X2.Ar X2.cr)) (by show J s.d*4<=_;omega) (by show J s.r*4<=_;omega),by show Rd w .u8 _ (J U.m.data) _ _;rw[hda];exact hi.rd (UJ (sl .u8 5 (sA R.K.bB) (N*64) (N*64) U.m.data)),hi.rd (UJ (b8 Z2.Ao Z2.co d.out)),oZ (hi.get (UJ (Wo Z2.Ai (J d.inp) Z2.ci (ints .u8 d.inp)))),by show Rd w .u8 _ (J d.S8) _ _;rw[hdk];exact hi.rd (UJ (Cj R.bd d.S8))⟩) ?_;rintro _ _ ⟨⟨r,rfl,hr⟩,rfl⟩;obtain rfl:r=true:=hr.2 I;refine ZA ?_;refine Zn (Zt (cK I (I) ?_));refine Zc (Zo (Zt (Zr (ZA ?_))));refine mT ?_;refine ZA ?_;refine Zn (Vd ((⟨⟨j+1,U⟩,⟨⟨s,X,Y,Ug,d,og⟩,X2,Z2⟩⟩:(Nat×UI)×(VS×dz×dJ))) ⟨⟨show j+1<=25 by omega,hP⟩,show 25 - (j+1)<25 - j by omega⟩)
 refine US ?_;refine UZ (λw hi=>Gx w (ht.old hi)) ?_;exact mZ
open Go
theorem fo(h:laidMetH prog Rows.topRefinesRow.laid W):iU W:=
 kC (t:=344) (e:=5) (Tv:=wG) h (MakeChecks.laidMetH_plain _ _ _ Vi) rfl (g:=0) Vi Vi Vi Vi Vi rfl gD
theorem ja(os:Os)(args:Array Value):laidMetH prog Rows.topRefinesRow.laid ((World.doorLaid prog 400 os).forCall (λ_ _=>0) ⟨#[],args,[]⟩).memory:=
 laidMetH_of_parts3 (fuel:=8) (laidMet_of_run' 8 Vi Vi) Vi Vi
set_option maxRecDepth 100000 in
theorem q9(os:Os)(started:os.Started)(H:Type)(enc:TypeId×Value->H):
  ReturnsInHanded {} checked os 11 .any (λw args=>(Rows.topRefinesSpec.pre enc prog f11 [] false w args/\laidMetH prog Rows.topRefinesRow.laid w)/\sizedMet enc prog f11 (OpenSpec.ofChange Rows.topRefinesSpec) false w args) (Rows.topRefinesSpec.post enc prog f11 false true false false):=
 lZ (C:=checked) (ts:=[71,3,22,137]) own0 started Vi func11
  (ChangeSpec.witness_shaped (enc:=enc) (C:=checked) (os:=os) (X:=λw _=>laidMetH prog Rows.topRefinesRow.laid w) false (World.doorLaid prog 400 os) #[.slice none 0 0,.i 0,.slice none 0 0,.slice none 0 0] 8 I (World.shaped_of_RefB Vi Vi) Vi Vi Vi (ja os _))
  rfl rfl rfl rfl (λds h=>by match ds,h with|[_,_,_,_],_=>rfl) D5 Vi (λW vs h hx=>by
   have ht:=fo hx;obtain⟨v0,_,rfl,a0,v1,_,rfl,a1,v2,_,rfl,a2,v3,_,rfl,a3,rfl⟩:=h;obtain⟨A,c,l,rfl,hl,hr⟩:=u7 a0;obtain⟨n1,rfl,w1⟩:=a1.int (k:= .i64) I;obtain⟨B,cb,b,rfl,hB,hb⟩:=mc a2;obtain⟨E,ce,es,rfl,hE,he⟩:=K2 a3;exact oN (yy A B E c cb ce l n1 b hb es W hl hr hB hE he ht))
set_option maxHeartbeats 0 in
theorem uA:Rows.TopRefinesSaid:=
 OpenClaim.holds_of_wide 11 f11 rfl rfl rfl rfl rfl rfl rfl ⟨rfl,rfl,rfl,rfl,rfl⟩ rfl rfl rfl rfl rfl sT func11 sU uB uz
  (λos started H enc _=>q9 os started H enc)
set_option maxHeartbeats 0 in
theorem topRefines_holds:Rows.TopRefinesCardSaid:=
 Claim7.holds_tied_plain_at .later [] [.data] true Rows.topRefinesCard.stood.harness false
  uA (λ_ h=>by cases h) Vi (λ_ h=>by cases h) topRefines_row_tie rfl ⟨rfl,rfl⟩ Vi rfl
  (λf fn hf hfn=>by
   obtain rfl:f=11:=aF ((show prog.funcNamed "innkeeper/innkeepertop.TopRefines" =some 11 by as_aux_lemma=>kernel_rfl).symm.trans hf)|>.symm
   obtain rfl:fn=f11:=(aF (func11.symm.trans hfn)).symm;exact⟨by as_aux_lemma=>kernel_rfl,λj t ht=>by
    have hm:t∈f11.params.toList:=by simpa using Array.mem_of_getElem? ht
    have hall:(f11.params.toList.all λu=> !prog.wantsStandIn u)=true:=by as_aux_lemma=>kernel_rfl
    exact(show prog.wantsStandIn t=false by simpa using List.all_eq_true.1 hall t hm)⟩)
  Vi
end Go.Proofs.YtepfimeihngjoaaGreatDoor
