/- Lemmas. -/
import Derived.Test.YtepfimeihngjoaaGreatDoorXbm
import Derived.Test.YtepfimeihngjoaaGreatDoorXbn
set_option linter.all false
set_option maxRecDepth 100000
set_option maxHeartbeats 4000000
namespace Go.Ink
open List renaming length→J, replicate→R9
open IntKind renaming wrap→V9
open Go.RowKit Go.Proofs.Tryz
variable{d:UF}{c:Int}
variable{k:Nat}
section
attribute [local irreducible] Ve bN
variable{n:Nat}
abbrev Yx(F:EF)(n:Nat)(M:UO)(T:List TE)(d:UF):List bJ:=Yd F St.new ⟨none,0,none,0⟩::Yf F St.new ⟨none,0,none,0⟩::(VK F.bu F.bb F.L F.D ⟨none,0,none,0⟩ ⟨M,T⟩ d++(V6 F.K n M++[fv F.bx F.K.bm T]++eI F.by_ F.K.bm F.bd ⟨none,0,none,0⟩ d))
theorem vJ(A B:Oa)(c e n:Nat)(l k:Li)(hn0:1<=n)(hn:n<=64)(hl:J l<=n*64)(hb:Vh l)(hk:J k<=1024)(w:World)(h:Rd w .u8 A (J l) c l)(hB:Rd w .u8 B (J k) e k):
  UW prog 26 [NZ A c l B e k n] w [] (λv cs=>∃F,F.L.n=n/\v= .p F.bw/\cs=Yx F n (UO.init n l) cX (UF.init k)):=by
 refine(xP A B c e n l k hn0 hn hl hb hk w h hB).mono ?_;rintro v cs ⟨F,hF,rfl,rfl⟩;refine⟨F,hF,I,?_⟩;have e:(UO.init n l).SX.take n=R9 n false:=by show(R9 64 false).take n=_;rw[List.take_replicate,Nat.min_eq_left hn]
 unfold fr18 Yx V6;rw[e]
 rfl
end
end Go.Ink
namespace Go.Ink
open List renaming length→J
open IntKind renaming wrap→V9
open Go.RowKit
theorem FC(a:Int):J (g9 (rC a))<=30:=kD (rC a) 6
theorem Lr(a:Int):Vh (g9 (rC a)):=mj _ _
end Go.Ink
namespace Go.Ink
open List renaming length→J
open IntKind renaming wrap→V9
open Go.RowKit
theorem w6.flush{room from_:Int}{j:Nat}{s:St}{E:Vy}(h:w6 room from_ j s E)(ml:Nat)(fl:Int):w6 room from_ j s ⟨E.bc,E.mr,E.room,⟨ml,none,0,fl,[],[]⟩,[],E.last,E.Ti,E.Tk,E.begun⟩:=
 ⟨h.ok.flushed ml fl,h.room,h.Ti,h.Tk,h.sum⟩
end Go.Ink
namespace Go.Proofs.YtepfimeihngjoaaGreatDoor
open List renaming length→J
open IntKind renaming wrap→V9
open Go.RowKit Go.Ink Go.Proofs.Tryz
attribute [local irreducible] Ve bN
theorem yw:NS [] St.new ⟨none,0,none,0⟩ ⟨none,0,none,0⟩:=λw _=>⟨iL.nil_ w I I,iL.nil_ w I I⟩
abbrev CP(F:EF)(n:Nat)(s:St)(X V:dz)(cin:List bJ)(Y Z:dJ)(U:UI)(d:UF):List bJ:=Yd F s X::Yf F s V::dm cin::(VK F.bu F.bb F.L F.D Y U d++V7 F.K F.bx n F.by_ F.bd Z U d)
theorem nA(F:EF)(n:Nat)(hn:n<=64)(hF:F.L.n=n)(room:Int)(hr:1<=room/\room<=1024)(m:Nat)(hm:m<=60)(s:St)(X V:dz)(cin:List bJ)(h2:NS cin s X V)(Y Z:dJ)(U:UI)(d:UF)(hG:WQ n 0 s U d)(A B:Oa)(c e:Nat)(evs:List Xz)(fl:List Bool)(hem:J evs<=maxLen)(hfm:J fl<=maxLen)(w:World)
  (hi:Inv w (bM (CP F n s X V cin Y Z U d)) (CP F n s X V cin Y Z U d) w) (hE:∀w',dc (bM (CP F n s X V cin Y Z U d)) w w'->U5 w' 3 A (J evs) c (evs.flatMap Xz.cells)) (hEo:∀w',dc (bM (CP F n s X V cin Y Z U d)) w w'->∀a,a∈evs->a.ok w')
  (hB:∀w',dc (bM (CP F n s X V cin Y Z U d)) w w'->U5 w' 1 B (J fl) e (fl.map Value.bool)) (ht:∀w',dc (bM (CP F n s X V cin Y Z U d)) w w'->iU w'):
  UW prog 25 [.p F.bw,.i room,.i m,.slice A (J evs) c,.slice B (J fl) e] w (CP F n s X V cin Y Z U d) (λv cs=>v= .bool true/\cs=[]):=by
 simp only[maxLen]at hem hfm;have HN:=qG room hr;obtain⟨from_,hfr⟩:=Do (s.count);have hcnt:=hG.g.wf.count;rw[hfr]at hcnt;refine Vb func25 ntmps25 hi ?_;refine Va ?_;refine Vl (λw hi=>HN w) ?_;rintro _ _ ⟨be,E,⟨hE1,hE0⟩,rfl,rfl⟩;have hU0:w6 room from_ 0 s E:=⟨hE1,by rw[hE0];rfl,by show 0<=E.eng.Ti;rw[hE0];exact Int.le_refl _,by show 0<=E.eng.Tk;rw[hE0];exact Int.le_refl _,0,by show E.eng.Ti+E.eng.Tk=_;rw[hE0];rfl,ax _,by rw[hfr,aP];omega⟩;clear hE0 hE1;refine jS ?_;refine An ?_;refine lN ?_;refine nW ?_;refine gE (CP F n s X V cin Y Z U d++Vt be E) Zj (UK ?_);refine mB (λq:(Nat×St×List bJ)×(dz×dz)×(dJ×dJ)×UI×UF×Vy=>[(0,.p F.bw),(1,.i room),(2,.i m),(3,.slice A (J evs) c),(4,.slice B (J fl) e),(11,.p be),(13,.int .u64 from_),(14,.i (q.1.1:Int))]) (λq=>CP F n q.1.2.1 q.2.1.1 q.2.1.2 q.1.2.2 q.2.2.1.1 q.2.2.1.2 q.2.2.2.1 q.2.2.2.2.1++Vt be q.2.2.2.2.2) (λq=>WQ n (8*q.1.1) q.1.2.1 q.2.2.2.1 q.2.2.2.2.1/\q.1.1<=m/\NS q.1.2.2 q.1.2.1 q.2.1.1 q.2.1.2/\w6 room from_ q.1.1 q.1.2.1 q.2.2.2.2.2) (λq=>m - q.1.1) (⟨⟨0,s,cin⟩,⟨X,V⟩,⟨Y,Z⟩,U,d,E⟩) ?_ ?_ ?_ ?_
 .exact⟨hG,ax _,h2,hU0⟩
 .exact Xq
 .exact CB
 rintro⟨⟨j,s,cin⟩,⟨X,V⟩,⟨Y,Z⟩,U,d,E⟩ ⟨hG,hj,h2,hU⟩;dsimp only at hG hj h2 hU|-;refine Wp ?_ ?_<;>intro hc6
 .simp only[ai]at hc6;refine UQ ?_;refine cj (λq:dJ×dJ×UF=>[(0,.p F.bw),(1,.i room),(2,.i m),(3,.slice A (J evs) c),(4,.slice B (J fl) e),(11,.p be),(13,.int .u64 from_),(14,.i (j:Int)),(54,.bool false)]) (λq=>CP F n s X V cin q.1 q.2.1 U q.2.2++Vt be E) (λq=>WQ n (8*j) s U q.2.2) ?_ ?_
  .refine(Nat.lt_or_ge j (J evs)).elim (λhke=>?_) (λhke=>?_)
   .obtain⟨ae,rfl⟩:=(hE w (dc.refl _ _)).some_ O;have hla:evs[j]? =some (evs[j]'hke):=ak hke;have hok:=λw' hk=>hEo w' hk _ (List.getElem_mem hke)
    obtain⟨r,hr9⟩:=Do (evs[j]'hke);rw[hr9]at hla hok;obtain⟨kd,en,eB,ecb,ebs⟩:=r;have hbs:=(hok w (dc.refl _ _)).bs;have hrd:=λw' hk=>(hok w' hk).rd
    dsimp only at hrd hbs;refine UK ?_;refine Zy (GF (Zv I) (Zv I) (ap (show(j:Int)<(J evs:Int) by omega))) ?_;refine UK ?_;refine V3 I I (cZ (j:=j) I ir (cO I) (cO I) UL UL) ?_;refine iX (bS I I) (bX (vs:=Xz.cells ⟨kd,en,eB,ecb,ebs⟩) ir ir (cO I)) (Hu hE (λj v hj=>fw Xz.Tm (i:=j) hla hj)) I (gm (bS I I) I (dh (Yg F s s X V Y Z d) I (λ_ _=>I) Zi (λw hi hin=>Qd F s s X V Y Z d hG.i.i64 kd en eB ecb ebs w hin (λw' hk=>hrd w' (hi.TC Zi hk)))) I ?_);rintro _ _ ⟨_,⟨Y2,Z2,rfl,rfl⟩,rfl⟩;refine UN ?_;refine Vd ((⟨Y2,Z2,Sv kd en ebs d⟩:dJ×dJ×UF)) ⟨(Eh hG.g hG.i kd en hbs).1,hG.m,(Eh hG.g hG.i kd en hbs).2.1,by rw[(Eh hG.g hG.i kd en hbs).2.2];exact hG.o⟩
   refine UK ?_;refine Zy (GF (Zv I) (Zv I) (ao (show¬(j:Int)<(J evs:Int) by omega))) ?_;refine UK ?_;refine Υ ?_;refine Zy (Ay (q:=false) (Zv I) ⟨_,I,λ_ e=>by simp at e⟩) ?_;refine Zn (Vd ((⟨Y,Z,d⟩:dJ×dJ×UF)) hG)
  clear hG;rintro⟨Y,Z,d⟩ hG;dsimp only at hG|-;refine lN ?_;refine Zc (Zt ?_);refine cj (λq:Vy=>[(0,.p F.bw),(1,.i room),(2,.i m),(3,.slice A (J evs) c),(4,.slice B (J fl) e),(11,.p be),(13,.int .u64 from_),(14,.i (j:Int))]) (λq=>CP F n s X V cin Y Z U d++Vt be q) (λq=>w6 room from_ j s q) ?_ ?_
  .refine Zs ((Nat.lt_or_ge j (J fl)).elim (λhkf=>?_) (λhkf=>?_))
   .obtain⟨ae,rfl⟩:=(hB w (dc.refl _ _)).some_ O;obtain⟨fb,hfb⟩:∃b,fl[j]? =some b:=⟨_,ak hkf⟩;have hfx:(fl.map Value.bool)[j]? =some (.bool fb):=(by rw[List.getElem?_map,hfb];rfl);refine UK ?_;refine Zy (GF (Zv I) (Zv I) (ap (show(j:Int)<(J fl:Int) by omega))) ?_;refine UN ?_;refine V3 I I (cZ (j:=j) I ir (cO I) (cO I) UL UL) ?_;refine iX (bS I I) (bO ir (cO I)) (tQ hB hfx) I (VP ?_ ?_)<;>intro hc10
    .refine UN ?_;refine dH (Vt be E) (λw hi hin=>Ci be E w hin) ?_;rintro _ _ ⟨ml,fz,rfl⟩;refine UQ ?_;refine Vq (Vt be ⟨E.bc,E.mr,E.room,⟨ml,none,0,fz,[],[]⟩,[],E.last,E.Ti,E.Tk,E.begun⟩) (λw hi hin=>rQ be ⟨E.bc,E.mr,E.room,⟨ml,none,0,fz,[],[]⟩,[],E.last,E.Ti,E.Tk,E.begun⟩ w hin) ?_;refine rZ ?_;refine Zc (Vd ((⟨E.bc,E.mr,E.room,⟨ml,none,0,fz,[],[]⟩,[],E.last,E.Ti,E.Tk,E.begun⟩:Vy)) (hU.flush ml fz))
    refine Zc (Vd (E) hU)
   refine UK ?_;refine Zy (GF (Zv I) (Zv I) (ao (show¬(j:Int)<(J fl:Int) by omega))) ?_;refine UN ?_;refine IX ?_;refine IX ?_;refine π ?_;refine Vd (E) hU
  clear hU;rintro E hU;obtain⟨hd16,hr16, -⟩:=St.fits hG.g.right;have ho:=hG.o;have HD:=MF be F.bu F.bb F.L F.D Y s X.Ad X.Ar X.cd X.cr U d (hF▸hG.g) O E hU.ok;have HRB:=uX F.K F.bx n F.by_ F.bd Z s V.Ad V.Ar V.cd V.cr U d hG.g hG.m O;have hG2:=hG.block;have hU2:=λE' a b=>hU.next (E':=E') O O hG.g a b
  obtain⟨r1, -⟩:=Gg (n:=n) O hG.g hU.ok.eg;rw[hF]at HD;rw[r1]at HD;obtain⟨⟨s2,U2,d2⟩,hq⟩:=Do (cS n s U d);rw[hq]at HD HRB hG2 hU2;dsimp only at hG2 hU2;have ho2:=hG2.o;have HA:=λX V Y Z w hi=>IQ F n hF s2 hG2.g.right X V Y Z U2 d2 hG2.g.u O hG2.g.dv O w hi
  refine cj (λq:dz×dJ×Vy=>[(0,.p F.bw),(1,.i room),(2,.i m),(3,.slice A (J evs) c),(4,.slice B (J fl) e),(11,.p be),(13,.int .u64 from_),(14,.i (j:Int))]) (λq=>Yd F s2 q.1::Yf F s V::Vf s2 q.1.Ad q.1.cd::Vj s2 q.1.Ar q.1.cr::dm cin::(VK F.bu F.bb F.L F.D q.2.1 U2 d2++(V7 F.K F.bx n F.by_ F.bd Z U d++Vt be q.2.2))) (λq=>w6 room from_ (j+1) s2 q.2.2) ?_ ?_
  .refine iC (Vg [14,17]) [(0,0),(1,0),(2,0),(3,0),(4,0),(5,1),(6,0),(7,0),(8,0),(9,1),(10,0),(11,0),(12,0),(13,1),(14,2),(15,0),(16,0),(17,2)] Zk Zk (zW ?_);refine tD ?_;refine ZY ?_;refine yq I (bX (vs:=s.cells (.slice X.Ad (J s.d) X.cd) (.slice X.Ar (J s.r) X.cr)) ir ir py) (cq Zh I) I (tD ?_);refine RF ?_;refine Ν ?_;refine et ?_;refine ZcSn (WT be F.bu F.bb F.L F.D Y U d E) (λw hi hin=>HD w hin (λw' hk=>(h2 w' (hi.TM Zi (UJ (dm cin)) hk)).1) (λw' hk=>ht w' (hi.TC Zi hk))) ?_;rintro _ _ ⟨X2,Y2,E3,hE3,hEe,rfl,rfl⟩;refine ZY ?_;refine et ?_;refine sk I I (eo (ys:=Yu F s2 X2) (n:=16) (vs:=s2.cells (.slice X2.Ad (J s2.d) X2.cd) (.slice X2.Ar (J s2.r) X2.cr)) I ir I I (jR I) Za I (Nat.le_of_ble_eq_true I)) ZJ ?_;refine UR ?_;refine jU (Vd ((⟨X2,Y2,E3⟩:dz×dJ×Vy)) (hU2 E3 hE3 hEe))
  rintro⟨X2,Y2,E3⟩ hU3;dsimp only at hU3|-;have hlen:=Qj hU3.ok I;rw[hU3.room]at hlen;refine cj (λq:dz×dJ=>[(0,.p F.bw),(1,.i room),(2,.i m),(3,.slice A (J evs) c),(4,.slice B (J fl) e),(11,.p be),(13,.int .u64 from_),(14,.i (j:Int))]) (λq=>SE F n s2 X2 q.1 Y2 q.2 U2 d2++Vt be E3) (λ_=>True) ?_ ?_
  .refine bQ (WM [25,28] (m5 F.bw (Yu F s2 X2))) Zk (lO ?_);refine UE 2 19 ?_;refine eY 3 I Zk Zk Zk (bO ir py) (dx I) (bP (t:=70) Zh) I (ZE 4 ?_);refine ZE 5 ?_;refine UE 6 19 ?_;refine ZE 11 ?_;refine ZE 12 ?_;refine UE 13 19 ?_;refine ZE 18 ?_;refine ZE 19 ?_;refine UE 20 19 ?_;refine wa_3 7 14 21 Zk ?_ ?_ ?_
   .refine Y0 ?_;refine pS 14 21 Zk ?_ ?_
    .refine NE ?_;refine cP 21 Zk (ND ?_);exact Yi
    refine ND ?_;refine ku ?_;refine NE ?_;exact Yi
   .refine NE ?_;refine pS 7 21 Zk ?_ ?_
    .refine Y0 ?_;refine cP 21 Zk (ND ?_);exact Yi
    refine ND ?_;refine iK ?_;refine Y0 ?_;exact Yi
   refine ND ?_;refine pS 7 14 Zk ?_ ?_
   .refine Y0 ?_;refine ku ?_;refine NE ?_;exact Yi
   refine NE ?_;refine iK ?_;refine Y0 ?_;exact Yi
  rintro⟨V2,Z2⟩ -;dsimp only;refine UN ?_;refine Vq (SE F n s2 X2 V2 Y2 Z2 U2 d2) (λw hi hin=>HA X2 V2 Y2 Z2 w hin) ?_;refine mA [Vf s2 X2.Ad X2.cd,Vj s2 X2.Ar X2.cr,Vf s2 V2.Ad V2.cd,Vj s2 V2.Ar V2.cr] Zi (UN ?_);refine gm (bR I I) I (dh (Vt be E3) I (λ_ _=>I) Zi (λw hi hin=>rQ be E3 w hin)) I ?_;refine Vz ?_;refine ZB ?_;refine WV I I (N5 (cO I) (cO I) (ao (show¬room<(J E3.X.Z:Int) by omega))) ?_;refine UN ?_;refine j6 ?_;refine W8 ?_;refine Vd ((⟨⟨j+1,s2,[Vf s2 X2.Ad X2.cd,Vj s2 X2.Ar X2.cr,Vf s2 V2.Ad V2.cd,Vj s2 V2.Ar V2.cr]⟩,⟨X2,V2⟩,⟨Y2,Z2⟩,U2,d2,E3⟩:(Nat×St×List bJ)×(dz×dz)×(dJ×dJ)×UI×UF×Vy)) ⟨⟨hG2.le (show 8*j+8<=8*(j+1) by omega),show j+1<=m by omega,two_two hG2.g.right X2 V2,hU3⟩,show m - (j+1)<m - j by omega⟩
 refine US ?_;obtain⟨-, -,hf0,hs0,cc,hs1,hs2,hs3⟩:=hU;refine ZA ?_;refine Vq (Vt be E) (λw hi hin=>zK be E w hin) ?_;refine eL ?_;refine Zy (CU (Zv I) (Zv I) (ap hf0)) ?_;refine An ?_;refine V3 I I (CU (cO I) (Zv I) (ap hs0)) ?_;refine UN ?_;refine I4 ?_;refine ZB ?_;refine I4 ?_;refine V3 I I (dy (cO I) (cO I) I) ?_;refine UU ?_;refine V3 I I (ez (cO I) (cO I) I) ?_;refine V3 I I (ly (cO I) (cO I) (beq_iff_eq.2 (show V9 .u64 (E.Ti+E.Tk)=V9 .u64 (s.count - from_) by rw[hs3];simp only[aP];omega))) ?_;exact qP
end Go.Proofs.YtepfimeihngjoaaGreatDoor
namespace Go.Proofs.YtepfimeihngjoaaGreatDoor
open List renaming length→J
open Go.RowKit Go.Ink Go.Proofs.Tryz
attribute [local irreducible] Ve bN
theorem zL(A B C D:Oa)(c e cc cd:Nat)(l:List w7)(SV room:Int)(k:Li)(hk:Vh k)(evs:List Xz)(fl:List Bool)(w:World)(h:U5 w 5 A (J l) c (l.flatMap w7.cells))(hl:∀a,a∈l->a.ok w)(hB:Rd w .u8 B (J k) e k)(hE:U5 w 3 C (J evs) cc (evs.flatMap Xz.cells))(hel:∀a,a∈evs->a.ok w)(hF:U5 w 1 D (J fl) cd (fl.map Value.bool))(ht:iU w):
  CW prog 5 [.slice A (J l) c,.i SV,.slice B (J k) e,.slice C (J evs) cc,.i room,.slice D (J fl) cd] w (.bool true):=by
 have hem:J evs<=maxLen:=aN hE.cap hE.max;have hfm:J fl<=maxLen:=aN hF.cap hF.max;have HI:=zx A B c e l SV k hk;have hk2:J (k.take 1024)<=1024:=by rw[aO];omega
 have hkb:Vh (k.take 1024):=λx hx=>hk x (aM hx)
 have hB2:=fI hB 1024;obtain⟨r0,hr0⟩:=Do (eN room 1 9);have hrr:=eM room 1 9 ne;rw[hr0]at hrr;have HW:=λw=>hr0▸fy room 1 9 w ne ne ne
 refine UV func5 ntmps5 ?_;refine Θ ?_;rintro _ _ ⟨_,⟨A1,c1,E1,E2,N,⟨hE1,⟨hn1,hn2⟩,hE2⟩,rfl,rfl⟩,rfl⟩;have hE1':Vh (E1.take (N*64)):=(λx hx=>hE1 x (aM hx));have hG0:=(qy (n:=N) hn1 O hE2 hE1' hk2 hkb).to25;have HF:=vJ A1 B c1 e N (E1.take (N*64)) (k.take 1024) hn1 O hE2 hE1' hk2;obtain⟨M0,hM0⟩:=Do (UO.init N (E1.take (N*64)));obtain⟨T0,hTT⟩:=Do (cX);obtain⟨d0,hd⟩:=Do (UF.init (k.take 1024));rw[hM0,hTT,hd]at HF hG0;refine Vl (λw hi=>HF w (fI (hi.rd (UJ (sl .u8 5 A1 (J E1) c1 E1))) (N*64)) (hB2.Tb hi)) ?_;rintro _ _ ⟨F,hFn,rfl,rfl⟩;refine mA [] Zi (ZA ?_);refine wV ?_;refine An ?_;refine Vq (CP F N St.new XD XD [] WN WN ⟨M0,T0⟩ d0) (λw hi hin=>nA F N O hFn r0 ⟨hrr.1,by omega⟩ 50 ne St.new XD XD [] yw WN WN ⟨M0,T0⟩ d0 hG0 C D cc cd evs fl hem hfm w hin (λw' hk=>U5.Th hE hi Zi hk) (λw' hk a ha=>⟨U5.Th (hel a ha).rd hi Zi hk,(hel a ha).bs⟩) (λw' hk=>U5.Th hF hi Zi hk) (λw' hk=>U5.Th ht hi Zi hk)) ?_;exact Wq384
end Go.Proofs.YtepfimeihngjoaaGreatDoor
