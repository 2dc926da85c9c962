/- For every input the law TopBytes answers true and leaves every argument as it was; the table of math/bits is what the program's text lays (the card ties it); no other condition. -/
import Derived.Test.YtepfimeihngjoaaGreatDoorXbt
import Derived.JoinedOf
import Derived.Test.YtepfimeihngjoaaGreatDoorCards
import Derived.Test.YtepfimeihngjoaaGreatDoorTie
import Derived.SevenTiedAt
import Derived.Test.YtepfimeihngjoaaGreatDoorXzbF
set_option linter.all false
set_option maxRecDepth 100000
set_option maxHeartbeats 4000000
namespace Go.Proofs.YtepfimeihngjoaaGreatDoor
open List renaming length→J
open IntKind renaming wrap→V9
open Go.RowKit Go.Ink Go.Proofs.Tryz
attribute [local irreducible] Ve bN
theorem GJ(x:Int):V9 .u64 (V9 .i64 (V9 .u64 x))=V9 .u64 x:=by
 simp only[aP,bI];omega
theorem Da(A C:Oa)(c cc:Nat)(b:Li)(hb:Vh b)(SV:Int)(runs:Li)(w:World)(h:Rd w .u8 A (J b) c b)(hC:Rd w .i64 C (J runs) cc runs)(ht:iU w):
  CW prog 3 [.slice A (J b) c,.i SV,.slice C (J runs) cc] w (.bool true):=by
 have hem:J runs<=maxLen:=aN hC.cap hC.max;simp only[maxLen]at hem;have hnil:Vh ([]:Li):=λx hx=>by cases hx
 obtain⟨n0,hn0⟩:=Do (eN SV 1 20);have hnr:=eM SV 1 20 ne;rw[hn0]at hnr;have HW0:=λw=>hn0▸fy SV 1 20 w ne ne ne
 obtain⟨N,rfl⟩:∃m:Nat,n0=m:=aj O;have hb1:=od hb (N*64);have hbl:J (b.take (N*64))<=N*64:=by rw[aO];omega
 have h1:=fI h (N*64);have HCut:=λw=>sO A c b (N*64) w h.cap
 obtain⟨bb,hbb⟩:=Do (b.take (N*64));rw[hbb]at hb1 hbl h1 HCut;have HF:=λw hA=>uD N O O A none c 0 bb [] hbl hb1 ne hnil true w hA (y6 w .u8)
 have HR:=λw hA=>sB A none c 0 N bb [] O hbl ne w hA (y6 w .u8)
 refine UV func3 ntmps3 ?_;refine Va ?_;refine UZ (λw hi=>HW0 w) ?_;refine US ?_;refine Zy (fT (Zv I) (Zv I) (show _=((N*64:Nat):Int)from by rw[aQ _ ⟨by omega,by omega⟩];omega)) ?_;refine UZ (λw hi=>HCut w) ?_;refine An ?_;refine ZN λb8=>?_
 refine ij ?_;refine dZ (bX (vs:=[.slice A (J bb) c,.slice none 0 0,.i (N:Int)]) ir ir py) (cq Zh I) I (Vl (λw hi=>HF w (h1.Tb hi)) ?_);rintro _ _ ⟨H,⟨s,XG,Y,Ug,d,og⟩,hBo,rfl,rfl⟩;obtain⟨rfl,rfl,hP⟩:=hBo.pair O O hbl hb1 ne hnil;clear hBo;refine UQ ?_;refine dZ (bX (vs:=[.slice A (J bb) c,.slice none 0 0,.i (N:Int)]) ir ir py) (cq Zh I) I (Vl (λw hi=>HR w (h1.Tb hi)) ?_);rintro _ _ ⟨R,rfl,rfl⟩;refine eL ?_;refine j6 ?_;clear HF HR;obtain⟨M0,hM0⟩:=Do (UO.init N bb);obtain⟨T0,hT0⟩:=Do (cX);obtain⟨d0,hd0⟩:=Do (UF.init []);rw[hM0,hT0,hd0]at hP|-;refine Nv ?_;refine gE (Vp H ⟨St.new,XG,Y,Ug,d0,og⟩++Wx R N St.new g0S g0D (⟨M0,T0⟩:UI) d0) Zj (UK ?_);refine mB (λq:(Nat×UI)×(VS×dz×dJ)=>[(2,.slice C (J runs) cc),(9,.p H.bg),(10,.p R.bg),(11,.i (q.1.1:Int))]) (λq=>Vp H q.2.1++Wx R N q.2.1.s q.2.2.1 q.2.2.2 q.1.2 q.2.1.d) (λq=>q.1.1<=20/\wz H N (720*q.1.1) q.2.1 q.1.2) (λq=>20 - q.1.1) (⟨⟨0,(⟨M0,T0⟩:UI)⟩,⟨⟨St.new,XG,Y,Ug,d0,og⟩,g0S,g0D⟩⟩) ?_ ?_ ?_ ?_
 .exact⟨ax _,hP⟩
 .exact Xq
 .exact CB
 rintro⟨⟨j,U⟩,⟨⟨s,X,Y,Ug,d,og⟩,X2,Z2⟩⟩ ⟨hj,hP⟩;dsimp only at hj hP|-;refine Ab ?_ ?_<;>intro hc8
 .have hc8':(decide ((j:Int)<(J runs:Int))&&decide ((j:Int)<20))=true:=hc8;simp only[ay,ai]at hc8';have hkl:j<J runs:=O;obtain⟨ad,rfl⟩:=hC.some_ O;obtain⟨x,hx⟩:∃x,runs[j]? =some x:=⟨_,ak hkl⟩;obtain⟨m,hm⟩:=Do (eN x 0 90);have hmr:=eM x 0 90 ne;rw[hm]at hmr;have HW:=λw=>hm▸fy x 0 90 w ne ne ne
  have hgo:=hP.g.o;dsimp only at hgo;have H4:=λw hi ht=>vE H ⟨s,X,Y,Ug,d,og⟩ (by rw[hP.hn];omega) (by rw[hP.hn];exact hP.ok) m O O CD w hi ht
  have H5:=uW R.K R.bx N R.by_ R.bd Z2 s X2 U d (720*j) hP.g m O O O;have hP4:=λG' a b=>hP.run (G':=G') m a b
  have hsr:=hP.ok.g.right;dsimp only at hsr;obtain⟨hd16,hr16, -⟩:=St.fits hsr;rw[hP.hn]at H4;dsimp only at H4 hP4;obtain⟨⟨s3,U3,d3⟩,hq3⟩:=Do (eH N m s Ug d);obtain⟨⟨s2,U2,d2⟩,hq2⟩:=Do (eH N m s U d);rw[hq3]at H4;rw[hq2]at H5;rw[hq3,hq2]at hP4;dsimp only at H4 H5 hP4;refine Va ?_;refine NB ?_;refine dZ (bO ir py) (dK hC (cw hx)) I (wV ?_);refine UK ?_;refine Wq313 ?_;refine wT ?_;refine ZZ ?_;refine rX (dsF R.K R.bx N R.by_ R.bd s X2 Z2 U d) (λw hi hin=>H5 w hin) ?_;rintro _ _ ⟨X3,Z3,rfl,rfl⟩;refine Wq276 ?_;refine UR ?_;refine fh ?_;refine UK ?_;refine Vl (λw hi=>qt H ⟨s,X,Y,Ug,d,og⟩ w (hi.get Zh) (hi.TX (UJ (Vf s X.Ad X.cd)) (UJ (Vj s X.Ar X.cr)) (by show J s.d*4<=_;omega) (by show J s.r*4<=_;omega))) ?_;rintro _ _ ⟨A3,c3,A4,c4,rfl,rfl⟩;refine Zy (tL I I ir py I) ?_;refine US ?_;refine dH (Vp H ⟨s,X,Y,Ug,d,og⟩) (λw hi hin=>H4 w hin (λw' hk=>U5.Th ht hi Zi hk)) ?_;rintro _ _ ⟨⟨s7,X7,Y7,U7,d7,o7⟩,⟨h7,e7, -⟩,rfl,rfl⟩;obtain⟨hP7,e8,e9⟩:=hP4 ⟨s7,X7,Y7,U7,d7,o7⟩ h7 e7;dsimp only at e8 e9 hP7;simp only[aB]at e7;obtain⟨rfl,rfl,rfl⟩:=e7;subst e8 e9;obtain⟨v1,v2⟩:=hP7.view;have ho7:=hP7.g.o;have hsr7:=hP7.ok.g.right;have hda:=hP7.g.m.m.dl;have hdk:=hP7.g.g.dv.wf.S8;dsimp only at ho7 hsr7 hdk;obtain⟨hd17,hr17, -⟩:=St.fits hsr7;refine Zy (cz I I (Zv I) (GJ _)) ?_;refine ZA ?_;refine Vl (λw hi=>qt H ⟨s7,X7,Y7,U7,d7,o7⟩ w (hi.get Zh) (hi.TX (UJ (Vf s7 X7.Ad X7.cd)) (UJ (Vj s7 X7.Ar X7.cr)) (by show J s7.d*4<=_;omega) (by show J s7.r*4<=_;omega))) ?_;rintro _ _ ⟨A5,c5,A6,c6,rfl,rfl⟩;refine Zy (tL I I ir py I) ?_;refine ZA ?_;refine sa ?_;refine Zy (Aw (Zv I) (Zv I) (bne_self_eq_false _)) ?_;refine An ?_;refine gm (bR I I) I (dT I (λ_ _=>I) (λw hi=>tX H ⟨s7,X7,Y7,U7,d7,o7⟩ (by rw[hP7.hn];exact hP7.ok) (by show J d7.out<=_;omega) w (hi.okS Zi))) rfl ?_;rintro _ _ ⟨_,⟨Y1,rfl,rfl⟩,rfl⟩;rw[v1];refine ZB ?_;refine gm (bR I I) I (dT I (λ_ _=>I) (λw hi=>Ge R N s7 X3 U2.t Z3 d7 U2.m.data hda hdk w (hi.get Zh) (hi.get Zh) (hi.get Zh) (hi.get Zh))) I ?_;refine Vz ?_;refine gm (bR I I) I (dT I (λ_ _=>I) (λw hi=>zt (GU s7 U2 d7) (GU s7 U2 d7) Y1 (dvY R N X3 Z3) v2 v2 w (Oe (hi.okS (Zic (vwC (GU s7 U2 d7) Y1))) (by show J s7.d*4<=_;omega) (by show J s7.r*4<=_;omega)) ⟨hi.TX (UJ (Vf s7 X3.Ad X3.cd)) (UJ (Vj s7 X3.Ar X3.cr)) (by show J s7.d*4<=_;omega) (by show J s7.r*4<=_;omega),by show Rd w .u8 _ (J U2.m.data) _ _;rw[hda];exact hi.rd (UJ (sl .u8 5 (sA R.K.bB) (N*64) (N*64) U2.m.data)),by show Rd w .u8 Z3.Ao (J d7.out) Z3.co d7.out;exact hi.rd (UJ (sl .u8 5 Z3.Ao (J d7.out) Z3.co d7.out)),oZ (hi.get (UJ (Wo Z3.Ai (J d7.inp) Z3.ci (ints .u8 d7.inp)))),by show Rd w .u8 _ (J d7.S8) _ _;rw[hdk];exact hi.rd (UJ (Cj R.bd d7.S8))⟩)) I ?_;rintro _ _ ⟨_,⟨⟨r,rfl,hr⟩,rfl⟩,rfl⟩;obtain rfl:r=true:=hr.2 I;refine UK ?_;refine j6 ?_;refine W8 ?_;refine Vd ((⟨⟨j+1,U2⟩,⟨⟨s7,X7,Y7,U7,d7,o7⟩,X3,Z3⟩⟩:(Nat×UI)×(VS×dz×dJ))) ⟨⟨show j+1<=20 by omega,hP7.le CD⟩,show 20 - (j+1)<20 - j by omega⟩
 refine US ?_;refine UZ (λw hi=>Gx w (ht.old hi)) ?_;exact mZ
open Go
theorem fo{W:World}(h:laidMetH prog Rows.topBytesRow.laid W):iU W:=
 kC (t:=344) (e:=5) (Tv:=wG) h (MakeChecks.laidMetH_plain _ _ _ Vi) rfl (g:=0) Vi Vi Vi Vi Vi rfl gD
theorem ja(os:Os)(args:Array Value):laidMetH prog Rows.topBytesRow.laid ((World.doorLaid prog 400 os).forCall (λ_ _=>0) ⟨#[],args,[]⟩).memory:=
 laidMetH_of_parts3 (fuel:=8) (laidMet_of_run' 8 Vi Vi) Vi Vi
set_option maxRecDepth 100000 in
theorem uC(os:Os)(started:os.Started)(H:Type)(enc:TypeId×Value->H):
  ReturnsInHanded {} checked os 3 .any (λw args=>(Rows.topBytesSpec.pre enc prog f3 [] false w args/\laidMetH prog Rows.topBytesRow.laid w)/\sizedMet enc prog f3 (OpenSpec.ofChange Rows.topBytesSpec) false w args) (Rows.topBytesSpec.post enc prog f3 false true false false):=
 lZ (C:=checked) (ts:=[22,3,23]) own0 started Vi func3
  (ChangeSpec.witness_shaped (enc:=enc) (C:=checked) (os:=os) (X:=λw _=>laidMetH prog Rows.topBytesRow.laid w) false (World.doorLaid prog 400 os) #[.slice none 0 0,.i 0,.slice none 0 0] 8 I (World.shaped_of_RefB Vi Vi) Vi Vi Vi (ja os _))
  rfl rfl rfl rfl (λds h=>by match ds,h with|[_,_,_],_=>rfl) D5 Vi (λW vs h hx=>by
   have ht:=fo hx;obtain⟨v0,_,rfl,a0,v1,_,rfl,a1,v2,_,rfl,a2,rfl⟩:=h;obtain⟨A,c,b,rfl,hB,hb⟩:=mc a0;obtain⟨n1,rfl,w1⟩:=a1.int (k:= .i64) I;obtain⟨C,cc,rs,rfl,hC, -, -⟩:=a2.ints (e:=3) (k:= .i64) I I I;exact oN (Da A C c cc b hb n1 rs W hB hC ht))
set_option maxHeartbeats 0 in
theorem yA:Rows.TopBytesSaid:=
 OpenClaim.holds_of_wide 3 f3 rfl rfl rfl rfl rfl rfl rfl ⟨rfl,rfl,rfl,rfl,rfl⟩ rfl rfl rfl rfl rfl wH func3 wI yB yz
  (λos started H enc _=>uC os started H enc)
set_option maxHeartbeats 0 in
theorem topBytes_holds:Rows.TopBytesCardSaid:=
 Claim7.holds_tied_plain_at .later [] [.data] true Rows.topBytesCard.stood.harness false
  yA (λ_ h=>by cases h) Vi (λ_ h=>by cases h) topBytes_row_tie rfl ⟨rfl,rfl⟩ Vi rfl
  (λf fn hf hfn=>by
   obtain rfl:f=3:=aF ((show prog.funcNamed "innkeeper/innkeepertop.TopBytes" =some 3 by as_aux_lemma=>kernel_rfl).symm.trans hf)|>.symm
   obtain rfl:fn=f3:=(aF (func3.symm.trans hfn)).symm;exact⟨by as_aux_lemma=>kernel_rfl,λj t ht=>by
    have hm:t∈f3.params.toList:=by simpa using Array.mem_of_getElem? ht
    have hall:(f3.params.toList.all λu=> !prog.wantsStandIn u)=true:=by as_aux_lemma=>kernel_rfl
    exact(show prog.wantsStandIn t=false by simpa using List.all_eq_true.1 hall t hm)⟩)
  Vi
end Go.Proofs.YtepfimeihngjoaaGreatDoor
