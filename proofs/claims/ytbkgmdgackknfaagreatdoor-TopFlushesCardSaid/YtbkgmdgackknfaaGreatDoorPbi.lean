/- For every input the law TopFlushes answers true and leaves every argument as it was; the table of math/bits is what the program's text lays (the card ties it); no other condition. -/
import Derived.Test.YtbkgmdgackknfaaGreatDoorPaz
import Derived.JoinedOf
import Derived.Test.YtbkgmdgackknfaaGreatDoorCards
import Derived.Test.YtbkgmdgackknfaaGreatDoorTie
import Derived.SevenTiedAt
import Derived.Test.YtbkgmdgackknfaaGreatDoorPbiF
set_option linter.unusedSimpArgs false
set_option linter.unusedVariables false
set_option maxRecDepth 100000
set_option maxHeartbeats 4000000
namespace Go.Proofs.YtbkgmdgackknfaaGreatDoor
open Go.RowKit Go.Ink Go.Proofs.Tryz
attribute [local irreducible] OpY bH
theorem yR(A A2 A4:Option Addr)(c c2 c4:Nat)(l:List BoR)(its:List ItR)(fls:List Int)(w:World)(h:RdV w 3 A l.length c (l.flatMap BoR.cells))(hl:∀a,a∈l->a.ok w)(h2:RdV w 4 A2 its.length c2 (its.flatMap ItR.cells))(hit:∀x,x∈its->x.ok w)(h4:Rd w .i64 A4 fls.length c4 fls)(ht:fE w):
  Ctr prog 11 [.slice A l.length c,.slice A2 its.length c2,.slice A4 fls.length c4] w [] (λv cs=>v= .bool true/\cs=[]):=by
 refine Zfs func11 ntmps11 ?_;refine Z_8 ?_;refine ZSn (λw hi=>sb A c l w (h.RU hi) (λa ha=>(hl a ha).RU hi)) ?_;rintro _ _ ⟨A3,c3,L,J,⟨hI,hL1, -⟩,rfl,rfl⟩;have hL4:=hI.n4;have hboot:=fj hL1 hL4 hI.Sj;have hg3:=gO hI.Sj;refine Wq168 ?_;rintro _ _ ⟨_,⟨bm,m,⟨hm,hlm⟩,rfl,rfl⟩,rfl⟩;refine fB ?_;refine Wq84 ?_;rintro _ _ ⟨_,⟨bw,u,⟨hu,hlu⟩,rfl,rfl⟩,rfl⟩;refine kX ?_;refine Z_6 ?_;refine rh ?_;have hld:m.l.length=L.length:=(by rw[hlm,aV]);rw[<-hlm]at hlu;clear hlm hboot;refine dN (dq bm m++dq bw u) Zj (Z_4 ?_);refine bN (λq:Nat×Mon×Mon=>[(1,.slice A2 its.length c2),(2,.slice A4 fls.length c4),(7,.slice A3 L.length c3),(8,.p bm),(10,.p bw),(12,.i (q.1:Int))]) (λq=>dq bm q.2.1++dq bw q.2.2) (λq=>q.1<=25/\q.2.1.ok (160000*q.1)/\q.2.2.ok (160000*q.1)/\q.2.2.l=q.2.1.l/\q.2.1.l.length=L.length) (λq=>25 - q.1) ((⟨0,m,u⟩:Nat×Mon×Mon)) ?_ ?_ ?_ ?_
 .exact⟨au _,hm,hu,hlu,hld⟩
 .exact Zwk
 .exact Zu
 rintro⟨i,m,u⟩ ⟨hi25,hm,hu,hlu,hld⟩;dsimp only at hi25 hm hu hlu hld|-;refine uw ?_ ?_<;>intro hc7
 .have hc7':i<its.length/\i<25:=(by simp only[aD,ae]at hc7;omega);obtain⟨hil,hi3⟩:=hc7';obtain⟨ad,rfl⟩:=h2.some_ Wq1;obtain⟨x,hx⟩:∃x,its[i]? =some x:=⟨_,aa hil⟩;have hxo:=hit x (ak hx);have HT:=tR x hxo.rd.cap L.length hL1 hL4;have hyg:=qi hxo L.length;obtain⟨y,hy⟩:=Zgn (yZ x L.length);rw[hy]at HT hyg;have HD:=fw bm m (160000*i) hm Wq1 y hyg.b hyg.l hyg.n;have HE:=fw bw u (160000*i) hu Wq1 y hyg.b hyg.l hyg.n;rw[hlu]at HE;have hl2:=kv (l:=m.l) (x:=y.it);refine Wq34 ?_;refine ZN λb13=>?_
  refine jh ?_;refine jj ?_;rintro _ _ ⟨b64,rfl,rfl⟩;refine dz (dq bm m) (λw hi hin=>HD (sA b64) 1 w hin (λw' hk=>hi.Sr Zi (show Has _ (slv 35 4 (sA b64) 1 1 y.cells)from Zh) hk) (λw' hk=>RdV.RT hyg.rd hi Zi hk) (λw' hk=>RdV.RT ht hi Zi hk)) ?_;rintro _ _ ⟨m2,Y,bz,cz,J2,⟨hm2,hl3, -⟩,rfl,rfl⟩;refine Z_6 ?_;refine jj ?_;rintro _ _ ⟨b68,rfl,rfl⟩;refine dz (dq bw u) (λw hi hin=>HE (sA b68) 1 w hin (λw' hk=>hi.Sr Zi (show Has _ (slv 35 4 (sA b68) 1 1 y.cells)from Zh) hk) (λw' hk=>RdV.RT hyg.rd hi Zi hk) (λw' hk=>RdV.RT ht hi Zi hk)) ?_;rintro _ _ ⟨u2,Y2,bz2,cz2,J3,⟨hu2,hl4, -⟩,rfl,rfl⟩;rw[<-hl3]at hl4 hl2;clear HD HE;have hld2:=hl2.trans hld;refine Z_2 ?_;refine cD (λq:Mon=>[(1,.slice (some ad) its.length c2),(2,.slice A4 fls.length c4),(7,.slice A3 L.length c3),(8,.p bm),(10,.p bw),(12,.i (i:Int))]) (λq=>dq bm m2++dq bw q) (λq=>q.ok (160000*i+160000)/\q.l=m2.l) ?_ ?_
  .refine Zw8 ?_ ?_<;>intro hc12
   .simp only[ae]at hc12;have hcl:i<fls.length:=Wq1;obtain⟨af,rfl⟩:=h4.some_ Wq1;obtain⟨f,hf⟩:∃f,fls[i]? =some f:=⟨_,aa hcl⟩;obtain⟨gg,hgg⟩:=Zgn (gx f 0 ((L.length:Int) - 1));have HW:=λw=>hgg▸fu f 0 ((L.length:Int) - 1) w Wq7 Wq1 Wq1
    have hsm:=FD (l:=u2.l) (x:=⟨4,gg,0,[]⟩) (λa=>KD rfl);have HF:=λB d w hi hA ht=>fw bw u2 (160000*i+80000) hu2 Wq1 ⟨4,gg,0,none,0,[]⟩ eM (au _) (show(-9223372036854775808:Int)<=0 by decide) B d w hi hA (λw' _=>jq w' .u8) ht
    rw[hsm]at HF;refine Z_4 ?_;refine wJ ?_;refine dK (bF Zrf Zv0) (dL h4 (cq hf)) rfl (Z_2 ?_);refine oN ?_;refine ZSe (λw hi=>HW w) ?_;refine ZA ?_;refine jj ?_;rintro _ _ ⟨b84,rfl,rfl⟩;refine dz (dq bw u2) (λw hi hin=>HF (sA b84) 1 w hin (λw' hk=>hi.Sr Zi (show Has _ (slv 35 4 (sA b84) 1 1 [.i 4,.i gg,.i 0,.slice none 0 0])from Zh) hk) (λw' hk=>RdV.RT ht hi Zi hk)) ?_;rintro _ _ ⟨u3,Y5,bz5,cz5,J5,⟨hu3,hl5, -⟩,rfl,rfl⟩;refine Zn (bJ (u3) ?_ ?_ ?_)
    .exact⟨hu3.le Wq1,hl5.trans hl4⟩
    .exact Zwk
    exact Zj
   refine Zc (bJ (u2) ?_ ?_ ?_)
   .exact⟨hu2.le Wq1,hl4⟩
   .exact Zwk
   exact Zj
  rintro u4 ⟨hu4,hl6⟩;refine Z_6 ?_;refine bN (λq:Nat=>[(1,.slice (some ad) its.length c2),(2,.slice A4 fls.length c4),(7,.slice A3 L.length c3),(8,.p bm),(10,.p bw),(12,.i (i:Int)),(14,.i (q:Int))]) (λq=>dq bm m2++dq bw u4) (λq=>q<=L.length) (λq=>L.length - q) (0) ?_ ?_ ?_ ?_
  .exact au _
  .exact Zwk
  .exact Zu
  rintro k hkL;refine Zw9 ?_ ?_<;>intro hc15
  .simp only[ae]at hc15;obtain⟨a,ha⟩:∃a,m2.l[k]? =some a:=⟨_,aa (show k<m2.l.length by omega)⟩;have ha2:u4.l[k]? =some a:=(by rw[hl6];exact ha);have hgw:=(hm2.f _ (ak ha)).wf;refine Z_8 ?_;refine ZSn (λw hi=>ft bm m2 _ hm2 Wq1 k a ha w hi Zi) ?_;rintro _ _ ⟨Y6,J6,hR6,rfl,rfl⟩;refine Z_3 ?_;refine ZN λb15=>?_
   refine ZM ?_;refine Z_7 ?_;refine ZSn (λw hi=>ft bw u4 _ hu4 Wq1 k a ha2 w hi Zi) ?_;rintro _ _ ⟨Y7,J7,hR7,rfl,rfl⟩;refine Z_3 ?_;refine ZN λb17=>?_
   refine Wq81 ?_;refine gU (bE rfl rfl) rfl (dW rfl (λ_ _=>rfl) (λw hi=>mj a.view a.view Y6 Y7 hgw hgw w (hR6 w (hi.get (show Has _ (bQ J6)from Zh))) (hR7 w (hi.get (show Has _ (bQ J7)from Zh))))) rfl ?_;rintro _ _ ⟨_,⟨⟨r,rfl,hrr⟩,rfl⟩,rfl⟩;obtain rfl:r=true:=hrr.2 rfl;refine Z_4 ?_;refine iU ?_;refine gv ?_;refine bJ (k+1) ?_ ?_ ?_
   .exact wH
   .exact Zwk
   exact Zj
  simp only[ac]at hc15;refine Z_8 ?_;refine Wq6 ?_;refine bJ ((⟨i+1,m2,u4⟩:Nat×Mon×Mon)) ?_ ?_ ?_
  .exact⟨⟨show i+1<=25 by omega,hm2.le Wq1,hu4.le Wq1,hl6,hld2⟩,show 25 - (i+1)<25 - i by omega⟩
  .exact Zwk
  exact Zj
 refine Z_7 ?_;refine ZSe (λw hi=>AE w (ht.old hi)) ?_;exact mF
open Go
theorem cX{W:World}(h:laidMetH prog Rows.topFlushesRow.laid W):fE W:=
 fU (t:=280) (e:=5) (Si:=qe) h (MakeChecks.laidMetH_plain _ _ _ Wq4) rfl (g:=0) Wq4 Wq4 Wq4 Wq4 Wq4 rfl gq
theorem eO(os:Os)(args:Array Value):laidMetH prog Rows.topFlushesRow.laid ((World.doorLaid prog 400 os).forCall (λ_ _=>0) ⟨#[],args,[]⟩).memory:=
 laidMetH_of_parts3 (fuel:=8) (laidMet_of_run' 8 Wq4 Wq4) Wq4 Wq4
set_option maxRecDepth 100000 in
theorem ru(os:Os)(started:os.Started)(H:Type)(enc:TypeId×Value->H):
  ReturnsInHanded {} checked os 11 .any (λw args=>(Rows.topFlushesSpec.pre enc prog f11 [] false w args/\laidMetH prog Rows.topFlushesRow.laid w)/\sizedMet enc prog f11 (OpenSpec.ofChange Rows.topFlushesSpec) false w args) (Rows.topFlushesSpec.post enc prog f11 false true false false):=
 hH (C:=checked) (ts:=[63,23,55]) Nj started Wq4 func11
  (ChangeSpec.witness_shaped (enc:=enc) (C:=checked) (os:=os) (X:=λw _=>laidMetH prog Rows.topFlushesRow.laid w) false (World.doorLaid prog 400 os) #[.slice none 0 0,.slice none 0 0,.slice none 0 0] 8 rfl (World.shaped_of_RefB Wq4 Wq4) Wq4 Wq4 Wq4 (eO os _))
  rfl rfl rfl rfl (λds h=>by match ds,h with|[_,_,_],_=>rfl) vJ Wq4 (λW vs h hx=>by
   have ht:=cX hx;obtain⟨v0,_,rfl,a0,v1,_,rfl,a1,v2,_,rfl,a2,rfl⟩:=h;obtain⟨A,c,l,rfl,hl,hr⟩:=pk a0;obtain⟨B,cb,b,rfl,h2,hi2⟩:=gM a1;obtain⟨D,cd,d,rfl,h3, -, -⟩:=a2.ints (e:=3) (k:= .i64) rfl rfl rfl;exact jl (yR A B D c cb cd l b d W hl hr h2 hi2 h3 ht))
set_option maxHeartbeats 0 in
theorem uP:Rows.TopFlushesSaid:=
 OpenClaim.holds_of_wide 11 f11 rfl rfl rfl rfl rfl rfl rfl ⟨rfl,rfl,rfl,rfl,rfl⟩ rfl rfl rfl rfl rfl tq func11 tv uQ uO
  (λos started H enc _=>ru os started H enc)
set_option maxHeartbeats 0 in
theorem topFlushes_holds:Rows.TopFlushesCardSaid:=
 Claim7.holds_tied_plain_at .later [] [.data] true Rows.topFlushesCard.stood.harness false
  uP (λ_ h=>by cases h) Wq4 (λ_ h=>by cases h) topFlushes_row_tie rfl ⟨rfl,rfl⟩ Wq4 rfl
  (λf fn hf hfn=>by
   obtain rfl:f=11:=ax ((show prog.funcNamed "innkeeper/innkeepertop.TopFlushes" =some 11 by as_aux_lemma=>kernel_rfl).symm.trans hf)|>.symm
   obtain rfl:fn=f11:=(ax (func11.symm.trans hfn)).symm;exact⟨by as_aux_lemma=>kernel_rfl,λj t ht=>by
    have hm:t∈f11.params.toList:=by simpa using Array.mem_of_getElem? ht
    have hall:(f11.params.toList.all λu=> !prog.wantsStandIn u)=true:=by as_aux_lemma=>kernel_rfl
    exact(show prog.wantsStandIn t=false by simpa using aY.1 hall t hm)⟩)
  Wq4
#print axioms topFlushes_holds
end Go.Proofs.YtbkgmdgackknfaaGreatDoor
