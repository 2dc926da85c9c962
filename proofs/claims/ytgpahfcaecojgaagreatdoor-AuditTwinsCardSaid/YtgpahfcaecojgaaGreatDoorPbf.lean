/- For every input the law AuditTwins answers true and leaves every argument as it was; the table of math/bits is what the program's text lays (the card ties it); no other condition. -/
import Derived.Test.YtgpahfcaecojgaaGreatDoorPbd
import Derived.JoinedOf
import Derived.Test.YtgpahfcaecojgaaGreatDoorCards
import Derived.Test.YtgpahfcaecojgaaGreatDoorTie
import Derived.SevenTiedAt
import Derived.Test.YtgpahfcaecojgaaGreatDoorPbfF
set_option linter.all false
set_option maxRecDepth 100000
set_option maxHeartbeats 4000000
namespace Go.Proofs.YtgpahfcaecojgaaGreatDoor
open Go.RowKit Go.Ink Go.Proofs.Tryz
attribute [local irreducible] OpY bN
theorem BT(A B:Oa)(c e:Nat)(l:List BoR)(its:List ItR)(w:World)(h:RdV w 3 A l.length c (l.flatMap BoR.cells))(hl:∀a,a∈l->a.ok w)(h2:RdV w 4 B its.length e (its.flatMap ItR.cells))(hit:∀x,x∈its->x.okN w)(ht:fc w):
  CW prog 5 [.slice A l.length c,.slice B its.length e] w (.bool true):=by
 refine Zfs func5 ntmps5 ?_;refine ng ?_;refine Qp ?_;refine Z_4 ?_;refine wLo (λq:DS=>[(0,.slice A l.length c),(1,.slice B its.length e),(5,.slice q.A q.L.length q.c),(6,.i (q.i:Int))]) (λq=>[slv 59 3 q.A q.L.length q.c (q.L.flatMap Im.cells),bP q.J,slv 41 4 none 0 0 []]) (λq=>q.i<=5/\q.i<=l.length/\q.L.length=q.i/\ImN l q.L q.J) (λq=>5 - q.i) ((⟨0,[],none,0,[]⟩:DS)) ⟨ap _,ap _,rfl,⟨(λx hx=>by cases hx),(λw _ _ x hx=>by cases hx)⟩⟩ ?_;rintro⟨i,L,A1,c1,J⟩ ⟨hi5,hil,hLi,hI⟩;dsimp only at hi5 hil hLi hI|-;refine yk ?_ ?_<;>intro hc3
 .have hc3':i<l.length/\i<5:=Wq433;obtain⟨hkl,hk5⟩:=hc3';obtain⟨ad,rfl⟩:=h.some_ Wq1;obtain⟨a,hla⟩:∃a,l[i]? =some a:=⟨_,ae hkl⟩;have ham:=ak hla;have hao:=hl a ham;refine Z_4 ?_;refine Wq149 ?_;rintro _ _ ⟨_,⟨A2,c2,E,E2,N,⟨hE1,hn,hE2⟩,rfl,rfl⟩,rfl⟩;refine GL ?_;rintro _ _ ⟨b42,rfl,rfl⟩;refine fT ?_;refine jG rfl rfl (bV (e:=59) (sz:=3) (bytes:=56) rfl rfl Za rfl rfl (λw hi=>hi.rd (Zhc (slv 59 3 (sA b42) 1 1 (Im.cells ⟨A2,c2,E.take (N*64),a.B,a.e,a.k.take 1024,(N:Int)⟩)))) (pC ⟨A2,c2,E.take (N*64),a.B,a.e,a.k.take 1024,(N:Int)⟩) Wq9 Wq1) ZJ rfl ?_;rintro _ _ ⟨A3,c3,rfl,rfl⟩;rw[show L.length+1=(L++[(⟨A2,c2,E.take (N*64),a.B,a.e,a.k.take 1024,(N:Int)⟩:Im)]).length from(by rw[aj];rfl),show L.flatMap Im.cells++Im.cells ⟨A2,c2,E.take (N*64),a.B,a.e,a.k.take 1024,(N:Int)⟩=(L++[(⟨A2,c2,E.take (N*64),a.B,a.e,a.k.take 1024,(N:Int)⟩:Im)]).flatMap Im.cells from(by rw[List.flatMap_append,bF,List.flatMap_nil,aw])];refine Wq342 ?_;refine qMP ((⟨i+1,L++[(⟨A2,c2,E.take (N*64),a.B,a.e,a.k.take 1024,(N:Int)⟩:Im)],A3,c3,[sl .u8 5 A2 E.length c2 E,bP J]⟩:DS)) ⟨⟨show i+1<=5 by omega,show i+1<=l.length by omega,by rw[aj,hLi];rfl,hI.snoc ham hao.bs hE1 hn⟩,show 5 - (i+1)<5 - i by omega⟩
 refine ue ?_;refine wLo (λq:Nat×Option Addr×Nat=>[(1,.slice B its.length e),(5,.slice A1 L.length c1),(7,.slice q.2.1 ((its.take q.1).map xH).length q.2.2),(8,.i (q.1:Int))]) (λq=>[slv 59 3 A1 L.length c1 (L.flatMap Im.cells),bP J,iU q.2.1 q.2.2 ((its.take q.1).map xH)]) (λq=>q.1<=25/\q.1<=its.length) (λq=>25 - q.1) ((⟨0,none,0⟩:Nat×Option Addr×Nat)) ⟨ap _,ap _⟩ ?_;rintro⟨j,B1,e1⟩ ⟨hj20,hjl⟩;dsimp only at hj20 hjl|-;refine yk ?_ ?_<;>intro hc8
 .have hc8':j<its.length/\j<25:=(by simp only[au,ac]at hc8;omega);obtain⟨hjt,hj2⟩:=hc8';obtain⟨ad2,rfl⟩:=h2.some_ Wq1;obtain⟨x,hx⟩:∃x,its[j]? =some x:=⟨_,ae hjt⟩;have hxo:=hit x (ak hx);have HC:=λw=>tA x.A x.c x.b 70 w hxo.o.rd.cap
  have HN:=λw=>eU x.n 0 50 w bX bX bX
  have HG:=λw=>eU x.Wq 0 4 w bX bX bX
  have hsn:(its.take (j+1)).map xH=(its.take j).map xH++[xH x]:=Qr;have hjn:((its.take j).map xH).length=j:=yq;obtain⟨kd,g,n,xA,xc,xb⟩:=x;dsimp only at HC HN HG;refine Wq420 ?_;refine ZN λb9=>?_
  refine jj ?_;refine BV ?_;refine iJ ?_;refine Z_2 ?_;refine cL (λq:Int=>[(1,.slice (some ad2) its.length e),(5,.slice A1 L.length c1),(7,.slice B1 ((its.take j).map xH).length e1),(8,.i (j:Int)),(9,.p b9)]) (λq=>[slv 59 3 A1 L.length c1 (L.flatMap Im.cells),bP J,iU B1 e1 ((its.take j).map xH),row b9 [.i kd,.i g,.i q,.slice xA (xb.take 70).length xc] 41]) (λq=>q=(bif decide (80<n)then dF n 0 50 else n)) ?_ ?_
  .refine Zw7 ?_ ?_<;>intro hc12
   .rw[hc12];refine Z_3 ?_;refine ZSe (λw hi=>HN w) ?_;refine iJ ?_;refine Zn (qMP (dF n 0 50) rfl)
   rw[hc12];refine Zc (qMP (n) rfl)
  rintro q hq;refine Z_4 ?_;refine ZSe (λw hi=>HG w) ?_;refine iJ ?_;refine Z_3 ?_;have htm:xH ⟨kd,g,n,xA,xc,xb⟩=⟨kd,dF g 0 4,q,xA,xc,xb.take 70⟩:=(by unfold xH;rw[<-hq]);rw[htm]at hsn;refine Z_2 ?_;refine pZ ?_;rintro _ _ ⟨b75,rfl,rfl⟩;refine fo (bV (e:=41) (sz:=4) (bytes:=48) rfl rfl Za rfl rfl (λw hi=>hi.rd (Zhc (slv 41 4 (sA b75) 1 1 (ItR.cells ⟨kd,dF g 0 4,q,xA,xc,xb.take 70⟩)))) (je ⟨kd,dF g 0 4,q,xA,xc,xb.take 70⟩) Wq9 Wq1) rfl ?_;rintro _ _ ⟨B2,e2,rfl,rfl⟩;rw[(eA (ys:=(its.take j).map xH) (y:=⟨kd,dF g 0 4,q,xA,xc,xb.take 70⟩)).1,(eA (ys:=(its.take j).map xH) (y:=⟨kd,dF g 0 4,q,xA,xc,xb.take 70⟩)).2,<-hsn];refine xu ?_;refine qMP ((⟨j+1,B2,e2⟩:Nat×Option Addr×Nat)) ⟨⟨show j+1<=25 by omega,show j+1<=its.length by omega⟩,show 25 - (j+1)<25 - j by omega⟩
 have hTm:∀x,x∈(its.take j).map xH->(u8s x.b/\x.b.length<=1000/\ -9223372036854775808<=x.n)/\Rd w .u8 x.A x.b.length x.c x.b:=(λx hx=>by obtain⟨y,hy,rfl⟩:=aZ.1 hx;exact Ra (hit y (aB hy)));have hTl:((its.take j).map xH).length<=25:=yq;have hg3:=oP hI.WO;obtain⟨T,hT⟩:=Zgn ((its.take j).map xH);rw[hT]at hTm hTl|-;refine Z_9 ?_;refine ZSe (λw hi=>Mo A1 c1 L B1 e1 T Wq1 hg3 (λx hx=>(hTm x hx).1) w (hi.rd (Zhc (slv 59 3 A1 L.length c1 (L.flatMap Im.cells)))) (hI.rd w (λa ha=>(hl a ha).dk.Wh hi) (hi.get (Zhc (bP J)))) (hi.rd (Zhc (iU B1 e1 T))) (λx hx=>(hTm x hx).2.Wh hi) (ht.old hi)) ?_;refine Z_8 ?_;by_cases hb0:jB L=0
 .rw[if_pos hb0];refine Z_2 ?_;refine ZSn (λw hi=>uP hb0 hg3 (hi.rd (Zhc (slv 59 3 A1 L.length c1 (L.flatMap Im.cells)))) (hI.rd w (λa ha=>(hl a ha).dk.Wh hi) (hi.get (Zhc (bP J))))) ?_;rintro _ _ ⟨bm,m,⟨hm,hlm⟩,rfl,rfl⟩;refine sG ?_;refine oU ?_;refine UA ?_;refine iX ?_;refine Z_6 ?_;refine dy (eE bm m) (λw hi hin=>NV bm m 0 hm T Wq1 B1 e1 (λx hx=>(hTm x hx).1) w hin (λw' hk=>hi.WZ Zi (Zhc (iU B1 e1 T)) hk) (λw' hk x hx=>RdV.Wm (hTm x hx).2 hi Zi hk) (λw' hk=>RdV.Wm ht hi Zi hk)) ?_;rintro _ _ ⟨m2,Z6,A6,c6,J6,⟨hm2,hl6,hZ6,hJ6⟩,rfl,rfl⟩;have hZl:Z6.length=T.length:=(by have q:=congrArg List.length hZ6;rw[ax,qC,ax]at q;exact q);refine Z_9 ?_;refine Zy (jn (Zv rfl) (Zv rfl) (show _=true from by rw[hZl];exact beq_self_eq_true _)) ?_;refine Z_2 ?_;refine fF (bS rfl rfl) rfl (dN (eE bm m2) rfl (λ_ _=>rfl) Zi (λw hi hin=>z9 bm m2 _ hm2 w hin)) rfl ?_;rintro _ _ ⟨_,⟨rfl,rfl⟩,rfl⟩;refine Z_2 ?_;exact fF (bS rfl rfl) rfl (dh rfl (λ_ _=>rfl) (λw hi=>oO w)) rfl US
 rw[if_neg hb0];refine Z_2 ?_;refine ZSe (λw hi=>BR rfl hb0 hg3 (hi.rd (Zhc (slv 59 3 A1 L.length c1 (L.flatMap Im.cells)))) (hI.rd w (λa ha=>(hl a ha).dk.Wh hi) (hi.get (Zhc (bP J))))) ?_;refine UO ?_;refine xw ?_;refine ng ?_;refine fF (bS rfl rfl) rfl (dh rfl (λ_ _=>rfl) (λw hi=>CJ w)) rfl ?_;rintro _ _ ⟨_,⟨rfl,rfl⟩,rfl⟩;refine Z_3 ?_;refine fF (bS rfl rfl) rfl (dh rfl (λ_ _=>rfl) (λw hi=>oO w)) rfl ?_;rintro _ _ ⟨_,⟨rfl,rfl⟩,rfl⟩;refine Z_6 ?_;exact ru
open Go
theorem dm{W:World}(h:laidMetH prog Rows.auditTwinsRow.laid W):fc W:=
 fV (t:=318) (e:=5) (WE:=qf) h (MakeChecks.laidMetH_plain _ _ _ Wq4) rfl (g:=0) Wq4 Wq4 Wq4 Wq4 Wq4 rfl Wq9
theorem eP(os:Os)(args:Array Value):laidMetH prog Rows.auditTwinsRow.laid ((World.doorLaid prog 400 os).forCall (λ_ _=>0) ⟨#[],args,[]⟩).memory:=
 laidMetH_of_parts3 (fuel:=8) (laidMet_of_run' 8 Wq4 Wq4) Wq4 Wq4
set_option maxRecDepth 100000 in
theorem sy(os:Os)(started:os.Started)(H:Type)(enc:TypeId×Value->H):
  ReturnsInHanded {} checked os 5 .any (λw args=>(Rows.auditTwinsSpec.pre enc prog f5 [] false w args/\laidMetH prog Rows.auditTwinsRow.laid w)/\sizedMet enc prog f5 (OpenSpec.ofChange Rows.auditTwinsSpec) false w args) (Rows.auditTwinsSpec.post enc prog f5 false true false false):=
 hH (C:=checked) (ts:=[57,24]) QL started Wq4 func5
  (ChangeSpec.witness_shaped (enc:=enc) (C:=checked) (os:=os) (X:=λw _=>laidMetH prog Rows.auditTwinsRow.laid w) false (World.doorLaid prog 400 os) #[.slice none 0 0,.slice none 0 0] 8 rfl (World.shaped_of_RefB Wq4 Wq4) Wq4 Wq4 Wq4 (eP os _))
  rfl rfl rfl rfl (λds h=>by match ds,h with|[_,_],_=>rfl) wm Wq4 (λW vs h hx=>by
   have ht:=dm hx;obtain⟨v0,_,rfl,a0,v1,_,rfl,a1,rfl⟩:=h;obtain⟨A,c,l,rfl,hl,hr⟩:=sW a0;obtain⟨B,cb,b,rfl,h2,hi2⟩:=ix a1;exact jk (BT A B c cb l b W hl hr h2 hi2 ht))
set_option maxHeartbeats 0 in
theorem xm:Rows.AuditTwinsSaid:=
 OpenClaim.holds_of_wide 5 f5 rfl rfl rfl rfl rfl rfl rfl ⟨rfl,rfl,rfl,rfl,rfl⟩ rfl rfl rfl rfl rfl tX func5 tY xo xj
  (λos started H enc _=>sy os started H enc)
set_option maxHeartbeats 0 in
theorem auditTwins_holds:Rows.AuditTwinsCardSaid:=
 Claim7.holds_tied_plain_at .later [] [.data] true Rows.auditTwinsCard.stood.harness false
  xm (λ_ h=>by cases h) Wq4 (λ_ h=>by cases h) auditTwins_row_tie rfl ⟨rfl,rfl⟩ Wq4 rfl
  (λf fn hf hfn=>by
   obtain rfl:f=5:=ay ((show prog.funcNamed "innkeeper/innkeeperlaw27.AuditTwins" =some 5 by as_aux_lemma=>kernel_rfl).symm.trans hf)|>.symm
   obtain rfl:fn=f5:=(ay (func5.symm.trans hfn)).symm;exact⟨by as_aux_lemma=>kernel_rfl,λj t ht=>by
    have hm:t∈f5.params.toList:=by simpa using Array.mem_of_getElem? ht
    have hall:(f5.params.toList.all λu=> !prog.wantsStandIn u)=true:=by as_aux_lemma=>kernel_rfl
    exact(show prog.wantsStandIn t=false by simpa using aQ.1 hall t hm)⟩)
  Wq4
#print axioms auditTwins_holds
end Go.Proofs.YtgpahfcaecojgaaGreatDoor
