/- For every input the law TopScripts answers true and leaves every argument as it was; the table of math/bits is what the program's text lays (the card ties it); no other condition. -/
import Derived.Test.YtgpahfcaecojgaaGreatDoorPba
import Derived.Test.YtgpahfcaecojgaaGreatDoorPbj
import Derived.JoinedOf
import Derived.Test.YtgpahfcaecojgaaGreatDoorCards
import Derived.Test.YtgpahfcaecojgaaGreatDoorTie
import Derived.SevenTiedAt
import Derived.Test.YtgpahfcaecojgaaGreatDoorPbvF
set_option linter.all false
set_option maxRecDepth 100000
set_option maxHeartbeats 4000000
namespace Go.Proofs.YtgpahfcaecojgaaGreatDoor
open Go
open Go.RowKit Go.Ink Go.Proofs.Tryz
attribute [local irreducible] OpY bN
theorem zZ(A0:Oa)(c0:Nat)(bl:Li)(hbl:u8s bl)(A B:Oa)(c e:Nat)(l:List BoR)(its:List ItR)(w:World)(h0:Rd w .u8 A0 bl.length c0 bl)(h:RdV w 3 A l.length c (l.flatMap BoR.cells))(hl:∀a,a∈l->a.ok w)(h2:RdV w 4 B its.length e (its.flatMap ItR.cells))(hit:∀x,x∈its->x.ok w)(ht:fc w):
  CW prog 13 [.slice A0 bl.length c0,.slice A l.length c,.slice B its.length e] w (.bool true):=by
 have hmay:=G1 hit 4;obtain⟨tm,htm⟩:=Zgn ((λx=>Cz x 4));have htx:∀x,Cz x 4=tm x:=λx=>congrFun htm x
 rw[htm]at hmay;refine Zfs func13 ntmps13 ?_;refine Z_8 ?_;refine ZSn (λw hi=>nB true A0 c0 bl hbl w (h0.Wh hi) (ht.old hi)) ?_;rintro _ _ ⟨R1,hR1,rfl,rfl⟩;refine ZA ?_;refine ZSn (λw hi=>nB false A0 c0 bl hbl w (h0.Wh hi) (ht.old hi)) ?_;rintro _ _ ⟨R2,hR2,rfl,rfl⟩;obtain⟨A1,c1,Z1,J1,B1,e1,V1,K1,y1⟩:=R1;obtain⟨A2,c2,Z2,J2,B2,e2,V2,K2,y2⟩:=R2;have hRR:=yO ⟨A1,c1,Z1,J1,B1,e1,V1,K1,y1⟩ ⟨A2,c2,Z2,J2,B2,e2,V2,K2,y2⟩ _ _ hR1 hR2;have hj1:=hR1.j;have hj2:=hR2.j;have hk1:=hR1.k;have hk2:=hR2.k;dsimp only at hj1 hj2 hk1 hk2 hRR;refine ZN λb7=>?_
 refine ZN λb8=>?_
 refine ZM ?_;refine rf ?_;refine ZSe (λw hi=>hRR w (hi.rd (Zhc (vU A1 c1 Z1))) (hi.rd (Zhc (vU A2 c2 Z2))) (hj1 w (hi.get (Zhc (bP J1)))) (hj2 w (hi.get (Zhc (bP J2)))) (hi.rd (Zhc (Co B1 e1 V1))) (hi.rd (Zhc (Co B2 e2 V2))) (hk1 w (hi.get (Zhc (bP K1)))) (hk2 w (hi.get (Zhc (bP K2))))) ?_;refine iX ?_;refine Z_5 ?_;refine ZSn (λw hi=>ze A c l w (h.Wh hi) (λa ha=>(hl a ha).Wh hi)) ?_;rintro _ _ ⟨A3,c3,L,J,⟨hI,hL1, -⟩,rfl,rfl⟩;have hL4:=hI.n4;have hboot:=(w8 L).symm.trans (pK hL1 hL4 hI.WO);have hg3:=oP hI.WO;refine ZA ?_;refine ZN λb9=>?_
 refine mR ?_;refine cY 41 4 (eY [row b9 [.slice A3 L.length c3,.slice none 0 0] 27,imC A3 c3 L,bP J,iU none 0 []] Zj (Z_4 ?_));refine wLo (λq:Nat×Option Addr×Nat=>[(2,.slice B its.length e),(9,.p b9),(10,.i (q.1:Int))]) (λq=>[row b9 [.slice A3 L.length c3,.slice q.2.1 ((its.take q.1).map tm).length q.2.2] 27,imC A3 c3 L,bP J,iU q.2.1 q.2.2 ((its.take q.1).map tm)]) (λq=>q.1<=15/\q.1<=its.length) (λq=>15 - q.1) ((⟨0,none,0⟩:Nat×Option Addr×Nat)) ⟨ap _,ap _⟩ ?_;rintro⟨j,B3,e3⟩ ⟨hj20,hjl⟩;dsimp only at hj20 hjl|-;refine yk ?_ ?_<;>intro hc6
 .have hc6':j<its.length/\j<15:=(by simp only[au,ac]at hc6;omega);obtain⟨hjt,hj2'⟩:=hc6';obtain⟨ad2,rfl⟩:=h2.some_ Wq1;obtain⟨x,hx⟩:∃x,its[j]? =some x:=⟨_,ae hjt⟩;have hxo:=hit x (ak hx);have HT:=G3 x hxo.rd.cap 4 bX bX;rw[htx x]at HT;have hsn:(its.take (j+1)).map tm=(its.take j).map tm++[tm x]:=Qr;have hjn:((its.take j).map tm).length=j:=yq;refine Z_4 ?_;refine bU (Zdn [8,10]) Zk (ui ?_);refine ZE 2 ?_;refine ZE 3 ?_;refine Zy4 4 rfl (cC (j:=j) rfl Zrf (Zv rfl) (Zv rfl) Wq2 Wq2) ?_;refine kQ ?_;refine JB rfl (bW (vs:=x.cells) Zrf Zrf Zv0) (cE h2 (λk v hk=>bZ ItR.V8 (i:=k) hx hk)) rfl (cW 6 Zk (ZTn (λw hi=>HT w) ?_));rintro _ _ ⟨rfl,rfl⟩;refine ic ?_;refine gX rfl rfl (gZ rfl rfl Zrf Zrf rfl rfl rfl) ZJ rfl ?_;rintro _ _ ⟨b41,rfl,rfl⟩;refine ig ?_;refine gX rfl rfl (bV (e:=41) (sz:=4) (bytes:=48) rfl rfl Za rfl rfl (λw hi=>hi.rd (Zhc (slv 41 4 (sA b41) 1 1 (tm x).cells))) (je (tm x)) Wq9 Wq1) ZJ rfl ?_;rintro _ _ ⟨B4,e4,rfl,rfl⟩;rw[(eA (ys:=(its.take j).map tm) (y:=tm x)).1,(eA (ys:=(its.take j).map tm) (y:=tm x)).2,<-hsn];refine ZFe 9 1 ?_;refine mb ?_;refine o9 ?_;refine jS ?_;refine qMP ((⟨j+1,B4,e4⟩:Nat×Option Addr×Nat)) ⟨⟨show j+1<=15 by omega,show j+1<=its.length by omega⟩,show 15 - (j+1)<15 - j by omega⟩
 have hTl:((its.take j).map tm).length<=15:=yq;have hTm:=hmay j;obtain⟨T,hT⟩:=Zgn ((its.take j).map tm);rw[hT]at hTm hTl|-;have ht5:(T.map ItR.it).take 512=T.map ItR.it:=aM GA;refine Z_5 ?_;refine cL (λq:Nat×Nat×fN×fN=>[(9,.p b9),(11,.p q.1),(12,.p q.2.1)]) (λq=>[row b9 [.slice A3 L.length c3,.slice B3 T.length e3] 27,row q.1 q.2.2.1.cells 45,row q.2.1 q.2.2.2.cells 45]++(q.2.2.1.cs++q.2.2.2.cs)) (λq=>q.2.2.1.ok (L.map Im.si) (T.map ItR.it)/\q.2.2.2.ok (L.map Im.si) (T.map ItR.it)) ?_ ?_
 .refine bU (Zdr [6,7] (mU b9 [.slice A3 L.length c3,.slice B3 T.length e3])) Zk (ZI 0 ?_);refine nl 2 rfl Zk Zk Zk (bW Zrf Zrf Zv0) (λx hx=>dT x hx) (bL (t:=27) Zh) rfl (wa_3 1 4 5 Zk ?_ ?_ ?_)
  .refine Wq24 ?_;rintro _ _ ⟨_,⟨R3,hR3,rfl,rfl⟩,rfl⟩;refine wa_3 3 4 5 Zk ?_ ?_ ?_
   .refine Wq7 ?_;rintro _ _ ⟨_,⟨R4,hR4,rfl,rfl⟩,rfl⟩;refine kW 4 5 Zk ?_ ?_
    .refine Um ?_;rintro _ _ ⟨b11,rfl,rfl⟩;refine kQ ?_;refine Ul ?_;rintro _ _ ⟨b12,rfl,rfl⟩;refine kj ?_;rintro _ _ ⟨rfl,rfl⟩;refine ki ?_;rintro _ _ ⟨rfl,rfl⟩;refine dR ?_;rw[ht5]at hR3 hR4;refine qMP ((⟨b11,b12,R3,R4⟩:Nat×Nat×fN×fN)) ⟨hR3,hR4⟩
    refine Ul ?_;rintro _ _ ⟨b12,rfl,rfl⟩;refine cW 4 Zk (Um ?_);rintro _ _ ⟨b11,rfl,rfl⟩;refine kj ?_;rintro _ _ ⟨rfl,rfl⟩;refine ki ?_;rintro _ _ ⟨rfl,rfl⟩;refine dR ?_;rw[ht5]at hR3 hR4;refine qMP ((⟨b11,b12,R3,R4⟩:Nat×Nat×fN×fN)) ⟨hR3,hR4⟩
   .refine Um ?_;rintro _ _ ⟨b11,rfl,rfl⟩;refine kW 3 5 Zk ?_ ?_
    .refine Wq7 ?_;rintro _ _ ⟨_,⟨R4,hR4,rfl,rfl⟩,rfl⟩;refine kQ ?_;refine Ul ?_;rintro _ _ ⟨b12,rfl,rfl⟩;refine kj ?_;rintro _ _ ⟨rfl,rfl⟩;refine ki ?_;rintro _ _ ⟨rfl,rfl⟩;refine dR ?_;rw[ht5]at hR3 hR4;refine qMP ((⟨b11,b12,R3,R4⟩:Nat×Nat×fN×fN)) ⟨hR3,hR4⟩
    refine Ul ?_;rintro _ _ ⟨b12,rfl,rfl⟩;refine cW 3 Zk (Wq7 ?_);rintro _ _ ⟨_,⟨R4,hR4,rfl,rfl⟩,rfl⟩;refine kj ?_;rintro _ _ ⟨rfl,rfl⟩;refine ki ?_;rintro _ _ ⟨rfl,rfl⟩;refine dR ?_;rw[ht5]at hR3 hR4;refine qMP ((⟨b11,b12,R3,R4⟩:Nat×Nat×fN×fN)) ⟨hR3,hR4⟩
   refine Ul ?_;rintro _ _ ⟨b12,rfl,rfl⟩;refine kW 3 4 Zk ?_ ?_
   .refine Wq7 ?_;rintro _ _ ⟨_,⟨R4,hR4,rfl,rfl⟩,rfl⟩;refine cW 4 Zk (Um ?_);rintro _ _ ⟨b11,rfl,rfl⟩;refine kj ?_;rintro _ _ ⟨rfl,rfl⟩;refine ki ?_;rintro _ _ ⟨rfl,rfl⟩;refine dR ?_;rw[ht5]at hR3 hR4;refine qMP ((⟨b11,b12,R3,R4⟩:Nat×Nat×fN×fN)) ⟨hR3,hR4⟩
   refine Um ?_;rintro _ _ ⟨b11,rfl,rfl⟩;refine cW 3 Zk (Wq7 ?_);rintro _ _ ⟨_,⟨R4,hR4,rfl,rfl⟩,rfl⟩;refine kj ?_;rintro _ _ ⟨rfl,rfl⟩;refine ki ?_;rintro _ _ ⟨rfl,rfl⟩;refine dR ?_;rw[ht5]at hR3 hR4;refine qMP ((⟨b11,b12,R3,R4⟩:Nat×Nat×fN×fN)) ⟨hR3,hR4⟩
  .refine Um ?_;rintro _ _ ⟨b11,rfl,rfl⟩;refine kW 1 5 Zk ?_ ?_
   .refine Wq24 ?_;rintro _ _ ⟨_,⟨R3,hR3,rfl,rfl⟩,rfl⟩;refine kW 3 5 Zk ?_ ?_
    .refine Wq7 ?_;rintro _ _ ⟨_,⟨R4,hR4,rfl,rfl⟩,rfl⟩;refine kQ ?_;refine Ul ?_;rintro _ _ ⟨b12,rfl,rfl⟩;refine kj ?_;rintro _ _ ⟨rfl,rfl⟩;refine ki ?_;rintro _ _ ⟨rfl,rfl⟩;refine dR ?_;rw[ht5]at hR3 hR4;refine qMP ((⟨b11,b12,R3,R4⟩:Nat×Nat×fN×fN)) ⟨hR3,hR4⟩
    refine Ul ?_;rintro _ _ ⟨b12,rfl,rfl⟩;refine cW 3 Zk (Wq7 ?_);rintro _ _ ⟨_,⟨R4,hR4,rfl,rfl⟩,rfl⟩;refine kj ?_;rintro _ _ ⟨rfl,rfl⟩;refine ki ?_;rintro _ _ ⟨rfl,rfl⟩;refine dR ?_;rw[ht5]at hR3 hR4;refine qMP ((⟨b11,b12,R3,R4⟩:Nat×Nat×fN×fN)) ⟨hR3,hR4⟩
   refine Ul ?_;rintro _ _ ⟨b12,rfl,rfl⟩;refine cW 1 Zk (Wq24 ?_);rintro _ _ ⟨_,⟨R3,hR3,rfl,rfl⟩,rfl⟩;refine cW 3 Zk (Wq7 ?_);rintro _ _ ⟨_,⟨R4,hR4,rfl,rfl⟩,rfl⟩;refine kj ?_;rintro _ _ ⟨rfl,rfl⟩;refine ki ?_;rintro _ _ ⟨rfl,rfl⟩;refine dR ?_;rw[ht5]at hR3 hR4;refine qMP ((⟨b11,b12,R3,R4⟩:Nat×Nat×fN×fN)) ⟨hR3,hR4⟩
  refine Ul ?_;rintro _ _ ⟨b12,rfl,rfl⟩;refine kW 1 4 Zk ?_ ?_
  .refine Wq24 ?_;rintro _ _ ⟨_,⟨R3,hR3,rfl,rfl⟩,rfl⟩;refine kW 3 4 Zk ?_ ?_
   .refine Wq7 ?_;rintro _ _ ⟨_,⟨R4,hR4,rfl,rfl⟩,rfl⟩;refine cW 4 Zk (Um ?_);rintro _ _ ⟨b11,rfl,rfl⟩;refine kj ?_;rintro _ _ ⟨rfl,rfl⟩;refine ki ?_;rintro _ _ ⟨rfl,rfl⟩;refine dR ?_;rw[ht5]at hR3 hR4;refine qMP ((⟨b11,b12,R3,R4⟩:Nat×Nat×fN×fN)) ⟨hR3,hR4⟩
   refine Um ?_;rintro _ _ ⟨b11,rfl,rfl⟩;refine cW 3 Zk (Wq7 ?_);rintro _ _ ⟨_,⟨R4,hR4,rfl,rfl⟩,rfl⟩;refine kj ?_;rintro _ _ ⟨rfl,rfl⟩;refine ki ?_;rintro _ _ ⟨rfl,rfl⟩;refine dR ?_;rw[ht5]at hR3 hR4;refine qMP ((⟨b11,b12,R3,R4⟩:Nat×Nat×fN×fN)) ⟨hR3,hR4⟩
  refine Um ?_;rintro _ _ ⟨b11,rfl,rfl⟩;refine cW 1 Zk (Wq24 ?_);rintro _ _ ⟨_,⟨R3,hR3,rfl,rfl⟩,rfl⟩;refine cW 3 Zk (Wq7 ?_);rintro _ _ ⟨_,⟨R4,hR4,rfl,rfl⟩,rfl⟩;refine kj ?_;rintro _ _ ⟨rfl,rfl⟩;refine ki ?_;rintro _ _ ⟨rfl,rfl⟩;refine dR ?_;rw[ht5]at hR3 hR4;refine qMP ((⟨b11,b12,R3,R4⟩:Nat×Nat×fN×fN)) ⟨hR3,hR4⟩
 rintro⟨b11,b12,R3,R4⟩ ⟨hR3,hR4⟩;dsimp only at hR3 hR4|-;have hw3:R3.why=0:=hR3.why.trans hboot;have hv3:R3.V.length=L.length:=(by rw[hR3.vlen,uy hboot,ax]);obtain⟨A5,c5,Z5,J5,B5,e5,V5,K5,y5⟩:=R3;obtain⟨A6,c6,Z6,J6,B6,e6,V6,K6,y6⟩:=R4;have hSS:=yO ⟨A5,c5,Z5,J5,B5,e5,V5,K5,y5⟩ ⟨A6,c6,Z6,J6,B6,e6,V6,K6,y6⟩ _ _ hR3 hR4;have hj5:=hR3.j;have hj6:=hR4.j;have hk5:=hR3.k;have hk6:=hR4.k;dsimp only at hj5 hj6 hk5 hk6 hSS hw3 hv3|-;subst hw3;refine Z_6 ?_;refine Qq ?_;refine Qq ?_;refine fF (bS rfl rfl) rfl (dh rfl (λ_ _=>rfl) (λw hi=>hSS w (hi.rd (Zhc (vU A5 c5 Z5))) (hi.rd (Zhc (vU A6 c6 Z6))) (hj5 w (hi.get (Zhc (bP J5)))) (hj6 w (hi.get (Zhc (bP J6)))) (hi.rd (Zhc (Co B5 e5 V5))) (hi.rd (Zhc (Co B6 e6 V6))) (hk5 w (hi.get (Zhc (bP K5)))) (hk6 w (hi.get (Zhc (bP K6)))))) rfl ?_;rintro _ _ ⟨_,⟨rfl,rfl⟩,rfl⟩;refine Z_8 ?_;refine Zyy rfl rfl (jn (cA rfl) (cA rfl) (show _=true from by rw[hv3];exact beq_self_eq_true _)) ?_;exact Wq435
theorem dm{W:World}(h:laidMetH prog Rows.topScriptsRow.laid W):fc W:=
 fV (t:=318) (e:=5) (WE:=qf) h (MakeChecks.laidMetH_plain _ _ _ Wq4) rfl (g:=0) Wq4 Wq4 Wq4 Wq4 Wq4 rfl Wq9
theorem eP(os:Os)(args:Array Value):laidMetH prog Rows.topScriptsRow.laid ((World.doorLaid prog 400 os).forCall (λ_ _=>0) ⟨#[],args,[]⟩).memory:=
 laidMetH_of_parts3 (fuel:=8) (laidMet_of_run' 8 Wq4 Wq4) Wq4 Wq4
set_option maxRecDepth 100000 in
theorem rC(os:Os)(started:os.Started)(H:Type)(enc:TypeId×Value->H):
  ReturnsInHanded {} checked os 13 .any (λw args=>(Rows.topScriptsSpec.pre enc prog f13 [] false w args/\laidMetH prog Rows.topScriptsRow.laid w)/\sizedMet enc prog f13 (OpenSpec.ofChange Rows.topScriptsSpec) false w args) (Rows.topScriptsSpec.post enc prog f13 false true false false):=
 hH (C:=checked) (ts:=[22,86,24]) QL started Wq4 func13
  (ChangeSpec.witness_shaped (enc:=enc) (C:=checked) (os:=os) (X:=λw _=>laidMetH prog Rows.topScriptsRow.laid w) false (World.doorLaid prog 400 os) #[.slice none 0 0,.slice none 0 0,.slice none 0 0] 8 rfl (World.shaped_of_RefB Wq4 Wq4) Wq4 Wq4 Wq4 (eP os _))
  rfl rfl rfl rfl (λds h=>by match ds,h with|[_,_,_],_=>rfl) wm Wq4 (λW vs h hx=>by
   have ht:=dm hx;obtain⟨v0,_,rfl,a0,v1,_,rfl,a1,v2,_,rfl,a2,rfl⟩:=h;obtain⟨A0,c0,bl,rfl,h0,hb0⟩:=r7 a0;obtain⟨A,c,l,rfl,hl,hr⟩:=vV a1;obtain⟨B,cb,b,rfl,h2,hi2⟩:=yW a2;exact jk (zZ A0 c0 bl hb0 A B c cb l b W h0 hl hr h2 hi2 ht))
set_option maxHeartbeats 0 in
theorem vi:Rows.TopScriptsSaid:=
 OpenClaim.holds_of_wide 13 f13 rfl rfl rfl rfl rfl rfl rfl ⟨rfl,rfl,rfl,rfl,rfl⟩ rfl rfl rfl rfl rfl tH func13 tI vj vh
  (λos started H enc _=>rC os started H enc)
set_option maxHeartbeats 0 in
theorem topScripts_holds:Rows.TopScriptsCardSaid:=
 Claim7.holds_tied_plain_at .later [] [.data] true Rows.topScriptsCard.stood.harness false
  vi (λ_ h=>by cases h) Wq4 (λ_ h=>by cases h) topScripts_row_tie rfl ⟨rfl,rfl⟩ Wq4 rfl
  (λf fn hf hfn=>by
   obtain rfl:f=13:=ay ((show prog.funcNamed "innkeeper/innkeepertop.TopScripts" =some 13 by as_aux_lemma=>kernel_rfl).symm.trans hf)|>.symm
   obtain rfl:fn=f13:=(ay (func13.symm.trans hfn)).symm;exact⟨by as_aux_lemma=>kernel_rfl,λj t ht=>by
    have hm:t∈f13.params.toList:=by simpa using Array.mem_of_getElem? ht
    have hall:(f13.params.toList.all λu=> !prog.wantsStandIn u)=true:=by as_aux_lemma=>kernel_rfl
    exact(show prog.wantsStandIn t=false by simpa using aQ.1 hall t hm)⟩)
  Wq4
#print axioms topScripts_holds
end Go.Proofs.YtgpahfcaecojgaaGreatDoor
