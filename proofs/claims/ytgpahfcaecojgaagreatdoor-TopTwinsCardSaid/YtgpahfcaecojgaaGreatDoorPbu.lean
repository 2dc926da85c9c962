/- For every input the law TopTwins answers true and leaves every argument as it was; the table of math/bits is what the program's text lays (the card ties it); no other condition. -/
import Derived.Test.YtgpahfcaecojgaaGreatDoorPbc
import Derived.Test.YtgpahfcaecojgaaGreatDoorPbj
import Derived.JoinedOf
import Derived.Test.YtgpahfcaecojgaaGreatDoorCards
import Derived.Test.YtgpahfcaecojgaaGreatDoorTie
import Derived.SevenTiedAt
import Derived.Test.YtgpahfcaecojgaaGreatDoorPbuF
set_option linter.all false
set_option maxRecDepth 100000
set_option maxHeartbeats 4000000
namespace Go.Proofs.YtgpahfcaecojgaaGreatDoor
open Go
open Go.RowKit Go.Ink Go.Proofs.Tryz
attribute [local irreducible] OpY bN
theorem E7(A B:Oa)(c e:Nat)(l:List BoR)(its:List ItR)(w:World)(h:RdV w 3 A l.length c (l.flatMap BoR.cells))(hl:∀a,a∈l->a.ok w)(h2:RdV w 4 B its.length e (its.flatMap ItR.cells))(hit:∀x,x∈its->x.ok w)(ht:fc w):
  CW prog 12 [.slice A l.length c,.slice B its.length e] w (.bool true):=by
 refine Zfs func12 ntmps12 ?_;refine Z_8 ?_;refine ZSn (λw hi=>ze A c l w (h.Wh hi) (λa ha=>(hl a ha).Wh hi)) ?_;rintro _ _ ⟨A3,c3,L,J,⟨hI,hL1, -⟩,rfl,rfl⟩;have hL4:=hI.n4;have hboot:=pK hL1 hL4 hI.WO;have hg3:=oP hI.WO;obtain⟨tm,htm⟩:=Zgn ((λx=>Cz x L.length));have htx:∀x,Cz x L.length=tm x:=(λx=>congrFun htm x);have hmay:=G1 hit L.length;rw[htm]at hmay;refine gq ?_;refine cY 41 4 (eY [imC A3 c3 L,bP J,iU none 0 []] Zj (Z_4 ?_));refine wLo (λq:Nat×Option Addr×Nat=>[(1,.slice B its.length e),(5,.slice A3 L.length c3),(6,.slice q.2.1 ((its.take q.1).map tm).length q.2.2),(7,.i (q.1:Int))]) (λq=>[imC A3 c3 L,bP J,iU q.2.1 q.2.2 ((its.take q.1).map tm)]) (λq=>q.1<=25/\q.1<=its.length) (λq=>25 - q.1) ((⟨0,none,0⟩:Nat×Option Addr×Nat)) ⟨ap _,ap _⟩ ?_;rintro⟨j,B1,e1⟩ ⟨hj20,hjl⟩;dsimp only at hj20 hjl|-;refine yk ?_ ?_<;>intro hc4
 .have hc4':j<its.length/\j<25:=(by simp only[au,ac]at hc4;omega);obtain⟨hjt,hj2⟩:=hc4';obtain⟨ad2,rfl⟩:=h2.some_ Wq1;obtain⟨x,hx⟩:∃x,its[j]? =some x:=⟨_,ae hjt⟩;have hxo:=hit x (ak hx);have HT:=G3 x hxo.rd.cap L.length hL1 hL4;rw[htx x]at HT;have hsn:(its.take (j+1)).map tm=(its.take j).map tm++[tm x]:=Qr;have hjn:((its.take j).map tm).length=j:=yq;refine Wq488 ?_;refine Z_2 ?_;refine ZSe (λw hi=>HT w) ?_;refine pZ ?_;rintro _ _ ⟨b30,rfl,rfl⟩;refine fo (bV (e:=41) (sz:=4) (bytes:=48) rfl rfl Za rfl rfl (λw hi=>hi.rd (Zhc (slv 41 4 (sA b30) 1 1 (tm x).cells))) (je (tm x)) Wq9 Wq1) rfl ?_;rintro _ _ ⟨B2,e2,rfl,rfl⟩;rw[(eA (ys:=(its.take j).map tm) (y:=tm x)).1,(eA (ys:=(its.take j).map tm) (y:=tm x)).2,<-hsn];refine xu ?_;refine qMP ((⟨j+1,B2,e2⟩:Nat×Option Addr×Nat)) ⟨⟨show j+1<=25 by omega,show j+1<=its.length by omega⟩,show 25 - (j+1)<25 - j by omega⟩
 have hTl:((its.take j).map tm).length<=25:=yq;have hTm:=hmay j;obtain⟨T,hT⟩:=Zgn ((its.take j).map tm);rw[hT]at hTm hTl|-;refine Z_9 ?_;refine ZSe (λw hi=>Mo A3 c3 L B1 e1 T Wq1 hg3 (λx hx=>⟨(hTm x hx).b,(hTm x hx).l,(hTm x hx).n⟩) w (hi.rd (Zhc (imC A3 c3 L))) (hI.rd w (λa ha=>(hl a ha).dk.Wh hi) (hi.get (Zhc (bP J)))) (hi.rd (Zhc (iU B1 e1 T))) (λx hx=>(hTm x hx).rd.Wh hi) (ht.old hi)) ?_;rw[if_pos hboot];refine jl ?_;refine Zyy rfl rfl (jn (cA rfl) (cA rfl) (beq_self_eq_true _)) ?_;exact Wq435
theorem dm{W:World}(h:laidMetH prog Rows.topTwinsRow.laid W):fc W:=
 fV (t:=318) (e:=5) (WE:=qf) h (MakeChecks.laidMetH_plain _ _ _ Wq4) rfl (g:=0) Wq4 Wq4 Wq4 Wq4 Wq4 rfl Wq9
theorem eP(os:Os)(args:Array Value):laidMetH prog Rows.topTwinsRow.laid ((World.doorLaid prog 400 os).forCall (λ_ _=>0) ⟨#[],args,[]⟩).memory:=
 laidMetH_of_parts3 (fuel:=8) (laidMet_of_run' 8 Wq4 Wq4) Wq4 Wq4
set_option maxRecDepth 100000 in
theorem vg(os:Os)(started:os.Started)(H:Type)(enc:TypeId×Value->H):
  ReturnsInHanded {} checked os 12 .any (λw args=>(Rows.topTwinsSpec.pre enc prog f12 [] false w args/\laidMetH prog Rows.topTwinsRow.laid w)/\sizedMet enc prog f12 (OpenSpec.ofChange Rows.topTwinsSpec) false w args) (Rows.topTwinsSpec.post enc prog f12 false true false false):=
 hH (C:=checked) (ts:=[86,24]) QL started Wq4 func12
  (ChangeSpec.witness_shaped (enc:=enc) (C:=checked) (os:=os) (X:=λw _=>laidMetH prog Rows.topTwinsRow.laid w) false (World.doorLaid prog 400 os) #[.slice none 0 0,.slice none 0 0] 8 rfl (World.shaped_of_RefB Wq4 Wq4) Wq4 Wq4 Wq4 (eP os _))
  rfl rfl rfl rfl (λds h=>by match ds,h with|[_,_],_=>rfl) wm Wq4 (λW vs h hx=>by
   have ht:=dm hx;obtain⟨v0,_,rfl,a0,v1,_,rfl,a1,rfl⟩:=h;obtain⟨A,c,l,rfl,hl,hr⟩:=vV a0;obtain⟨B,cb,b,rfl,h2,hi2⟩:=yW a1;exact jk (E7 A B c cb l b W hl hr h2 hi2 ht))
set_option maxHeartbeats 0 in
theorem zX:Rows.TopTwinsSaid:=
 OpenClaim.holds_of_wide 12 f12 rfl rfl rfl rfl rfl rfl rfl ⟨rfl,rfl,rfl,rfl,rfl⟩ rfl rfl rfl rfl rfl xM func12 xN zY zW
  (λos started H enc _=>vg os started H enc)
set_option maxHeartbeats 0 in
theorem topTwins_holds:Rows.TopTwinsCardSaid:=
 Claim7.holds_tied_plain_at .later [] [.data] true Rows.topTwinsCard.stood.harness false
  zX (λ_ h=>by cases h) Wq4 (λ_ h=>by cases h) topTwins_row_tie rfl ⟨rfl,rfl⟩ Wq4 rfl
  (λf fn hf hfn=>by
   obtain rfl:f=12:=ay ((show prog.funcNamed "innkeeper/innkeepertop.TopTwins" =some 12 by as_aux_lemma=>kernel_rfl).symm.trans hf)|>.symm
   obtain rfl:fn=f12:=(ay (func12.symm.trans hfn)).symm;exact⟨by as_aux_lemma=>kernel_rfl,λj t ht=>by
    have hm:t∈f12.params.toList:=by simpa using Array.mem_of_getElem? ht
    have hall:(f12.params.toList.all λu=> !prog.wantsStandIn u)=true:=by as_aux_lemma=>kernel_rfl
    exact(show prog.wantsStandIn t=false by simpa using aQ.1 hall t hm)⟩)
  Wq4
#print axioms topTwins_holds
end Go.Proofs.YtgpahfcaecojgaaGreatDoor
