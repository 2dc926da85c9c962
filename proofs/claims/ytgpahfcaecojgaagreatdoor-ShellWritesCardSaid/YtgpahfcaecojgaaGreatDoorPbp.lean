/- For every input the law ShellWrites answers true and leaves every argument as it was; the table of math/bits is what the program's text lays (the card ties it); no other condition. -/
import Derived.Test.YtgpahfcaecojgaaGreatDoorPbh
import Derived.Test.YtgpahfcaecojgaaGreatDoorPbl
import Derived.JoinedOf
import Derived.Test.YtgpahfcaecojgaaGreatDoorCards
import Derived.Test.YtgpahfcaecojgaaGreatDoorTie
import Derived.SevenTiedAt
import Derived.Test.YtgpahfcaecojgaaGreatDoorPbpF
set_option linter.all false
set_option maxRecDepth 100000
set_option maxHeartbeats 4000000
namespace Go.Proofs.YtgpahfcaecojgaaGreatDoor
open Go
open Go.RowKit Go.Ink Go.Proofs.Tryz
attribute [local irreducible] OpY bN
theorem xQ(A B:Oa)(c e:Nat)(l:List Bo4)(its:List ItR)(w:World)(h:RdV w 4 A l.length c (l.flatMap Bo4.cells))(hl:∀y,y∈l->y.x.ok w)(h2:RdV w 4 B its.length e (its.flatMap ItR.cells))(hit:∀x,x∈its->x.okN w)(ht:fc w):
  CW prog 8 [.slice A l.length c,.slice B its.length e] w (.bool true):=by
 have hT:=qI (λx hx=>(hit x hx).o);have hTr:=λx hx=>(hT x hx).1.rd
 refine Zfs func8 ntmps8 ?_;refine Wq464 ?_;rintro _ _ ⟨_,⟨A3,c3,L,J,B3,e3,hI,rfl,rfl⟩,rfl⟩;refine ZN λb5=>?_
 refine iC ?_;by_cases hR:fC (L.map Im.si) ((iT its).map ItR.it)=0
 .refine Z_2 ?_;refine ZSn (λw hi=>lW hR (hi.rd (Zhc (imC A3 c3 L))) (hI.rd w (λa ha=>(hl a ha).dk.Wh hi) (hi.get (Zhc (bP J)))) (hi.rd (Zhc (iU B3 e3 (iT its)))) (λx hx=>(hTr x hx).Wh hi)) ?_;rintro _ _ ⟨A4,c4,rfl,rfl⟩;refine fH ?_;refine Wq283 ?_;rw[hR];refine Z_4 ?_;refine uf ?_;refine ZE 2 ?_;refine ZE 3 ?_;refine ZF 4 ?_;refine ZF 5 ?_;refine ZF 6 ?_;refine ZF 7 ?_;refine ZF 8 ?_;refine ZF 9 ?_;refine ZF 10 ?_;refine ZF 11 ?_;refine ZF 12 ?_;refine ZF 13 ?_;refine ZF 14 ?_;refine ZF 15 ?_;refine rB (λw hi=>iP (hi.rd (Zhc (u8C A4 c4 (pV (L.map Im.si) ((iT its).map ItR.it)))))) (λhrd35=>?_);refine Zy7 16 rfl (df rfl rfl) (iL rfl rfl rfl (cA rfl) hrd35) (λw hi=>RdV.Wy (hi.rd (Zhc (u8C A4 c4 (pV (L.map Im.si) ((iT its).map ItR.it)))))) ?_;refine i7 17 rfl Zk Zk Zk Zk (df rfl rfl) Zh Zrf Zrf (Zv rfl) rfl (cW 18 Zk (p6 rfl rfl (df rfl rfl) rfl (dh rfl (λ_ _=>rfl) (λw hi=>zA A3 B3 c3 e3 L (iT its) hR w (hi.rd (Zhc (imC A3 c3 L))) (hI.rd w (λa ha=>(hl a ha).dk.Wh hi) (hi.get (Zhc (bP J)))) (hi.rd (Zhc (iU B3 e3 (iT its)))) (λx hx=>(hTr x hx).Wh hi))) ZJ rfl ?_));rintro _ _ ⟨_,⟨A5,c5,rfl,rfl⟩,rfl⟩;refine rB (λw hi=>iP (hi.rd (Zhc (u8C A5 c5 (pV (L.map Im.si) ((iT its).map ItR.it)))))) (λhrd38=>?_);refine Zy7 19 rfl (df rfl rfl) (iL rfl rfl rfl (cA rfl) hrd38) (λw hi=>RdV.Wy (hi.rd (Zhc (u8C A5 c5 (pV (L.map Im.si) ((iT its).map ItR.it)))))) ?_;refine Zy6 20 rfl (df rfl rfl) (sM rfl (cA rfl) (cA rfl) (beq_self_eq_true _)) ?_;refine ZF 21 ?_;refine ZF 22 ?_;refine ZE 23 ?_;refine ZE 24 ?_;refine cW 25 Zk (UZ ?_);rintro _ _ ⟨_,⟨rfl,rfl⟩,rfl⟩;refine ZE 26 ?_;refine ZE 27 ?_;refine jU ?_;exact ru
 refine Z_2 ?_;refine ZSe (λw hi=>D6 hR (hi.rd (Zhc (imC A3 c3 L))) (hI.rd w (λa ha=>(hl a ha).dk.Wh hi) (hi.get (Zhc (bP J)))) (hi.rd (Zhc (iU B3 e3 (iT its)))) (λx hx=>(hTr x hx).Wh hi)) ?_;refine fH ?_;refine Wq283 ?_;refine Z_4 ?_;refine uf ?_;refine Zy4 2 rfl (jn (Zv rfl) (Zv rfl) (beq_self_eq_true _)) ?_;refine ZE 3 ?_;refine ZF 4 ?_;refine Zy6 5 rfl (bS rfl rfl) (lK (cA rfl) Zv0 (bne_iff_ne.2 hR)) ?_;refine ZF 6 ?_;refine ZF 7 ?_;refine ZF 8 ?_;refine ZF 9 ?_;refine ZF 10 ?_;refine ZF 11 ?_;refine ZF 12 ?_;refine Zy6 13 rfl (df rfl rfl) (jn (cA rfl) (Zv rfl) (aV.2 hR)) ?_;refine ZF 14 ?_;refine Zy6 15 rfl (df rfl rfl) (rz (v:= .bool false)) ?_;refine Zy6 16 rfl (df rfl rfl) (rz (v:= .bool false)) ?_;refine Zy6 17 rfl (df rfl rfl) (rz (v:= .bool false)) ?_;refine Zy6 18 rfl (df rfl rfl) (rz (v:= .bool false)) ?_;refine Zy6 19 rfl (df rfl rfl) (rz (v:= .bool false)) ?_;refine Zy6 20 rfl (df rfl rfl) (rz (v:= .bool false)) ?_;refine Zy6 21 rfl (df rfl rfl) (Ju (q:=false) (cA rfl) ⟨_,rfl,λ_ e=>by simp at e⟩) ?_;refine ZF 22 ?_;refine ZE 23 ?_;refine ZE 24 ?_;refine cW 25 Zk (UZ ?_);rintro _ _ ⟨_,⟨rfl,rfl⟩,rfl⟩;refine ZE 26 ?_;refine ZE 27 ?_;refine jU ?_;exact ru
theorem dm{W:World}(h:laidMetH prog Rows.shellWritesRow.laid W):fc W:=
 fV (t:=318) (e:=5) (WE:=qf) h (MakeChecks.laidMetH_plain _ _ _ Wq4) rfl (g:=0) Wq4 Wq4 Wq4 Wq4 Wq4 rfl Wq9
theorem eP(os:Os)(args:Array Value):laidMetH prog Rows.shellWritesRow.laid ((World.doorLaid prog 400 os).forCall (λ_ _=>0) ⟨#[],args,[]⟩).memory:=
 laidMetH_of_parts3 (fuel:=8) (laidMet_of_run' 8 Wq4 Wq4) Wq4 Wq4
set_option maxRecDepth 100000 in
theorem qm(os:Os)(started:os.Started)(H:Type)(enc:TypeId×Value->H):
  ReturnsInHanded {} checked os 8 .any (λw args=>(Rows.shellWritesSpec.pre enc prog f8 [] false w args/\laidMetH prog Rows.shellWritesRow.laid w)/\sizedMet enc prog f8 (OpenSpec.ofChange Rows.shellWritesSpec) false w args) (Rows.shellWritesSpec.post enc prog f8 false true false false):=
 hH (C:=checked) (ts:=[23,24]) QL started Wq4 func8
  (ChangeSpec.witness_shaped (enc:=enc) (C:=checked) (os:=os) (X:=λw _=>laidMetH prog Rows.shellWritesRow.laid w) false (World.doorLaid prog 400 os) #[.slice none 0 0,.slice none 0 0] 8 rfl (World.shaped_of_RefB Wq4 Wq4) Wq4 Wq4 Wq4 (eP os _))
  rfl rfl rfl rfl (λds h=>by match ds,h with|[_,_],_=>rfl) wm Wq4 (λW vs h hx=>by
   have ht:=dm hx;obtain⟨v0,_,rfl,a0,v1,_,rfl,a1,rfl⟩:=h;obtain⟨A,c,l,rfl,hl,hr⟩:=jv a0;obtain⟨B,cb,b,rfl,h2,hi2⟩:=ix a1;exact jk (xQ A B c cb l b W hl hr h2 hi2 ht))
set_option maxHeartbeats 0 in
theorem tL:Rows.ShellWritesSaid:=
 OpenClaim.holds_of_wide 8 f8 rfl rfl rfl rfl rfl rfl rfl ⟨rfl,rfl,rfl,rfl,rfl⟩ rfl rfl rfl rfl rfl rK func8 rL tM tK
  (λos started H enc _=>qm os started H enc)
set_option maxHeartbeats 0 in
theorem shellWrites_holds:Rows.ShellWritesCardSaid:=
 Claim7.holds_tied_plain_at .later [] [.data] true Rows.shellWritesCard.stood.harness false
  tL (λ_ h=>by cases h) Wq4 (λ_ h=>by cases h) shellWrites_row_tie rfl ⟨rfl,rfl⟩ Wq4 rfl
  (λf fn hf hfn=>by
   obtain rfl:f=8:=ay ((show prog.funcNamed "innkeeper/innkeeperlaw28.ShellWrites" =some 8 by as_aux_lemma=>kernel_rfl).symm.trans hf)|>.symm
   obtain rfl:fn=f8:=(ay (func8.symm.trans hfn)).symm;exact⟨by as_aux_lemma=>kernel_rfl,λj t ht=>by
    have hm:t∈f8.params.toList:=by simpa using Array.mem_of_getElem? ht
    have hall:(f8.params.toList.all λu=> !prog.wantsStandIn u)=true:=by as_aux_lemma=>kernel_rfl
    exact(show prog.wantsStandIn t=false by simpa using aQ.1 hall t hm)⟩)
  Wq4
#print axioms shellWrites_holds
end Go.Proofs.YtgpahfcaecojgaaGreatDoor
