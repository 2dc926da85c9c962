/- For every input the law GuestTwins answers true and leaves every argument as it was; the table of math/bits is what the program's text lays (the card ties it); no other condition. -/
import Derived.Test.YtepfimeihngjoaaGreatDoorXbu
import Derived.JoinedOf
import Derived.Test.YtepfimeihngjoaaGreatDoorCards
import Derived.Test.YtepfimeihngjoaaGreatDoorTie
import Derived.SevenTiedAt
import Derived.Test.YtepfimeihngjoaaGreatDoorXzfF
set_option linter.all false
set_option maxRecDepth 100000
set_option maxHeartbeats 4000000
namespace Go.Proofs.YtepfimeihngjoaaGreatDoor
open Go
open Go.RowKit Go.Ink Go.Proofs.Tryz
theorem fo{W:World}(h:laidMetH prog Rows.guestTwinsRow.laid W):iU W:=
 kC (t:=344) (e:=5) (Tv:=wG) h (MakeChecks.laidMetH_plain _ _ _ Vi) rfl (g:=0) Vi Vi Vi Vi Vi rfl gD
theorem ja(os:Os)(args:Array Value):laidMetH prog Rows.guestTwinsRow.laid ((World.doorLaid prog 400 os).forCall (λ_ _=>0) ⟨#[],args,[]⟩).memory:=
 laidMetH_of_parts3 (fuel:=8) (laidMet_of_run' 8 Vi Vi) Vi Vi
set_option maxRecDepth 100000 in
theorem rG(os:Os)(started:os.Started)(H:Type)(enc:TypeId×Value->H):
  ReturnsInHanded {} checked os 8 .any (λw args=>(Rows.guestTwinsSpec.pre enc prog f8 [] false w args/\laidMetH prog Rows.guestTwinsRow.laid w)/\sizedMet enc prog f8 (OpenSpec.ofChange Rows.guestTwinsSpec) false w args) (Rows.guestTwinsSpec.post enc prog f8 false true false false):=
 lZ (C:=checked) (ts:=[71,3,22,108]) own0 started Vi func8
  (ChangeSpec.witness_shaped (enc:=enc) (C:=checked) (os:=os) (X:=λw _=>laidMetH prog Rows.guestTwinsRow.laid w) false (World.doorLaid prog 400 os) #[.slice none 0 0,.i 0,.slice none 0 0,.slice none 0 0] 8 I (World.shaped_of_RefB Vi Vi) Vi Vi Vi (ja os _))
  rfl rfl rfl rfl (λds h=>by match ds,h with|[_,_,_,_],_=>rfl) D5 Vi (λW vs h hx=>by
   have ht:=fo hx;obtain⟨v0,_,rfl,a0,v1,_,rfl,a1,v2,_,rfl,a2,v3,_,rfl,a3,rfl⟩:=h;obtain⟨A,c,l,rfl,hl,hr⟩:=u7 a0;obtain⟨n1,rfl,w1⟩:=a1.int (k:= .i64) I;obtain⟨B,cb,b,rfl,hB,hb⟩:=mc a2;obtain⟨E,ce,es,rfl,hE,he⟩:=H6 a3;exact oN (zA A B E c cb ce l n1 b hb es W hl hr hB hE he ht))
set_option maxHeartbeats 0 in
theorem vC:Rows.GuestTwinsSaid:=
 OpenClaim.holds_of_wide 8 f8 rfl rfl rfl rfl rfl rfl rfl ⟨rfl,rfl,rfl,rfl,rfl⟩ rfl rfl rfl rfl rfl sZ func8 s8 vD vB
  (λos started H enc _=>rG os started H enc)
set_option maxHeartbeats 0 in
theorem guestTwins_holds:Rows.GuestTwinsCardSaid:=
 Claim7.holds_tied_plain_at .later [] [.data] true Rows.guestTwinsCard.stood.harness false
  vC (λ_ h=>by cases h) Vi (λ_ h=>by cases h) guestTwins_row_tie rfl ⟨rfl,rfl⟩ Vi rfl
  (λf fn hf hfn=>by
   obtain rfl:f=8:=aF ((show prog.funcNamed "innkeeper/innkeeperlaw25.GuestTwins" =some 8 by as_aux_lemma=>kernel_rfl).symm.trans hf)|>.symm
   obtain rfl:fn=f8:=(aF (func8.symm.trans hfn)).symm;exact⟨by as_aux_lemma=>kernel_rfl,λj t ht=>by
    have hm:t∈f8.params.toList:=by simpa using Array.mem_of_getElem? ht
    have hall:(f8.params.toList.all λu=> !prog.wantsStandIn u)=true:=by as_aux_lemma=>kernel_rfl
    exact(show prog.wantsStandIn t=false by simpa using List.all_eq_true.1 hall t hm)⟩)
  Vi
end Go.Proofs.YtepfimeihngjoaaGreatDoor
