/- For every input the law EngineDoes answers true and leaves every argument as it was; the table of math/bits is what the program's text lays (the card ties it); no other condition. -/
import Derived.Test.YtepfimeihngjoaaGreatDoorXbo
import Derived.JoinedOf
import Derived.Test.YtepfimeihngjoaaGreatDoorCards
import Derived.Test.YtepfimeihngjoaaGreatDoorTie
import Derived.SevenTiedAt
import Derived.Test.YtepfimeihngjoaaGreatDoorXzdF
set_option linter.all false
set_option maxRecDepth 100000
set_option maxHeartbeats 4000000
namespace Go.Proofs.YtepfimeihngjoaaGreatDoor
open Go
open Go.RowKit Go.Ink Go.Proofs.Tryz
theorem fo{W:World}(h:laidMetH prog Rows.engineDoesRow.laid W):iU W:=
 kC (t:=344) (e:=5) (Tv:=wG) h (MakeChecks.laidMetH_plain _ _ _ Vi) rfl (g:=0) Vi Vi Vi Vi Vi rfl gD
theorem ja(os:Os)(args:Array Value):laidMetH prog Rows.engineDoesRow.laid ((World.doorLaid prog 400 os).forCall (λ_ _=>0) ⟨#[],args,[]⟩).memory:=
 laidMetH_of_parts3 (fuel:=8) (laidMet_of_run' 8 Vi Vi) Vi Vi
set_option maxRecDepth 100000 in
theorem rN(os:Os)(started:os.Started)(H:Type)(enc:TypeId×Value->H):
  ReturnsInHanded {} checked os 5 .any (λw args=>(Rows.engineDoesSpec.pre enc prog f5 [] false w args/\laidMetH prog Rows.engineDoesRow.laid w)/\sizedMet enc prog f5 (OpenSpec.ofChange Rows.engineDoesSpec) false w args) (Rows.engineDoesSpec.post enc prog f5 false true false false):=
 lZ (C:=checked) (ts:=[71,3,22,72,3,59]) own0 started Vi func5
  (ChangeSpec.witness_shaped (enc:=enc) (C:=checked) (os:=os) (X:=λw _=>laidMetH prog Rows.engineDoesRow.laid w) false (World.doorLaid prog 400 os) #[.slice none 0 0,.i 0,.slice none 0 0,.slice none 0 0,.i 0,.slice none 0 0] 8 I (World.shaped_of_RefB Vi Vi) Vi Vi Vi (ja os _))
  rfl rfl rfl rfl (λds h=>by match ds,h with|[_,_,_,_,_,_],_=>rfl) D5 Vi (λW vs h hx=>by
   have ht:=fo hx;obtain⟨v0,_,rfl,a0,v1,_,rfl,a1,v2,_,rfl,a2,v3,_,rfl,a3,v4,_,rfl,a4,v5,_,rfl,a5,rfl⟩:=h;obtain⟨A,c,l,rfl,hl,hr⟩:=u7 a0;obtain⟨n1,rfl,w1⟩:=a1.int (k:= .i64) I;obtain⟨B,cb,b,rfl,hB,hb⟩:=mc a2;obtain⟨E,ce,es,rfl,hE,he⟩:=DP a3;obtain⟨n4,rfl,w4⟩:=a4.int (k:= .i64) I;obtain⟨F,cf,fl,rfl,hF⟩:=H8 a5;exact oN (zL A B E F c cb ce cf l n1 n4 b hb es fl W hl hr hB hE he hF ht))
set_option maxHeartbeats 0 in
theorem vP:Rows.EngineDoesSaid:=
 OpenClaim.holds_of_wide 5 f5 rfl rfl rfl rfl rfl rfl rfl ⟨rfl,rfl,rfl,rfl,rfl⟩ rfl rfl rfl rfl rfl tp func5 tq vQ vO
  (λos started H enc _=>rN os started H enc)
set_option maxHeartbeats 0 in
theorem engineDoes_holds:Rows.EngineDoesCardSaid:=
 Claim7.holds_tied_plain_at .later [] [.data] true Rows.engineDoesCard.stood.harness false
  vP (λ_ h=>by cases h) Vi (λ_ h=>by cases h) engineDoes_row_tie rfl ⟨rfl,rfl⟩ Vi rfl
  (λf fn hf hfn=>by
   obtain rfl:f=5:=aF ((show prog.funcNamed "innkeeper/innkeeperlaw24.EngineDoes" =some 5 by as_aux_lemma=>kernel_rfl).symm.trans hf)|>.symm
   obtain rfl:fn=f5:=(aF (func5.symm.trans hfn)).symm;exact⟨by as_aux_lemma=>kernel_rfl,λj t ht=>by
    have hm:t∈f5.params.toList:=by simpa using Array.mem_of_getElem? ht
    have hall:(f5.params.toList.all λu=> !prog.wantsStandIn u)=true:=by as_aux_lemma=>kernel_rfl
    exact(show prog.wantsStandIn t=false by simpa using List.all_eq_true.1 hall t hm)⟩)
  Vi
end Go.Proofs.YtepfimeihngjoaaGreatDoor
