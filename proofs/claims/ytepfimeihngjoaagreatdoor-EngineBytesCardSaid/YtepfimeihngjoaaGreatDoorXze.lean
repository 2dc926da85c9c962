/- For every input the law EngineBytes answers true and leaves every argument as it was; the table of math/bits is what the program's text lays (the card ties it); no other condition. -/
import Derived.Test.YtepfimeihngjoaaGreatDoorXbp
import Derived.JoinedOf
import Derived.Test.YtepfimeihngjoaaGreatDoorCards
import Derived.Test.YtepfimeihngjoaaGreatDoorTie
import Derived.SevenTiedAt
import Derived.Test.YtepfimeihngjoaaGreatDoorXzeF
set_option linter.all false
set_option maxRecDepth 100000
set_option maxHeartbeats 4000000
namespace Go.Proofs.YtepfimeihngjoaaGreatDoor
open Go
open Go.RowKit Go.Ink Go.Proofs.Tryz
theorem fo{W:World}(h:laidMetH prog Rows.engineBytesRow.laid W):iU W:=
 kC (t:=344) (e:=5) (Tv:=wG) h (MakeChecks.laidMetH_plain _ _ _ Vi) rfl (g:=0) Vi Vi Vi Vi Vi rfl gD
theorem ja(os:Os)(args:Array Value):laidMetH prog Rows.engineBytesRow.laid ((World.doorLaid prog 400 os).forCall (λ_ _=>0) ⟨#[],args,[]⟩).memory:=
 laidMetH_of_parts3 (fuel:=8) (laidMet_of_run' 8 Vi Vi) Vi Vi
set_option maxRecDepth 100000 in
theorem qF(os:Os)(started:os.Started)(H:Type)(enc:TypeId×Value->H):
  ReturnsInHanded {} checked os 6 .any (λw args=>(Rows.engineBytesSpec.pre enc prog f6 [] false w args/\laidMetH prog Rows.engineBytesRow.laid w)/\sizedMet enc prog f6 (OpenSpec.ofChange Rows.engineBytesSpec) false w args) (Rows.engineBytesSpec.post enc prog f6 false true false false):=
 lZ (C:=checked) (ts:=[22,36,3]) own0 started Vi func6
  (ChangeSpec.witness_shaped (enc:=enc) (C:=checked) (os:=os) (X:=λw _=>laidMetH prog Rows.engineBytesRow.laid w) false (World.doorLaid prog 400 os) #[.slice none 0 0,sv St.zero none 0 none 0,.i 0] 8 I (World.shaped_of_RefB Vi Vi) Vi Vi Vi (ja os _))
  rfl rfl rfl rfl (λds h=>by match ds,h with|[_,_,_],_=>rfl) D5 Vi (λW vs h hx=>by
   have ht:=fo hx;obtain⟨v0,_,rfl,a0,v1,_,rfl,a1,v2,_,rfl,a2,rfl⟩:=h;obtain⟨A,c,b,rfl,hB,hb⟩:=mc a0;obtain⟨s,Ad,cd,Ar,cr,rfl,hs,hS⟩:=H0 a1;obtain⟨n2,rfl,w2⟩:=a2.int (k:= .i64) I;exact oN (wM A Ad Ar c cd cr b hb s hs n2 W hB hS ht))
set_option maxHeartbeats 0 in
theorem tw:Rows.EngineBytesSaid:=
 OpenClaim.holds_of_wide 6 f6 rfl rfl rfl rfl rfl rfl rfl ⟨rfl,rfl,rfl,rfl,rfl⟩ rfl rfl rfl rfl rfl rO func6 rP tx tv
  (λos started H enc _=>qF os started H enc)
set_option maxHeartbeats 0 in
theorem engineBytes_holds:Rows.EngineBytesCardSaid:=
 Claim7.holds_tied_plain_at .later [] [.data] true Rows.engineBytesCard.stood.harness false
  tw (λ_ h=>by cases h) Vi (λ_ h=>by cases h) engineBytes_row_tie rfl ⟨rfl,rfl⟩ Vi rfl
  (λf fn hf hfn=>by
   obtain rfl:f=6:=aF ((show prog.funcNamed "innkeeper/innkeeperlaw24.EngineBytes" =some 6 by as_aux_lemma=>kernel_rfl).symm.trans hf)|>.symm
   obtain rfl:fn=f6:=(aF (func6.symm.trans hfn)).symm;exact⟨by as_aux_lemma=>kernel_rfl,λj t ht=>by
    have hm:t∈f6.params.toList:=by simpa using Array.mem_of_getElem? ht
    have hall:(f6.params.toList.all λu=> !prog.wantsStandIn u)=true:=by as_aux_lemma=>kernel_rfl
    exact(show prog.wantsStandIn t=false by simpa using List.all_eq_true.1 hall t hm)⟩)
  Vi
end Go.Proofs.YtepfimeihngjoaaGreatDoor
