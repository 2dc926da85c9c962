/- For every input the law MonitorNumbers answers true and leaves every argument as it was; the table of math/bits is what the program's text lays (the card ties it); no other condition. -/
import Derived.Test.YtbkgmdgackknfaaGreatDoorPay
import Derived.JoinedOf
import Derived.Test.YtbkgmdgackknfaaGreatDoorCards
import Derived.Test.YtbkgmdgackknfaaGreatDoorTie
import Derived.SevenTiedAt
import Derived.Test.YtbkgmdgackknfaaGreatDoorPbeF
set_option linter.unusedSimpArgs false
set_option linter.unusedVariables false
set_option maxRecDepth 100000
set_option maxHeartbeats 4000000
namespace Go.Ink
theorem rdvNil(w:World)(sz:Nat):RdV w sz none 0 0 []:=⟨by simp,aL _,by decide,λ_=>⟨rfl,rfl⟩,λ_ h=>by cases h⟩
theorem KX{α β:Type}{f:α->β}{l:List α}{a b c d e g h i:β}(hh:l.map f=[a,b,c,d,e,g,h,i]):∃x y z u x' y' z' u',l=[x,y,z,u,x',y',z',u']/\(f x=a/\f y=b/\f z=c/\f u=d)/\f x'=e/\f y'=g/\f z'=h/\f u'=i:=by
 match l,hh with
 |[x,y,z,u,x',y',z',u'],hh=>
  injection hh with h1 hh
  injection hh with h2 hh
  injection hh with h3 hh
  injection hh with h4 hh
  injection hh with h5 hh
  injection hh with h6 hh
  injection hh with h7 hh
  injection hh with h8 hh
  exact⟨x,y,z,u,x',y',z',u',rfl,⟨h1,h2,h3,h4⟩,h5,h6,h7,h8⟩
end Go.Ink
namespace Go.Proofs.YtbkgmdgackknfaaGreatDoor
open Go.RowKit Go.Ink Go.Proofs.Tryz
attribute [local irreducible] OpY bH
abbrev Eg(n:Int):Im:=⟨none,0,[],none,0,[],n⟩
theorem oC{L:List Im}(h:∀x,x∈L->∃n,x=Eg n):∀x,x∈L->u8s x.l/\u8s x.k/\x.l.length<=4611686018427387904:=λx hx=>by
 obtain⟨n,rfl⟩:=h x hx;exact⟨eM,eM,au _⟩
theorem zW{L:List Im}{w:World}(h:∀x,x∈L->∃n,x=Eg n):∀x,x∈L->x.rd w:=λx hx=>by
 obtain⟨n,rfl⟩:=h x hx;exact⟨jq w .u8,jq w .u8⟩
theorem kV{ns:List Int}:∀x,x∈ns.map Eg->∃n,x=Eg n:=λx hx=>by
 obtain⟨n, -,rfl⟩:=bn.1 hx;exact⟨n,rfl⟩
theorem BX(bm:Nat)(m:Mon)(i:Int)(hx:(decide (0<=i)&&decide (i<(m.gs.length:Int)))=false)(w:World)(h:(mI bm m).ok w):
  Ctr prog 25 [.p bm,.i i] w [] (λv cs=>v= .slice none 0 0/\cs=[]):=by
 have HI:=sP bm m i;rw[hx]at HI;refine Zfs func25 ntmps25 ?_;refine fB ?_;refine ZSe (λw hi=>HI w (bC.old h hi)) ?_;refine Z_3 ?_;refine oU ?_;refine Z_7 ?_;exact pM
abbrev itN(k g n:Int):ItR:=⟨k,g,n,none,0,[]⟩
abbrev xY:List ItR:=[itN 3 0 8,itN 3 3 7,itN 99 0 0,itN 5 2 0,itN 1 2 4,itN 99 2 0,itN 1 (-1) 0,itN 1 0 (-5)]
theorem xX{P:ItR->Prop}(h:∀k g n, -5<=n->P (itN k g n)):∀x,x∈xY->P x:=λx hx=>by
 simp only[xY,aG,List.not_mem_nil,or_false]at hx;rcases hx with rfl|rfl|rfl|rfl|rfl|rfl|rfl|rfl<;>exact h _ _ _ Wq7
theorem OO:wW ([64,64,64,48].map λn=>Im.ag (Eg n)) (xY.map ItR.it)=[⟨0,dT,1⟩,⟨0,dT,0⟩,⟨0,dT,1⟩,⟨0,dT,0⟩,⟨0,dT,26⟩,⟨0,dT,26⟩,⟨0,dT,22⟩,⟨0,dT,0⟩]:=by kernel_rfl
theorem KF:∃a,(DW ([64,64,64,48].map λn=>Im.ag (Eg n)) (xY.map ItR.it))[3]? =some a/\a.view.Sc=128:=⟨_,rfl,by kernel_rfl⟩
theorem rP(w:World)(ht:fE w):Ctr prog 7 [] w [] (λv cs=>v= .bool true/\cs=[]):=by
 refine Zfs func7 ntmps7 ?_;refine Z_8 ?_;refine ZN λb1=>?_
 refine iD ?_;refine ZSe (λw hi=>Qe true w) ?_;refine iT ?_;refine jj ?_;rintro _ _ ⟨b28,rfl,rfl⟩;refine ZSe (λw hi=>uo (L:=[64,64,64,64,64].map Eg) (e:=1) rfl Wq7 (oC kV) (hi.rd (show Has _ (slv 33 3 (sA b28) 5 5 (([64,64,64,64,64].map Eg).flatMap Im.cells))from Zh)) (zW kV)) ?_;refine kM ?_;refine jj ?_;rintro _ _ ⟨b37,rfl,rfl⟩;refine ZSe (λw hi=>uo (L:=[64,64,64,64].map Eg) (e:=13) rfl Wq7 (oC kV) (hi.rd (show Has _ (slv 33 3 (sA b37) 4 4 (([64,64,64,64].map Eg).flatMap Im.cells))from Zh)) (zW kV)) ?_;refine gK ?_;refine jj ?_;rintro _ _ ⟨b44,rfl,rfl⟩;refine ZSe (λw hi=>uo (L:=[64,65].map Eg) (e:=1) rfl Wq7 (oC kV) (hi.rd (show Has _ (slv 33 3 (sA b44) 2 2 (([64,65].map Eg).flatMap Im.cells))from Zh)) (zW kV)) ?_;refine kM ?_;refine jj ?_;rintro _ _ ⟨b53,rfl,rfl⟩;refine ZSn (λw hi=>iR (L:=[64,64,64,48].map Eg) rfl (oC kV) (hi.rd (show Has _ (slv 33 3 (sA b53) 4 4 (([64,64,64,48].map Eg).flatMap Im.cells))from Zh)) (zW kV)) ?_;rintro _ _ ⟨bm,m,⟨hm,hlm⟩,rfl,rfl⟩;refine iT ?_;refine iU ?_;refine kM ?_;refine jj ?_;rintro _ _ ⟨b68,rfl,rfl⟩;refine dz (dq bm m) (λw hi hin=>xR bm m 0 hm xY Wq7 (sA b68) 8 (xX (λk g n hn=>⟨eM,au _,show(-9223372036854775808:Int)<=n by omega⟩)) w hin (λw' hk=>hi.Sr Zi (show Has _ (slv 35 4 (sA b68) 8 8 (xY.flatMap ItR.cells))from Zh) hk) (λw' hk=>xX (λk g n _=>jq w' .u8)) (λw' hk=>RdV.RT ht hi Zi hk)) ?_;rintro _ _ ⟨m2,Z,A3,c3,J,⟨hm2,hl2,hZ, -⟩,rfl,rfl⟩;have hlm:m.l=[64,64,64,48].map λn=>Im.ag (Eg n):=hlm
 rw[hlm]at hl2 hZ;rw[OO]at hZ;have hg2:m2.l.length=4:=(by rw[hl2,ot];rfl);have hg3:m2.gs.length=4:=(by rw[<-m2.len];exact hg2);obtain⟨a3,ha3,hp3⟩:=KF;rw[<-hl2]at ha3;obtain⟨z0,z1,z2,z3,z4,z5,z6,z7,rfl,⟨h0,h1,h2,h3⟩,h4,h5,h6,h7⟩:=KX hZ;refine dZ (λw hi=>dO (hi.get (show Has _ (slv 47 25 A3 8 c3 _)from Zh)) Wq7) (λhq=>?_);obtain⟨bz,rfl⟩:=hq;obtain⟨⟨n0,v0,y0⟩,Y0⟩:=z0;obtain⟨⟨n1,v1,y1⟩,Y1⟩:=z1;obtain⟨⟨n2,v2,y2⟩,Y2⟩:=z2;obtain⟨⟨n3,v3,y3⟩,Y3⟩:=z3;obtain⟨⟨n4,v4,y4⟩,Y4⟩:=z4;obtain⟨⟨n5,v5,y5⟩,Y5⟩:=z5;obtain⟨⟨n6,v6,y6⟩,Y6⟩:=z6;obtain⟨⟨n7,v7,y7⟩,Y7⟩:=z7;simp only[Ou.mk.injEq]at h0 h1 h2 h3 h4 h5 h6 h7;obtain⟨-, -,rfl⟩:=h0;obtain⟨-, -,rfl⟩:=h1;obtain⟨-, -,rfl⟩:=h2;obtain⟨-, -,rfl⟩:=h3;obtain⟨-, -,rfl⟩:=h4;obtain⟨-, -,rfl⟩:=h5;obtain⟨-, -,rfl⟩:=h6;obtain⟨rfl, -, -⟩:=h7;rw[show([(⟨⟨n0,v0,1⟩,Y0⟩:OuR),⟨⟨n1,v1,0⟩,Y1⟩,⟨⟨n2,v2,1⟩,Y2⟩,⟨⟨n3,v3,0⟩,Y3⟩,⟨⟨n4,v4,26⟩,Y4⟩,⟨⟨n5,v5,26⟩,Y5⟩,⟨⟨n6,v6,22⟩,Y6⟩,⟨⟨0,v7,y7⟩,Y7⟩]).length=8 from rfl];refine Z_6 ?_;refine ZSn (λw hi=>ft bm m2 _ hm2 Wq7 3 a3 ha3 w hi Zi) ?_;rintro _ _ ⟨Y9,J9,hR9,rfl,rfl⟩;refine Z_3 ?_;refine ZN λb13=>?_
 refine jh ?_;refine ZSe (λw hi=>Ho bm m2 4 (by rw[hg3];rfl) w (hi.get Zh)) ?_;refine Z_3 ?_;refine ZN λb15=>?_
 refine ZM ?_;refine kX ?_;refine fB ?_;refine Wq207 ?_;refine Nm ?_;refine Zyy rfl rfl (bS (j:=2) rfl Zrf (bU rfl) (Zv rfl) Wq2 Wq2) ?_;refine Zyy rfl rfl (ce 24 rfl (bU rfl) ((dI (j:=74) rfl))) ?_;refine Nm ?_;refine Zyy rfl rfl (bS (j:=3) rfl Zrf (bU rfl) (Zv rfl) Wq2 Wq2) ?_;refine Zyy rfl rfl (ce 24 rfl (bU rfl) ((dI (j:=99) rfl))) ?_;refine Nm ?_;refine Zyy rfl rfl (bS (j:=4) rfl Zrf (bU rfl) (Zv rfl) Wq2 Wq2) ?_;refine Zyy rfl rfl (ce 24 rfl (bU rfl) ((dI (j:=124) rfl))) ?_;refine Nm ?_;refine Zyy rfl rfl (bS (j:=5) rfl Zrf (bU rfl) (Zv rfl) Wq2 Wq2) ?_;refine Zyy rfl rfl (ce 24 rfl (bU rfl) ((dI (j:=149) rfl))) ?_;refine Nm ?_;refine Zyy rfl rfl (bS (j:=6) rfl Zrf (bU rfl) (Zv rfl) Wq2 Wq2) ?_;refine Zyy rfl rfl (ce 24 rfl (bU rfl) ((dI (j:=174) rfl))) ?_;refine Nm ?_;refine Zyy rfl rfl (bS (j:=7) rfl Zrf (bU rfl) (Zv rfl) Wq2 Wq2) ?_;refine Zyy rfl rfl (ce 0 rfl (bU rfl) ((dI (j:=175) rfl))) ?_;refine fN (bM rfl rfl) (bF Zrf (bU rfl)) (dh Zh rfl) rfl (Z_6 ?_);refine ZFb 20 ?_;refine ZD ?_;refine Zyy rfl rfl (AY (bU rfl) (Zv rfl) (show _=true from by rw[hp3];rfl)) ?_;refine Z_7 ?_;refine gU (bM rfl rfl) rfl (dW rfl (λ_ _=>rfl) (λw hi=>sa bm m2 w (hi.get Zh))) rfl ?_;rintro _ _ ⟨_,⟨rfl,rfl⟩,rfl⟩;rw[hg2];refine Z_4 ?_;refine gU (bM rfl rfl) rfl (dW rfl (λ_ _=>rfl) (λw hi=>BX bm m2 9 (by rw[hg3];rfl) w (hi.get Zh))) rfl ?_;rintro _ _ ⟨_,⟨rfl,rfl⟩,rfl⟩;refine Z_5 ?_;refine gU (bM rfl rfl) rfl (eo (dq bm m2) rfl (λ_ _=>rfl) Zi (λw hi hin=>xR bm m2 _ hm2 [] Wq7 none 0 (λx hx=>by cases hx) w hin (λw' _=>rdvNil w' 4) (λw' _ x hx=>by cases hx) (λw' hk=>RdV.RT ht hi Zi hk))) rfl ?_;rintro _ _ ⟨_,⟨m3,Z3,A4,c4,J4,⟨-, -,hZ3, -⟩,rfl,rfl⟩,rfl⟩;obtain rfl:Z3=[]:=List.map_eq_nil_iff.1 hZ3;refine Z_4 ?_;exact Wq335
open Go
theorem cX{W:World}(h:laidMetH prog Rows.monitorNumbersRow.laid W):fE W:=
 fU (t:=280) (e:=5) (Si:=qe) h (MakeChecks.laidMetH_plain _ _ _ Wq4) rfl (g:=0) Wq4 Wq4 Wq4 Wq4 Wq4 rfl gq
theorem eO(os:Os)(args:Array Value):laidMetH prog Rows.monitorNumbersRow.laid ((World.doorLaid prog 400 os).forCall (λ_ _=>0) ⟨#[],args,[]⟩).memory:=
 laidMetH_of_parts3 (fuel:=8) (laidMet_of_run' 8 Wq4 Wq4) Wq4 Wq4
set_option maxRecDepth 100000 in
theorem nk(os:Os)(started:os.Started)(H:Type)(enc:TypeId×Value->H):
  ReturnsInHanded {} checked os 7 .any (λw args=>(Rows.monitorNumbersSpec.pre enc prog f7 [] false w args/\laidMetH prog Rows.monitorNumbersRow.laid w)/\sizedMet enc prog f7 (OpenSpec.ofChange Rows.monitorNumbersSpec) false w args) (Rows.monitorNumbersSpec.post enc prog f7 false true false false):=
 hH (C:=checked) (ts:=[]) Nj started Wq4 func7
  (ChangeSpec.witness_shaped (enc:=enc) (C:=checked) (os:=os) (X:=λw _=>laidMetH prog Rows.monitorNumbersRow.laid w) false (World.doorLaid prog 400 os) #[] 8 rfl (World.shaped_of_RefB Wq4 Wq4) Wq4 Wq4 Wq4 (eO os _))
  rfl rfl rfl rfl (λds h=>by match ds,h with|[],_=>rfl) vJ Wq4 (λW vs h hx=>by
   have ht:=cX hx;subst h;exact jl (rP W ht))
set_option maxHeartbeats 0 in
theorem pv:Rows.MonitorNumbersSaid:=
 OpenClaim.holds_of_wide 7 f7 rfl rfl rfl rfl rfl rfl rfl ⟨rfl,rfl,rfl,rfl,rfl⟩ rfl rfl rfl rfl rfl oI func7 oJ pw pu
  (λos started H enc _=>nk os started H enc)
set_option maxHeartbeats 0 in
theorem monitorNumbers_holds:Rows.MonitorNumbersCardSaid:=
 Claim7.holds_tied_plain_at .later [] [.data] true Rows.monitorNumbersCard.stood.harness false
  pv (λ_ h=>by cases h) Wq4 (λ_ h=>by cases h) monitorNumbers_row_tie rfl ⟨rfl,rfl⟩ Wq4 rfl
  (λf fn hf hfn=>by
   obtain rfl:f=7:=ax ((show prog.funcNamed "innkeeper/innkeeperlaw26.MonitorNumbers" =some 7 by as_aux_lemma=>kernel_rfl).symm.trans hf)|>.symm
   obtain rfl:fn=f7:=(ax (func7.symm.trans hfn)).symm;exact⟨by as_aux_lemma=>kernel_rfl,λj t ht=>by
    have hm:t∈f7.params.toList:=by simpa using Array.mem_of_getElem? ht
    have hall:(f7.params.toList.all λu=> !prog.wantsStandIn u)=true:=by as_aux_lemma=>kernel_rfl
    exact(show prog.wantsStandIn t=false by simpa using aY.1 hall t hm)⟩)
  Wq4
#print axioms monitorNumbers_holds
end Go.Proofs.YtbkgmdgackknfaaGreatDoor
