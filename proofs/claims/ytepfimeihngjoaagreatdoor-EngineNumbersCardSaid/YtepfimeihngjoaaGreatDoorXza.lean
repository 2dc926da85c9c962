/- For every input the law EngineNumbers answers true and leaves every argument as it was; the table of math/bits is what the program's text lays (the card ties it); no other condition. -/
import Derived.Test.YtepfimeihngjoaaGreatDoorXbo
import Derived.JoinedOf
import Derived.Test.YtepfimeihngjoaaGreatDoorCards
import Derived.Test.YtepfimeihngjoaaGreatDoorTie
import Derived.SevenTiedAt
import Derived.Test.YtepfimeihngjoaaGreatDoorXzaF
set_option linter.all false
set_option maxRecDepth 100000
set_option maxHeartbeats 4000000
namespace Go.Ink
open List renaming length→J
open IntKind renaming wrap→V9
open Go.RowKit
abbrev Ha:List (Int×Int):=[(1,5),(4,0),(0,0),(2,1),(52,0),(1,1),(16,0),(2,1),(53,0),(32,235)]
theorem Kl:J (g9 Ha)<=128:=aN (kD Ha 10) ne
theorem OL:Vh (g9 Ha):=mj _ _
abbrev NY:St:=⟨7,[],[],0,true,false,false,0,0,0,0,0,false,false,0,false⟩
abbrev vA:St:=⟨0,[],[],0,false,false,false,0,0,0,0,0,false,false,9,true⟩
theorem haltN_g{n:Nat}{s:St}{U:UI}{d:UF}(h:VN n s U d):VN n vA U d:=
 ⟨⟨⟨by decide,by decide⟩,⟨by decide,by decide⟩,⟨by decide,by decide⟩,⟨by decide,by decide⟩,⟨by decide,by decide⟩,⟨by decide,by decide⟩,⟨by decide,by decide⟩,⟨by decide,by decide⟩,(λx hx=>nomatch hx),(λx hx=>nomatch hx)⟩,I,h.u,h.dv,h.lines⟩
theorem P6(n:Nat)(U:UI)(d:UF)(G:VB):(WO n vA U d G).1=(vA,U,d):=rfl
end Go.Ink
namespace Go.Proofs.YtepfimeihngjoaaGreatDoor
open List renaming length→J
open IntKind renaming wrap→V9
open Go.RowKit Go.Ink Go.Proofs.Tryz
attribute [local irreducible] Ve bN
theorem zV(s:St)(Ad Ar:Oa)(cd cr:Nat)(w:World)(h:iL w s Ad Ar cd cr):
  UW prog 93 [sv s Ad cd Ar cr,.pointer none,.pointer none] w [] (λv cs=>∃X:dz,v= .agg (s.cells (.slice X.Ad (J s.d) X.cd) (.slice X.Ar (J s.r) X.cr)++[Value.w 0,Value.bool false]).toArray/\cs=[Vf s X.Ad X.cd,Vj s X.Ar X.cr]):=by
 have HR2:=mJ s;obtain⟨rt,hrt⟩:=Do (s.right);rw[hrt]at HR2;refine UV func93 ntmps93 ?_;refine An ?_;refine ZO λb3=>?_;refine ZN λb6=>?_
 refine UQ ?_;refine QW ?_;rintro _ _ ⟨_,⟨A1,c1,A2,c2,rfl,rfl⟩,rfl⟩;refine Ny ?_;refine nW ?_;refine bY I ((by cases rt<;>cases s.halted<;>rfl)) (UK ?_);refine ij ?_;exact bK ([row b6 (s.cells (.slice A1 (J s.d) c1) (.slice A2 (J s.r) c2)++[Value.w 0,Value.bool false]) 177,Vf s A1 c1,Vj s A2 c2]) Zj (lL (cs':=[Vf s A1 c1,Vj s A2 c2]) (.inl I) Zu I I Zh ir ir ⟨⟨A1,c1,A2,c2⟩,I,I⟩)
theorem MH(be:Nat)(E:Vy)(s:St)(Ad Ar:Oa)(cd cr:Nat)(w:World)(hi:Inv w (bM (Vt be E)) (Vt be E) w)(h:∀w',dc (bM (Vt be E)) w w'->iL w' s Ad Ar cd cr):
  UW prog 30 [.p be,sv s Ad cd Ar cr,.pointer none,.pointer none] w (Vt be E) (λv cs=>∃X:dz,v=sv s X.Ad X.cd X.Ar X.cr/\cs=Vf s X.Ad X.cd::Vj s X.Ar X.cr::Vt be (E.TL (V9 .i64 (V9 .u64 (s.count - s.count))))):=by
 refine Vb func30 ntmps30 hi ?_;refine An ?_;refine ZO λb5=>?_;refine ZN λb8=>?_
 refine US ?_;refine Vl (λw hi=>zV s Ad Ar cd cr w (h w hi.To)) ?_;rintro _ _ ⟨X1,rfl,rfl⟩;refine ZN λb9=>?_
 refine qN ?_;refine iS ?_;refine Zs (bQ (Vg [14]) Zk ?_);refine lO ?_;refine UE 2 5 ?_;refine ZG 3 ?_;refine UE 4 0 ?_;refine UE 5 14 ?_;refine ZG 6 ?_;refine UE 7 14 ?_;refine ZG 8 ?_;refine Wq377 ?_;refine ku ?_;refine iT ?_;refine UK ?_;refine dZ (bX (vs:=s.cells (.slice X1.Ad (J s.d) X1.cd) (.slice X1.Ar (J s.r) X1.cr)) ir ir py) (cq Zh I) I (ij ?_);exact bK (row b8 (s.cells (.slice X1.Ad (J s.d) X1.cd) (.slice X1.Ar (J s.r) X1.cr)) 36::Vf s X1.Ad X1.cd::Vj s X1.Ar X1.cr::Vt be (E.TL (V9 .i64 (V9 .u64 (s.count - s.count))))) Zj (lL (cs':=(Vf s X1.Ad X1.cd::Vj s X1.Ar X1.cr::Vt be (E.TL (V9 .i64 (V9 .u64 (s.count - s.count)))))) (.inl I) Zu I I Zh ir ir ⟨X1,I,I⟩)
theorem FD(n:Int)(w:World):CW prog 23 [.w n] w (.agg #[.i 2,.w n]):=by
 refine UV func23 ntmps23 ?_;exact YN
theorem MD(w:World):CW prog 28 [.i 0] w (.tuple #[.pointer none,.i 1]):=by
 refine(MC 0 w).mono ?_;rintro v cs h;rw[if_neg ne]at h;exact h
theorem tn(w:World)(ht:iU w):CW prog 4 [] w (.bool true):=by
 have hnil:Vh ([]:Li):=λx hx=>by cases hx
 have HC:=λA c w h=>vZ A c Ha (show(10:Nat)<=1000 by decide) w h
 have hSl:=Kl;have hSu:=OL;obtain⟨L,hL⟩:=Do (g9 Ha);rw[hL]at HC hSl hSu;have HL:=BN;have HN:=qG 4 ⟨by decide,by decide⟩;have HG:=λ(n:Nat) (l:Li) hn0 hn hl hb=>(qy (n:=n) (l:=l) (k:=[]) hn0 hn hl hb ne hnil)
 have HF:=λA c (n:Nat) (l:Li) hn0 hn hl hb w h=>vJ A none c 0 n l [] hn0 hn hl hb ne w h (y6 w .u8)
 obtain⟨d0,hd⟩:=Do (UF.init []);obtain⟨T0,hT⟩:=Do (cX);rw[hd,hT]at HF HG;refine UV func4 ntmps4 ?_;refine oO ?_;refine gS (J8 I I (λ_ _=>I) (λw hi=>FD 1 w)) I ?_;refine Vz ?_;refine UK ?_;refine gS (J8 I I (λ_ _=>I) (λw hi=>FD 1 w)) I ?_;refine Vz ?_;refine An ?_;refine wF ?_;rintro _ _ ⟨b23,rfl,rfl⟩;refine Vl (λw hi=>HC (sA b23) 10 w (hi.rd (UJ (slv 51 2 (sA b23) 10 10 (Ha.flatMap fY))))) ?_;rintro _ _ ⟨A1,c1,rfl,rfl⟩;refine UU ?_;refine gE [sl .u8 5 A1 (J L) c1 L] Zj (UK ?_);refine mB (λq:Nat=>[(2,.slice A1 (J L) c1),(3,.i (q:Int))]) (λq=>[sl .u8 5 A1 (J L) c1 L]) (λq=>1<=q/\q<=5) (λq=>5 - q) (1) ?_ ?_ ?_ ?_
 .exact⟨aK _,by decide⟩
 .exact Xq
 .exact CB
 rintro j ⟨hj1,hj5⟩;dsimp only;refine VJ ?_ ?_<;>intro hc4
 .simp only[ai]at hc4;refine US ?_;refine Zy (fT (Zv I) (Zv I) (show _=(j:Int)*7 from by rw[bI];omega)) ?_;refine Zy (cz I I (Zv I) (show _=(j:Int)*7 from u32_wrap_id _ O O)) ?_;refine Vl (λw hi=>HL ((j:Int)*7) ⟨by omega,by omega⟩ w) ?_;rintro _ _ ⟨A2,c2,rfl,rfl⟩;have hl2:=FC (((j:Int)*7).tmod 256);have hu2:=Lr (((j:Int)*7).tmod 256);obtain⟨L2,hL2⟩:=Do (g9 (rC (((j:Int)*7).tmod 256)));rw[hL2]at hl2 hu2|-;refine Vl (λw hi=>HF A2 c2 2 L2 ne ne O hu2 w (hi.rd (UJ (sl .u8 5 A2 (J L2) c2 L2)))) ?_;rintro _ _ ⟨F,hFn,rfl,rfl⟩;have hG0:=(HG 2 L2 ne ne O hu2).to25;refine mA [] Zi (ZA ?_);refine jQ ?_;rintro _ _ ⟨b35,rfl,rfl⟩;refine Vq (CP F 2 St.new XD XD [] WN WN ⟨UO.init 2 L2,T0⟩ d0) (λw hi hin=>nA F 2 ne hFn (j:Int) ⟨by omega,by omega⟩ 60 ne St.new XD XD [] yw WN WN ⟨UO.init 2 L2,T0⟩ d0 hG0 none (sA b35) 0 6 [] [false,false,false,true,false,true] (ax _) ne w hin (λw' _=>pC w' 3) (λw' _ a ha=>nomatch ha) (λw' hk=>cY (hi.TM Zi (UJ (slv 4 1 (sA b35) 6 6 [.bool false,.bool false,.bool false,.bool true,.bool false,.bool true])) hk)) (λw' hk=>U5.Th ht hi Zi hk)) ?_;refine UK ?_;refine gm (bR I I) I (dT I (λ_ _=>I) (λw hi=>HF A1 c1 2 L ne ne O hSu w (hi.rd (UJ (sl .u8 5 A1 (J L) c1 L))))) I ?_;rintro _ _ ⟨_,⟨F2,hFn2,rfl,rfl⟩,rfl⟩;have hG2:=(HG 2 L ne ne O hSu).to25;refine mA [] Zi (ZB ?_);refine gm (bR I I) I (dh (CP F2 2 St.new XD XD [] WN WN ⟨UO.init 2 L,T0⟩ d0) I (λ_ _=>I) Zi (λw hi hin=>nA F2 2 ne hFn2 (j:Int) ⟨by omega,by omega⟩ 60 ne St.new XD XD [] yw WN WN ⟨UO.init 2 L,T0⟩ d0 hG2 none none 0 0 [] [] (ax _) (ax _) w hin (λw' _=>pC w' 3) (λw' _ a ha=>nomatch ha) (λw' _=>pC w' 1) (λw' hk=>U5.Th ht hi Zi hk))) I ?_;refine Vz ?_;refine UK ?_;refine gm (bR I I) I (dT I (λ_ _=>I) (λw hi=>HF none 0 1 [] ne ne ne hnil w (y6 w .u8))) I ?_;rintro _ _ ⟨_,⟨F3,hFn3,rfl,rfl⟩,rfl⟩;have hG3:=(HG 1 [] ne ne ne hnil).to25;refine mA [] Zi (ZB ?_);refine gm (bR I I) I (dh (CP F3 1 St.new XD XD [] WN WN ⟨UO.init 1 [],T0⟩ d0) I (λ_ _=>I) Zi (λw hi hin=>nA F3 1 ne hFn3 (j:Int) ⟨by omega,by omega⟩ 20 ne St.new XD XD [] yw WN WN ⟨UO.init 1 [],T0⟩ d0 hG3 none none 0 0 [] [] (ax _) (ax _) w hin (λw' _=>pC w' 3) (λw' _ a ha=>nomatch ha) (λw' _=>pC w' 1) (λw' hk=>U5.Th ht hi Zi hk))) I ?_;refine Vz ?_;refine UK ?_;refine j6 ?_;refine W8 ?_;refine Vd ((j+1)) ⟨⟨by omega,by omega⟩,by omega⟩
 refine US ?_;refine UZ (λw hi=>MD w) ?_;refine U8 ?_;refine Vl (λw hi=>HN w) ?_;rintro _ _ ⟨be,E,⟨hE1,hE0⟩,rfl,rfl⟩;refine kF ?_;refine j6 ?_;refine ZN λb8=>?_
 refine rY ?_;refine ZN λb9=>?_
 refine ij ?_;refine Vl (λw hi=>HL 1 ⟨by decide,by decide⟩ w) ?_;rintro _ _ ⟨A3,c3,rfl,rfl⟩;have hl3:=FC ((1:Int).tmod 256);have hu3:=Lr ((1:Int).tmod 256);obtain⟨L3,hL3⟩:=Do (g9 (rC ((1:Int).tmod 256)));rw[hL3]at hl3 hu3|-;refine Vl (λw hi=>HF A3 c3 2 L3 ne ne O hu3 w (hi.rd (UJ (sl .u8 5 A3 (J L3) c3 L3)))) ?_;rintro _ _ ⟨F4,hFn4,rfl,rfl⟩;have hG4:=haltN_g (HG 2 L3 ne ne O hu3).g;obtain⟨E1,hE3⟩:=Do (E.TL (V9 .i64 (V9 .u64 (NY.count - NY.count))));have hE4:mw E1:=hE3▸hE1.Uq _;have HD:=MH be E NY none none 0 0;rw[hE3]at HD;have HE:=λw hi h ht=>MF be F4.bu F4.bb F4.L F4.D WN vA none none 0 0 ⟨UO.init 2 L3,T0⟩ d0 (hFn4▸hG4) (by rw[<-hd];decide) E1 hE4 w hi h ht
 rw[P6]at HE;refine UK ?_;refine iC (Vg [9,24]) [(0,0),(1,0),(2,0),(3,0),(4,0),(5,0),(6,0),(7,0),(8,4),(9,3),(10,3),(11,3),(12,3),(13,3),(14,3),(15,3),(16,3),(17,3),(18,3),(19,3),(20,3),(21,3),(22,3),(23,3),(24,3),(25,3),(26,3),(27,3),(28,3),(29,3),(30,3),(31,3)] Zk Zk (tD ?_);refine ek I (y_pnn I py) I (tD ?_);refine ng I (bS I I) (ui py) I (ng I (bS I I) (ly (cO I) (Zv I) I) I (φ ?_));refine Yt I (bS I I) (bX (vs:=NY.cells (.slice none 0 0) (.slice none 0 0)) ir ir py) (cq Zh I) I (GI [(9,[(10,4),(11,2),(12,0),(13,0),(14,0),(15,1),(16,0),(17,0),(18,0),(19,1),(20,0),(21,0),(22,0),(23,1),(24,3),(25,3),(26,3),(27,3),(28,3),(29,3),(30,3),(31,3)]),(10,[(9,2),(11,2),(12,0),(13,0),(14,0),(15,1),(16,0),(17,0),(18,0),(19,1),(20,0),(21,0),(22,0),(23,1),(24,3),(25,3),(26,3),(27,3),(28,3),(29,3),(30,3),(31,3)])] Zk (.cons ?_ (.cons ?_ .nil)))
 .refine Wq486 ?_;rintro _ _ ⟨_,⟨X1,rfl,rfl⟩,rfl⟩;refine Yt I (bS I I) (bX (vs:=NY.cells (.slice none 0 0) (.slice none 0 0)) ir ir py) (cq Zh I) I (Wq250 ?_);refine Vz ?_;refine φ ?_;refine Wq239 ?_;refine GI [(24,[(25,1),(26,2),(27,0),(28,0),(29,2),(30,0),(31,0)]),(25,[(24,2),(26,2),(27,0),(28,0),(29,2),(30,0),(31,0)])] Zk (.cons ?_ (.cons ?_ .nil))
  .exact Wq296
  exact Wq272
 refine wsi_y I (bS I I) (bX (vs:=NY.cells (.slice none 0 0) (.slice none 0 0)) ir ir py) (cq Zh I) I (et ?_);refine Wq486 ?_;rintro _ _ ⟨_,⟨X1,rfl,rfl⟩,rfl⟩;refine Wq250 ?_;refine Vz ?_;refine φ ?_;refine Wq239 ?_;refine GI [(24,[(25,1),(26,2),(27,0),(28,0),(29,2),(30,0),(31,0)]),(25,[(24,2),(26,2),(27,0),(28,0),(29,2),(30,0),(31,0)])] Zk (.cons ?_ (.cons ?_ .nil))
 .exact Wq296
 exact Wq272
open Go
theorem fo{W:World}(h:laidMetH prog Rows.engineNumbersRow.laid W):iU W:=
 kC (t:=344) (e:=5) (Tv:=wG) h (MakeChecks.laidMetH_plain _ _ _ Vi) rfl (g:=0) Vi Vi Vi Vi Vi rfl gD
theorem ja(os:Os)(args:Array Value):laidMetH prog Rows.engineNumbersRow.laid ((World.doorLaid prog 400 os).forCall (λ_ _=>0) ⟨#[],args,[]⟩).memory:=
 laidMetH_of_parts3 (fuel:=8) (laidMet_of_run' 8 Vi Vi) Vi Vi
set_option maxRecDepth 100000 in
theorem oS(os:Os)(started:os.Started)(H:Type)(enc:TypeId×Value->H):
  ReturnsInHanded {} checked os 4 .any (λw args=>(Rows.engineNumbersSpec.pre enc prog f4 [] false w args/\laidMetH prog Rows.engineNumbersRow.laid w)/\sizedMet enc prog f4 (OpenSpec.ofChange Rows.engineNumbersSpec) false w args) (Rows.engineNumbersSpec.post enc prog f4 false true false false):=
 lZ (C:=checked) (ts:=[]) own0 started Vi func4
  (ChangeSpec.witness_shaped (enc:=enc) (C:=checked) (os:=os) (X:=λw _=>laidMetH prog Rows.engineNumbersRow.laid w) false (World.doorLaid prog 400 os) #[] 8 I (World.shaped_of_RefB Vi Vi) Vi Vi Vi (ja os _))
  rfl rfl rfl rfl (λds h=>by match ds,h with|[],_=>rfl) D5 Vi (λW vs h hx=>by
   have ht:=fo hx;subst h;exact oN (tn W ht))
set_option maxHeartbeats 0 in
theorem qD:Rows.EngineNumbersSaid:=
 OpenClaim.holds_of_wide 4 f4 rfl rfl rfl rfl rfl rfl rfl ⟨rfl,rfl,rfl,rfl,rfl⟩ rfl rfl rfl rfl rfl pG func4 pH qE qC
  (λos started H enc _=>oS os started H enc)
set_option maxHeartbeats 0 in
theorem engineNumbers_holds:Rows.EngineNumbersCardSaid:=
 Claim7.holds_tied_plain_at .later [] [.data] true Rows.engineNumbersCard.stood.harness false
  qD (λ_ h=>by cases h) Vi (λ_ h=>by cases h) engineNumbers_row_tie rfl ⟨rfl,rfl⟩ Vi rfl
  (λf fn hf hfn=>by
   obtain rfl:f=4:=aF ((show prog.funcNamed "innkeeper/innkeeperlaw24.EngineNumbers" =some 4 by as_aux_lemma=>kernel_rfl).symm.trans hf)|>.symm
   obtain rfl:fn=f4:=(aF (func4.symm.trans hfn)).symm;exact⟨by as_aux_lemma=>kernel_rfl,λj t ht=>by
    have hm:t∈f4.params.toList:=by simpa using Array.mem_of_getElem? ht
    have hall:(f4.params.toList.all λu=> !prog.wantsStandIn u)=true:=by as_aux_lemma=>kernel_rfl
    exact(show prog.wantsStandIn t=false by simpa using List.all_eq_true.1 hall t hm)⟩)
  Vi
end Go.Proofs.YtepfimeihngjoaaGreatDoor
