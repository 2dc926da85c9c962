/- For every input the law EngineTurns answers true and leaves every argument as it was; the table of math/bits is what the program's text lays (the card ties it); no other condition. -/
import Derived.Test.YtomjgmbccamgiaaGreatDoorQaa
import Derived.Test.YtomjgmbccamgiaaGreatDoorQab
import Derived.Test.YtomjgmbccamgiaaGreatDoorQac
import Derived.Test.YtomjgmbccamgiaaGreatDoorQan
import Derived.Test.YtomjgmbccamgiaaGreatDoorQau
import Derived.Test.YtomjgmbccamgiaaGreatDoorRows
import Derived.JoinedOf
import Derived.Test.YtomjgmbccamgiaaGreatDoorCards
import Derived.Test.YtomjgmbccamgiaaGreatDoorTie
import Derived.SevenTiedAt
set_option linter.unusedSimpArgs false
set_option linter.unusedVariables false
set_option maxRecDepth 100000
set_option maxHeartbeats 4000000
namespace Go.Ink
open Go.RowKit
theorem mS.flushed{E:EnX}(h:mS E)(ml:Nat)(fl:Int):mS ⟨E.bc,E.mr,E.room,⟨ml,none,0,fl,[],[]⟩,[],E.last,E.IC,E.IA,E.begun⟩:=
 ⟨oN.none h.ca.rm _ _ _ _,h.eg.flush,(fun y hy=>nomatch hy),h.last⟩
theorem GOk.put{n:Nat}{s:St}{U:Mmu}{d:Dev}(h:GOk n s U d)(a:Nat){b:Int}(hb:0≤b∧b≤255):GOk n s ⟨U.m.put a b,U.t⟩ d:=⟨h.wf,h.right,⟨h.u.m.put a hb,h.u.t⟩,h.dv,h.lines⟩
theorem Gj(a:Int):(kK (qe a)).length≤30:=kI (qe a) 6
theorem loop_u8(a:Int):u8s (kK (qe a)):=so _ _
end Go.Ink
namespace Go.Proofs.YtomjgmbccamgiaaGreatDoor
open Go.RowKit Go.Ink Go.Proofs.Tryz
attribute [local irreducible] OpY bW
theorem sN(n at_ v:Int)(hn:u32 n)(ha:u32 at_)(hv:0≤v∧v≤255)(told:Bool)(w:World)(ht:lv w):
  Ctr prog 4 [.int .u32 n,.int .u32 at_,.int .u8 v,.bool told] w [] (fun v cs=>v= .bool true∧cs=[]):=by
 have HL:=wv n hn;have hl:=Gj (n.tmod 256);have hb:=loop_u8 (n.tmod 256);obtain⟨l0,hl0⟩:=Zgn (kK (qe (n.tmod 256)));rw[hl0]at HL hl hb;have HN:=mh 8 ⟨by decide,by decide⟩;have hG0:=oq (n:=2) (l:=l0) (k:=[]) (by omega) hb (by decide) (fun x hx=>by cases hx);have ho0:(Dev.init []).out.length≤0:=aQ _;have HF:=fun A c w h=>mL A none c 0 2 l0 [] (by decide) (by decide) (by omega) hb (by decide) w h (xN w .u8)
 unfold fr18 at HF;obtain⟨data,hda⟩:=Zgn (jl 2 l0);obtain⟨tu,htu⟩:=Zgn (List.replicate 2 false);obtain⟨U0,hU⟩:=Zgn ((⟨Mem.init 2 l0,eE⟩:Mmu));obtain⟨T0,hTT⟩:=Zgn (eE);obtain⟨d0,hd⟩:=Zgn (Dev.init []);rw[hda,htu,hU,hd,hTT]at HF;rw[hU,hd]at hG0;rw[hd]at ho0;obtain⟨P,hP⟩:∃P:Nat,at_.tmod 20=P:=ar (by rw[aD ha.1];omega);have hP20:P<20:=by
  have e:=hP;rw[aD ha.1]at e;omega
 have r4:=q8 60 hG0;obtain⟨⟨⟨s2,U2,d2⟩,G1⟩,hq1⟩:=Zgn (xh 2 60 St.new U0 d0 (Eng.fresh 8));obtain⟨v1,v2,v3,v4,v5,v6,v7⟩:=xW (n:=2) (by decide) (room:=8) ⟨by decide,by decide⟩ 60 (by decide) hG0 hq1;rw[v1]at r4;dsimp only at r4;have r4:d2.out.length≤480:=by rw[show(60:Int).toNat=60 from rfl]at r4;omega
 obtain⟨he16,hf16, -⟩:=St.fits v2.right;refine bL func4 rfl ntmps4 rfl (Inv.start w) ?_;refine Z_8 ?_;refine ZS (fun w hi=>HL w) ?_;rintro _ _ ⟨_,⟨A1,c1,rfl,rfl⟩,rfl⟩;refine ZS (fun w hi=>HF A1 c1 w (hi.rd (show Has _ (sl .u8 5 A1 l0.length c1 l0)from Zh))) ?_;rintro _ _ ⟨_,⟨F,hF,rfl,rfl⟩,rfl⟩;refine ZA ?_;refine ZS (fun w hi=>HL w) ?_;rintro _ _ ⟨_,⟨A2,c2,rfl,rfl⟩,rfl⟩;refine ZS (fun w hi=>HF A2 c2 w (hi.rd (show Has _ (sl .u8 5 A2 l0.length c2 l0)from Zh))) ?_;rintro _ _ ⟨_,⟨G,hGn,rfl,rfl⟩,rfl⟩;refine Z_6 ?_;refine ZS (fun w hi=>HN w) ?_;rintro _ _ ⟨_,⟨be,E,⟨hE,hE0⟩,rfl,rfl⟩,rfl⟩;have HR:=fun w hi h ht=>oz be F.bu F.bb F.L (by rw[hF];decide) F.D ⟨none,0,none,0⟩ St.new none none 0 0 U0 d0 (hF▸hG0) 60 (by decide) (by decide) (by rw[show(60:Int).toNat=60 from rfl];omega) E hE w hi h ht
 have HB:=fun w hi h ht=>Hs G.bu G.bb G.L G.D ⟨none,0,none,0⟩ St.new none none 0 0 U0 d0 (hGn▸hG0) 60 (by decide) (by decide) (by rw[show(60:Int).toNat=60 from rfl];omega) w hi h ht
 rw[hF,hE0,hq1]at HR;rw[hGn,v1]at HB;refine ln ?_;refine Z_6 ?_;refine bY rfl (rfl) ?_;refine Z_3 ?_;refine eM ⟨fun j=>List.elem j [14,17],[]⟩ [(0,0),(1,0),(2,0),(3,0),(4,0),(5,1),(6,0),(7,0),(8,0),(9,1),(10,0),(11,0),(12,0),(13,1),(14,2),(15,0),(16,0),(17,2)] Zk Zk ?_;refine bU rfl (cy Zv0) rfl ?_;refine bU rfl (cy Zv0) rfl ?_;refine bU rfl (cy Zv0) rfl ?_;refine bU rfl (dI Zv0) rfl ?_;refine bU rfl (cA 3 rfl Zv0 Zf) rfl ?_;refine fJ rfl (cC (vs:=St.new.cells (.slice none 0 0) (.slice none 0 0)) Zrf Zrf Zv0) (cL Zh rfl) rfl ?_;refine bU rfl (cy Zv0) rfl ?_;refine bU rfl (dI Zv0) rfl ?_;refine bU rfl (cA 0 rfl Zv0 Zf) rfl ?_;refine fJ rfl (bM Zrf Zv0) (bR Zh rfl) rfl ?_;refine bU rfl (cy Zv0) rfl ?_;refine bU rfl (dI Zv0) rfl ?_;refine bU rfl (cA 1 rfl Zv0 Zf) rfl ?_;refine fJ rfl (bM Zrf Zv0) (bR Zh rfl) rfl ?_;refine et rfl ?_;refine ZcS (eoF be F.bu F.bb F.L F.D ⟨none,0,none,0⟩ U0 d0 E) (fun w hi hin=>HR w hin (fun w' hk=>mR.nil_ w' rfl rfl) (fun w' hk=>RdV.Iz ht hi Zi hk)) ?_;rintro _ _ ⟨_,⟨X2,Y2,E3,hE3,hEe,rfl,rfl⟩,rfl⟩;refine bU rfl (dI Zv0) rfl ?_;refine bU rfl (cA 3 rfl Zv0 Zf) rfl ?_;refine et rfl ?_;refine dN rfl rfl (dK (ys:=wwL F s2 X2) (n:=16) (vs:=s2.cells (.slice X2.Ad s2.d.length X2.cd) (.slice X2.Ar s2.r.length X2.cr)) rfl Zrf rfl rfl (iK rfl) Za rfl (Nat.le_of_ble_eq_true rfl)) ZJ ?_;rintro _ _ ⟨rfl,rfl⟩;refine dA ?_;refine Z_2 ?_;refine eM ⟨fun j=>List.elem j [13,16],[]⟩ [(0,0),(1,0),(2,0),(3,0),(4,1),(5,0),(6,0),(7,0),(8,1),(9,0),(10,0),(11,0),(12,1),(13,2),(14,0),(15,0),(16,2)] Zk Zk ?_;refine bU rfl (cy Zv0) rfl ?_;refine bU rfl (cy Zv0) rfl ?_;refine bU rfl (dI Zv0) rfl ?_;refine bU rfl (cA 3 rfl Zv0 Zf) rfl ?_;refine fJ rfl (cC (vs:=St.new.cells (.slice none 0 0) (.slice none 0 0)) Zrf Zrf Zv0) (cL Zh rfl) rfl ?_;refine bU rfl (cy Zv0) rfl ?_;refine bU rfl (dI Zv0) rfl ?_;refine bU rfl (cA 0 rfl Zv0 Zf) rfl ?_;refine fJ rfl (bM Zrf Zv0) (bR Zh rfl) rfl ?_;refine bU rfl (cy Zv0) rfl ?_;refine bU rfl (dI Zv0) rfl ?_;refine bU rfl (cA 1 rfl Zv0 Zf) rfl ?_;refine fJ rfl (bM Zrf Zv0) (bR Zh rfl) rfl ?_;refine et rfl ?_;refine ZcS (ubF G.bu G.bb G.L G.D ⟨none,0,none,0⟩ U0 d0) (fun w hi hin=>HB w hin (fun w' hk=>mR.nil_ w' rfl rfl) (fun w' hk=>RdV.Iz ht hi Zi hk)) ?_;rintro _ _ ⟨_,⟨V2,Z2,rfl,rfl⟩,rfl⟩;refine bU rfl (dI Zv0) rfl ?_;refine bU rfl (cA 3 rfl Zv0 Zf) rfl ?_;refine et rfl ?_;refine dN rfl rfl (dK (ys:=wwL G s2 V2) (n:=16) (vs:=s2.cells (.slice V2.Ad s2.d.length V2.cd) (.slice V2.Ar s2.r.length V2.cr)) rfl Zrf rfl rfl (iK rfl) Za rfl (Nat.le_of_ble_eq_true rfl)) ZJ ?_;rintro _ _ ⟨rfl,rfl⟩;refine dA ?_;refine Z_4 ?_;refine Zy (gt (Zv rfl) (Zv rfl) (by omega) hP) ?_;refine gK ?_;refine ZcM ([eH F.L U2.m]) (fun w hi hin=>oW F.L U2.m P (by rw[hF];omega) v hv w hin) ?_;refine Z_8 ?_;refine ku (bS rfl rfl) rfl (dR ([eH G.L U2.m]) rfl (fun _ _=>rfl) Zi (fun w hi hin=>oW G.L U2.m P (by rw[hGn];omega) v hv w hin)) rfl ?_;rintro _ _ ⟨_,⟨rfl,rfl⟩,rfl⟩;refine Z_4 ?_;refine bY rfl (rfl) ?_;refine Z_6 ?_;refine Zy (jA (Zv rfl) (Zv rfl) (by omega) (show _=(0:Int)from by rw[bn (by omega),u32_wrap_id _ (by omega) (by omega)];omega)) ?_;refine Zy (cu rfl rfl Zv0 rfl) ?_;refine dM (cm rfl rfl Zrf Zrf rfl rfl) rfl ?_;rintro _ _ ⟨b96,rfl,rfl⟩;refine ZcL (enP be E3 (some ⟨b96,0,none⟩) 1 [0]) (fun w hi hin=>tT be E3 hE3 (some ⟨b96,0,none⟩) 1 [0] w hin) ?_;rintro _ _ ⟨_,⟨E4,rfl,hE4, -⟩,rfl⟩;refine Z_2 ?_;refine de (fun q:EnX=>[(9,.pointer (some ⟨F.bw,0,none⟩)),(10,.pointer (some ⟨G.bw,0,none⟩)),(11,.pointer (some ⟨be,0,none⟩))]) (fun q=>wwX F s2 X2::wwX G s2 V2::(egF be F.bu F.bb F.L F.D s2 X2 Y2 ⟨U2.m.put P v,U2.t⟩ d2 q++guF G.bu G.bb G.L G.D s2 V2 Z2 ⟨U2.m.put P v,U2.t⟩ d2)) (fun q=>mS q) ?_ ?_
 ·refine Z_6 ?_;refine ZW ?_ ?_<;>intro hc11
  ·refine Z_2 ?_;refine ZcL (enF be E4) (fun w hi hin=>Ee be E4 w hin) ?_;rintro _ _ ⟨_,⟨ml,fl,rfl⟩,rfl⟩;refine Zn ?_;refine cz ((⟨E4.bc,E4.mr,E4.room,⟨ml,none,0,fl,[],[]⟩,[],E4.last,E4.IC,E4.IA,E4.begun⟩:EnX)) ?_ ?_ ?_
   ·exact hE4.flushed ml fl
   ·exact Zwk
   exact Zj
  refine Zc ?_;refine cz (E4) ?_ ?_ ?_
  ·exact hE4
  ·exact Zwk
  exact Zj
 rintro E5 hE5;have hG2:=v2.put P hv;refine Z_7 ?_;refine cJ (fun q:Nat×(St×Mmu×Dev)×(iv×j0×EnX)×(iv×j0)=>[(9,.pointer (some ⟨F.bw,0,none⟩)),(10,.pointer (some ⟨G.bw,0,none⟩)),(11,.pointer (some ⟨be,0,none⟩)),(14,.int .i64 (q.1:Int))]) (fun q=>wwX F q.2.1.1 q.2.2.1.1::wwX G q.2.1.1 q.2.2.2.1::(egF be F.bu F.bb F.L F.D q.2.1.1 q.2.2.1.1 q.2.2.1.2.1 q.2.1.2.1 q.2.1.2.2 q.2.2.1.2.2++guF G.bu G.bb G.L G.D q.2.1.1 q.2.2.2.1 q.2.2.2.2 q.2.1.2.1 q.2.1.2.2)) (fun q=>q.1≤20∧GOk 2 q.2.1.1 q.2.1.2.1 q.2.1.2.2∧q.2.1.2.2.out.length≤480+8*q.1∧mS q.2.2.1.2.2) (fun q=>20 - q.1) (⟨0,(s2,⟨U2.m.put P v,U2.t⟩,d2),(X2,Y2,E5),(V2,Z2)⟩) ?_ ?_ ?_ ?_
 ·exact⟨aw _,hG2,r4,hE5⟩
 ·exact Zwk
 ·exact aI _
 rintro⟨k,⟨s,U,d⟩,⟨X,Y,E⟩,⟨V,Z⟩⟩ ⟨hk,hG,ho,hE⟩;dsimp only at hk hG ho hE⊢;obtain⟨hd16,hr16, -⟩:=St.fits hG.right;refine Z_7 ?_;refine ZW ?_ ?_<;>intro hc14
 ·simp only[ap]at hc14;have HD:=H7 be F.bu F.bb F.L F.D Y s X.Ad X.Ar X.cd X.cr U d (hF▸hG) (by omega) E hE;have HE:=zM G.bu G.bb G.L G.D Z s V.Ad V.Ar V.cd V.cr U d (hGn▸hG) (by omega);obtain⟨r1, -, -⟩:=El (n:=2) (by decide) hG hE.eg;have r3:=sA hG;have hbo:(dT 2 s U d).2.2.out.length≤d.out.length+8:=(by rcases mP hG with h3|⟨-, -, -,h3⟩;exact h3.out;rw[h3];omega);rw[hF]at HD;rw[hGn]at HE;obtain⟨⟨⟨s3,U3,d3⟩,G2⟩,hq⟩:=Zgn (doE 2 s U d E.eng);rw[hq]at HD r1;dsimp only at r1;rw[←r1]at HE r3 hbo;dsimp only at r3 hbo;obtain⟨hi16,hj16, -⟩:=St.fits r3.right;refine Z_5 ?_;refine eM ⟨fun j=>List.elem j [14,17],[]⟩ [(0,0),(1,0),(2,0),(3,0),(4,0),(5,1),(6,0),(7,0),(8,0),(9,1),(10,0),(11,0),(12,0),(13,1),(14,2),(15,0),(16,0),(17,2)] Zk Zk ?_;refine bU rfl (cy Zv0) rfl ?_;refine bU rfl (cy Zv0) rfl ?_;refine bU rfl (cy Zv0) rfl ?_;refine bU rfl (dI Zv0) rfl ?_;refine bU rfl (cA 3 rfl Zv0 Zf) rfl ?_;refine fJ rfl (cC (vs:=s.cells (.slice X.Ad s.d.length X.cd) (.slice X.Ar s.r.length X.cr)) Zrf Zrf Zv0) (cL Zh rfl) rfl ?_;refine bU rfl (cy Zv0) rfl ?_;refine bU rfl (dI Zv0) rfl ?_;refine bU rfl (cA 0 rfl Zv0 Zf) rfl ?_;refine fJ rfl (bM Zrf Zv0) (bR Zh rfl) rfl ?_;refine bU rfl (cy Zv0) rfl ?_;refine bU rfl (dI Zv0) rfl ?_;refine bU rfl (cA 1 rfl Zv0 Zf) rfl ?_;refine fJ rfl (bM Zrf Zv0) (bR Zh rfl) rfl ?_;refine et rfl ?_;refine ZcS (eoF be F.bu F.bb F.L F.D Y U d E) (fun w hi hin=>HD w hin (fun w' hk=>hi.I0 Zi (show Has _ (slD s X.Ad X.cd)from Zh) (show Has _ (slR s X.Ar X.cr)from Zh) (by omega) (by omega) hk) (fun w' hk=>RdV.Iz ht hi Zi hk)) ?_;rintro _ _ ⟨_,⟨X3,Y3,E6,hE6,hE6e,rfl,rfl⟩,rfl⟩;refine bU rfl (dI Zv0) rfl ?_;refine bU rfl (cA 3 rfl Zv0 Zf) rfl ?_;refine et rfl ?_;refine dN rfl rfl (dK (ys:=wwL F s3 X3) (n:=16) (vs:=s3.cells (.slice X3.Ad s3.d.length X3.cd) (.slice X3.Ar s3.r.length X3.cr)) rfl Zrf rfl rfl (iK rfl) Za rfl (Nat.le_of_ble_eq_true rfl)) ZJ ?_;rintro _ _ ⟨rfl,rfl⟩;refine dA ?_;refine Z_2 ?_;refine eM ⟨fun j=>List.elem j [13,16],[]⟩ [(0,0),(1,0),(2,0),(3,0),(4,1),(5,0),(6,0),(7,0),(8,1),(9,0),(10,0),(11,0),(12,1),(13,2),(14,0),(15,0),(16,2)] Zk Zk ?_;refine bU rfl (cy Zv0) rfl ?_;refine bU rfl (cy Zv0) rfl ?_;refine bU rfl (dI Zv0) rfl ?_;refine bU rfl (cA 3 rfl Zv0 Zf) rfl ?_;refine fJ rfl (cC (vs:=s.cells (.slice V.Ad s.d.length V.cd) (.slice V.Ar s.r.length V.cr)) Zrf Zrf Zv0) (cL Zh rfl) rfl ?_;refine bU rfl (cy Zv0) rfl ?_;refine bU rfl (dI Zv0) rfl ?_;refine bU rfl (cA 0 rfl Zv0 Zf) rfl ?_;refine fJ rfl (bM Zrf Zv0) (bR Zh rfl) rfl ?_;refine bU rfl (cy Zv0) rfl ?_;refine bU rfl (dI Zv0) rfl ?_;refine bU rfl (cA 1 rfl Zv0 Zf) rfl ?_;refine fJ rfl (bM Zrf Zv0) (bR Zh rfl) rfl ?_;refine et rfl ?_;refine ZcS (ubF G.bu G.bb G.L G.D Z U d) (fun w hi hin=>HE w hin (fun w' hk=>hi.I0 Zi (show Has _ (slD s V.Ad V.cd)from Zh) (show Has _ (slR s V.Ar V.cr)from Zh) (by omega) (by omega) hk) (fun w' hk=>RdV.Iz ht hi Zi hk)) ?_;rintro _ _ ⟨_,⟨V3,Z3,rfl,rfl⟩,rfl⟩;refine bU rfl (dI Zv0) rfl ?_;refine bU rfl (cA 3 rfl Zv0 Zf) rfl ?_;refine et rfl ?_;refine dN rfl rfl (dK (ys:=wwL G s3 V3) (n:=16) (vs:=s3.cells (.slice V3.Ad s3.d.length V3.cd) (.slice V3.Ar s3.r.length V3.cr)) rfl Zrf rfl rfl (iK rfl) Za rfl (Nat.le_of_ble_eq_true rfl)) ZJ ?_;rintro _ _ ⟨rfl,rfl⟩;refine dA ?_;refine Z_2 ?_;refine eM ⟨fun j=>List.elem j [],[]⟩ [(0,0),(1,0),(2,0),(3,1),(4,0),(5,0),(6,0),(7,1),(8,2),(9,0)] Zk Zk ?_;refine bU rfl (cy Zv0) rfl ?_;refine bU rfl (dI Zv0) rfl ?_;refine bU rfl (cA 3 rfl Zv0 Zf) rfl ?_;refine fJ rfl (cC (vs:=s3.cells (.slice X3.Ad s3.d.length X3.cd) (.slice X3.Ar s3.r.length X3.cr)) Zrf Zrf Zv0) (cL Zh rfl) rfl ?_;refine bU rfl (cy Zv0) rfl ?_;refine bU rfl (dI Zv0) rfl ?_;refine bU rfl (cA 3 rfl Zv0 Zf) rfl ?_;refine fJ rfl (cC (vs:=s3.cells (.slice V3.Ad s3.d.length V3.cd) (.slice V3.Ar s3.r.length V3.cr)) Zrf Zrf Zv0) (cL Zh rfl) rfl ?_;refine et rfl ?_;refine fa rfl rfl (eG rfl (fun _ _=>rfl) (fun w hi=>lY s3 s3 X3.Ad X3.Ar V3.Ad V3.Ar X3.cd X3.cr V3.cd V3.cr w (hi.Jh (show Has _ (slD s3 X3.Ad X3.cd)from Zh) (show Has _ (slR s3 X3.Ar X3.cr)from Zh) (by omega) (by omega)) (hi.Jh (show Has _ (slD s3 V3.Ad V3.cd)from Zh) (show Has _ (slR s3 V3.Ar V3.cr)from Zh) (by omega) (by omega)))) ZJ rfl ?_;rintro _ _ ⟨_,⟨rfl,rfl⟩,rfl⟩;rw[St.IW];refine bU rfl (y_not Zv0 rfl) rfl ?_;refine dA ?_;refine Zt (bY rfl (rfl) ?_);refine Z_5 ?_;refine Zy (cF Zv0 Zv0 Zl) ?_;refine Z_2 ?_;refine cz ((⟨k+1,(s3,U3,d3),(X3,Y3,E6),(V3,Z3)⟩:Nat×(St×Mmu×Dev)×(iv×j0×EnX)×(iv×j0))) ?_ ?_ ?_
  ·exact⟨⟨show k+1≤20 by omega,r3,show d3.out.length≤480+8*(k+1) by omega,hE6⟩,show 20 - (k+1)<20 - k by omega⟩
  ·exact Zwk
  exact Zj
 refine Z_7 ?_;refine ZSe (fun w hi=>pi w (ht.old hi)) ?_;refine Z_4 ?_;refine Zra ?_;exact⟨rfl,rfl⟩
open Go
set_option maxRecDepth 100000 in
set_option maxHeartbeats 0 in
theorem px:joinedFacts checked.prog 4 f4 Rows.engineTurnsSpec Rows.engineTurnsRow=true:=by
 unfold joinedFacts
 repeat refine andI ?_ (by as_aux_lemma=>kernel_rfl)
 as_aux_lemma=>kernel_rfl
set_option maxHeartbeats 0 in
theorem ql:f4.isInstance checked.prog Rows.engineTurnsRow.origin Rows.engineTurnsRow.targs:=of_decide_eq_true (by kernel_rfl)
set_option maxHeartbeats 0 in
theorem qj:f4.isWrapper checked.prog Rows.engineTurnsRow.wrapper Rows.engineTurnsRow.mainSum:=of_decide_eq_true (by kernel_rfl)
set_option maxHeartbeats 0 in
theorem pw:checked.prog.funcNamed Rows.engineTurnsRow.func=some 4:=by kernel_rfl
theorem jF{W:World}(h:laidMetH prog Rows.engineTurnsRow.laid W):lv W:=
 ph (t:=256) (e:=5) (IQ:=xv) h (MakeChecks.laidMetH_plain _ _ _ (by as_aux_lemma=>kernel_rfl)) rfl (g:=0) (by as_aux_lemma=>kernel_rfl) (by as_aux_lemma=>kernel_rfl) (by as_aux_lemma=>kernel_rfl) (by as_aux_lemma=>kernel_rfl) (by as_aux_lemma=>kernel_rfl) rfl (by simp only[maxLen];omega)
theorem oG(os:Os)(args:Array Value):laidMetH prog Rows.engineTurnsRow.laid ((World.doorLaid prog 400 os).forCall (fun _ _=>0) ⟨#[],args,[]⟩).memory:=
 laidMetH_of_parts3 (fuel:=8) (laidMet_of_run' 8 (by as_aux_lemma=>kernel_rfl) (by as_aux_lemma=>kernel_rfl)) (by as_aux_lemma=>kernel_rfl) (by as_aux_lemma=>kernel_rfl)
set_option maxRecDepth 100000 in
theorem oA(os:Os)(started:os.Started)(H:Type)(enc:TypeId×Value→H):
  ReturnsInHanded {} checked os 4 .any (fun w args=>(Rows.engineTurnsSpec.pre enc prog f4 [] false w args∧laidMetH prog Rows.engineTurnsRow.laid w)∧sizedMet enc prog f4 (OpenSpec.ofChange Rows.engineTurnsSpec) false w args) (Rows.engineTurnsSpec.post enc prog f4 false true false false):=
 rf (C:=checked) (ts:=[34,34,5,4]) own0 started (by as_aux_lemma=>kernel_rfl) func4
  (ChangeSpec.witness_shaped (enc:=enc) (C:=checked) (os:=os) (X:=fun w _=>laidMetH prog Rows.engineTurnsRow.laid w) false (World.doorLaid prog 400 os) #[.int .u32 0,.int .u32 0,.int .u8 0,.bool false] 8 rfl (World.shaped_of_RefB (by as_aux_lemma=>kernel_rfl) (by as_aux_lemma=>kernel_rfl)) (by as_aux_lemma=>kernel_rfl) (by as_aux_lemma=>kernel_rfl) (by as_aux_lemma=>kernel_rfl) (oG os _))
  rfl rfl rfl rfl (fun ds h=>by match ds,h with|[_,_,_,_],_=>rfl) Gr (by as_aux_lemma=>kernel_rfl) (fun W vs h hx=>by
   have ht:=jF hx;obtain⟨v0,_,rfl,a0,v1,_,rfl,a1,v2,_,rfl,a2,v3,_,rfl,a3,rfl⟩:=h;obtain⟨n0,rfl,w0⟩:=a0.int (k:= .u32) rfl;obtain⟨n1,rfl,w1⟩:=a1.int (k:= .u32) rfl;obtain⟨n2,rfl,w2⟩:=a2.int (k:= .u8) rfl;obtain⟨e3,rfl⟩:=a3.bool rfl;exact vh (sN n0 n1 n2 (yG w0) (yG w1) (wf_u8 w2) e3 W ht))
set_option maxHeartbeats 0 in
theorem qk:Rows.EngineTurnsSaid:=
 OpenClaim.holds_of_wide 4 f4 rfl rfl rfl rfl rfl rfl rfl ⟨rfl,rfl,rfl,rfl,rfl⟩ rfl rfl rfl rfl rfl pw func4 px ql qj
  (fun os started H enc _=>oA os started H enc)
set_option maxHeartbeats 0 in
theorem engineTurns_holds:Rows.EngineTurnsCardSaid:=
 Claim7.holds_tied_plain_at .later [] [.data] true Rows.engineTurnsCard.stood.harness false
  qk (fun _ h=>by cases h) (by as_aux_lemma=>kernel_rfl) (fun _ h=>by cases h) engineTurns_row_tie rfl ⟨rfl,rfl⟩ (by as_aux_lemma=>kernel_rfl) rfl
  (fun f fn hf hfn=>by
   obtain rfl:f=4:=aJ ((show prog.funcNamed "innkeeper/innkeeperlaw24.EngineTurns" =some 4 by as_aux_lemma=>kernel_rfl).symm.trans hf)|>.symm
   obtain rfl:fn=f4:=(aJ (func4.symm.trans hfn)).symm;exact⟨by as_aux_lemma=>kernel_rfl,fun j t ht=>by
    have hm:t∈f4.params.toList:=by simpa using Array.mem_of_getElem? ht
    have hall:(f4.params.toList.all fun u=> !prog.wantsStandIn u)=true:=by as_aux_lemma=>kernel_rfl
    exact(show prog.wantsStandIn t=false by simpa using bD.1 hall t hm)⟩)
  (by as_aux_lemma=>kernel_rfl)
#print axioms engineTurns_holds
end Go.Proofs.YtomjgmbccamgiaaGreatDoor
