/- Lemmas. -/
import Derived.Test.YtepfimeihngjoaaGreatDoorXbo
set_option linter.all false
set_option maxRecDepth 100000
set_option maxHeartbeats 4000000
namespace Go.Proofs.YtepfimeihngjoaaGreatDoor
open List renaming length→J
open Go.RowKit Go.Ink Go.Proofs.Tryz
attribute [local irreducible] Ve bN
theorem wM(A Ad Ar:Oa)(c cd cr:Nat)(b:Li)(hb:Vh b)(s:St)(hs:s.wf)(room:Int)(w:World)(h:Rd w .u8 A (J b) c b)(hS:iL w s Ad Ar cd cr)(ht:iU w):
  CW prog 6 [.slice A (J b) c,sv s Ad cd Ar cr,.i room] w (.bool true):=by
 have hnil:Vh ([]:Li):=λx hx=>by cases hx
 have hb1:=od hb 256;have hbl:J (b.take 256)<=256:=by rw[aO];omega
 have h1:=fI h 256;have HCut:=λw=>sO A c b 256 w h.cap
 obtain⟨bb,hbb⟩:=Do (b.take 256);rw[hbb]at hb1 hbl h1 HCut;have hG0:=qy (n:=4) (l:=bb) (k:=[]) ne ne hbl hb1 ne hnil;have HF:=λw h=>vJ A none c 0 4 bb [] ne ne hbl hb1 ne w h (y6 w .u8)
 obtain⟨M0,hM0⟩:=Do (UO.init 4 bb);obtain⟨T0,hTT⟩:=Do (cX);obtain⟨d0,hd⟩:=Do (UF.init []);rw[hM0,hTT,hd]at HF hG0;have htw:=St.tr_wf hs;have htr:=St.tr_right (s:=s);have HT:=trim_ok s hs Ad Ar cd cr;obtain⟨t,htt⟩:=Do (s.trim);rw[htt]at htw htr HT;obtain⟨hd16,hr16,hf15⟩:=St.fits htr;obtain⟨p0,p1⟩:=htw.pc;obtain⟨r0,hr0⟩:=Do (eN room 1 5);have hrr:=eM room 1 5 ne;rw[hr0]at hrr;have HW:=λw=>hr0▸fy room 1 5 w ne ne ne
 refine UV func6 ntmps6 ?_;refine An ?_;refine ZO λb4=>?_;refine UU ?_;refine UZ (λw hi=>HCut w) ?_;refine ZA ?_;refine Vl (λw hi=>HF w (h1.Tb hi)) ?_;rintro _ _ ⟨F,hFn,rfl,rfl⟩;refine eL ?_;refine j6 ?_;refine Vl (λw hi=>HT w (hS.Tb hi)) ?_;rintro _ _ ⟨A2,c2,A3,c3,rfl,rfl⟩;refine ZM ?_;refine An ?_;refine cj (λpc:Int=>[(2,.i room),(4,.p b4),(7,.p F.bw)]) (λpc=>row b4 (St.cells ⟨pc,t.d,t.r,t.flags,t.SQ,t.S1,t.ie,t.root,t.vec,t.epc,t.SU,t.addr,t.S6,t.eie,t.count,t.halted⟩ (.slice A2 (J t.d) c2) (.slice A3 (J t.r) c3)) 36::Vf t A2 c2::Vj t A3 c3::Yx F 4 M0 T0 d0) (λpc=>u32 pc) ?_ ?_
 .refine UK ?_;refine Zy (fG (Zv I) (Zv I) O (aq p0)) ?_;refine VP ?_ ?_<;>intro hc5
  .refine UN ?_;refine Zy (fG (Zv I) (Zv I) O (aq p0)) ?_;refine lx ?_;refine Zn (Vd ((t.pc%260)) ⟨by omega,by omega⟩)
  refine Zc (Vd (t.pc) ⟨p0,p1⟩)
 rintro pc hpc;have hb1:=bytS_wf htw hpc;have hb2:(zS t pc).right=true:=St.mkr hd16 hr16 hf15;have hG1:WQ 4 0 (zS t pc) ⟨M0,T0⟩ d0:=⟨⟨hb1,hb2,hG0.g.u,hG0.g.dv,hG0.g.lines⟩,hG0.m,hG0.i,hG0.o⟩;have h21:=two_one hb2 ⟨A2,c2,A3,c3⟩;refine UK ?_;refine Zy (fG (Zv I) (Zv I) O (aq htw.root.1)) ?_;refine lx ?_;refine An ?_;refine cj (λ_:Nat=>[(2,.i room),(7,.p F.bw)]) (λ_=>Yd F (zS t pc) ⟨A2,c2,A3,c3⟩::Yf F (zS t pc) ⟨A2,c2,A3,c3⟩::Vf (zS t pc) A2 c2::Vj (zS t pc) A3 c3::(VK F.bu F.bb F.L F.D WN ⟨M0,T0⟩ d0++V7 F.K F.bx 4 F.by_ F.bd WN ⟨M0,T0⟩ d0)) (λ_=>True) ?_ ?_
 .refine bQ (Vg [9,12]) Zk (CA ?_);refine UE 3 19 ?_;refine ZG 4 ?_;refine ZI 5 ?_;refine ZE 7 ?_;refine UE 8 3 ?_;refine pS 6 9 Zk ?_ ?_
  .refine C0 I Zh ir ir (Zv I) I (kt ?_);refine Wq334 ?_;refine UR ?_;refine Wq248 ?_;refine UR ?_;refine fh ?_;refine Vd (0) gh
  refine Wq334 ?_;refine UR ?_;refine ZI 6 ?_;refine Wq248 ?_;refine UR ?_;refine fh ?_;refine Vd (0) gh
 rintro - -;refine An ?_;refine mA [Vf (zS t pc) A2 c2,Vj (zS t pc) A3 c3] Zi (An ?_);refine wV ?_;refine Vq (CP F 4 (zS t pc) ⟨A2,c2,A3,c3⟩ ⟨A2,c2,A3,c3⟩ [Vf (zS t pc) A2 c2,Vj (zS t pc) A3 c3] WN WN ⟨M0,T0⟩ d0) (λw hi hin=>nA F 4 ne hFn r0 ⟨hrr.1,by omega⟩ 30 ne (zS t pc) ⟨A2,c2,A3,c3⟩ ⟨A2,c2,A3,c3⟩ [Vf (zS t pc) A2 c2,Vj (zS t pc) A3 c3] h21 WN WN ⟨M0,T0⟩ d0 hG1 none none 0 0 [] [] (ax _) (ax _) w hin (λw' _=>pC w' 3) (λw' _ a ha=>nomatch ha) (λw' _=>pC w' 1) (λw' hk=>U5.Th ht hi Zi hk)) ?_;exact Wq384
end Go.Proofs.YtepfimeihngjoaaGreatDoor
