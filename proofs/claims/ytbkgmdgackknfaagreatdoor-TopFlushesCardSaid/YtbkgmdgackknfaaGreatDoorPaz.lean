/- Lemmas. -/
import Derived.Test.YtbkgmdgackknfaaGreatDoorPay
set_option linter.unusedSimpArgs false
set_option linter.unusedVariables false
set_option maxRecDepth 100000
set_option maxHeartbeats 4000000
namespace Go.Ink
open Go.RowKit
abbrev codeW:List (Int×Int):=[(2,72),(2,32784),(49,0),(69,0)]
theorem Gg:et codeW=[2,72,0,0,0,2,16,128,0,0,49,69]:=by decide
def Ri(q:St×Mmu×Dev):Bool:=q.1.halted&&(q.1.count==4)&&(q.2.2.out==[72])
theorem H1:Ri (fZ 1 9 St.new ⟨Mem.load 1 [2,72,0,0,0,2,16,128,0,0,49,69],eB⟩ (Dev.init []))=true:=by decide+kernel
end Go.Ink
namespace Go.Proofs.YtbkgmdgackknfaaGreatDoor
open Go.RowKit Go.Ink Go.Proofs.Tryz
attribute [local irreducible] OpY bH
theorem yX(n:Int)(w:World):Ctr prog 31 [.w n] w [] (λv cs=>v= .agg #[.i 2,.w n]/\cs=[]):=by
 refine Zfs func31 ntmps31 ?_;refine Z_2 ?_;refine ZN λb2=>?_;refine Z_6 ?_;refine Wq46 ?_;exact fy
theorem Bl(n:Int)(w:World):Ctr prog 32 [.i n] w [] (λv cs=>v= .agg #[.i n,.w 0]/\cs=[]):=by
 refine Zfs func32 ntmps32 ?_;refine Z_2 ?_;refine ZN λb2=>?_;refine Z_6 ?_;refine Wq46 ?_;exact fy
theorem NG(o n:Int)(w:World):Ctr prog 30 [.i o,.w n] w [] (λv cs=>v= .agg #[.i o,.w n]/\cs=[]):=by
 refine Zfs func30 ntmps30 ?_;refine Z_2 ?_;refine ZN λb4=>?_;refine Z_7 ?_;refine Wq46 ?_;exact fy
theorem yY(A:Option Addr)(c:Nat)(l:List (Int×Int))(hl:l.length<=1000)(w:World)(h:RdV w 2 A l.length c (l.flatMap dA)):Ctr prog 33 [.slice A l.length c] w [] (λv cs=>∃A' c',v= .slice A' (et l).length c'/\cs=[sl .u8 5 A' (et l).length c' (et l)]):=by
 refine Zfs func33 ntmps33 ?_;refine Z_8 ?_;refine ZSn (λw hi=>MA A c l hl w (h.RU hi)) ?_;rintro _ _ ⟨A1,c1,rfl,rfl⟩;refine Z_4 ?_;exact Qp
theorem JE(n:Nat)(hn0:1<=n)(hn:n<=64)(A B:Option Addr)(c e:Nat)(l k:List Int)(hll:l.length<=n*64)(hlb:u8s l)(hkl:k.length<=1024)(hkb:u8s k)(tr:Bool)(w:World)(hA:Rd w .u8 A l.length c l)(hB:Rd w .u8 B k.length e k):
  Ctr prog 43 [imgV A c l B e k n,.bool tr] w [] (λv cs=>∃H G,Born H.L.bp 0 n (List.replicate 16384 0) (List.replicate 256 (-1)) (List.replicate 4 (-1)) l k tr H G/\v= .p H.bg/\cs=gsF H G):=by
 have HF:=L3;have HN:=λbp w hi hA hB=>PB bp 0 n (List.replicate 16384 0) aE Wq7 hn0 hn A B c e l k hll hlb hkl hkb tr w hi hA hB
 obtain⟨W0,hW0⟩:=Zgn (List.replicate 256 (-1:Int));obtain⟨B0,hB0⟩:=Zgn (List.replicate 16384 (0:Int));obtain⟨P0,hP0⟩:=Zgn (List.replicate 4 (-1:Int));rw[hB0,hW0,hP0]at HF HN|-;refine Zfs func43 ntmps43 ?_;refine Z_2 ?_;refine ZO λb2=>?_;refine Z_5 ?_;refine ZSn (λw hi=>HF w) ?_;rintro _ _ ⟨bp,rfl,rfl⟩;refine fB ?_;refine rh ?_;refine dK (bP (vs:=[.slice A l.length c,.slice B k.length e,.i (n:Int)]) Zrf Zrf Zv0) (cO Zh rfl) rfl (ZA ?_);refine dz ([cV bp B0 W0 P0]) (λw hi hin=>HN bp w hin (λw' hk=>RdV.RT hA hi Zi hk) (λw' hk=>RdV.RT hB hi Zi hk)) ?_;rintro _ _ ⟨H,G,hBo,rfl,rfl⟩;obtain rfl:H.L.bp=bp:=hBo.hbp;refine iT ?_;refine iU ?_;refine Z_9 ?_;refine bG (gsF H G) Zj (Zrb ((gsF H G)) ?_);exact⟨H,G,hBo,rfl,rfl⟩
theorem AE(w:World)(ht:fE w):Ctr prog 29 [] w [] (λv cs=>v= .bool true/\cs=[]):=by
 have hb:u8s [2,72,0,0,0,2,16,128,0,0,49,69]:=by rw[<-Gg];exact qZ _ _
 have HC:=λA c w h=>yY A c codeW (show(4:Nat)<=1000 by decide) w h
 rw[Gg]at HC;have HN:=λA c w hA=>JE 1 Wq7 Wq7 A none c 0 [2,72,0,0,0,2,16,128,0,0,49,69] [] Wq7 hb Wq7 (λx hx=>by cases hx) true w hA (jq w .u8)
 have hK:=H1;obtain⟨l0,hl0⟩:∃l:List Int,[2,72,0,0,0,2,16,128,0,0,49,69]=l:=⟨_,rfl⟩;rw[hl0]at HC HN hK;obtain⟨U0,hU⟩:=Zgn ((⟨Mem.load 1 l0,eB⟩:Mmu));obtain⟨d0,hd⟩:=Zgn (Dev.init []);have ho:d0.out.length<=0:=by rw[<-hd];exact aL _
 rw[hU,hd]at hK;obtain⟨⟨s9,U9,d9⟩,hR⟩:=Zgn (fZ 1 9 St.new U0 d0);rw[hR]at hK;simp only[Ri,aD,beq_iff_eq]at hK;obtain⟨⟨k1,k2⟩,k3⟩:=hK;have HG:∀(H:sG) (G:Gst) (B0 W0 P0:List Int),Born H.L.bp 0 1 B0 W0 P0 l0 [] true H G->H.L.n=1/\G.ok H.L.n/\G.d.out.length<=0/\fZ H.L.n 9 G.s G.U G.d=(s9,U9,d9)/\G.s.count=0:=λH G B0 W0 P0 h=>⟨h.hn,by rw[h.hn];exact h.ok,by rw[h.hd,hd];exact ho,by rw[h.hn,h.hs,h.hu,h.hd,hU,hd];exact hR,by rw[h.hs];rfl⟩
 refine Zfs func29 ntmps29 ?_;refine Z_7 ?_;refine ZSe (λw hi=>yX _ w) ?_;refine ZSe (λw hi=>yX _ w) ?_;refine ZSe (λw hi=>Bl _ w) ?_;refine ZSe (λw hi=>Bl _ w) ?_;refine jj ?_;rintro _ _ ⟨b6,rfl,rfl⟩;refine ZSn (λw hi=>HC (sA b6) 4 w (hi.rd (show Has _ (slv 71 2 (sA b6) 4 4 (codeW.flatMap dA))from Zh))) ?_;rintro _ _ ⟨A1,c1,rfl,rfl⟩;refine ZA ?_;refine ZSn (λw hi=>HN A1 c1 w (hi.rd (show Has _ (sl .u8 5 A1 l0.length c1 l0)from Zh))) ?_;rintro _ _ ⟨H,G,hBo,rfl,rfl⟩;obtain⟨hn2,hG,hoG,hrG,hcG⟩:=HG H G _ _ _ hBo;have HR:=λw hi ht=>LM H G Wq1 hG 9 Wq7 Wq7 (by rw[show(9:Int).toNat=9 from rfl];omega) w hi ht
 rw[hrG,hcG]at HR;dsimp only at HR;rw[k2]at HR;refine Z_9 ?_;refine gU (bM rfl rfl) rfl (eo (gsF H G) rfl (λ_ _=>rfl) Zi (λw hi hin=>HR w hin (λw' hk=>RdV.RT ht hi Zi hk))) rfl ?_;rintro _ _ ⟨_,⟨⟨s2,X2,Y2,U2,d2,o2⟩,⟨hG2,hr2, -⟩,rfl,rfl⟩,rfl⟩;simp only[aX]at hr2;obtain⟨rfl,rfl,rfl⟩:=hr2;have hg2:=hG2.g;dsimp only at hg2;obtain⟨he16,hf16, -⟩:=St.fits hg2.right;refine Zyy rfl rfl (AY (bU rfl) (Zv rfl) (show _=true from rfl)) ?_;refine Z_9 ?_;refine gU (bM rfl rfl) rfl (dW rfl (λ_ _=>rfl) (λw hi=>CF H.D.bcn Y2.Ao Y2.co d2.out Y2.Ai d2.inp.length Y2.ci (by rw[k3];decide) w (hi.get Zh) (hi.get Zh))) rfl ?_;rintro _ _ ⟨_,⟨A5,c5,rfl,rfl⟩,rfl⟩;refine dZ (λw hi=>kq (hi.rd (show Has _ (b8 A5 c5 d2.out)from Zh))) (λhrd26=>?_);refine fN (bM rfl rfl) (j9 rfl rfl rfl (bU rfl) hrd26) (λw hi=>RdV.Sg (hi.rd (show Has _ (b8 A5 c5 d2.out)from Zh))) rfl (Zyy rfl rfl (uy rfl (bU rfl) (Zv rfl) (show _=true from by rw[k3];rfl)) ?_);refine Z_3 ?_;refine gU (bM rfl rfl) rfl (dW rfl (λ_ _=>rfl) (λw hi=>Ci H ⟨s2,X2,Y2,U2,d2,o2⟩ w (hi.get Zh) (hi.Tq (show Has _ (slD s2 X2.Ad X2.cd)from Zh) (show Has _ (slR s2 X2.Ar X2.cr)from Zh) (by show s2.d.length*4<=_;omega) (by show s2.r.length*4<=_;omega)))) rfl ?_;rintro _ _ ⟨_,⟨A3,c3,A4,c4,rfl,rfl⟩,rfl⟩;refine Zyy rfl rfl (Nt rfl rfl Zrf (bU rfl) (congrArg (λb=>some (Value.bool b)) k1)) ?_;refine Z_5 ?_;exact pM
end Go.Proofs.YtbkgmdgackknfaaGreatDoor
namespace Go.Ink
theorem Gh:et [(2,3),(4,0)]=[2,3,0,0,0,4]:=by decide
theorem P6:u8s [2,3,0,0,0,4]:=by rw[<-Gh];exact qZ _ _
end Go.Ink
namespace Go.Proofs.YtbkgmdgackknfaaGreatDoor
open Go.RowKit Go.Ink Go.Proofs.Tryz
attribute [local irreducible] OpY bH
def ag0:Ag:=Im.ag ⟨none,0,[2,3,0,0,0,4],none,0,[],2⟩
theorem Pq{A:Option Addr}{c:Nat}:Im.Sj ⟨A,c,[2,3,0,0,0,4],none,0,[],2⟩:=⟨P6,eM,(show 6<=2048 by decide),(by simp[Im.SN]),(show(1:Int)<=2 by decide),(show(2:Int)<=16 by decide)⟩
theorem ims0{l:List BoR}{A:Option Addr}{c:Nat}:AM l [⟨A,c,[2,3,0,0,0,4],none,0,[],2⟩] [sl .u8 5 A 6 c [2,3,0,0,0,4]]:=
 ⟨(show 1<=4 by decide),λx hx=>by grind [Pq],λw _ hj x hx=>by rw[aB.1 hx];exact⟨eL (jk hj _ (.head _)),jq w .u8⟩⟩
theorem sb(A:Option Addr)(c:Nat)(l:List BoR)(w:World)(h:RdV w 3 A l.length c (l.flatMap BoR.cells))(hl:∀a,a∈l->a.ok w):
  Ctr prog 27 [.slice A l.length c] w [] (λv cs=>∃A' c' L J,(AM l L J/\1<=L.length/\(L.map Im.ag)[0]? =some ag0)/\v= .slice A' L.length c'/\cs=imF A' c' L J):=by
 have HC:=λA c w h=>yY A c [(2,3),(4,0)] (show(2:Nat)<=1000 by decide) w h
 rw[Gh]at HC;refine Zfs func27 ntmps27 ?_;refine Z_7 ?_;refine ZSe (λw hi=>yX _ w) ?_;refine ZSe (λw hi=>Bl _ w) ?_;refine jj ?_;rintro _ _ ⟨b7,rfl,rfl⟩;refine ZSn (λw hi=>HC (sA b7) 2 w (hi.rd (show Has _ (slv 71 2 (sA b7) 2 2 ([((2:Int),(3:Int)),(4,0)].flatMap dA))from Zh))) ?_;rintro _ _ ⟨A1,c1,rfl,rfl⟩;have hI0:AM l [⟨A1,c1,[2,3,0,0,0,4],none,0,[],2⟩] [sl .u8 5 A1 6 c1 [2,3,0,0,0,4]]:=ims0;refine lY [sl .u8 5 A1 6 c1 [2,3,0,0,0,4]] Zi (ZA ?_);refine jj ?_;rintro _ _ ⟨b10,rfl,rfl⟩;refine Z_6 ?_;refine dN (imF (sA b10) 1 [(⟨A1,c1,[2,3,0,0,0,4],none,0,[],2⟩:Im)] [sl .u8 5 A1 6 c1 [2,3,0,0,0,4]]) Zj (Z_4 ?_);refine bN (λq:Nat×List Im×Option Addr×Nat×List bC=>[(0,.slice A l.length c),(3,.slice q.2.2.1 q.2.1.length q.2.2.2.1),(4,.i (q.1:Int))]) (λq=>imF q.2.2.1 q.2.2.2.1 q.2.1 q.2.2.2.2) (λq=>q.1<=3/\q.1<=l.length/\q.2.1.length=q.1+1/\AM l q.2.1 q.2.2.2.2/\(q.2.1.map Im.ag)[0]? =some ag0) (λq=>3 - q.1) ((⟨0,[(⟨A1,c1,[2,3,0,0,0,4],none,0,[],2⟩:Im)],some ⟨b10,0,none⟩,1,[sl .u8 5 A1 6 c1 [2,3,0,0,0,4]]⟩:Nat×List Im×Option Addr×Nat×List bC)) ?_ ?_ ?_ ?_
 .exact⟨au _,au _,rfl,hI0,rfl⟩
 .exact Zwk
 .exact Zu
 rintro⟨i,L,A1,c1,J⟩ ⟨hi4,hil,hLi,hI,hg0⟩;dsimp only at hi4 hil hLi hI hg0|-;refine uw ?_ ?_<;>intro hc3
 .have hc3':i<l.length/\i<3:=bR;obtain⟨hkl,hk4⟩:=hc3';obtain⟨ad,rfl⟩:=h.some_ Wq1;obtain⟨a,hla⟩:∃a,l[i]? =some a:=⟨_,aa hkl⟩;have ham:=ak hla;have hao:=hl a ham;refine Z_4 ?_;refine Wq315 ?_;rintro _ _ ⟨_,⟨A2,c2,E,E2,N,⟨hE1,hn,hE2⟩,rfl,rfl⟩,rfl⟩;refine EL ?_;rintro _ _ ⟨b38,rfl,rfl⟩;refine eW ?_;refine la rfl rfl (cj (e:=33) (sz:=3) (bytes:=56) rfl rfl Za rfl rfl (λw hi=>hi.rd (show Has _ (slv 33 3 (sA b38) 1 1 (Im.cells ⟨A2,c2,E.take (N*64),a.B,a.e,a.k.take 1024,(N:Int)⟩))from Zh)) (vR ⟨A2,c2,E.take (N*64),a.B,a.e,a.k.take 1024,(N:Int)⟩) gq Wq1) ZJ rfl ?_;rintro _ _ ⟨A3,c3,rfl,rfl⟩;refine Wq149 ?_;refine Wq6 ?_;refine bJ ((⟨i+1,L++[(⟨A2,c2,E.take (N*64),a.B,a.e,a.k.take 1024,(N:Int)⟩:Im)],A3,c3,[sl .u8 5 A2 E.length c2 E,bQ J]⟩:Nat×List Im×Option Addr×Nat×List bC)) ?_ ?_ ?_
  .exact⟨⟨show i+1<=3 by omega,show i+1<=l.length by omega,bR,hI.snoc Wq1 ham hao.bs hE1 hn,bR⟩,show 3 - (i+1)<3 - i by omega⟩
  .exact Zwk
  exact Zj
 refine fD ?_;refine Zrb ((imF A1 c1 L J)) ?_;exact⟨A1,c1,L,J,⟨hI,by omega,hg0⟩,rfl,rfl⟩
def yZ(x:ItR)(g:Nat):ItR:=⟨x.kind,gx x.RP 0 ((g:Int) - 1),Bo x.n,x.A,x.c,x.b.take 70⟩
theorem tR(x:ItR)(hx:x.b.length<=x.c)(g:Nat)(h1:1<=g)(h4:g<=4)(w:World):Ctr prog 28 [.agg x.cells.toArray,.i (g:Int)] w [] (λv cs=>v= .agg (yZ x g).cells.toArray/\cs=[]):=by
 obtain⟨kd,gu,n,A,c,b⟩:=x;have HC:=λw=>wn A c b 70 w hx
 have HN:=λw=>fu n 0 40 w Wq7 Wq7 Wq7
 have HG:=λw=>fu gu 0 ((g:Int) - 1) w Wq7 Wq1 Wq1
 unfold yZ Bo;dsimp only;refine Zfs func28 ntmps28 ?_;refine Z_2 ?_;refine ZO λb2=>?_;refine ZN λb4=>?_
 refine Z_6 ?_;refine ZSe (λw hi=>HC w) ?_;refine gP ?_;refine sx ?_;refine ZW ?_ ?_<;>intro hc2
 .rw[hc2,ai];refine Z_3 ?_;refine ZSe (λw hi=>HN w) ?_;refine gP ?_;refine Z_7 ?_;exact Wq300
 rw[hc2,ah];refine Z_7 ?_;exact Wq300
theorem qi{x:ItR}{w:World}(hx:x.ok w)(g:Nat):(yZ x g).may w:=by
 have hr:=Bn x.n;have hl:(x.b.take 70).length<=70:=by rw[aI];omega
 exact Wq355
theorem Ds{x:ItR}{g:Nat}(h1:1<=g):0<=(yZ x g).RP/\(yZ x g).RP<g:=by
 have:=fT x.RP 0 ((g:Int) - 1) Wq1;show 0<=gx x.RP 0 ((g:Int) - 1)/\gx x.RP 0 ((g:Int) - 1)<g;omega
end Go.Proofs.YtbkgmdgackknfaaGreatDoor
