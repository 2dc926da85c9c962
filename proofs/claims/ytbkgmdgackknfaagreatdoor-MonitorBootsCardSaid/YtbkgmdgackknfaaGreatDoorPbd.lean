/- For every input the law MonitorBoots answers true and leaves every argument as it was; the table of math/bits is what the program's text lays (the card ties it); no other condition. -/
import Derived.Test.YtbkgmdgackknfaaGreatDoorPay
import Derived.JoinedOf
import Derived.Test.YtbkgmdgackknfaaGreatDoorCards
import Derived.Test.YtbkgmdgackknfaaGreatDoorTie
import Derived.SevenTiedAt
import Derived.Test.YtbkgmdgackknfaaGreatDoorPbdF
set_option linter.unusedSimpArgs false
set_option linter.unusedVariables false
set_option maxRecDepth 100000
set_option maxHeartbeats 4000000
namespace Go.Ink
open Go.RowKit
theorem N2{l:List Int}{n:Nat}(h:l.length<=n):(List.replicate n (Value.int .u8 0)).take 0++(ints .u8 l).take (min l.length n)++(List.replicate n (Value.int .u8 0)).drop (0+min l.length n)=ints .u8 (l++List.replicate (n - l.length) 0):=by
 rw[Nat.min_eq_left h,List.take_zero,aP,Nat.zero_add,List.take_of_length_le (by rw[de];exact aL _),List.drop_replicate];simp[ints]
end Go.Ink
namespace Go.Proofs.YtbkgmdgackknfaaGreatDoor
open Go.RowKit Go.Ink Go.Proofs.Tryz
attribute [local irreducible] OpY bH
theorem N1(A:Option Addr)(c:Nat)(l:List Int)(n:Nat)(h1:l.length<=n)(hn:n<=1000000)(w:World)(h:Rd w .u8 A l.length c l):
  Ctr prog 23 [.slice A l.length c,.i n] w [] (λv cs=>∃b,v= .slice (sA b) n n/\cs=[sl .u8 5 (sA b) n n (l++List.replicate (n - l.length) 0)]):=by
 have hcp:=N2 h1;refine Zfs func23 ntmps23 ?_;refine Z_8 ?_;refine fW (lC (bytes:=1) (n:=n) rfl rfl rfl rfl rfl rfl rfl Wq1 gq) rfl ?_;rintro _ _ ⟨b7,rfl,rfl⟩;refine Z_7 ?_;refine fW (Bt rfl rfl Za rfl rfl (λw hi=>h.RU hi) di Wq1) rfl ?_;rintro _ _ ⟨rfl,rfl⟩;rw[hcp];refine Z_9 ?_;refine Zrb ([slv _ _ _ _ _ _]) ?_;exact⟨_,rfl,rfl⟩
def kj:List Im->Int
 |[]=>0
 |x::xs=>x.n+kj xs
theorem nW{x:Im}:∀{L:List Im},kj (L++[x])=kj L+x.n
 |[]=>by show x.n+0=0+x.n;omega
 |y::L=>by
  show y.n+kj (L++[x])=y.n+kj L+x.n;rw[nW (L:=L)];omega
theorem Bv:∀{L:List Im},(∀x,x∈L->1<=x.n)->0<=kj L
 |[],_=>Int.le_refl _
 |x::L,h=>by
  have h1:=h x (.head _);have h2:=Bv (L:=L) (λy hy=>h y (.tail _ hy));show 0<=x.n+kj L;omega
theorem wA:∀{L:List Im} {u:Int},(∀x,x∈L->x.SN=false/\1<=x.n/\x.n<=64)->jG u L=(if 240<u+kj L/\L≠[]then 13 else 0)
 |[],u,_=>by rw[if_neg (λh=>h.2 rfl)];rfl
 |x::L,u,h=>by
  obtain⟨q1,q2,q3⟩:=h x (.head _);have ht:∀y,y∈L->y.SN=false/\1<=y.n/\y.n<=64:=λy hy=>h y (.tail _ hy)
  have hp:=Bv (L:=L) (λy hy=>(ht y hy).2.1);have e:x.why u=bif decide (240<x.n+u)then 13 else 0:=by
   unfold Im.why;rw[q1,ar (show¬x.n<1 by omega),ar (show¬64<x.n by omega)]
   rfl
  show(bif x.why u==0 then jG (u+x.n) L else x.why u)=if 240<u+(x.n+kj L)/\x::L≠[]then 13 else 0
  rw[e];by_cases hb:240<x.n+u
  .rw[ay hb,if_pos ⟨by omega,List.cons_ne_nil _ _⟩]
   rfl
  rw[ar hb];show jG (u+x.n) L=_;rw[wA ht];by_cases hL:L=[]
  .subst hL;rw[if_neg (λh=>h.2 rfl),if_neg];show¬(240<u+(x.n+0)/\_);omega
  by_cases hs:240<u+x.n+kj L
  .rw[if_pos ⟨hs,hL⟩,if_pos ⟨by omega,List.cons_ne_nil _ _⟩]
  rw[if_neg (λh=>hs h.1),if_neg (λh=>hs (by have:=h.1;omega))]
theorem Iu{L:List Im}(h4:L.length<=4)(h:∀x,x∈L->x.SN=false/\1<=x.n/\x.n<=64):oT L=(if L.length=0 then 1 else if 240<kj L then 13 else 0):=by
 unfold oT;by_cases h0:L.length=0
 .rw[if_pos h0,ay (show(L.length:Int)<1 by omega)]
  rfl
 rw[if_neg h0,ar (show¬(L.length:Int)<1 by omega),ar (show¬(4:Int)<(L.length:Int) by omega)];show jG 0 L=_;rw[wA h,Int.zero_add];have hne:L≠[]:=λe=>h0 (by rw[e];rfl)
 by_cases hs:240<kj L
 .rw[if_pos ⟨hs,hne⟩,if_pos hs]
 rw[if_neg (λq=>hs q.1),if_neg hs]
structure _root_.Go.Ink.Im.of(A:Option Addr)(c:Nat)(b:List Int)(x:Im):Prop where
 a:x.A=A
 c:x.c=c
 l:x.l=b.take x.l.length
 ll:x.l.length<=64
 ln:x.l.length<=b.length
 k:x.B=none/\x.e=0/\x.k=[]
 n1:1<=x.n
 n64:x.n<=64
theorem _root_.Go.Ink.Im.of.SN{A:Option Addr}{c:Nat}{b:List Int}{x:Im}(h:x.of A c b):x.SN=false:=by
 obtain⟨q1,q2,q3⟩:=h.k;have h1:=h.n1;have h2:=h.ll;unfold Im.SN;rw[q3,if_neg (show¬(0:Int)>x.n by omega),ar (show¬(x.n<(((x.l.length+63)/64:Nat):Int)) by omega)]
 rfl
theorem _root_.Go.Ink.Im.of.rd{A:Option Addr}{c:Nat}{b:List Int}{x:Im}(h:x.of A c b){w:World}(hr:Rd w .u8 A b.length c b):x.rd w:=by
 obtain⟨xA,xc,xl,xB,xe,xk,xn⟩:=x;obtain⟨rfl,rfl,h3,h4,h5,⟨rfl,rfl,rfl⟩,h6,h7⟩:=h;dsimp only at h3 h4 h5;refine⟨?_,jq w .u8⟩;show Rd w .u8 xA xl.length xc xl;have:=kp hr xl.length;rw[<-h3]at this;exact this
theorem vu(A B:Option Addr)(c e:Nat)(ps b:List Int)(hb:u8s b)(tr:Bool)(w:World)(h:Rd w .i64 A ps.length c ps)(hB:Rd w .u8 B b.length e b)(ht:fE w):
  Ctr prog 6 [.slice A ps.length c,.slice B b.length e,.bool tr] w [] (λv cs=>v= .bool true/\cs=[]):=by
 have hk26:=oB;refine Zfs func6 ntmps6 ?_;refine AO ?_;refine cT 33 3 (Z_4 ?_);refine bN (λq:Nat×List Im×Option Addr×Nat=>[(0,.slice A ps.length c),(1,.slice B b.length e),(2,.bool tr),(7,.slice q.2.2.1 q.2.1.length q.2.2.2),(8,.i (kj q.2.1)),(9,.i (q.1:Int))]) (λq=>[slv 33 3 q.2.2.1 q.2.1.length q.2.2.2 (q.2.1.flatMap Im.cells)]) (λq=>q.1<=4/\q.2.1.length=q.1/\(∀x,x∈q.2.1->x.of B e b)/\0<=kj q.2.1/\kj q.2.1<=64*q.1) (λq=>4 - q.1) ((⟨0,[],none,0⟩:Nat×List Im×Option Addr×Nat)) ?_ ?_ ?_ ?_
 .exact⟨au _,rfl,(λx hx=>by cases hx),Int.le_refl _,Int.le_refl _⟩
 .exact Zwk
 .exact Zu
 rintro⟨i,L,A1,c1⟩ ⟨hi4,hLi,hof,hs0,hs1⟩;dsimp only at hi4 hLi hof hs0 hs1|-;refine uw ?_ ?_<;>intro hc4
 .have hc4':i<ps.length/\i<4:=(by simp only[aD,ae]at hc4;omega);obtain⟨hil,hi3⟩:=hc4';obtain⟨ad,rfl⟩:=h.some_ Wq1;obtain⟨p,hp⟩:∃p,ps[i]? =some p:=⟨_,aa hil⟩;have hnr:=fT p 1 64 Wq7;obtain⟨n,hn⟩:=Zgn (gx p 1 64);rw[hn]at hnr;have HW:=λw=>hn▸fu p 1 64 w Wq7 Wq7 Wq7
  have HC:=λw=>wn B e b (60+i) w hB.cap
  have htl:(b.take (60+i)).length<=64:=(by rw[aI];omega);have hof2:∀x,x∈L++[(⟨B,e,b.take (60+i),none,0,[],n⟩:Im)]->x.of B e b:=(λx hx=>by rcases aF.1 hx with q|q;exact hof x q;rw[aB.1 q];exact⟨rfl,rfl,(by show b.take (60+i)=b.take (b.take (60+i)).length;rw[aI];exact(List.take_eq_take_iff.2 Wq1)),htl,(by show(b.take (60+i)).length<=b.length;rw[aI];omega),⟨rfl,rfl,rfl⟩,hnr.1,hnr.2⟩);refine Z_8 ?_;refine wJ ?_;refine dK (bF Zrf Zv0) (dL h (cq hp)) rfl (ZSe (λw hi=>HW w) ?_);refine Z_9 ?_;refine Zy (ef (Zv rfl) (Zv rfl) (show _=((60+i:Nat):Int)from by rw[IntWalk.i64_in _ ⟨by omega,by omega⟩];omega)) ?_;refine ZSe (λw hi=>HC w) ?_;refine ZA ?_;refine jj ?_;rintro _ _ ⟨b38,rfl,rfl⟩;refine fW (cj (e:=33) (sz:=3) (bytes:=56) rfl rfl Za rfl rfl (λw hi=>hi.rd (show Has _ (slv 33 3 (sA b38) 1 1 (Im.cells ⟨B,e,b.take (60+i),none,0,[],n⟩))from Zh)) (vR ⟨B,e,b.take (60+i),none,0,[],n⟩) gq Wq1) rfl ?_;rintro _ _ ⟨A2,c2,rfl,rfl⟩;rw[show L.length+1=(L++[(⟨B,e,b.take (60+i),none,0,[],n⟩:Im)]).length from(by rw[aq];rfl),show L.flatMap Im.cells++Im.cells ⟨B,e,b.take (60+i),none,0,[],n⟩=(L++[(⟨B,e,b.take (60+i),none,0,[],n⟩:Im)]).flatMap Im.cells from(by rw[List.flatMap_append,List.flatMap_cons,List.flatMap_nil,az])];refine Z_6 ?_;refine Zy (ef (Zv rfl) (Zv rfl) (show _=kj (L++[(⟨B,e,b.take (60+i),none,0,[],n⟩:Im)])from by rw[IntWalk.i64_in _ ⟨by omega,by omega⟩,nW])) ?_;refine Z_6 ?_;refine Wq6 ?_;refine bJ ((⟨i+1,L++[(⟨B,e,b.take (60+i),none,0,[],n⟩:Im)],A2,c2⟩:Nat×List Im×Option Addr×Nat)) ?_ ?_ ?_
  .exact⟨⟨show i+1<=4 by omega,(by show(L++[_]).length=_;rw[aq,hLi];rfl),hof2,(by show 0<=kj (L++[_]);rw[nW];show 0<=kj L+n;omega),(by show kj (L++[_])<=_;rw[nW];show kj L+n<=64*((i+1:Nat):Int);omega)⟩,show 4 - (i+1)<4 - i by omega⟩
  .exact Zwk
  exact Zj
 clear hc4;have hbo:=Iu (L:=L) Wq1 (λx hx=>⟨(hof x hx).SN,(hof x hx).n1,(hof x hx).n64⟩);have hb3:∀x,x∈L->u8s x.l/\u8s x.k/\x.l.length<=4611686018427387904:=(λx hx=>by have q:=hof x hx;exact⟨(by rw[q.l];exact λy hy=>hb y (bh hy)),(by rw[q.k.2.2];exact eM),aN q.ll Wq7⟩);have HBo:=EB tr A1 c1 L hb3;rw[hbo]at HBo;refine IP ?_;refine Zt (Zs ?_);rcases(show L.length=0\/(L.length≠0/\240<kj L)\/(L.length≠0/\kj L<=240)from by omega)with hL0|⟨hL0,hsu⟩|⟨hL0,hsu⟩
 .rw[if_pos hL0]at hbo;refine Wq361 ?_;refine Zy (AY (Zv rfl) (Zv rfl) (show _=true from by rw[hL0];rfl)) ?_;refine Z_2 ?_;exact Wq304
 .rw[if_neg hL0,if_pos hsu]at hbo;refine Wq361 ?_;refine Zy (AY (Zv rfl) (Zv rfl) (show _=false from by rw[beq_eq_false_iff_ne];omega)) ?_;refine tI ?_;refine Z_6 ?_;refine Zy (Df (Zv rfl) (Zv rfl) (show _=true from ay hsu)) ?_;refine Z_2 ?_;exact Wq304
 rw[if_neg hL0,if_neg (show¬240<kj L by omega)]at hbo;refine Z_3 ?_;refine ZSn (λw hi=>iR hbo hb3 (hi.rd (show Has _ (slv 33 3 A1 L.length c1 (L.flatMap Im.cells))from Zh)) (λx hx=>(hof x hx).rd (hB.RU hi))) ?_;rintro _ _ ⟨bm,m,⟨hm,hlm⟩,rfl,rfl⟩;refine fD ?_;refine Zy (AY (Zv rfl) (Zv rfl) (show _=false from by rw[beq_eq_false_iff_ne];omega)) ?_;refine tI ?_;refine Z_6 ?_;refine Zy (Df (Zv rfl) (Zv rfl) (show _=false from ar Wq1)) ?_;refine tI ?_;refine kM ?_;refine gU (bE rfl rfl) rfl (dW rfl (λ_ _=>rfl) (λw hi=>sa bm m w (hi.get Zh))) rfl ?_;rintro _ _ ⟨_,⟨rfl,rfl⟩,rfl⟩;rw[show m.l.length=L.length by rw[hlm,aV]];refine Z_2 ?_;refine Zyn rfl rfl (j8 (bU rfl) (bU rfl) (bj _)) ?_;refine ji ?_;refine Z_5 ?_;refine dZ (λw hi=>dO (hi.get (show Has _ (slv 33 3 A1 L.length c1 (L.flatMap Im.cells))from Zh)) Wq1) (λhq=>?_);obtain⟨bi,rfl⟩:=hq;refine dN (slv 33 3 (sA bi) L.length c1 (L.flatMap Im.cells)::dq bm m) Zj (Z_4 ?_);refine bN (λq:Nat=>[(7,.slice (sA bi) L.length c1),(11,.p bm),(13,.i (q:Int))]) (λ_=>slv 33 3 (sA bi) L.length c1 (L.flatMap Im.cells)::dq bm m) (λq=>q<=L.length) (λq=>L.length - q) (0) ?_ ?_ ?_ ?_
 .exact au _
 .exact Zwk
 .exact Zu
 rintro k hkL;refine Zw9 ?_ ?_<;>intro hc17
 .simp only[ae]at hc17;have hkl:k<L.length:=Wq1;obtain⟨x,hx,hxa⟩:=ag_at hkl;rw[<-hlm]at hxa;have hxm:=ak hx;have hxo:=hof x hxm;have hxb:=(hb3 x hxm).1;have hvw:x.ag.view=⟨St.new,(Mem.load x.n.toNat x.l).data,(Dev.init x.k).out,(Dev.init x.k).inp,(Dev.init x.k).Sb,(Dev.init x.k).Sc,(Dev.init x.k).mask,false⟩:=rfl;have hn1:=hxo.n1;have hn64:=hxo.n64;have hll:=hxo.ll;rw[Mem.S4 (show x.l.length<=x.n.toNat*64 by omega)]at hvw;have hrx:=λ{w:World} hr=>(hxo.rd (w:=w) hr).l
  have hgw:=(hm.f _ (ak hxa)).wf;rw[hvw]at hgw;obtain⟨xA,xc,xl,xB,xe,xk,xn⟩:=x;dsimp only at hvw hn1 hn64 hll hrx hgw hxb;obtain⟨n,rfl⟩:∃n:Nat,xn=n:=ap Wq1;rw[aM]at hvw hgw;have HV:=λ{w0:World} {S:List Nat} {cs rest:List bC} (w:World) (hi:Inv w0 S cs w) (hs:eJ (dq bm m) cs rest)=>ft bm m _ hm Wq1 k _ hxa w hi hs
  rw[hvw]at HV;have HS:=N1 xA xc xl (n*64) Wq1 Wq1;obtain⟨D,hD⟩:=Zgn (xl++List.replicate (n*64 - xl.length) 0);rw[hD]at HS HV hgw;obtain⟨dk,hdk⟩:=Zgn ((Dev.init xk).Sb);rw[hdk]at HV hgw;have hDl:D.length=n*64:=(by rw[<-hD,aq,aE];omega);refine Z_8 ?_;refine ZSn (λw hi=>HV w hi Zi) ?_;rintro _ _ ⟨Y4,J4,hR4,rfl,rfl⟩;refine Z_3 ?_;refine ZN λb14=>?_
  refine iD ?_;refine ig ⟨λj=>List.elem j [],[]⟩ [(0,0),(1,0),(2,0),(3,0),(4,1),(5,1),(6,0),(7,0),(8,0),(9,0),(10,1),(11,0),(12,0),(13,0),(14,0),(15,1),(16,0),(17,2),(18,1),(19,0),(20,0),(21,0),(22,0),(23,1),(24,0),(25,2),(26,0),(27,0),(28,0),(29,0),(30,1),(31,0)] Zk Zk (nN ?_);refine dx rfl (Nr Zv0 rfl) rfl (nN ?_);refine Gz rfl (bE rfl rfl) (dF 16 rfl Zv0 Zf) rfl (QY rfl (bE rfl rfl) (bF Zrf (bU rfl)) (cN Zh rfl) rfl (I9 (λw hi=>kq ((hR4 w (hi.get (show Has _ (bQ J4)from Zh))).m)) (λhrd102=>?_)));refine QY rfl (bE rfl rfl) (j9 rfl rfl rfl (bU rfl) hrd102) (λw hi=>RdV.Sg ((hR4 w (hi.get (show Has _ (bQ J4)from Zh))).m)) rfl (Wq327 ?_);refine Gz rfl (bE rfl rfl) (ce 0 rfl (bU rfl) ((eX _ (k*3) 0))) rfl (QY rfl (bE rfl rfl) (bF Zrf (bU rfl)) (uZ (show Has _ (slv 33 3 (sA bi) L.length c1 (L.flatMap Im.cells))from Zh) (da Im.RO (i:=0) hx rfl)) rfl (Wq327 ?_));refine Gz rfl (bE rfl rfl) (ce 2 rfl (bU rfl) ((eX _ (k*3) 2))) rfl (QY rfl (bE rfl rfl) (bF Zrf (bU rfl)) (uZ (show Has _ (slv 33 3 (sA bi) L.length c1 (L.flatMap Im.cells))from Zh) (da Im.RO (i:=2) hx rfl)) rfl (Gz rfl (bE rfl rfl) (jR (bU rfl) (Zv rfl) (show IntKind.i64.wrap ((n:Int)*64)=((n*64:Nat):Int)from by rw[IntWalk.i64_in _ ⟨by omega,by omega⟩];omega)) rfl (eW ?_)));refine QX rfl rfl (bE rfl rfl) rfl (dW rfl (λ_ _=>rfl) (λw hi=>HS w (hrx (hB.RU hi)))) ZJ rfl ?_;rintro _ _ ⟨_,⟨bs,rfl,rfl⟩,rfl⟩;refine I9 (λw hi=>kq (hi.rd (show Has _ (sl .u8 5 (sA bs) (n*64) (n*64) D)from Zh))) (λhrd115=>?_);refine QY rfl (bE rfl rfl) (j9 rfl rfl rfl (bU rfl) hrd115) (λw hi=>RdV.Sg (hi.rd (show Has _ (sl .u8 5 (sA bs) (n*64) (n*64) D)from Zh))) rfl (Gz rfl (bE rfl rfl) (QV rfl (bU rfl) (bU rfl) (show _=false from(E6 hgw.m hgw.m).trans (bj D))) rfl (dx rfl (QU Zv0 (Ox rfl Zrf)) rfl (nN ?_)));refine Gz rfl (bE rfl rfl) (dF 0 rfl Zv0 Zf) rfl (QY rfl (bE rfl rfl) (bP (vs:=St.new.cells (.slice Y4.X.Ad St.new.d.length Y4.X.cd) (.slice Y4.X.Ar St.new.r.length Y4.X.cr)) Zrf Zrf (bU rfl)) (cO (o:=0) Zh rfl) rfl (Gz rfl (bE rfl rfl) (oX rfl rfl Zrf rfl rfl rfl Zb) rfl (eW ?_)));refine QX rfl rfl (bE rfl rfl) rfl (dW rfl (λ_ _=>rfl) (λw hi=>B4 St.new St.new Y4.X.Ad Y4.X.Ar none none Y4.X.cd Y4.X.cr 0 0 w (hR4 w (hi.get (show Has _ (bQ J4)from Zh))).s ⟨jq w .u32,jq w .u32,au _,au _⟩)) ZJ rfl ?_;rintro _ _ ⟨_,⟨rfl,rfl⟩,rfl⟩;rw[St.S7];refine Gz rfl (bE rfl rfl) (Nr (bU rfl) rfl) rfl (dx rfl (QU Zv0 (Ox rfl Zrf)) rfl (nN ?_));refine Gz rfl (bE rfl rfl) (dF 22 rfl Zv0 Zf) rfl (QY rfl (bE rfl rfl) (bF Zrf (bU rfl)) (cN Zh rfl) rfl (dx rfl (QU Zv0 (Ox rfl Zrf)) rfl (lb (Zt (cJ rfl (rfl) ?_)))));refine gv ?_;refine bJ (k+1) ?_ ?_ ?_
  .exact wH
  .exact Zwk
  exact Zj
 clear hc17;refine IP ?_;refine Zt (Zs (Zr (ZS (λw hi=>hk26 w (ht.old hi)) ?_)));rintro _ _ ⟨_,⟨rfl,rfl⟩,rfl⟩;refine ZA ?_;refine Zn (Zt (Ze (Zra ?_)));exact fy
open Go
theorem cX{W:World}(h:laidMetH prog Rows.monitorBootsRow.laid W):fE W:=
 fU (t:=280) (e:=5) (Si:=qe) h (MakeChecks.laidMetH_plain _ _ _ Wq4) rfl (g:=0) Wq4 Wq4 Wq4 Wq4 Wq4 rfl gq
theorem eO(os:Os)(args:Array Value):laidMetH prog Rows.monitorBootsRow.laid ((World.doorLaid prog 400 os).forCall (λ_ _=>0) ⟨#[],args,[]⟩).memory:=
 laidMetH_of_parts3 (fuel:=8) (laidMet_of_run' 8 Wq4 Wq4) Wq4 Wq4
set_option maxRecDepth 100000 in
theorem pC(os:Os)(started:os.Started)(H:Type)(enc:TypeId×Value->H):
  ReturnsInHanded {} checked os 6 .any (λw args=>(Rows.monitorBootsSpec.pre enc prog f6 [] false w args/\laidMetH prog Rows.monitorBootsRow.laid w)/\sizedMet enc prog f6 (OpenSpec.ofChange Rows.monitorBootsSpec) false w args) (Rows.monitorBootsSpec.post enc prog f6 false true false false):=
 hH (C:=checked) (ts:=[55,31,4]) Nj started Wq4 func6
  (ChangeSpec.witness_shaped (enc:=enc) (C:=checked) (os:=os) (X:=λw _=>laidMetH prog Rows.monitorBootsRow.laid w) false (World.doorLaid prog 400 os) #[.slice none 0 0,.slice none 0 0,.bool false] 8 rfl (World.shaped_of_RefB Wq4 Wq4) Wq4 Wq4 Wq4 (eO os _))
  rfl rfl rfl rfl (λds h=>by match ds,h with|[_,_,_],_=>rfl) vJ Wq4 (λW vs h hx=>by
   have ht:=cX hx;obtain⟨v0,_,rfl,a0,v1,_,rfl,a1,v2,_,rfl,a2,rfl⟩:=h;obtain⟨A,c,l,rfl,hl, -, -⟩:=a0.ints (e:=3) (k:= .i64) rfl rfl rfl;obtain⟨B,cb,b,rfl,h2,hb⟩:=Hm a1;obtain⟨e3,rfl⟩:=a2.bool rfl;exact jl (vu A B c cb l b hb e3 W hl h2 ht))
set_option maxHeartbeats 0 in
theorem rX:Rows.MonitorBootsSaid:=
 OpenClaim.holds_of_wide 6 f6 rfl rfl rfl rfl rfl rfl rfl ⟨rfl,rfl,rfl,rfl,rfl⟩ rfl rfl rfl rfl rfl qD func6 qE rY rW
  (λos started H enc _=>pC os started H enc)
set_option maxHeartbeats 0 in
theorem monitorBoots_holds:Rows.MonitorBootsCardSaid:=
 Claim7.holds_tied_plain_at .later [] [.data] true Rows.monitorBootsCard.stood.harness false
  rX (λ_ h=>by cases h) Wq4 (λ_ h=>by cases h) monitorBoots_row_tie rfl ⟨rfl,rfl⟩ Wq4 rfl
  (λf fn hf hfn=>by
   obtain rfl:f=6:=ax ((show prog.funcNamed "innkeeper/innkeeperlaw26.MonitorBoots" =some 6 by as_aux_lemma=>kernel_rfl).symm.trans hf)|>.symm
   obtain rfl:fn=f6:=(ax (func6.symm.trans hfn)).symm;exact⟨by as_aux_lemma=>kernel_rfl,λj t ht=>by
    have hm:t∈f6.params.toList:=by simpa using Array.mem_of_getElem? ht
    have hall:(f6.params.toList.all λu=> !prog.wantsStandIn u)=true:=by as_aux_lemma=>kernel_rfl
    exact(show prog.wantsStandIn t=false by simpa using aY.1 hall t hm)⟩)
  Wq4
#print axioms monitorBoots_holds
end Go.Proofs.YtbkgmdgackknfaaGreatDoor
