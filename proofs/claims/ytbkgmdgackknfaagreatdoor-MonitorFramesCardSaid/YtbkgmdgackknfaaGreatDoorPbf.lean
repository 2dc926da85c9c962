/- For every input the law MonitorFrames answers true and leaves every argument as it was; the table of math/bits is what the program's text lays (the card ties it); no other condition. -/
import Derived.Test.YtbkgmdgackknfaaGreatDoorPay
import Derived.JoinedOf
import Derived.Test.YtbkgmdgackknfaaGreatDoorCards
import Derived.Test.YtbkgmdgackknfaaGreatDoorTie
import Derived.SevenTiedAt
import Derived.Test.YtbkgmdgackknfaaGreatDoorPbfF
set_option linter.unusedSimpArgs false
set_option linter.unusedVariables false
set_option maxRecDepth 100000
set_option maxHeartbeats 4000000
namespace Go.Ink
open Go.RowKit
theorem zX{ow:List Int}{o x:Int}:x∈cI ow o 256<->∃f:Nat,f<256/\x=(f:Int)/\ow[f]? =some o:=by
 unfold cI;constructor
 .intro h;obtain⟨f,hf,rfl⟩:=bn.1 h;rw[List.mem_filter,List.mem_range,beq_iff_eq]at hf;exact⟨f,hf.1,rfl,hf.2⟩
 rintro⟨f,h1,rfl,h2⟩;exact bn.2 ⟨f,List.mem_filter.2 ⟨List.mem_range.2 h1,by rw[h2];exact beq_self_eq_true _⟩,rfl⟩
theorem Ei(ow:List Int)(o:Int):(cI ow o 256).Pairwise (· < ·):=by
 unfold cI;refine List.pairwise_map.2 ((List.Pairwise.filter _ List.pairwise_lt_range).imp λh=>?_);omega
theorem LF{ow:List Int}{o x y:Int}{i j:Nat}(h:i<j)(hx:(cI ow o 256)[i]? =some x)(hy:(cI ow o 256)[j]? =some y):x<y:=by
 obtain⟨h1,rfl⟩:=aj.1 hx;obtain⟨h2,rfl⟩:=aj.1 hy;exact List.pairwise_iff_getElem.1 (Ei ow o) i j h1 h2 h
def qS(ow:List Int):Nat->List Int
 |0=>[]
 |k+1=>qS ow k++cI ow (k:Int) 256
theorem Co{ow:List Int}{x:Int}:∀{k:Nat},x∈qS ow k->∃i:Nat,i<k/\x∈cI ow (i:Int) 256
 |k+1,h=>by
  rcases aF.1 h with q|q
  .obtain⟨i,h1,h2⟩:=Co q;exact⟨i,by omega,h2⟩
  exact⟨k,by omega,q⟩
theorem Py{ow:List Int}{k j:Nat}{x:Int}(hx:(cI ow (k:Int) 256)[j]? =some x):x∉qS ow k++(cI ow (k:Int) 256).take j:=λh=>by
 have hm:=ak hx;rcases aF.1 h with q|q
 .obtain⟨i,h1,h2⟩:=Co q;obtain⟨f, -,rfl,h3⟩:=zX.1 h2;obtain⟨g, -,h4,h5⟩:=zX.1 hm;obtain rfl:f=g:=by omega
  rw[h3]at h5;have:=ax h5;omega
 obtain⟨i,hi⟩:=List.mem_iff_getElem?.1 q;have hil:=(aj.1 hi).1;rw[aI]at hil;rw[List.getElem?_take_of_lt Wq1]at hi;have:=LF (show i<j by omega) hi hx;omega
theorem uk{ow:List Int}{o:Int}(h:∀f:Nat,f<16->ow[f]? ≠some o):(cI ow o 256).length=((List.range' 16 240).filter (λf=>ow[f]? ==some o)).length:=by
 unfold cI;rw[aV];have e:List.range 256=List.range 16++List.range' 16 240:=by decide+kernel
 rw[e,List.filter_append,aq];have e2:(List.range 16).filter (λf=>ow[f]? ==some o)=[]:=by
  rw[List.filter_eq_nil_iff];intro f hf q;exact h f (List.mem_range.1 hf) (eq_of_beq q)
 rw[e2];simp
theorem yt{α:Type}(p0 p1 p2 p3 p4:α->Bool):∀l:List α,(∀x,x∈l->(p0 x).toNat+(p1 x).toNat+(p2 x).toNat+(p3 x).toNat+(p4 x).toNat=1)->(l.filter p0).length+(l.filter p1).length+(l.filter p2).length+(l.filter p3).length+(l.filter p4).length=l.length
 |[],_=>rfl
 |x::l,h=>by
  have ih:=yt p0 p1 p2 p3 p4 l (λy hy=>h y (by simp[hy]));have hx:=h x cH;simp only[List.filter_cons];revert hx;cases p0 x<;>cases p1 x<;>cases p2 x<;>cases p3 x<;>cases p4 x<;>simp<;>omega
end Go.Ink
namespace Go.Proofs.YtbkgmdgackknfaaGreatDoor
open Go.RowKit Go.Ink Go.Proofs.Tryz
attribute [local irreducible] OpY bH
theorem one_n{a:Ag}{x:It}:(a.one x).1.n=a.n:=by
 unfold Ag.one
 repeat (first|rfl|refine bI (λq:Ag×Ou=>q.1.n=a.n) ?_ ?_)
theorem monTo_n{l:List Ag}{x:It}:(dB l x).1.map Ag.n=l.map Ag.n:=by
 refine lG (P:=λq=>q.1.map Ag.n=l.map Ag.n) (λi a hl _=>?_) Zrf;show(l.set i (a.one x).1).map Ag.n=l.map Ag.n;rw[List.map_set,one_n];exact ze (by rw[aW,hl];rfl)
theorem _root_.Go.Ink.Mon.ok.mem{k:Nat}{m:Mon}(h:m.ok k){i:Nat}{g:MG}(hg:m.gs[i]? =some g):frOk (cI m.P.ow (i:Int) 256)/\(cI m.P.ow (i:Int) 256).length<=g.abs.n/\(g.dead=true->cI m.P.ow (i:Int) 256=[]):=by
 obtain⟨ho,hb,hal,hde⟩:=h.g.at_ i g hg;have hfew:=h.g.SL.few i;cases hd:g.dead with
 |true=>
  have e:=hfew _ (hde hd);rw[if_pos Wq7]at e;have e2:cI m.P.ow (i:Int) 256=[]:=List.eq_nil_of_length_eq_zero Wq1;rw[e2];exact⟨⟨(λf hf=>by cases hf),List.nodup_nil⟩,au _,λ_=>rfl⟩
 |false=>
  obtain⟨hm, -⟩:=hal hd;have h1:frOk (cI m.P.ow (g.H.L.o:Int) 256):=LG hm;have h2:m.P.pr[g.H.L.o]? =some (g.H.L.n:Int):=hm.prom;rw[ho]at h1 h2;have e:=hfew _ h2;refine⟨h1,?_,λq=>by cases q⟩;show _<=g.H.L.n;split at e<;>omega
theorem _root_.Go.Ink.Mon.ok.all{k:Nat}{m:Mon}(h:m.ok k):(qS m.P.ow m.gs.length).length+nE m.P.ow 256=240:=by
 have h4:=h.g.four;have hnone:∀o:Nat,m.gs.length<=o->o<4->cI m.P.ow (o:Int) 256=[]:=λo h1 h2=>by
  have e:=h.g.SL.few o _ (h.g.rest o h1 h2);rw[if_pos Wq7]at e;exact List.eq_nil_of_length_eq_zero Wq1
 have hlow:∀o:Nat,o<4->∀f:Nat,f<16->m.P.ow[f]? ≠some (o:Int):=λo ho f hf e=>by
  have hmem:(f:Int)∈cI m.P.ow (o:Int) 256:=zX.2 ⟨f,by omega,rfl,e⟩;by_cases hog:o<m.gs.length
  .have:=((h.mem (aa hog)).1.1 _ hmem).1;omega
  rw[hnone o Wq1 ho]at hmem;cases hmem
 have hl:∀n:Nat,n<=4->m.gs.length<=n->(qS m.P.ow n).length=(qS m.P.ow m.gs.length).length:=λn=>by
  induction n with
  |zero=>intro _ q;rw[show m.gs.length=0 by omega]
  |succ n ih=>
   intro hn q;by_cases e:m.gs.length=n+1
   .rw[e]
   rw[<-ih Wq1 Wq1];show(qS m.P.ow n++cI m.P.ow (n:Int) 256).length=_;rw[hnone n Wq1 Wq1,az]
 rw[<-hl 4 (aL _) h4];have hc:=yt (λf:Nat=>m.P.ow[f]? ==some (((0:Nat):Int))) (λf=>m.P.ow[f]? ==some (((1:Nat):Int))) (λf=>m.P.ow[f]? ==some (((2:Nat):Int))) (λf=>m.P.ow[f]? ==some (((3:Nat):Int))) (λf=>m.P.ow[f]? ==some (-1)) (List.range' 16 240) (λf hf=>by
  rw[List.mem_range'_1]at hf;rcases h.g.SL.own f (by omega)with e|⟨o,ho,e⟩
  ·rw[e];rfl
  rw[e];obtain rfl|rfl|rfl|rfl:o=0\/o=1\/o=2\/o=3:=by omega
  all_goals rfl)
 rw[List.length_range',<-uk (hlow 0 Wq1),<-uk (hlow 1 Wq1),<-uk (hlow 2 Wq1),<-uk (hlow 3 Wq1)]at hc;show((((([]:List Int)++_)++_)++_)++_).length+_=_;rw[aq,aq,aq,aq];have hfr:nE m.P.ow 256=((List.range' 16 240).filter (λf=>m.P.ow[f]? ==some (-1))).length:=rfl;rw[hfr,List.length_nil,Nat.zero_add];exact hc
theorem En(H:sG)(G:Gst)(B ow pr:List Int)(hl:dg B ow pr)(ho:H.L.o<4)(w:World)(h0:(Aa H G false).ok w)(hp:(cV H.L.bp B ow pr).ok w):
  Ctr prog 41 [.p H.bg] w [] (λv cs=>∃(A:Option Addr) (c:Nat),v= .slice A (cI ow H.L.o 256).length c/\cs=[sl .i64 3 A (cI ow H.L.o 256).length c (cI ow H.L.o 256)]):=by
 refine Zfs func41 ntmps41 ?_;refine fB ?_;refine ZFa 22 ?_;refine MV ?_;refine tI ?_;refine Z_3 ?_;refine Dd ?_;refine ZFe 2 2 ?_;refine Zy5 3 rfl (bF Zrf (Zv rfl)) (dc kP rfl) ?_;refine ZE 4 ?_;refine ZE 5 ?_;refine ZFe 6 3 ?_;refine Zy5 7 rfl (bF Zrf (Zv rfl)) (dc kP rfl) ?_;refine cn 8 Zk (ZTn (λw hi=>Ej H.L.bp B ow pr hl H.L.o ho w (bC.old hp hi)) ?_);rintro _ _ ⟨A1,c1,rfl,rfl⟩;refine ZE 9 ?_;refine lv ?_;exact Qp
theorem Hu(bm:Nat)(m:Mon)(k:Nat)(hm:m.ok k)(i:Nat)(hil:i<m.gs.length)(w:World){w0:World}{S:List Nat}{cs rest:List bC}(hi:Inv w0 S cs w)(hs:eJ (dq bm m) cs rest):
  Ctr prog 25 [.p bm,.i (i:Int)] w [] (λv cs=>∃(A:Option Addr) (c:Nat),v= .slice A (cI m.P.ow (i:Int) 256).length c/\cs=[sl .i64 3 A (cI m.P.ow (i:Int) 256).length c (cI m.P.ow (i:Int) 256)]):=by
 obtain⟨g,hg⟩:∃g,m.gs[i]? =some g:=⟨_,aa hil⟩;obtain⟨ho,hbp, -, -⟩:=hm.g.at_ i g hg;have h4:=hm.g.four;have hde:=(hm.mem hg).2.2;have h1:(mI bm m).ok w:=hi.okS hs _ (.head _);have h2:(ptrC m).ok w:=hi.okS hs _ (.tail _ (.head _));have h5:(ia m.bp m.P).ok w:=hi.okS hs _ (.tail _ (.tail _ (.head _)));have hi2:Inv w0 S (dq bm m++rest) w:=hi.perm hs.perm;obtain⟨r,hs2⟩:∃r,eJ (iE m.bp m.P m.gs) (dq bm m++rest) r:=⟨_,by repeat (first|exact .nil _|(apply eJ.cons;(repeat (first|exact .head _ _|apply Del.tail))))⟩;obtain⟨ad,hA⟩:=dV h2 Wq1;have HI:=sP bm m i;rw[ay (show(0:Int)<=(i:Int) by omega),ay (show(i:Int)<(m.gs.length:Int) by omega)]at HI;have hp:(m.gs.map pU)[i]? =some (pU g):=by rw[aW,hg];rfl
 have hr:RdV w 1 m.A m.gs.length m.c (m.gs.map pU):=eL h2;rw[hA]at hr;cases hd:g.dead with
 |true=>
  have h3:=ue hg hd hi2 hs2;rw[hde hd];refine Wq233 ?_;refine ZSe (λw hi=>vX g.H g.G w (bC.old h3 hi)) ?_;refine cT 3 1 (Z_4 ?_);refine Zrb ([slv _ _ _ _ _ _]) ?_;exact⟨none,0,rfl,rfl⟩
 |false=>
  have h3:=DX hm.g hg hd hi2 hs2 (Aa (g.H.on m.P) g.G false) (.head _);have HG:=λw h0 hp=>En (g.H.on m.P) g.G m.P.B m.P.ow m.P.pr hm.g.SL.len (by show g.H.L.o<4;omega) w h0 hp
  have e1:(g.H.on m.P).L.o=i:=ho;have e2:(g.H.on m.P).L.bp=m.bp:=hbp;rw[e1,e2]at HG;refine Wq233 ?_;refine ZSn (λw hi=>HG w (bC.old h3 hi) (bC.old h5 hi)) ?_;rintro _ _ ⟨A1,c1,rfl,rfl⟩;refine Z_4 ?_;exact Qp
theorem Dm(a:Ag):a.view.SV=a.dead:=by
 unfold Ag.view;cases a.dead<;>rfl
abbrev zf(b:Nat)(pre:List Int):bC:=slv 4 1 (sA b) 256 256 (jA (marks pre))
theorem tA(A A2:Option Addr)(c c2:Nat)(l:List BoR)(its:List ItR)(w:World)(h:RdV w 3 A l.length c (l.flatMap BoR.cells))(hl:∀a,a∈l->a.ok w)(h2:RdV w 4 A2 its.length c2 (its.flatMap ItR.cells))(hit:∀x,x∈its->x.ok w)(ht:fE w):
  Ctr prog 9 [.slice A l.length c,.slice A2 its.length c2] w [] (λv cs=>v= .bool true/\cs=[]):=by
 have hmn:=KW;refine Zfs func9 ntmps9 ?_;refine M7 ?_;rintro _ _ ⟨_,⟨A3,c3,L,J,⟨hI,hL1⟩,rfl,rfl⟩,rfl⟩;have hL4:=hI.n4;have hboot:=fj hL1 hL4 hI.Sj;have hg3:=gO hI.Sj;refine dZ (λw hi=>dO (hi.get (show Has _ (slv 33 3 A3 L.length c3 (L.flatMap Im.cells))from Zh)) Wq1) (λhq=>?_);obtain⟨bi,rfl⟩:=hq;refine Z_6 ?_;refine Wq350 ?_;rintro _ _ ⟨_,⟨bm,m,⟨hm,hlm⟩,rfl,rfl⟩,rfl⟩;refine AO ?_;refine rh ?_;have hmn0:m.l.map Ag.n=L.map (λx=>x.n.toNat):=(by rw[hlm,List.map_map];rfl);clear hlm hboot;refine dN (slv 33 3 (sA bi) L.length c3 (L.flatMap Im.cells)::dq bm m) Zj (Z_4 ?_);refine bN (λq:Nat×Mon=>[(1,.slice A2 its.length c2),(5,.slice (sA bi) L.length c3),(6,.p bm),(8,.i (q.1:Int))]) (λq=>slv 33 3 (sA bi) L.length c3 (L.flatMap Im.cells)::dq bm q.2) (λq=>q.1<=25/\q.2.ok (80000*q.1)/\q.2.l.map Ag.n=L.map (λx=>x.n.toNat)) (λq=>25 - q.1) ((⟨0,m⟩:Nat×Mon)) ?_ ?_ ?_ ?_
 .exact⟨au _,hm,hmn0⟩
 .exact Zwk
 .exact Zu
 rintro⟨i,m⟩ ⟨hi25,hm,hns⟩;dsimp only at hi25 hm hns|-;refine uw ?_ ?_<;>intro hc6
 .have hc6':i<its.length/\i<25:=(by simp only[aD,ae]at hc6;omega);obtain⟨hil,hi3⟩:=hc6';obtain⟨ad,rfl⟩:=h2.some_ Wq1;obtain⟨x,hx⟩:∃x,its[i]? =some x:=⟨_,aa hil⟩;have hxo:=hit x (ak hx);have HT:=lB x hxo.rd.cap L.length hL1 hL4;have hyg:=nU hxo L.length;obtain⟨y,hy⟩:=Zgn (jK x L.length);rw[hy]at HT hyg;have HD:=fw bm m (80000*i) hm Wq1 y hyg.b hyg.l hyg.n;have hns2:=monTo_n (l:=m.l) (x:=y.it);rw[hns]at hns2;refine Wq34 ?_;refine ZN λb9=>?_
  refine jh ?_;refine jj ?_;rintro _ _ ⟨b50,rfl,rfl⟩;refine dz (dq bm m) (λw hi hin=>HD (sA b50) 1 w hin (λw' hk=>hi.Sr Zi (show Has _ (slv 35 4 (sA b50) 1 1 y.cells)from Zh) hk) (λw' hk=>RdV.RT hyg.rd hi Zi hk) (λw' hk=>RdV.RT ht hi Zi hk)) ?_;rintro _ _ ⟨m2,Y,bz,cz,J2,⟨hm2,hl2, -⟩,rfl,rfl⟩;rw[<-hl2]at hns2;clear HD HT;have hgl:m2.gs.length=L.length:=(by have e:=congrArg List.length hns2;rw[aV,aV,m2.len]at e;exact e);refine Z_8 ?_;refine Zy (j8 (Zv rfl) (Zv rfl) (show _=false from rfl)) ?_;refine tI ?_;refine Z_4 ?_;refine fW (lC (bytes:=1) (n:=256) rfl rfl rfl rfl rfl rfl rfl Wq1 gq) rfl ?_;rintro _ _ ⟨b55,rfl,rfl⟩;rw[tV,<-hmn];refine gK ?_;refine dN (zf b55 (qS m2.P.ow 0)::slv 33 3 (sA bi) L.length c3 (L.flatMap Im.cells)::dq bm m2) Zj (Z_4 ?_);refine bN (λq:Nat=>[(1,.slice (some ad) its.length c2),(5,.slice (sA bi) L.length c3),(6,.p bm),(8,.i (i:Int)),(11,.slice (sA b55) 256 256),(12,.i ((qS m2.P.ow q).length:Int)),(13,.i (q:Int))]) (λq=>zf b55 (qS m2.P.ow q)::slv 33 3 (sA bi) L.length c3 (L.flatMap Im.cells)::dq bm m2) (λq=>q<=L.length/\(qS m2.P.ow q).length<=256*q) (λq=>L.length - q) (0) ?_ ?_ ?_ ?_
  .exact⟨au _,aL _⟩
  .exact Zwk
  .exact Zu
  rintro k ⟨hkL,hGl⟩;refine Zw9 ?_ ?_<;>intro hc15
  .simp only[ae]at hc15;have hkl:k<L.length:=Wq1;obtain⟨x0,hx0⟩:∃x,L[k]? =some x:=⟨_,aa hkl⟩;obtain⟨g,hg⟩:∃g,m2.gs[k]? =some g:=⟨_,aa (show k<m2.gs.length by omega)⟩;have hga:=Mon.at_ hg;have hgn:g.abs.n=x0.n.toNat:=(by have e:(m2.l.map Ag.n)[k]? =(L.map (λx=>x.n.toNat))[k]? :=(by rw[hns2]);rw[aW,aW,hga,hx0]at e;exact ax e);obtain⟨f1,f2,f3⟩:=hm2.mem hg;have hx1:=(hI.Sj x0 (ak hx0)).n1;have HF:=λ{w0:World} {S:List Nat} {cs rest:List bC} (w:World) (hi:Inv w0 S cs w) (hs:eJ (dq bm m2) cs rest)=>Hu bm m2 _ hm2 k Wq1 w hi hs
   have hnew:=λ(j:Nat) (x:Int)=>Py (ow:=m2.P.ow) (k:=k) (j:=j) (x:=x)
   have hlt:=λ(i j:Nat) (x y:Int)=>LF (ow:=m2.P.ow) (o:=(k:Int)) (i:=i) (j:=j) (x:=x) (y:=y)
   have hF0:qS m2.P.ow (k+1)=qS m2.P.ow k++cI m2.P.ow (k:Int) 256:=rfl;have hgb:(g.abs.n:Int)=x0.n:=Wq1;obtain⟨F,hF⟩:=Zgn (cI m2.P.ow (k:Int) 256);rw[hF]at f1 f2 f3 HF hnew hlt hF0;obtain⟨G0,hG0⟩:=Zgn (qS m2.P.ow k);rw[hG0]at hGl hnew hF0|-;have hn64:g.abs.n<=64:=(hm2.f _ (ak hga)).n64;have hkd:g.abs.view.SV=g.dead:=Dm g.abs;obtain⟨xA,xc,xl,xB,xe,xk,xn⟩:=x0
   try dsimp only at hgb hx1
   refine Z_8 ?_;refine ZSn (λw hi=>HF w hi Zi) ?_;rintro _ _ ⟨A5,c5,rfl,rfl⟩;refine fB ?_;refine CS ?_;refine Zy (ce 2 rfl (Zv rfl) ((eX _ (k*3) 2))) ?_;refine dK (bF Zrf (Zv rfl)) (uZ (show Has _ (slv 33 3 (sA bi) L.length c3 (L.flatMap Im.cells))from Zh) (da Im.RO (i:=2) hx0 rfl)) rfl (Zy (Df (Zv rfl) (Zv rfl) (show _=false from ar Wq1)) ?_);refine tI ?_;refine Z_6 ?_;refine ZSn (λw hi=>ft bm m2 _ hm2 Wq1 k g.abs hga w hi Zi) ?_;rintro _ _ ⟨Y4,J4,hR4,rfl,rfl⟩;refine Z_3 ?_;refine ZN λb15=>?_
   refine iD ?_;refine cD (λ_:Unit=>[(1,.slice (some ad) its.length c2),(5,.slice (sA bi) L.length c3),(6,.p bm),(8,.i (i:Int)),(11,.slice (sA b55) 256 256),(12,.i (G0.length:Int)),(13,.i (k:Int)),(14,.slice A5 F.length c5),(89,.bool false)]) (λ_=>zf b55 G0::sl .i64 3 A5 F.length c5 F::slv 33 3 (sA bi) L.length c3 (L.flatMap Im.cells)::dq bm m2) (λ_=>True) ?_ ?_
   .cases hdd:g.dead
    .rw[hdd]at hkd;refine Z_4 ?_;refine ZFb 22 ?_;refine fN (bE rfl rfl) (bF Zrf (bU rfl)) (cN (xs:=g.abs.view.cells Y4) Zh (show some (Value.bool g.abs.view.SV)=some (.bool false) by rw[hkd])) rfl (ZB ?_);refine Wq142 ?_;refine fa (cu rfl rfl) rfl rfl (Zyn rfl rfl (yK (q:=false) (bU rfl) ⟨_,rfl,λ_ e=>by simp at e⟩) ?_);refine Z_2 ?_;refine bJ (()) ?_ ?_ ?_
     .trivial
     .exact Zwk
     exact Zj
    rw[hdd]at hkd;have hF1:F.length=0:=(by rw[f3 hdd];rfl);refine Z_4 ?_;refine ZFb 22 ?_;refine fN (bE rfl rfl) (bF Zrf (bU rfl)) (cN (xs:=g.abs.view.cells Y4) Zh (show some (Value.bool g.abs.view.SV)=some (.bool true) by rw[hkd])) rfl (Z_3 ?_);refine fN (cu rfl rfl) (Df (bU rfl) (Zv rfl) (show _=false from ar Wq1)) (λ_ _=>trivial) rfl (Z_3 ?_);refine bJ (()) ?_ ?_ ?_
    .trivial
    .exact Zwk
    exact Zj
   rintro - -;refine iU ?_;refine Z_4 ?_;rw[show zf b55 G0=zf b55 (G0++F.take 0)from by rw[List.take_zero,az],show(G0.length:Int)=((G0.length+0:Nat):Int)from rfl];refine Z_4 ?_;refine bN (λq:Nat=>[(1,.slice (some ad) its.length c2),(5,.slice (sA bi) L.length c3),(6,.p bm),(8,.i (i:Int)),(11,.slice (sA b55) 256 256),(12,.i ((G0.length+q:Nat):Int)),(13,.i (k:Int)),(14,.slice A5 F.length c5),(17,.i (q:Int))]) (λq=>zf b55 (G0++F.take q)::sl .i64 3 A5 F.length c5 F::slv 33 3 (sA bi) L.length c3 (L.flatMap Im.cells)::dq bm m2) (λq=>q<=F.length) (λq=>F.length - q) (0) ?_ ?_ ?_ ?_
   .exact au _
   .exact Zwk
   .exact Zu
   rintro j hjF;refine Zw9 ?_ ?_<;>intro hc24
   .simp only[ae]at hc24;have hjl:j<F.length:=Wq1;refine mU (λw hi=>dV (hi.get (show Has _ (sl .i64 3 A5 F.length c5 F)from Zh)) Wq1) (λhq=>?_);obtain⟨bf,rfl⟩:=hq;obtain⟨x,hx⟩:∃x,F[j]? =some x:=⟨_,aa hjl⟩;have hxr:=f1.1 x (ak hx);have hnw:=hnew j x hx;have htk:G0++F.take j++[x]=G0++F.take (j+1):=(by rw[List.take_add_one,hx,aw];rfl);obtain⟨f,rfl⟩:∃f:Nat,x=f:=ap Wq1;have hf256:f<256:=Wq1;refine Z_6 ?_;rcases Nat.eq_zero_or_pos j with hj0|hj0
    .refine Wq155 ?_;refine ZF 6 ?_;refine ZF 7 ?_;refine Wq126 ?_;refine ZF 13 ?_;refine ZF 14 ?_;refine Wq69 ?_;refine ZE 20 ?_;refine ZE 21 ?_;refine ZF 22 ?_;refine Zy6 23 rfl (bE rfl rfl) (Df (bU rfl) (Zv rfl) (show _=false from ar Wq1)) ?_;refine ZF 24 ?_;refine Zy6 25 rfl (cu rfl rfl) (k9 (v:= .bool false)) ?_;refine Zy6 26 rfl (cu rfl rfl) (k9 (v:= .bool false)) ?_;refine Zy6 27 rfl (cu rfl rfl) (k9 (v:= .bool false)) ?_;refine Zy6 28 rfl (cu rfl rfl) (k9 (v:= .bool false)) ?_;refine Zy6 29 rfl (cu rfl rfl) (k9 (v:= .bool false)) ?_;refine Zy6 30 rfl (cu rfl rfl) (k9 (v:= .bool false)) ?_;refine Zy6 31 rfl (cu rfl rfl) (k9 (v:= .bool false)) ?_;refine Zy6 32 rfl (cu rfl rfl) (k9 (v:= .bool false)) ?_;refine Zy6 33 rfl (cu rfl rfl) (k9 (v:= .bool false)) ?_;refine Zy6 34 rfl (cu rfl rfl) (k9 (v:= .bool false)) ?_;refine Zy6 35 rfl (bE rfl rfl) (yK (q:=false) (bU rfl) ⟨_,rfl,λ_ e=>by simp at e⟩) ?_;refine ZE 36 ?_;refine eQ ?_;refine Zt (cJ rfl (rfl) ?_);refine Wq163 ?_;rintro _ _ ⟨rfl,rfl⟩;refine Wq331 ?_;refine bJ (j+1) ?_ ?_ ?_
     .exact wH
     .exact Zwk
     exact Zj
    obtain⟨y,hy⟩:∃y,F[j - 1]? =some y:=⟨_,aa (show j - 1<F.length by omega)⟩;have hyx:=hlt (j - 1) j y f Wq1 hy hx;refine Wq155 ?_;refine ZF 6 ?_;refine ZF 7 ?_;refine Wq126 ?_;refine ZF 13 ?_;refine ZF 14 ?_;refine Wq69 ?_;refine ZE 20 ?_;refine ZE 21 ?_;refine ZF 22 ?_;refine Zy6 23 rfl (bE rfl rfl) (Df (bU rfl) (Zv rfl) (show _=true from ay Wq1)) ?_;refine ZF 24 ?_;refine ZF 25 ?_;refine ZF 26 ?_;refine Zy6 27 rfl (cu rfl rfl) (gr (bU rfl) (Zv rfl) (show _=((j - 1:Nat):Int)from by rw[IntWalk.i64_in _ ⟨by omega,by omega⟩];omega)) ?_;refine Zy6 28 rfl (cu rfl rfl) (bV (j:=(j - 1)) (sz:=1) (r:=(j - 1)) rfl Zrf (bU rfl) (bU rfl) Wq2 Wq2 Wq1) ?_;refine Zy7 29 rfl (cu rfl rfl) (bF Zrf (bU rfl)) (cM (show Has _ (sl .i64 3 (sA bf) F.length c5 F)from Zh) (cq hy)) ?_;refine ZF 30 ?_;refine ZF 31 ?_;refine Zy6 32 rfl (cu rfl rfl) (bV (j:=j) (sz:=1) (r:=j) rfl Zrf (bU rfl) (bU rfl) Wq2 Wq2 Wq1) ?_;refine Zy7 33 rfl (cu rfl rfl) (bF Zrf (bU rfl)) (cM (show Has _ (sl .i64 3 (sA bf) F.length c5 F)from Zh) (cq hx)) ?_;refine Zy6 34 rfl (cu rfl rfl) (I5 (bU rfl) (bU rfl) (show _=false from ar Wq1)) ?_;refine ZF 35 ?_;refine ZE 36 ?_;refine eQ ?_;refine Zt (cJ rfl (rfl) ?_);refine Wq163 ?_;rintro _ _ ⟨rfl,rfl⟩;refine Wq331 ?_;refine bJ (j+1) ?_ ?_ ?_
    .exact wH
    .exact Zwk
    exact Zj
   simp only[ac]at hc24;obtain rfl:j=F.length:=Wq1;rw[bl,<-hF0,<-aq,<-hF0];refine Z_8 ?_;refine Wq6 ?_;refine bJ (k+1) ?_ ?_ ?_
   .exact⟨⟨by omega,by rw[hF0,aq];omega⟩,by omega⟩
   .exact Zwk
   exact Zj
  simp only[ac]at hc15;obtain rfl:k=L.length:=Wq1;have hall:=hm2.all;rw[hgl]at hall;refine Z_9 ?_;refine ZSe (λw hi=>OW bm m2 w hm2.g.SL.len (hi.get Zh) (hi.get (show Has _ (ia m2.bp m2.P)from Zh))) ?_;refine Zy (ef (Zv rfl) (Zv rfl) (show _=(240:Int)from by rw[IntWalk.i64_in _ ⟨by omega,by omega⟩];omega)) ?_;refine ji ?_;refine gv ?_;refine bJ ((⟨i+1,m2⟩:Nat×Mon)) ?_ ?_ ?_
  .exact⟨⟨show i+1<=25 by omega,hm2.le Wq1,hns2⟩,show 25 - (i+1)<25 - i by omega⟩
  .exact Zwk
  exact Zj
 exact Qy
open Go
theorem cX{W:World}(h:laidMetH prog Rows.monitorFramesRow.laid W):fE W:=
 fU (t:=280) (e:=5) (Si:=qe) h (MakeChecks.laidMetH_plain _ _ _ Wq4) rfl (g:=0) Wq4 Wq4 Wq4 Wq4 Wq4 rfl gq
theorem eO(os:Os)(args:Array Value):laidMetH prog Rows.monitorFramesRow.laid ((World.doorLaid prog 400 os).forCall (λ_ _=>0) ⟨#[],args,[]⟩).memory:=
 laidMetH_of_parts3 (fuel:=8) (laidMet_of_run' 8 Wq4 Wq4) Wq4 Wq4
set_option maxRecDepth 100000 in
theorem oK(os:Os)(started:os.Started)(H:Type)(enc:TypeId×Value->H):
  ReturnsInHanded {} checked os 9 .any (λw args=>(Rows.monitorFramesSpec.pre enc prog f9 [] false w args/\laidMetH prog Rows.monitorFramesRow.laid w)/\sizedMet enc prog f9 (OpenSpec.ofChange Rows.monitorFramesSpec) false w args) (Rows.monitorFramesSpec.post enc prog f9 false true false false):=
 hH (C:=checked) (ts:=[22,23]) Nj started Wq4 func9
  (ChangeSpec.witness_shaped (enc:=enc) (C:=checked) (os:=os) (X:=λw _=>laidMetH prog Rows.monitorFramesRow.laid w) false (World.doorLaid prog 400 os) #[.slice none 0 0,.slice none 0 0] 8 rfl (World.shaped_of_RefB Wq4 Wq4) Wq4 Wq4 Wq4 (eO os _))
  rfl rfl rfl rfl (λds h=>by match ds,h with|[_,_],_=>rfl) vJ Wq4 (λW vs h hx=>by
   have ht:=cX hx;obtain⟨v0,_,rfl,a0,v1,_,rfl,a1,rfl⟩:=h;obtain⟨A,c,l,rfl,hl,hr⟩:=ju a0;obtain⟨B,cb,b,rfl,h2,hi2⟩:=gM a1;exact jl (tA A B c cb l b W hl hr h2 hi2 ht))
set_option maxHeartbeats 0 in
theorem qB:Rows.MonitorFramesSaid:=
 OpenClaim.holds_of_wide 9 f9 rfl rfl rfl rfl rfl rfl rfl ⟨rfl,rfl,rfl,rfl,rfl⟩ rfl rfl rfl rfl rfl pA func9 pB qC qA
  (λos started H enc _=>oK os started H enc)
set_option maxHeartbeats 0 in
theorem monitorFrames_holds:Rows.MonitorFramesCardSaid:=
 Claim7.holds_tied_plain_at .later [] [.data] true Rows.monitorFramesCard.stood.harness false
  qB (λ_ h=>by cases h) Wq4 (λ_ h=>by cases h) monitorFrames_row_tie rfl ⟨rfl,rfl⟩ Wq4 rfl
  (λf fn hf hfn=>by
   obtain rfl:f=9:=ax ((show prog.funcNamed "innkeeper/innkeeperlaw26.MonitorFrames" =some 9 by as_aux_lemma=>kernel_rfl).symm.trans hf)|>.symm
   obtain rfl:fn=f9:=(ax (func9.symm.trans hfn)).symm;exact⟨by as_aux_lemma=>kernel_rfl,λj t ht=>by
    have hm:t∈f9.params.toList:=by simpa using Array.mem_of_getElem? ht
    have hall:(f9.params.toList.all λu=> !prog.wantsStandIn u)=true:=by as_aux_lemma=>kernel_rfl
    exact(show prog.wantsStandIn t=false by simpa using aY.1 hall t hm)⟩)
  Wq4
#print axioms monitorFrames_holds
end Go.Proofs.YtbkgmdgackknfaaGreatDoor
