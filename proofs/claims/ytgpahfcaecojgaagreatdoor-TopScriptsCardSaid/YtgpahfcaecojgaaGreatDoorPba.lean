/- Lemmas. -/
import Derived.Test.YtgpahfcaecojgaaGreatDoorPaz
set_option linter.all false
set_option maxRecDepth 100000
set_option maxHeartbeats 4000000
namespace Go.Ink
open Go.RowKit
theorem Bt{ow:Li}{o x:Int}:x∈cQ ow o 256<->∃f:Nat,f<256/\x=(f:Int)/\ow[f]? =some o:=by
 unfold cQ;constructor
 .intro h;obtain⟨f,hf,rfl⟩:=aZ.1 h;rw[List.mem_filter,List.mem_range,beq_iff_eq]at hf;exact⟨f,hf.1,rfl,hf.2⟩
 rintro⟨f,h1,rfl,h2⟩;exact aZ.2 ⟨f,List.mem_filter.2 ⟨List.mem_range.2 h1,by rw[h2];exact beq_self_eq_true _⟩,rfl⟩
def pD(ow:Li):Nat->List Int
 |0=>[]
 |k+1=>pD ow k++cQ ow (k:Int) 256
theorem DR{ow:Li}{x:Int}:∀{k:Nat},x∈pD ow k->∃i:Nat,i<k/\x∈cQ ow (i:Int) 256
 |k+1,h=>by
  rcases az.1 h with q|q
  .obtain⟨i,h1,h2⟩:=DR q;exact⟨i,by omega,h2⟩
  exact⟨k,by omega,q⟩
theorem uL{ow:Li}{o:Int}(h:∀f:Nat,f<16->ow[f]? ≠some o):(cQ ow o 256).length=((List.range' 16 240).filter (λf=>ow[f]? ==some o)).length:=by
 unfold cQ;rw[ax];have e:List.range 256=List.range 16++List.range' 16 240:=by decide+kernel
 rw[e,List.filter_append,aj];have e2:(List.range 16).filter (λf=>ow[f]? ==some o)=[]:=by
  rw[List.filter_eq_nil_iff];intro f hf q;exact h f (List.mem_range.1 hf) (eq_of_beq q)
 rw[e2];simp
theorem zz{α:Type}(p0 p1 p2 p3 p4:α->Bool):∀l:List α,(∀x,x∈l->(p0 x).toNat+(p1 x).toNat+(p2 x).toNat+(p3 x).toNat+(p4 x).toNat=1)->(l.filter p0).length+(l.filter p1).length+(l.filter p2).length+(l.filter p3).length+(l.filter p4).length=l.length
 |[],_=>rfl
 |x::l,h=>by
  have ih:=zz p0 p1 p2 p3 p4 l (λy hy=>h y (by simp[hy]));have hx:=h x cP;simp only[List.filter_cons];revert hx;cases p0 x<;>cases p1 x<;>cases p2 x<;>cases p3 x<;>cases p4 x<;>simp<;>omega
end Go.Ink
namespace Go.Proofs.YtgpahfcaecojgaaGreatDoor
open Go.RowKit Go.Ink Go.Proofs.Tryz
attribute [local irreducible] OpY bN
theorem _root_.Go.Ink.Mon.ok.mem{k:Nat}{m:Mon}(h:m.ok k){i:Nat}{g:MG}(hg:m.gs[i]? =some g):xJ (cQ m.P.ow (i:Int) 256)/\(cQ m.P.ow (i:Int) 256).length<=g.abs.n/\(g.dead=true->cQ m.P.ow (i:Int) 256=[]):=by
 obtain⟨ho,hb,hal,hde⟩:=h.g.at_ i g hg;have hfew:=h.g.Xb.few i;cases hd:g.dead with
 |true=>
  have e:=hfew _ (hde hd);rw[if_pos bX]at e;have e2:cQ m.P.ow (i:Int) 256=[]:=List.eq_nil_of_length_eq_zero Wq1;rw[e2];exact⟨⟨(λf hf=>by cases hf),List.nodup_nil⟩,ap _,λ_=>rfl⟩
 |false=>
  obtain⟨hm, -⟩:=hal hd;have h1:xJ (cQ m.P.ow (g.H.L.o:Int) 256):=OT hm;have h2:m.P.pr[g.H.L.o]? =some (g.H.L.n:Int):=hm.prom;rw[ho]at h1 h2;have e:=hfew _ h2;refine⟨h1,?_,λq=>by cases q⟩;show _<=g.H.L.n;split at e<;>omega
theorem _root_.Go.Ink.Mon.ok.all{k:Nat}{m:Mon}(h:m.ok k):(pD m.P.ow m.gs.length).length+mH m.P.ow 256=240:=by
 have h4:=h.g.four;have hnone:∀o:Nat,m.gs.length<=o->o<4->cQ m.P.ow (o:Int) 256=[]:=λo h1 h2=>by
  have e:=h.g.Xb.few o _ (h.g.rest o h1 h2);rw[if_pos bX]at e;exact List.eq_nil_of_length_eq_zero Wq1
 have hlow:∀o:Nat,o<4->∀f:Nat,f<16->m.P.ow[f]? ≠some (o:Int):=λo ho f hf e=>by
  have hmem:(f:Int)∈cQ m.P.ow (o:Int) 256:=Bt.2 ⟨f,by omega,rfl,e⟩;by_cases hog:o<m.gs.length
  .have:=((h.mem (ae hog)).1.1 _ hmem).1;omega
  rw[hnone o Wq1 ho]at hmem;cases hmem
 have hl:∀n:Nat,n<=4->m.gs.length<=n->(pD m.P.ow n).length=(pD m.P.ow m.gs.length).length:=λn=>by
  induction n with
  |zero=>intro _ q;rw[show m.gs.length=0 by omega]
  |succ n ih=>
   intro hn q;by_cases e:m.gs.length=n+1
   .rw[e]
   rw[<-ih Wq1 Wq1];show(pD m.P.ow n++cQ m.P.ow (n:Int) 256).length=_;rw[hnone n Wq1 Wq1,aw]
 rw[<-hl 4 (aL _) h4];have hc:=zz (λf:Nat=>m.P.ow[f]? ==some (((0:Nat):Int))) (λf=>m.P.ow[f]? ==some (((1:Nat):Int))) (λf=>m.P.ow[f]? ==some (((2:Nat):Int))) (λf=>m.P.ow[f]? ==some (((3:Nat):Int))) (λf=>m.P.ow[f]? ==some (-1)) (List.range' 16 240) (λf hf=>by
  rw[List.mem_range'_1]at hf;rcases h.g.Xb.own f (by omega)with e|⟨o,ho,e⟩
  ·rw[e];rfl
  rw[e];obtain rfl|rfl|rfl|rfl:o=0\/o=1\/o=2\/o=3:=by omega
  all_goals rfl)
 rw[List.length_range',<-uL (hlow 0 Wq1),<-uL (hlow 1 Wq1),<-uL (hlow 2 Wq1),<-uL (hlow 3 Wq1)]at hc;show((((([]:Li)++_)++_)++_)++_).length+_=_;rw[aj,aj,aj,aj];have hfr:mH m.P.ow 256=((List.range' 16 240).filter (λf=>m.P.ow[f]? ==some (-1))).length:=rfl;rw[hfr,List.length_nil,Nat.zero_add];exact hc
theorem Gc(H:sL)(G:Gst)(B ow pr:Li)(hl:du B ow pr)(ho:H.L.o<4)(w:World)(h0:(By H G false).ok w)(hp:(dD H.L.bp B ow pr).ok w):
  Ctr prog 84 [.p H.bg] w [] (λv cs=>∃(A:Oa) (c:Nat),v= .slice A (cQ ow H.L.o 256).length c/\cs=[sl .i64 3 A (cQ ow H.L.o 256).length c (cQ ow H.L.o 256)]):=by
 refine Zfs func84 ntmps84 ?_;refine fH ?_;refine ZFa 22 ?_;refine Ql ?_;refine pN ?_;refine Z_3 ?_;refine uf ?_;refine ZFe 2 2 ?_;refine Zy5 3 rfl (bM Zrf (Zv rfl)) (dr la rfl) ?_;refine ZE 4 ?_;refine ZE 5 ?_;refine ZFe 6 3 ?_;refine Zy5 7 rfl (bM Zrf (Zv rfl)) (dr la rfl) ?_;refine ig ?_;refine ZTn (λw hi=>F8 H.L.bp B ow pr hl H.L.o ho w (bJ.old hp hi)) ?_;rintro _ _ ⟨A1,c1,rfl,rfl⟩;refine ZE 9 ?_;refine jU ?_;refine xz ?_;exact⟨A1,c1,rfl,rfl⟩
theorem Ku(bm:Nat)(m:Mon)(k:Nat)(hm:m.ok k)(i:Nat)(hil:i<m.gs.length)(w:World){w0:World}{S:List Nat}{cs rest:List bJ}(hi:Inv w0 S cs w)(hs:fe (eE bm m) cs rest):
  Ctr prog 57 [.p bm,.i (i:Int)] w [] (λv cs=>∃(A:Oa) (c:Nat),v= .slice A (cQ m.P.ow (i:Int) 256).length c/\cs=[sl .i64 3 A (cQ m.P.ow (i:Int) 256).length c (cQ m.P.ow (i:Int) 256)]):=by
 obtain⟨g,hg⟩:∃g,m.gs[i]? =some g:=⟨_,ae hil⟩;obtain⟨ho,hbp, -, -⟩:=hm.g.at_ i g hg;have h4:=hm.g.four;have hde:=(hm.mem hg).2.2;have h1:(lR bm m).ok w:=hi.okS hs _ (.head _);have h2:(ptrC m).ok w:=hi.okS hs _ (.tail _ (.head _));have h5:(ia m.bp m.P).ok w:=hi.okS hs _ (.tail _ (.tail _ (.head _)));have hi2:Inv w0 S (eE bm m++rest) w:=hi.perm hs.perm;obtain⟨r,hs2⟩:∃r,fe (iR m.bp m.P m.gs) (eE bm m++rest) r:=⟨_,by repeat (first|exact .nil _|(apply fe.cons;(repeat (first|exact .head _ _|apply Del.tail))))⟩;obtain⟨ad,hA⟩:=eM h2 Wq1;have HI:=Dp bm m i;rw[aE (show(0:Int)<=(i:Int) by omega),aE (show(i:Int)<(m.gs.length:Int) by omega)]at HI;have hp:(m.gs.map sd)[i]? =some (sd g):=by rw[aX,hg];rfl
 have hr:RdV w 1 m.A m.gs.length m.c (m.gs.map sd):=dM h2;rw[hA]at hr;cases hd:g.dead with
 |true=>
  have h3:=Bb hg hd hi2 hs2;rw[hde hd];refine Zfs func57 ntmps57 ?_;refine fH ?_;refine UG ?_;refine ZSe (λw hi=>Gd g.H g.G w (bJ.old h3 hi)) ?_;refine cY 3 1 (Z_4 ?_);refine xz ?_;exact⟨none,0,rfl,rfl⟩
 |false=>
  have h3:=FJ hm.g hg hd hi2 hs2 (By (g.H.on m.P) g.G false) (.head _);have HG:=λw h0 hp=>Gc (g.H.on m.P) g.G m.P.B m.P.ow m.P.pr hm.g.Xb.len (by show g.H.L.o<4;omega) w h0 hp
  have e1:(g.H.on m.P).L.o=i:=ho;have e2:(g.H.on m.P).L.bp=m.bp:=hbp;rw[e1,e2]at HG;refine Zfs func57 ntmps57 ?_;refine fH ?_;refine UG ?_;refine ZSn (λw hi=>HG w (bJ.old h3 hi) (bJ.old h5 hi)) ?_;rintro _ _ ⟨A1,c1,rfl,rfl⟩;refine Z_4 ?_;refine xz ?_;exact⟨A1,c1,rfl,rfl⟩
end Go.Proofs.YtgpahfcaecojgaaGreatDoor
