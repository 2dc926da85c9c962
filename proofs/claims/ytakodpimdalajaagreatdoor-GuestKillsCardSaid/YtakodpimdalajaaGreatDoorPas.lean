/- Lemmas. -/
import Derived.Test.YtakodpimdalajaaGreatDoorPaa
import Derived.Test.YtakodpimdalajaaGreatDoorPab
import Derived.Test.YtakodpimdalajaaGreatDoorPac
import Derived.Test.YtakodpimdalajaaGreatDoorPah
import Derived.Test.YtakodpimdalajaaGreatDoorPak
import Derived.Test.YtakodpimdalajaaGreatDoorPal
import Derived.Test.YtakodpimdalajaaGreatDoorPao
import Derived.Test.YtakodpimdalajaaGreatDoorPaq
import Derived.Test.YtakodpimdalajaaGreatDoorPar
set_option linter.unusedSimpArgs false
set_option linter.unusedVariables false
set_option maxRecDepth 100000
set_option maxHeartbeats 4000000
namespace Go.Ink
open Go.RowKit
abbrev Cq(i:Int×Int):List Value:=[.int .i64 i.1,.int .u32 i.2]
abbrev pgZ:List Value:=[.slice none 0 0,.int .i64 0,.int .i64 0,.int .i64 0,.int .i64 0,.slice none 0 0,.slice none 0 0,.int .i64 0,.int .u32 0,.int .i64 0,.int .i64 0,.int .u32 0,.int .i64 0,.int .i64 0]
theorem IQ{L:Lw}{n:Nat}(h:L.sm n)(op i next:Int):(L.one op i next).sm (n+10):=by
 have h2:=sm_go h op i next
 exact⟨h2.code,h2.dl,h2.rl,h2.dn,h2.rn⟩
theorem Dk:Lw.init.sm 0:=⟨aN _,aN _,aN _,⟨Int.le_refl _,Int.le_refl _⟩,⟨Int.le_refl _,Int.le_refl _⟩⟩
theorem BO(pc:Int)(w:Lw)(i:Int×Int)(l:List (Int×Int)):lY pc w (i::l)=bif(!gO i.1 i.2|| !dx i.1)||(gl i.1&& !l.isEmpty)then none else lY (IntKind.u32.wrap (pc+IntKind.u32.wrap (cy i.1))) (w.one i.1 i.2 (IntKind.u32.wrap (pc+IntKind.u32.wrap (cy i.1)))) l:=rfl
theorem xh{α:Type}(l:List α)(k:Nat)(hk:k<l.length):(!(l.drop (k+1)).isEmpty)=decide ((k:Int)<(l.length:Int) - 1):=by
 by_cases h:(k:Int)<(l.length:Int) - 1
 ·rw[ay h];cases hd:l.drop (k+1)with
  |nil=>rw[List.drop_eq_nil_iff]at hd;omega
  |cons=>rfl
 rw[az h,List.drop_of_length_le Wq1]
 rfl
theorem Hh{l:List (Int×Int)}{y:Int×Int}(h:l[l.length - 1]? =some y):l.getLastD (0,0)=y:=by
 rw[List.getLastD_eq_getLast?,List.getLast?_eq_getElem?,h]
 rfl
end Go.Ink
namespace Go.Proofs.YtakodpimdalajaaGreatDoor
open Go.RowKit Go.Ink Go.Proofs.Tryz
attribute [local irreducible] OpY bP
def LowK(o:Option Pg)(v:Value)(cs:List bJ):Prop:=match o with
 |some p=>∃Q':PAd,v= .tuple #[pgv p Q',.int .i64 0]∧cs=[slv 294 5 Q'.Ac p.code.length Q'.cc (p.code.flatMap II.cells),sl .i64 3 Q'.Ad p.Jw.length Q'.cd p.Jw,sl .i64 3 Q'.Ar p.Jx.length Q'.cr p.Jx]
 |none=>v= .tuple #[.agg pgZ.toArray,.int .i64 12]∧cs=[]
theorem Ep(pc:Int)(A:Option Addr)(c:Nat)(l:List (Int×Int))(hu:∀i,i∈l→u32 i.2)(w:World)(h:RdV w 2 A l.length c (l.flatMap Cq)):
  Ctr prog 128 [.int .u32 pc,.slice A l.length c] w [] (fun v cs=>LowK (ff pc l) v cs):=by
 have hlm:l.length≤maxLen:=aV h.cap h.max;simp only[maxLen]at hlm;obtain⟨R,hR⟩:=Zgn (lY pc Lw.init l);have hbad:(decide ((l.length:Int)<1)||decide (8<(l.length:Int)))=true→ff pc l=none:=fun e=>by unfold ff;rw[e,ac]
 have hno:R=none→(decide ((l.length:Int)<1)||decide (8<(l.length:Int)))=false→ff pc l=none:=fun e e2=>by unfold ff;rw[e2,aa,hR,e]
 have hyes:∀nx L,R=some (nx,L)→(decide ((l.length:Int)<1)||decide (8<(l.length:Int)))=false→ff pc l=some (cE (uQ nx L (l.getLastD (0,0)) l.length)):=fun nx L e e2=>by unfold ff;rw[e2,aa,hR,e]
 have hraw:∀nx L y,R=some (nx,L)→Raw (uQ nx L y l.length):=fun nx L y e=>by
  rw[e]at hR;obtain⟨lk, -, -⟩:=qw l pc Lw.init _ hu hR rC;exact⟨lk.wf,lk.ops,lk.d,lk.r,lk.flags,lk.target⟩
 obtain⟨LT,hLT⟩:=Zgn (ff pc l);rw[hLT]at hbad hno hyes⊢;refine bL func128 rfl ntmps128 rfl (Inv.start w) ?_;refine Z_2 ?_;refine ZN fun b4=>?_;refine p5 ?_;refine ZW ?_ ?_<;>intro hc1
 ·rw[hbad hc1];refine Z_2 ?_;refine Zy (ix (vs:=pgZ) Zk (.inl ⟨_,rfl,rfl⟩)) ?_;refine ZM ?_;refine Z_5 ?_;refine kV (cs':=[]) (.inl rfl) Zu rfl rfl rfl Zh Zrf Zrf ?_;exact df
 have hc1':=hc1;simp only[bj,ah]at hc1';refine dS ?_;refine ZO fun b26=>?_
 refine Z_6 ?_;refine dy 294 5 ?_;refine dy 3 1 ?_;refine dy 3 1 ?_;refine Z_6 ?_;refine cw (fun q:(Nat×Int)×Lw×LAd=>[(0,.int .u32 q.1.2),(1,.slice A l.length c),(4,.pointer (some ⟨b4,0,none⟩)),(6,.pointer (some ⟨b26,0,none⟩)),(27,.slice A l.length c),(28,.int .i64 (l.length:Int)),(29,.int .i64 (q.1.1:Int))]) (fun q=>[pg0 b4]++lwF b26 (l.length:Int) q.2.1 q.2.2) (fun q=>q.1.1≤l.length∧lY q.1.2 q.2.1 (l.drop q.1.1)=R∧q.2.1.sm (10*q.1.1)) (fun q=>l.length - q.1.1) (⟨(0,pc),Lw.init,⟨none,0,none,0,none,0⟩⟩) ?_ ?_ ?_ ?_
 ·exact⟨au _,hR,Dk⟩
 ·exact Zwk
 ·exact Zu
 rintro⟨⟨k,pc2⟩,L,X⟩ ⟨hk,hG,hsm⟩;dsimp only at hk hG hsm⊢;refine Z_6 ?_;refine ZW ?_ ?_<;>intro hc5
 ·simp only[ak]at hc5;have hkl:k<l.length:=Wq1;obtain⟨ad,had⟩:=h.some_ Wq1;have h2:=h;rw[had]at h2;obtain⟨x,hx⟩:∃x,l[k]? =some x:=⟨_,ai hkl⟩;rw[jg hx,BO,xh l k hkl]at hG;obtain⟨op,nn⟩:=x;dsimp only at hG;refine Z_7 ?_;refine Zy (eK (j:=k) had rfl Zrf Zv0 Zv0 Zrf (fun _=>hkl)) ?_;refine dL (cn (vs:=[.int .i64 op,.int .u32 nn]) Zrf Zrf Zv0) (fv h2 (fun i v hi=>fB (f:=Cq) Zrf (i:=i) hx hi)) rfl ?_;refine ZN fun b8=>?_
  refine ZA ?_;refine ZM ?_;refine Z_6 ?_;refine ZSe (fun w hi=>wX op nn w) ?_;refine Z_4 ?_;refine dE (cq rfl rfl) (.cons (dH rfl) .nil) (fun _ _=>rfl) (fun hg w hi=>wY op w) rfl ?_;refine Z_5 ?_;refine dE (cq rfl rfl) (.cons (dH rfl) .nil) (fun _ _=>rfl) (fun hg w hi=>vl op w) rfl ?_;refine Z_4 ?_;refine hH (dU rfl rfl) (dY (dH rfl) Zv0 Zl) (fun _ _=>trivial) rfl ?_;refine Z_5 ?_;refine ZW ?_ ?_<;>intro hc7
  ·rw[hc7,ac]at hG;rw[hno hG.symm hc1];refine Z_2 ?_;refine Zy (ix (vs:=pgZ) Zk (.inl ⟨_,rfl,rfl⟩)) ?_;refine ZM ?_;refine dS ?_;refine kV (cs':=[]) (.inl rfl) Zu rfl rfl rfl Zh Zrf Zrf ?_;exact df
  rw[hc7,aa]at hG;refine Z_7 ?_;refine ZSe (fun w hi=>uE op w) ?_;refine Zy (bW rfl rfl Zv0 rfl) ?_;refine Zy (cX Zv0 Zv0 rfl) ?_;refine Z_7 ?_;refine ZcL (lwF b26 (l.length:Int) L X) (fun w hi hin=>lone_ok b26 (l.length:Int) L X (hsm.mono Wq1) op nn _ w hin) ?_;rintro _ _ ⟨_,⟨L2,X2,hL2,rfl⟩,rfl⟩;refine Z_4 ?_;refine Wq8 ?_;refine bY ((⟨(k+1,IntKind.u32.wrap (pc2+IntKind.u32.wrap (cy op))),L2,X2⟩:(Nat×Int)×Lw×LAd)) ?_ ?_ ?_
  ·exact⟨⟨by dsimp only;omega,by dsimp only;rw[hL2];exact hG,by dsimp only;rw[hL2];exact(IQ hsm _ _ _).mono Wq1⟩,by dsimp only;omega⟩
  ·exact Zwk
  exact Zj
 simp only[ah]at hc5;obtain rfl:k=l.length:=Wq1;rw[List.drop_length]at hG;have hG:R=some (pc2,L):=hG.symm;have hraw2:=hraw pc2 L (l.getLastD (0,0)) hG;rw[hyes pc2 L hG hc1];refine dS ?_;refine dL (cn (vs:=[.slice X.Ac L.code.length X.cc,.int .i64 0,.int .i64 0,.int .i64 0,.int .i64 0,.slice none 0 0,.slice none 0 0,.int .i64 L.flags,.int .u32 0,.int .i64 L.target,.int .i64 L.branch,.int .u32 0,.int .i64 (l.length:Int),.int .i64 0]) Zrf Zrf Zv0) (cI Zh rfl) rfl ?_;refine ZN fun b9=>?_
 refine ZM ?_;refine Z_6 ?_;refine ZL ?_;refine Z_2 ?_;refine cW (fun q:Int×Int=>[(1,.slice A l.length c),(4,.pointer (some ⟨b4,0,none⟩)),(6,.pointer (some ⟨b26,0,none⟩)),(9,.pointer (some ⟨b9,0,none⟩))]) (fun q=>[pg0 b4]++lwF b26 (l.length:Int) L X++[row b9 [.slice X.Ac L.code.length X.cc,.int .i64 0,.int .i64 0,.int .i64 0,.int .i64 0,.slice none 0 0,.slice none 0 0,.int .i64 L.flags,.int .u32 q.1,.int .i64 L.target,.int .i64 L.branch,.int .u32 q.2,.int .i64 (l.length:Int),.int .i64 0] 236]) (fun q=>uQ pc2 L (l.getLastD (0,0)) l.length=⟨L.code,L.d.Jp,L.r.Jp,L.d.high,L.r.high,L.d.l,L.r.l,L.flags,q.1,L.target,L.branch,q.2,l.length,L.code.length⟩) ?_ ?_
 ·refine Z_5 ?_;refine Zy (dY Zv0 Zv0 Zl) ?_;obtain⟨ad,had⟩:=h.some_ (show 0<l.length by omega);have h2:=h;rw[had]at h2;obtain⟨x,hx⟩:∃x,l[l.length - 1]? =some x:=⟨_,ai Wq1⟩;have hlast:=Hh hx;rw[hlast];obtain⟨op,nn⟩:=x;refine Zy (eK (j:=l.length - 1) had rfl Zrf (Zv rfl) (Zv rfl) Wq4 Wq4) ?_;refine dL (cn (vs:=[.int .i64 op,.int .u32 nn]) Zrf Zrf Zv0) (fv h2 (fun i v hi=>fB (f:=Cq) Zrf (i:=i) hx hi)) rfl ?_;refine ZN fun b10=>?_
  refine ZM ?_;refine p5 ?_;refine ZW ?_ ?_<;>intro hc15
  ·refine Z_4 ?_;refine ZSe (fun w hi=>xZ nn w) ?_;refine Zy (cX Zv0 Zv0 rfl) ?_;refine Z_1 ?_;refine ZL ?_;refine Z_2 ?_;refine bY ((⟨IntKind.u32.wrap (pc2+kL nn),0⟩:Int×Int)) ?_ ?_ ?_
   ·exact(by unfold uQ;dsimp only;rw[hc15,ac,ac])
   ·exact Zwk
   exact Zj
  refine Z_8 ?_;refine ZW ?_ ?_<;>intro hc17
  ·refine Z_4 ?_;refine ZSe (fun w hi=>xZ nn w) ?_;refine Zy (cX Zv0 Zv0 rfl) ?_;refine Z_1 ?_;refine ZL ?_;refine Z_2 ?_;refine bY ((⟨pc2,IntKind.u32.wrap (pc2+kL nn)⟩:Int×Int)) ?_ ?_ ?_
   ·exact(by unfold uQ;dsimp only;rw[hc15,aa,aa,hc17,ac])
   ·exact Zwk
   exact Zj
  refine Z_2 ?_;refine bY ((⟨pc2,0⟩:Int×Int)) ?_ ?_ ?_
  ·exact(by unfold uQ;dsimp only;rw[hc15,aa,aa,hc17,aa])
  ·exact Zwk
  exact Zj
 rintro⟨nx,tk⟩ hq;dsimp only at hq⊢;rw[hq]at hraw2⊢;have hl500:=hsm;refine Zs (bR ⟨fun j=>List.elem j [21,23,25,27],qY b26 (yv (l.length:Int) L X)⟩ Zk ?_);refine gn ?_;refine ZFe 2 14 ?_;refine ZFe 3 1 ?_;refine iC 4 rfl Zk Zk Zk (bO Zrf (Zv rfl)) Wq2 (bQ (t:=280) Zh) rfl ?_;refine ZE 5 ?_;refine ZE 6 ?_;refine ZFe 7 18 ?_;refine ZFe 8 1 ?_;refine iC 9 rfl Zk Zk Zk (bO Zrf (Zv rfl)) Wq2 (bQ (t:=280) Zh) rfl ?_;refine ZE 10 ?_;refine ZE 11 ?_;refine ZFe 12 14 ?_;refine ZFe 13 2 ?_;refine iC 14 rfl Zk Zk Zk (bO Zrf (Zv rfl)) Wq2 (bQ (t:=280) Zh) rfl ?_;refine ZE 15 ?_;refine ZE 16 ?_;refine ZFe 17 18 ?_;refine ZFe 18 2 ?_;refine iC 19 rfl Zk Zk Zk (bO Zrf (Zv rfl)) Wq2 (bQ (t:=280) Zh) rfl ?_;refine ZFe 20 1 ?_;refine ce 21 Zk ?_;refine dp rfl rfl (fc Zrf rfl rfl rfl Za Zp) (fun _=>by rintro _ _ ⟨rfl,rfl⟩;exact bQ (t:=280) Zh) ?_;rintro _ _ ⟨rfl,rfl⟩;refine ZFe 22 2 ?_;refine ce 23 Zk ?_;refine dp rfl rfl (fc Zrf rfl rfl rfl Za Zp) (fun _=>by rintro _ _ ⟨rfl,rfl⟩;exact bQ (t:=280) Zh) ?_;rintro _ _ ⟨rfl,rfl⟩;refine ZFe 24 3 ?_;refine ce 25 Zk ?_;refine dp rfl rfl (fc Zrf rfl rfl rfl Za Zp) (fun _=>by rintro _ _ ⟨rfl,rfl⟩;exact bQ (t:=280) Zh) ?_;rintro _ _ ⟨rfl,rfl⟩;refine ZFe 26 4 ?_;refine ce 27 Zk ?_;refine dp rfl rfl (fc Zrf rfl rfl rfl Za Zp) (fun _=>by rintro _ _ ⟨rfl,rfl⟩;exact bQ (t:=280) Zh) ?_;rintro _ _ ⟨rfl,rfl⟩;refine dr ?_;refine Z_2 ?_;refine bR ⟨fun j=>List.elem j [11,13],qY b26 (yv (l.length:Int) L X)⟩ Zk ?_;refine gn ?_;refine ZFe 2 14 ?_;refine ZFe 3 0 ?_;refine iC 4 rfl Zk Zk Zk (bO Zrf (Zv rfl)) Wq2 (bQ (t:=280) Zh) rfl ?_;refine ZE 5 ?_;refine ZE 6 ?_;refine ZFe 7 18 ?_;refine ZFe 8 0 ?_;refine iC 9 rfl Zk Zk Zk (bO Zrf (Zv rfl)) Wq2 (bQ (t:=280) Zh) rfl ?_;refine ZFe 10 5 ?_;refine ce 11 Zk ?_;refine dp rfl rfl (fc Zrf rfl rfl rfl Za Zp) (fun _=>by rintro _ _ ⟨rfl,rfl⟩;exact bQ (t:=280) Zh) ?_;rintro _ _ ⟨rfl,rfl⟩;refine ZFe 12 6 ?_;refine ce 13 Zk ?_;refine dp rfl rfl (fc Zrf rfl rfl rfl Za Zp) (fun _=>by rintro _ _ ⟨rfl,rfl⟩;exact bQ (t:=280) Zh) ?_;rintro _ _ ⟨rfl,rfl⟩;refine dr ?_;refine Z_7 ?_;refine ZL ?_;refine Z_5 ?_;refine ZS (fun w hi=>Gl ⟨L.code,L.d.Jp,L.r.Jp,L.d.high,L.r.high,L.d.l,L.r.l,L.flags,nx,L.target,L.branch,tk,l.length,L.code.length⟩ ⟨X.Ac,X.cc,X.Ad,X.cd,X.Ar,X.cr⟩ hraw2 rfl (aV hsm.code Wq1) (aV hsm.dl Wq1) (aV hsm.rl Wq1) w ⟨hi.rd Zh,hi.rd Zh,hi.rd Zh⟩) ?_;rintro _ _ ⟨_,⟨Q9,rfl,rfl⟩,rfl⟩;refine ZM ?_;refine Z_4 ?_;obtain⟨p9,hp9⟩:=Zgn (cE ⟨L.code,L.d.Jp,L.r.Jp,L.d.high,L.r.high,L.d.l,L.r.l,L.flags,nx,L.target,L.branch,tk,l.length,L.code.length⟩);rw[hp9];refine bN [row b4 _ _,slv 294 5 Q9.Ac p9.code.length Q9.cc (p9.code.flatMap II.cells),sl .i64 3 Q9.Ad p9.Jw.length Q9.cd p9.Jw,sl .i64 3 Q9.Ar p9.Jx.length Q9.cr p9.Jx] Zj ?_;refine kV (cs':=[slv _ _ _ _ _ _,slv _ _ _ _ _ _,slv _ _ _ _ _ _]) (.inl rfl) Zu rfl rfl rfl Zh Zrf Zrf ?_;exact⟨Q9,rfl,rfl⟩
end Go.Proofs.YtakodpimdalajaaGreatDoor
namespace Go.Ink
open Go.RowKit
theorem zI:∀(l:List (Int×Int)) (pc:Int) (L:Lw) (q:Int×Lw) (n:Nat),lY pc L l=some q→L.sm n→q.2.sm (n+10*l.length)
 |[],pc,L,q,n,h,hs=>by obtain rfl:(pc,L)=q:=aD h;exact hs.mono cJ
 |i::l,pc,L,q,n,h,hs=>by
  obtain⟨-, -, -,h4⟩:=kE h;exact(zI l _ _ q (n+10) h4 (IQ hs _ _ _)).mono (by simp only[aj];omega)
theorem wG{pc:Int}{l:List (Int×Int)}(hu:∀i,i∈l→u32 i.2){p:Pg}(hlow:ff pc l=some p):qj p∧p.count=l.length∧1≤l.length∧l.length≤8∧(p.JB=true→ga (gm p (dJ p))∧(gm p (dJ p)).length≤100000):=by
 unfold ff at hlow;cases hlen:decide ((l.length:Int)<1)||decide (8<(l.length:Int))with
 |true=>rw[hlen]at hlow;cases hlow
 |false=>
 rw[hlen,aa]at hlow;simp only[bj,ah]at hlen;have hl0:l≠[]:=fun e=>by rw[e]at hlen;simp at hlen
 cases hgo:lY pc Lw.init l with
 |none=>rw[hgo]at hlow;cases hlow
 |some q=>
 rw[hgo]at hlow;obtain⟨nx,w⟩:=q;obtain rfl:=aD hlow;obtain⟨lk, -,hnx⟩:=qw l pc Lw.init _ hu hgo rC;have hnx:=hnx hl0;have hsm:=zI l pc Lw.init _ 0 hgo Dk;dsimp only at lk hnx hsm;obtain⟨i,hi⟩:=Zgn (l.getLastD (0,0));rw[hi];obtain⟨p0,hp0⟩:=Zgn (uQ nx w i l.length);rw[hp0];have f1:p0.code=w.code:=by rw[←hp0];rfl
 have f2:p0.Jw=w.d.l:=by rw[←hp0];rfl
 have f3:p0.Jx=w.r.l:=by rw[←hp0];rfl
 have g5:(cE p0).next=bif i.1==32||i.1==38 then IntKind.u32.wrap (nx+kL i.2)else nx:=by rw[←hp0];rfl
 have g6:(cE p0).taken=bif i.1==32||i.1==38 then 0 else bif w.branch !=0 then IntKind.u32.wrap (nx+kL i.2)else 0:=by rw[←hp0];rfl
 have g8:(cE p0).count=l.length:=by rw[←hp0];rfl
 have hlen4:=rD l pc Lw.init _ hgo;have hlen5:w.code.length≤32:=by have:Lw.init.code.length=0:=rfl;dsimp only at hlen4;omega
 have hlen6:(cE p0).code.length≤64:=by
  have:=oG (fQ p0) p0.code 0 (List.replicate p0.code.length 0) [];have e:(cE p0).code=(kH (fQ p0) p0.code 0 (List.replicate p0.code.length 0) []).2:=rfl;rw[e];rw[f1]at this⊢;simp at this;omega
 have himc:ImC (cE p0).code:=oH (fQ p0) p0.code 0 _ [] (fun _ h=>by cases h) (by rw[f1];exact lk.imm);have hn32:u32 (cE p0).next:=by rw[g5];cases i.1==32||i.1==38 with|true=>exact tf _|false=>exact hnx
 have ht32:u32 (cE p0).taken:=by
  have z:u32 0:=⟨by decide,by decide⟩;rw[g6];cases i.1==32||i.1==38 with
  |true=>exact z
  |false=>cases w.branch !=0 with
   |true=>exact tf _
   |false=>exact z
 have hd:=hsm.dl;have hr:=hsm.rl;have fit:qj (cE p0):=⟨rfl,hlen6,by show(dG _ p0.Jw).length≤100;unfold dG;rw[List.length_map,f2];omega,by show(dG _ p0.Jx).length≤100;unfold dG;rw[List.length_map,f3];omega,himc⟩;refine⟨fit,g8,by omega,by omega,fun hright=>?_⟩;obtain⟨pok, -, -, -⟩:=qZ hright himc hlen6 hn32 ht32;have hplan:FO (dJ (cE p0)) (gi (cE p0)) (cE p0).code.length:=DI (fun i hi=>D8 (cE p0) hi) hlen6;refine⟨B1 pok rfl hplan.has,?_⟩;have:=vx (cE p0) (dJ (cE p0)) (IntKind.u32.wrap ((fh (cE p0) (dJ (cE p0)) 0).length:Nat)) hlen6 fit.Jw fit.Jx;unfold gm;rw[ae,aj,ao];omega
end Go.Ink
namespace Go.Proofs.YtakodpimdalajaaGreatDoor
open Go.RowKit Go.Ink Go.Proofs.Tryz
attribute [local irreducible] OpY bP
theorem FE(p:Pg)(Q:PAd)(hf:qj p)(hr:p.JB=false)(w:World)(h:AK p Q w):
  Ctr prog 168 [pgv p Q,.int .i64 7] w [] (fun r cs=>r= .tuple #[.agg #[.slice none 0 0,.slice none 0 0,.int .i64 0],.int .i64 1]∧cs=[]):=by
 have hR:=rL p Q hf;rw[hr]at hR;refine bL func168 rfl ntmps168 rfl (Inv.start w) ?_;refine Z_2 ?_;refine ZO fun b2=>?_;refine ZN fun b4=>?_
 refine Z_7 ?_;refine ZSe (fun w hi=>hR w (h.Jz hi)) ?_;refine Z_2 ?_;refine dZ (cq rfl rfl) rfl rfl ?_;refine dZ (cq rfl rfl) rfl rfl ?_;refine dZ (cq rfl rfl) rfl rfl ?_;refine Zy (y_or (q:=false) (Zv rfl) ⟨_,rfl,fun _ e=>by simp at e⟩) ?_;refine Z_2 ?_;refine bU rfl (rfl) ?_;refine Z_2 ?_;refine Zy (ix (vs:=[Value.slice none 0 0,.slice none 0 0,.int .i64 0]) Zk (.inl ⟨_,rfl,rfl⟩)) ?_;refine ZM ?_;refine Z_5 ?_;refine kV (cs':=[]) (.inl rfl) Zu rfl rfl rfl Zh Zrf Zrf ?_;exact df
theorem E9(p:Pg)(Q:PAd)(hf:qj p)(hr:p.JB=false)(w:World)(h:AK p Q w):
  Ctr prog 129 [pgv p Q] w [] (fun r cs=>r= .tuple #[.slice none 0 0,.int .i64 12]∧cs=[]):=by
 refine bL func129 rfl ntmps129 rfl (Inv.start w) ?_;refine Z_2 ?_;refine ZO fun b1=>?_;refine Z_7 ?_;refine ZSe (fun w hi=>FE p Q hf hr w (h.Jz hi)) ?_;refine Z_3 ?_;refine ZN fun b4=>?_
 refine ZM ?_;refine dS ?_;refine bU rfl (rfl) ?_;refine Z_8 ?_;refine jh ?_;exact df
end Go.Proofs.YtakodpimdalajaaGreatDoor
namespace Go.Ink
open Go.RowKit
section
variable {C:Cx} {Q:kM} {fr:Fr} {cs cs':List bJ} {ops:Array Oper} {l:List Oper} {e:Exit} {fn:Func} {K:Value→List bJ→Prop}
theorem IH(hc:∀w,Inv C.w0 C.S cs w→Inv C.w0 C.S cs' w)(h:WL C ops Q l fr cs'):WL C ops Q l fr cs:=fun a w hf hi=>h a w hf (hc w hi)
theorem od{t T bb tt t2 T2 b2 tt2 u:Nat}{v:Value}{xs ys:List Value}(he:e= .ret∨e= .normal)(hs:cs'.Sublist cs)(h0:fn.results= #[.cell t T,.cell t2 T2,.tmp u])(h1:look fr t=some (.pointer (some ⟨bb,0,none⟩)))(h2:look fr t2=some (.pointer (some ⟨b2,0,none⟩)))(h3:look fr u=some v)(hc:Has cs (row bb xs tt))(hc2:Has cs (row b2 ys tt2))
  (hT:∀w,(isAgg T).run C.P w= .ok true w) (hz:∀w,(sizeOf T).run C.P w= .ok xs.length w) (hT2:∀w,(isAgg T2).run C.P w= .ok true w) (hz2:∀w,(sizeOf T2).run C.P w= .ok ys.length w) (hk:K (.tuple #[.agg xs.toArray,.agg ys.toArray,v]) cs'):QOk C (bodyPost C.P fn (xK C.w0 C.S K)) e fr cs:=
 lO he hs (fun a w hf hi=>by
  have e1:=hf.at_ t _ h1;have e2:=hf.at_ t2 _ h2;have e3:=hf.at_ u _ h3;simp only[aX]at e1 e2 e3;simp[results,h0,e1,e2,e3,asAddr,gt hT hz hi hc,gt hT2 hz2 hi hc2]) hk
end
theorem Ctr.up{P:Program}{f:FuncId}{args:List Value}{w:World}{cin:List bJ}{K K':Value→List bJ→Prop}(h:Ctr P f args w cin K)(hk:∀v cs w',K v cs→Inv w (bK cin) cs w'→∃cs',K' v cs'∧Inv w (bK cin) cs' w'):Ctr P f args w cin K':=
 Calls.mono h fun e w' hq=>by
  obtain⟨v,cout,rfl,h1,h2⟩:=hq;obtain⟨cs',h3,h4⟩:=hk v cout w' h1 h2;exact⟨v,cs',rfl,h3,h4⟩
abbrev EnX.JO(E:EnX)(X:CaX):EnX:=⟨E.bc,E.mr,E.room,X,E.RZ,E.last,E.JP,E.JL,E.begun⟩
abbrev EnX.JU(E:EnX)(RZ:List (Ky×RS)):EnX:=⟨E.bc,E.mr,E.room,E.X,RZ,E.last,E.JP,E.JL,E.begun⟩
def k9(Z:List BA)(RZ:List (Ky×RS)):List (Ky×RS):=RZ.filter fun x=>Z.any fun t=>t.key==x.1
theorem Gt(RZ:List (Ky×RS)):(rnM RZ).map (·.1)=RZ.map (·.1):=by unfold rnM;rw[List.map_map];rfl
theorem nC.rk{E:EnX}(h:nC E):(E.RZ.map (·.1)).Nodup:=by have:=h.eg.Ks;rwa[show E.eng.runs=rnM E.RZ from rfl,Gt]at this
theorem nS(E:Eng){Jl:List Int}(h:Jl≠[]):lF E Jl=Fb E Jl:=by
 unfold lF;cases Jl with
 |nil=>exact absurd rfl h
 |cons=>rfl
theorem Ih(E:EnX)(Jl:List Int)(X':CaX)(hX:X'.Z=E.X.Z.filter fun x=> !Jl.contains (x.b.key.2/64)):
  (bif decide (0<((E.X.Z.filter fun x=>Jl.contains (x.b.key.2/64)).length:Int))then((E.JO X').JU (k9 X'.Z E.RZ)).eng else(E.JO X').eng)=Fb E.eng Jl:=by
 have h2:=tX (fun x:BA=>Jl.contains (x.b.key.2/64)) E.X.Z;have hl:(E.eng.l.filter fun t=> !Jl.contains (t.key.2/64))=X'.Z.map BA.b:=by rw[hX];exact Ig E.X.Z Jl
 have hlen:E.eng.l.length=E.X.Z.length:=List.length_map _;unfold Fb;rw[hl,hlen];dsimp only;rw[List.length_map,hX];cases hd:decide (0<((E.X.Z.filter fun x=>Jl.contains (x.b.key.2/64)).length:Int))with
 |true=>
  simp only[ak]at hd;rw[ac,ay Wq1,ac];rw[←hX];show Eng.mk E.room (X'.Z.map BA.b) (rnM (k9 X'.Z E.RZ)) E.last E.JP E.JL E.begun=Eng.mk E.room _ (sM _ (rnM E.RZ)) E.last E.JP E.JL E.begun;rw[wJ]
  rfl
 |false=>
  simp only[ah]at hd;rw[aa,az Wq1,aa];rw[←hX]
  rfl
theorem CS(E:Eng)(Jl:List Int):(lF E Jl).last=E.last:=by unfold lF;cases Jl.isEmpty<;>rfl
theorem nC.Kx{E E':EnX}(h:nC E)(Jl:List Int)(he:E'.eng=lF E.eng Jl)(hc:oS E'.room E'.X)(hr:∀y,y∈E'.RZ→y∈E.RZ):nC E':=⟨hc,by rw[he];exact h.eg.turn Jl,fun y hy=>h.rs y (hr y hy),by have e:=congrArg Eng.last he;rw[CS]at e;rw[show E'.last=E.last from e];exact h.last⟩
theorem BG{b:List Int}{l:List (Int×Int)}{sz:Nat}{R:List (Int×Int)×Nat×Bool}(h:(l++(cG b 0 sz).1,(cG b 0 sz).2)=R):(l,sz,false)=R:=by
 rw[←h];show(l,sz,false)=(l++[],sz,false);rw[ax]
theorem BF{b:List Int}{l:List (Int×Int)}{k sz:Nat}{R:List (Int×Int)×Nat×Bool}(h:(l++(cG b (k+1) sz).1,(cG b (k+1) sz).2)=R)(hd:dR (b.drop sz)=none):(l,sz,false)=R:=by
 rw[←h];have e:cG b (k+1) sz=([],sz,false):=by rw[cG,hd]
 rw[e,ax]
theorem DJ{b:List Int}{l:List (Int×Int)}{k sz z:Nat}{i:Int×Int}{R:List (Int×Int)×Nat×Bool}(h:(l++(cG b (k+1) sz).1,(cG b (k+1) sz).2)=R)(hd:dR (b.drop sz)=some (i,z))(hp:dx i.1=false):(l,sz,false)=R:=by
 rw[←h];have e:cG b (k+1) sz=([],sz,false):=by rw[cG,hd];dsimp only;rw[hp,aa]
 rw[e,ax]
theorem DL{b:List Int}{l:List (Int×Int)}{k sz z:Nat}{i:Int×Int}{R:List (Int×Int)×Nat×Bool}(h:(l++(cG b (k+1) sz).1,(cG b (k+1) sz).2)=R)(hd:dR (b.drop sz)=some (i,z))(hp:dx i.1=true)(he:gl i.1=true):(l++[i],sz+z,true)=R:=by
 rw[←h];have e:cG b (k+1) sz=([i],sz+z,true):=by rw[cG,hd];dsimp only;rw[hp,he,ac,ac]
 rw[e]
theorem GK{b:List Int}{l:List (Int×Int)}{k sz z:Nat}{i:Int×Int}{R:List (Int×Int)×Nat×Bool}(h:(l++(cG b (k+1) sz).1,(cG b (k+1) sz).2)=R)(hd:dR (b.drop sz)=some (i,z))(hp:dx i.1=true)(he:gl i.1=false):(l++[i]++(cG b k (sz+z)).1,(cG b k (sz+z)).2)=R:=by
 rw[←h];have e:cG b (k+1) sz=(i::(cG b k (sz+z)).1,(cG b k (sz+z)).2.1,(cG b k (sz+z)).2.2):=by rw[cG,hd];dsimp only;rw[hp,he,ac,aa]
 rw[e,ap]
 rfl
end Go.Ink
namespace Go.Proofs.YtakodpimdalajaaGreatDoor
open Go.RowKit Go.Ink Go.Proofs.Tryz
attribute [local irreducible] OpY bP
abbrev pgC(Ap:Option Addr)(cp:Nat)(Jl:List Int):bJ:=sl .i64 3 Ap Jl.length cp Jl
abbrev caP(bc:Nat)(room:Int)(X:CaX)(Ap:Option Addr)(cp:Nat)(Jl:List Int):List bJ:=[caR bc (.int .i64 room) (.slice X.Ac X.Z.length X.cc) (.map (some X.ml)) (.int .i64 X.fl),blC X,dg (X.Z.map baC),mpc X.ml (lkV X.LK),dg (lkC X.LK),pgC Ap cp Jl]
theorem Ft(bc:Nat)(room:Int)(X:CaX)(hX:oS room X)(Ap:Option Addr)(cp:Nat)(Jl:List Int)(w:World)(hi:Inv w (bK (caP bc room X Ap cp Jl)) (caP bc room X Ap cp Jl) w):
  Ctr prog 107 [.pointer (some ⟨bc,0,none⟩),.slice Ap Jl.length cp] w (caP bc room X Ap cp Jl) (fun v cs=>v= .int .i64 ((X.Z.filter (et Jl)).length:Int)∧∃X':CaX,cs=caP bc room X' Ap cp Jl∧oS room X'∧X'.Z=X.Z.filter fun x=> !et Jl x):=Ix bc room X hX Ap cp Jl w hi
abbrev enP(be:Nat)(E:EnX)(Ap:Option Addr)(cp:Nat)(Jl:List Int):List bJ:=[enR be E,caR E.bc (.int .i64 E.room) (.slice E.X.Ac E.X.Z.length E.X.cc) (.map (some E.X.ml)) (.int .i64 E.X.fl),blC E.X,dg (E.X.Z.map baC),mpc E.X.ml (lkV E.X.LK),dg (lkC E.X.LK),mpc E.mr (rnV E.RZ),dg (rnC E.RZ),pgC Ap cp Jl]
abbrev tdF(b1 be:Nat)(E:EnX):List bJ:=row b1 [.pointer (some ⟨be,0,none⟩)] 33::enR be E::caF E.bc E.room E.X
theorem Ge(b1 be:Nat)(E:EnX)(hS:BaSm E.X.Z)(q:Ky)(x:RS)(w:World)(hi:Inv w (bK (tdF b1 be E)) (tdF b1 be E) w):
  Ctr prog 153 ([]++[.agg (cz q).toArray,.agg x.cells.toArray]++[.pointer (some ⟨b1,0,none⟩)]) w (tdF b1 be E) (fun v cs=>v= .bool (!(E.X.Z.find? fun t=>t.key==q).isSome)∧cs=tdF b1 be E):=by
 have HF:=AB E.bc E.room E.X hS q;obtain⟨o,ho⟩:=Zgn ((E.X.Z.find? fun t=>t.key==q));rw[ho]at HF⊢;refine bL func153 rfl ntmps153 rfl hi ?_;cases o with
 |none=>
  refine Z_2 ?_;refine ZO fun b3=>?_;refine ZO fun b4=>?_
  refine Z_4 ?_;refine jk ⟨fun j=>List.elem j [5,10],[]⟩ [(0,4),(1,0),(2,0),(3,1),(4,1),(5,3),(6,3),(7,3),(8,3),(9,3),(10,3),(11,3)] Zk Zk ?_;refine jr rfl (bO Zrf Zv0) (cB Zh rfl) rfl ?_;refine cT rfl (AO Zv0) rfl ?_;refine cT rfl (dN 0 rfl Zv0 Zf) rfl ?_;refine uy rfl (bO Zrf Zv0) (cB Zh rfl) rfl ?_;refine mB rfl Zh Zrf Zrf (Zv rfl) rfl ?_;refine FZ [(5,[(6,0),(7,0),(8,0),(9,2),(10,2),(11,0)]),(9,[(5,2),(6,0),(7,0),(8,0),(10,2),(11,0)])] Zk (.cons ?_ (.cons ?_ .nil))
  ·refine ZcS (caF E.bc E.room E.X) (fun w hi hin=>HF w hin) ?_;rintro _ _ ⟨_,⟨rfl,rfl⟩,rfl⟩;refine FH ?_;refine gM rfl ?_;refine fD rfl rfl (ft Zrf rfl) ZJ rfl ?_;rintro _ _ ⟨b6,rfl,rfl⟩;refine gM rfl ?_;refine eC rfl rfl (bV Zrf rfl rfl (jp rfl) Za (by exact rfl)) ZJ ?_;rintro _ _ ⟨rfl,rfl⟩;refine cT rfl (fm Zv0) rfl ?_;refine eP ?_;refine Z_9 ?_;refine bN (tdF b1 be E) Zj ?_;refine xH (cs':=tdF b1 be E) (.inl rfl) (aQ _) rfl rfl ?_;exact df
  refine fD rfl rfl (ft Zrf rfl) ZJ rfl ?_;rintro _ _ ⟨b6,rfl,rfl⟩;refine gM rfl ?_;refine ZcS (caF E.bc E.room E.X) (fun w hi hin=>HF w hin) ?_;rintro _ _ ⟨_,⟨rfl,rfl⟩,rfl⟩;refine FH ?_;refine gM rfl ?_;refine eC rfl rfl (bV Zrf rfl rfl (jp rfl) Za (by exact rfl)) ZJ ?_;rintro _ _ ⟨rfl,rfl⟩;refine cT rfl (fm Zv0) rfl ?_;refine eP ?_;refine Z_9 ?_;refine bN (tdF b1 be E) Zj ?_;refine xH (cs':=tdF b1 be E) (.inl rfl) (aQ _) rfl rfl ?_;exact df
 |some y=>
  refine Z_2 ?_;refine ZO fun b3=>?_;refine ZO fun b4=>?_
  refine Z_4 ?_;refine jk ⟨fun j=>List.elem j [5,10],[]⟩ [(0,4),(1,0),(2,0),(3,1),(4,1),(5,3),(6,3),(7,3),(8,3),(9,3),(10,3),(11,3)] Zk Zk ?_;refine jr rfl (bO Zrf Zv0) (cB Zh rfl) rfl ?_;refine cT rfl (AO Zv0) rfl ?_;refine cT rfl (dN 0 rfl Zv0 Zf) rfl ?_;refine uy rfl (bO Zrf Zv0) (cB Zh rfl) rfl ?_;refine mB rfl Zh Zrf Zrf (Zv rfl) rfl ?_;refine FZ [(5,[(6,0),(7,0),(8,0),(9,2),(10,2),(11,0)]),(9,[(5,2),(6,0),(7,0),(8,0),(10,2),(11,0)])] Zk (.cons ?_ (.cons ?_ .nil))
  ·refine ZcS (caF E.bc E.room E.X) (fun w hi hin=>HF w hin) ?_;rintro _ _ ⟨_,⟨A9,c9,rfl,rfl⟩,rfl⟩;refine FH ?_;refine gM rfl ?_;refine fD rfl rfl (ft Zrf rfl) ZJ rfl ?_;rintro _ _ ⟨b6,rfl,rfl⟩;refine gM rfl ?_;refine eC rfl rfl (bV Zrf rfl rfl (fK ⟨y.b,A9,c9⟩) Za (by exact rfl)) ZJ ?_;rintro _ _ ⟨rfl,rfl⟩;refine cT rfl (fm Zv0) rfl ?_;refine eP ?_;refine Z_9 ?_;refine bN (tdF b1 be E) Zj ?_;refine xH (cs':=tdF b1 be E) (.inl rfl) (aQ _) rfl rfl ?_;exact df
  refine fD rfl rfl (ft Zrf rfl) ZJ rfl ?_;rintro _ _ ⟨b6,rfl,rfl⟩;refine gM rfl ?_;refine ZcS (caF E.bc E.room E.X) (fun w hi hin=>HF w hin) ?_;rintro _ _ ⟨_,⟨A9,c9,rfl,rfl⟩,rfl⟩;refine FH ?_;refine gM rfl ?_;refine eC rfl rfl (bV Zrf rfl rfl (fK ⟨y.b,A9,c9⟩) Za (by exact rfl)) ZJ ?_;rintro _ _ ⟨rfl,rfl⟩;refine cT rfl (fm Zv0) rfl ?_;refine eP ?_;refine Z_9 ?_;refine bN (tdF b1 be E) Zj ?_;refine xH (cs':=tdF b1 be E) (.inl rfl) (aQ _) rfl rfl ?_;exact df
theorem z9(be:Nat)(E:EnX)(hS:BaSm E.X.Z)(hn:(E.RZ.map (·.1)).Nodup)(hk:∀y,y∈E.RZ→kp y.1)(w:World)(hi:Inv w (bK (enF be E)) (enF be E) w):
  Ctr prog 108 [.pointer (some ⟨be,0,none⟩)] w (enF be E) (fun _ cs=>cs=enF be (E.JU (k9 E.X.Z E.RZ))):=by
 have hkr:(E.RZ.filter fun x=> !!(E.X.Z.find? fun t=>t.key==x.1).isSome)=k9 E.X.Z E.RZ:=by
  unfold k9;apply List.filter_congr;intro x _;rw[Bool.not_not,IA]
 have hsub:(rnC (k9 E.X.Z E.RZ)).Sublist (rnC E.RZ):=List.Sublist.map _ List.filter_sublist;have HM:=fun b1 w hi=>BL (dg (tdF b1 be E)) (fun q=> !(E.X.Z.find? fun t=>t.key==q).isSome) 153 [.pointer (some ⟨b1,0,none⟩)] (fun _ _=>rfl) E.RZ hn hk E.mr
  (fun q x w _ hin=>Ctr.mono (Ctr.join hin fun hin2=>Ge b1 be E hS q x w hin2) (fun v cs ⟨cs0,⟨h1,h2⟩,h3⟩=>⟨h1,by rw[h3,h2]⟩)) w hi
 rw[hkr]at HM;refine bL func108 rfl ntmps108 rfl hi ?_;refine Z_2 ?_;refine ZO fun b1=>?_;refine Z_7 ?_;refine Zy (kP rfl) ?_;refine IH (cs':=dg (tdF b1 be E)::[mpc E.mr (rnV E.RZ),dg (rnC E.RZ)]) (fun w hi=>hi.KF Zi) ?_;refine ZcL ([mpc E.mr (rnV E.RZ),dg (tdF b1 be E)]) (fun w hi hin=>HM b1 w hin) ?_;rintro _ _ ⟨_,rfl,rfl⟩;refine IH (cs':=tdF b1 be E++[mpc E.mr (rnV (k9 E.X.Z E.RZ)),dg (rnC E.RZ)]) (fun w hi=>(hi.perm (List.Perm.swap ..)).Kq) ?_;refine Zn (nk (cin:=rnC E.RZ) (cin':=rnC (k9 E.X.Z E.RZ)) Zd hsub ?_);refine bN (enF be (E.JU (k9 E.X.Z E.RZ))) Zj ?_;refine iF (cs':=enF be (E.JU (k9 E.X.Z E.RZ))) (.inr rfl) (aQ _) rfl ?_
 rfl
theorem tZ(be:Nat)(E:EnX)(hE:nC E)(Ap:Option Addr)(cp:Nat)(Jl:List Int)(w:World)(hi:Inv w (bK (enP be E Ap cp Jl)) (enP be E Ap cp Jl) w):
  Ctr prog 58 [.pointer (some ⟨be,0,none⟩),.slice Ap Jl.length cp] w (enP be E Ap cp Jl) (fun _ cs=>∃E',cs=enP be E' Ap cp Jl∧nC E'∧E'.eng=lF E.eng Jl):=by
 have HD:=Ft E.bc E.room E.X hE.ca Ap cp Jl;refine bL func58 rfl ntmps58 rfl hi ?_;by_cases hp:Jl=[]
 ·subst hp;refine Z_6 ?_;refine Wq15 ?_;refine dZ (bZ rfl rfl) rfl rfl ?_;refine dZ (bZ rfl rfl) rfl rfl ?_;refine dZ (bZ rfl rfl) rfl rfl ?_;refine Zy (CC (q:=false) (Zv rfl) ⟨_,rfl,fun _ e=>absurd e Wq5⟩) ?_;refine Z_2 ?_;refine gx ?_;refine Zc (iF (cs':=enP be E Ap cp []) (.inr rfl) (aQ _) rfl ?_);exact⟨E,rfl,hE,rfl⟩
 have hpl:0<Jl.length:=List.length_pos_iff.2 hp;have HX:=Ih E Jl;obtain⟨n9,hn9⟩:∃n:Nat,(E.X.Z.filter fun x=>Jl.contains (x.b.key.2/64)).length=n:=⟨_,rfl⟩;rw[hn9]at HX;rw[show(E.X.Z.filter (et Jl)).length=n9 from hn9]at HD;refine Z_5 ?_;rw[show decide ((0:Int)<(Jl.length:Int))=true from ay Wq1];refine Z_6 ?_;refine iA (bZ rfl rfl) rfl (eB (caP E.bc E.room E.X Ap cp Jl) rfl (fun _ _=>rfl) Zi (fun w hi hin=>HD w hin)) rfl ?_;rintro _ _ ⟨_,⟨rfl,X',rfl,hX',hXZ⟩,rfl⟩;have hX2:=HX X' hXZ;refine Z_4 ?_;refine ZW ?_ ?_<;>intro hc0
 ·have hd:decide (0<((n9:Nat):Int))=true:=hc0
  rw[hd,ac]at hX2;refine Z_2 ?_;refine ZcL (enF be (E.JO X')) (fun w hi hin=>z9 be (E.JO X') hX'.sm hE.rk (fun y hy=>(hE.rs y hy).1) w hin) ?_;rintro _ _ ⟨_,rfl,rfl⟩;refine Zn (bN (enP be ((E.JO X').JU (k9 X'.Z E.RZ)) Ap cp Jl) Zj ?_);refine iF (cs':=enP be ((E.JO X').JU (k9 X'.Z E.RZ)) Ap cp Jl) (.inr rfl) (aQ _) rfl ?_;exact⟨_,rfl,hE.Kx Jl (by rw[hX2,nS _ hp]) hX' (fun y hy=>(List.mem_filter.1 hy).1),by rw[hX2,nS _ hp]⟩
 have hd:decide (0<((n9:Nat):Int))=false:=hc0
 rw[hd,aa]at hX2;refine Zc (bN (enP be (E.JO X') Ap cp Jl) Zj ?_);refine iF (cs':=enP be (E.JO X') Ap cp Jl) (.inr rfl) (aQ _) rfl ?_;exact⟨_,rfl,hE.Kx Jl (by rw[hX2,nS _ hp]) hX' (fun y hy=>hy),by rw[hX2,nS _ hp]⟩
end Go.Proofs.YtakodpimdalajaaGreatDoor
namespace Go.Ink
open Go.RowKit
theorem rd_drop{w:World}{A:Option Addr}{c:Nat}{xs:List Int}(h:Rd w .u8 A xs.length c xs){k:Nat}(hk:k≤xs.length):Rd w .u8 (if c=k then A else A.map (·.add (k*1))) (xs.length - k) (c - k) (xs.drop k):=by
 have h5:=RdV.cut h (lo:=k) (hi:=xs.length) hk (aN _);have e:(ints .u8 xs).take xs.length=ints .u8 xs:=List.take_of_length_le (by simp[ints]);rw[Nat.mul_one]at h5;simp only[Nat.mul_one]at h5⊢;rw[e]at h5;have e2:(ints .u8 xs).drop k=ints .u8 (xs.drop k):=by simp[ints]
 rw[e2]at h5;exact h5
theorem Ho(l:List (Int×Int))(op nn:Int):l.flatMap Cq++[.int .i64 op,.int .u32 nn]=(l++[(op,nn)]).flatMap Cq:=by simp
theorem two1(a b:Int):∀u∈([.int .i64 a,.int .u32 b]:List Value),u.oneCell'=true:=fun u h=>by
 simp only[aK,aY,or_false]at h;rcases h with rfl|rfl<;>rfl
end Go.Ink
namespace Go.Proofs.YtakodpimdalajaaGreatDoor
open Go.RowKit Go.Ink Go.Proofs.Tryz
attribute [local irreducible] OpY bP
theorem E4(A:Option Addr)(c:Nat)(b:List Int)(hb:u8s b)(hbl:b.length≤1000)(w:World)(h:Rd w .u8 A b.length c b):
  Ctr prog 127 [.slice A b.length c] w [] (fun v cs=>∃A1 c1,∃x:RS,x.r=⟨b.take (cG b 8 0).2.1,(cG b 8 0).2.2⟩∧v= .tuple #[.slice A1 (cG b 8 0).1.length c1,.agg x.cells.toArray]∧cs=[slv 24 2 A1 (cG b 8 0).1.length c1 ((cG b 8 0).1.flatMap Cq),rsC x]):=by
 obtain⟨R,hR⟩:=Zgn (cG b 8 0);rw[hR];have hR0:(([]:List (Int×Int))++(cG b 8 0).1,(cG b 8 0).2)=R:=hR;have hcap:=h.cap;refine bL func127 rfl ntmps127 rfl (Inv.start w) ?_;refine Z_3 ?_;refine ZN fun b3=>?_
 refine Z_9 ?_;refine ZN fun b5=>?_;refine Z_4 ?_;refine dy 24 2 ?_;refine Z_3 ?_;refine cW (fun q:(List (Int×Int)×Nat×Bool)×Option Addr×Nat=>[(0,.slice A b.length c),(3,.pointer (some ⟨b3,0,none⟩)),(4,.slice q.2.1 q.1.1.length q.2.2),(5,.pointer (some ⟨b5,0,none⟩)),(6,.int .i64 (q.1.2.1:Int))]) (fun q=>[row b3 [.slice none 0 0,.bool false] 105,row b5 [.slice none 0 0,.bool q.1.2.2] 105,slv 24 2 q.2.1 q.1.1.length q.2.2 (q.1.1.flatMap Cq)]) (fun q=>q.1=R∧q.1.2.1≤b.length) ?_ ?_
 ·refine Zx ?_;refine cw (fun q:(List (Int×Int)×Nat×Bool)×Option Addr×Nat=>[(0,.slice A b.length c),(3,.pointer (some ⟨b3,0,none⟩)),(4,.slice q.2.1 q.1.1.length q.2.2),(5,.pointer (some ⟨b5,0,none⟩)),(6,.int .i64 (q.1.2.1:Int))]) (fun q=>[row b3 [.slice none 0 0,.bool false] 105,row b5 [.slice none 0 0,.bool q.1.2.2] 105,slv 24 2 q.2.1 q.1.1.length q.2.2 (q.1.1.flatMap Cq)]) (fun q=>q.1.1.length≤8∧q.1.2.1≤b.length∧(q.1.2.2=true→q.1=R)∧(q.1.2.2=false→(q.1.1++(cG b (8 - q.1.1.length) q.1.2.1).1,(cG b (8 - q.1.1.length) q.1.2.1).2)=R)) (fun q=>8 - q.1.1.length) (⟨([],0,false),none,0⟩) ?_ ?_ ?_ ?_
  ·exact⟨au _,au _,fun e=>(by cases e),fun _=>hR0⟩
  ·exact Zwk
  ·exact Zu
  rintro⟨⟨l,sz,en⟩,A1,c1⟩ ⟨hl,hsz,hT,hF⟩;dsimp only at hl hsz hT hF⊢;have hb5:(b.drop sz).length=b.length - sz:=bn;refine jA ?_;refine ZW ?_ ?_<;>intro hc4
  ·have hc4':(decide ((l.length:Int)<8)&& !en)=true:=hc4;simp only[aB,ak,Bool.not_eq_true']at hc4';obtain⟨hl8,rfl⟩:=hc4';have hF:=hF rfl;obtain⟨k,hk⟩:∃k,8 - l.length=k+1:=⟨8 - l.length - 1,by omega⟩;rw[hk]at hF;have HD:=fun A c w h=>xi A c (b.drop sz) (fun x hx=>hb x (List.mem_of_mem_drop hx)) w h
   rw[hb5]at HD;have hS:=BF hF;have hN:=fun i z=>DJ (z:=z) (i:=i) hF
   have hE:=fun i z=>DL (z:=z) (i:=i) hF
   have hO:=fun i z=>GK (z:=z) (i:=i) hF
   have hRg:=fun(op nn:Int) (z:Nat)=>mq (b:=b.drop sz) (fun x hx=>hb x (List.mem_of_mem_drop hx)) (op:=op) (nn:=nn) (z:=z)
   obtain⟨o,ho⟩:=Zgn (dR (b.drop sz));rw[ho]at HD hS hN hE hO hRg;refine Z_7 ?_;refine Zy (uw rfl Zrf (Zv rfl) (.inr ⟨_,_,rfl,(Zv rfl)⟩) (.inl ⟨rfl,rfl⟩) Wq1 Wq1) ?_;refine ZS (fun w hi=>HD _ _ w (rd_drop (h.Jz hi) hsz)) ?_;rintro _ _ ⟨_,⟨⟨y,rfl,hy⟩,rfl⟩,rfl⟩;refine Z_4 ?_;refine ZN fun b7=>?_
   refine ZM ?_;refine Z_6 ?_;rcases o with _|⟨⟨op,nn⟩,z⟩
   ·have hy0:(y==0)=false:=hy;have hq:=hS rfl;have hy1:(y !=0)=true:=(by rw[bne,hy0];rfl);refine Z_3 ?_;rw[hy1];refine ZA ?_;refine dZ (cq rfl rfl) rfl rfl ?_;refine dZ (cq rfl rfl) rfl rfl ?_;refine dZ (cq rfl rfl) rfl rfl ?_;refine dZ (cq rfl rfl) rfl rfl ?_;refine Zy (y_or (q:=false) (Zv rfl) ⟨_,rfl,fun _ e=>absurd e Wq5⟩) ?_;refine Z_2 ?_;refine bU rfl (rfl) ?_;refine Z_5 ?_;refine bY ((⟨(l,sz,false),A1,c1⟩:(List (Int×Int)×Nat×Bool)×Option Addr×Nat)) ?_ ?_ ?_
    ·exact⟨hq,hsz⟩
    ·exact Zwk
    exact Zj
   have hy0:(y==0)=true:=hy;obtain rfl:y=0:=(by simpa using hy0);have hN:=hN (op,nn) z rfl;have hE:=hE (op,nn) z rfl;have hO:=hO (op,nn) z rfl;obtain⟨hnn,hz1,hz5,hzl⟩:=hRg op nn z rfl;dsimp only at hN hE hO;refine Z_6 ?_;refine dE (cq rfl rfl) (.cons (dH rfl) .nil) (fun _ _=>rfl) (fun hg w hi=>wY op w) rfl ?_;refine Z_4 ?_;refine ZW ?_ ?_<;>intro hc6
   ·have hp:dx op=false:=(by have h9:(false|| !dx op)=true:=hc6;simpa using h9);have hq:=hN hp;refine Z_5 ?_;refine bY ((⟨(l,sz,false),A1,c1⟩:(List (Int×Int)×Nat×Bool)×Option Addr×Nat)) ?_ ?_ ?_
    ·exact⟨hq,hsz⟩
    ·exact Zwk
    exact Zj
   have hp:dx op=true:=(by have h9:(false|| !dx op)=false:=hc6;simpa using h9);refine Z_6 ?_;refine fb (da rfl rfl Zrf Zrf rfl rfl rfl) rfl ?_;rintro _ _ ⟨b36,rfl,rfl⟩;refine fb (cC (n:=l.length) (e:=24) (sz:=2) (bytes:=16) rfl rfl Za rfl rfl (fun w hi=>hi.rd (show Has _ (slv 24 2 (some ⟨b36,0,none⟩) 1 1 [.int .i64 op,.int .u32 nn])from Zh)) (two1 op nn) g9 Wq1) rfl ?_;rintro _ _ ⟨A2,c2,rfl,rfl⟩;rw[Ho,show l.length+1=(l++[(op,nn)]).length by simp];refine Z_7 ?_;refine Zy (cX (Zv rfl) (Zv rfl) (show _=((sz+z:Nat):Int)from by show IntKind.i64.wrap ((sz:Int)+(z:Int))=_;rw[bI];omega)) ?_;refine Z_6 ?_;refine ZSe (fun w hi=>vl op w) ?_;refine Z_1 ?_;refine ZL ?_;refine Z_2 ?_;refine bY ((⟨(l++[(op,nn)],sz+z,gl op),A2,c2⟩:(List (Int×Int)×Nat×Bool)×Option Addr×Nat)) ?_ ?_ ?_
   ·exact⟨⟨(by simp;omega),(by dsimp only;omega),(fun e=>by dsimp only at e⊢;rw[e];exact hE hp e),(fun e=>by dsimp only;rw[ae,show 8 - (l.length+[(op,nn)].length)=k by simp;omega];exact hO hp e)⟩,(by simp;omega)⟩
   ·exact Zwk
   exact Zj
  have hq:(l,sz,en)=R:=(by cases en with|true=>exact hT rfl|false=>(have h8:¬((l.length:Int)<8):=(by have h9:(decide ((l.length:Int)<8)&& !false)=false:=hc4;rw[Bool.not_false,Bool.and_true]at h9;exact of_decide_eq_false h9);have hF:=hF rfl;rw[show 8 - l.length=0 by omega]at hF;exact BG hF));refine Z_4 ?_;refine bY ((⟨(l,sz,en),A1,c1⟩:(List (Int×Int)×Nat×Bool)×Option Addr×Nat)) ?_ ?_ ?_
  ·exact⟨hq,hsz⟩
  ·exact Zwk
  exact Zj
 rintro⟨⟨l,sz,en⟩,A1,c1⟩ ⟨rfl,hsz⟩;dsimp only at hsz⊢;have htl:(b.take sz).length=sz:=(by rw[aC];omega);refine Z_4 ?_;refine Zy (gf sz rfl Zrf (Zv rfl) (Zv rfl) (fun _=>by first|rfl|omega) Wq4) ?_;refine ZS (fun w hi=>Fz A sz c (b.take sz) w (by have h9:=lR (h.Jz hi) sz;rw[htl]at h9;exact h9) Wq1) ?_;rintro _ _ ⟨_,⟨A9,c9,rfl,rfl⟩,rfl⟩;refine Z_1 ?_;refine ZL ?_;refine Z_3 ?_;refine bR ⟨fun j=>List.elem j [3],[]⟩ Zk ?_;refine ZE 0 ?_;refine ZI 1 ?_;refine ZE 2 ?_;refine ce 3 Zk ?_;refine ZR ?_;refine dr ?_;refine Z_2 ?_;refine bN (row b3 [.slice A9 sz c9,.bool en] 105::[slv 24 2 A1 l.length c1 (l.flatMap Cq),sl .u8 5 A9 sz c9 (b.take sz)]) Zj ?_;refine nj (cs':=[slv 24 2 A1 l.length c1 (l.flatMap Cq),sl .u8 5 A9 sz c9 (b.take sz)]) (.inl rfl) (List.Sublist.cons _ (aQ _)) rfl rfl rfl Zh Zrf Zrf ?_;exact⟨A1,c1,⟨⟨b.take sz,en⟩,A9,c9⟩,rfl,by show _=Value.tuple #[_,.agg (RS.cells ⟨⟨b.take sz,en⟩,A9,c9⟩).toArray];unfold RS.cells;dsimp only;rw[htl],by unfold rsC;dsimp only;rw[htl]⟩
end Go.Proofs.YtakodpimdalajaaGreatDoor
