/- Lemmas. -/
import Derived.Test.YtkegldppffignaaGreatDoorPaa
import Derived.Test.YtkegldppffignaaGreatDoorPab
import Derived.Test.YtkegldppffignaaGreatDoorPac
import Derived.Test.YtkegldppffignaaGreatDoorPai
import Derived.Test.YtkegldppffignaaGreatDoorPan
import Derived.Test.YtkegldppffignaaGreatDoorPas
import Derived.Test.YtkegldppffignaaGreatDoorPau
import Derived.Test.YtkegldppffignaaGreatDoorPav
set_option linter.unusedSimpArgs false
set_option linter.unusedVariables false
set_option maxRecDepth 100000
set_option maxHeartbeats 4000000
namespace Go.Ink
open Go.RowKit
abbrev EO(i:Int×Int):List Value:=[.int .i64 i.1,.int .u32 i.2]
abbrev pgZ:List Value:=[.slice none 0 0,.int .i64 0,.int .i64 0,.int .i64 0,.int .i64 0,.slice none 0 0,.slice none 0 0,.int .i64 0,.int .u32 0,.int .i64 0,.int .i64 0,.int .u32 0,.int .i64 0,.int .i64 0]
theorem L8{L:Lw}{n:Nat}(h:L.sm n)(op i next:Int):(L.one op i next).sm (n+10):=by
 have h2:=sm_go h op i next
 exact⟨h2.code,h2.dl,h2.rl,h2.dn,h2.rn⟩
theorem F4:Lw.init.sm 0:=⟨aM _,aM _,aM _,⟨Int.le_refl _,Int.le_refl _⟩,⟨Int.le_refl _,Int.le_refl _⟩⟩
theorem DZ(pc:Int)(w:Lw)(i:Int×Int)(l:List (Int×Int)):mS pc w (i::l)=bif(!fI i.1 i.2|| !dB i.1)||(fN i.1&& !l.isEmpty)then none else mS (IntKind.u32.wrap (pc+IntKind.u32.wrap (cA i.1))) (w.one i.1 i.2 (IntKind.u32.wrap (pc+IntKind.u32.wrap (cA i.1)))) l:=rfl
theorem zl{α:Type}(l:List α)(k:Nat)(hk:k<l.length):(!(l.drop (k+1)).isEmpty)=decide ((k:Int)<(l.length:Int) - 1):=by
 by_cases h:(k:Int)<(l.length:Int) - 1
 .rw[ax h];cases hd:l.drop (k+1)with
  |nil=>rw[List.drop_eq_nil_iff]at hd;omega
  |cons=>rfl
 rw[aw h,List.drop_of_length_le Wq1]
 rfl
theorem KT{l:List (Int×Int)}{y:Int×Int}(h:l[l.length - 1]? =some y):l.getLastD (0,0)=y:=by
 rw[List.getLastD_eq_getLast?,List.getLast?_eq_getElem?,h]
 rfl
end Go.Ink
namespace Go.Proofs.YtkegldppffignaaGreatDoor
open Go.RowKit Go.Ink Go.Proofs.Tryz
attribute [local irreducible] OpY bS
def LowK(o:Option Pg)(v:Value)(cs:List bL):Prop:=match o with
 |some p=>∃Q':PAd,v= .tuple #[pgv p Q',.int .i64 0]/\cs=[slv 286 5 Q'.Ac p.code.length Q'.cc (p.code.flatMap II.cells),sl .i64 3 Q'.Ad p.MV.length Q'.cd p.MV,sl .i64 3 Q'.Ar p.MW.length Q'.cr p.MW]
 |none=>v= .tuple #[.agg pgZ.toArray,.int .i64 12]/\cs=[]
theorem Ho(pc:Int)(A:Option Addr)(c:Nat)(l:List (Int×Int))(hu:∀i,i∈l->u32 i.2)(w:World)(h:RdV w 2 A l.length c (l.flatMap EO)):
  Ctr prog 148 [.int .u32 pc,.slice A l.length c] w [] (λv cs=>LowK (fJ pc l) v cs):=by
 have hlm:l.length<=maxLen:=aW h.cap h.max;simp only[maxLen]at hlm;obtain⟨R,hR⟩:=Zgn (mS pc Lw.init l);have hbad:(decide ((l.length:Int)<1)||decide (8<(l.length:Int)))=true->fJ pc l=none:=λe=>by unfold fJ;rw[e,ac]
 have hno:R=none->(decide ((l.length:Int)<1)||decide (8<(l.length:Int)))=false->fJ pc l=none:=λe e2=>by unfold fJ;rw[e2,aa,hR,e]
 have hyes:∀nx L,R=some (nx,L)->(decide ((l.length:Int)<1)||decide (8<(l.length:Int)))=false->fJ pc l=some (cH (wW nx L (l.getLastD (0,0)) l.length)):=λnx L e e2=>by unfold fJ;rw[e2,aa,hR,e]
 have hraw:∀nx L y,R=some (nx,L)->Raw (wW nx L y l.length):=λnx L y e=>by
  rw[e]at hR;obtain⟨lk, -, -⟩:=rW l pc Lw.init _ hu hR tf;exact⟨lk.wf,lk.ops,lk.d,lk.r,lk.flags,lk.target⟩
 obtain⟨LT,hLT⟩:=Zgn (fJ pc l);rw[hLT]at hbad hno hyes|-;refine bN func148 rfl ntmps148 rfl (Inv.start w) ?_;refine Z_2 ?_;refine ZN λb4=>?_;refine ri ?_;refine ZW ?_ ?_<;>intro hc1
 .rw[hbad hc1];refine Z_2 ?_;refine Zy (iP (vs:=pgZ) Zk (.inl ⟨_,rfl,rfl⟩)) ?_;refine ZM ?_;refine Z_5 ?_;refine lS (cs':=[]) (.inl rfl) Zu rfl rfl rfl Zh Zrf Zrf ?_;exact de
 have hc1':=hc1;simp only[bz,ah]at hc1';refine dS ?_;refine ZO λb26=>?_
 refine Z_6 ?_;refine dC 286 5 ?_;refine dC 3 1 ?_;refine dC 3 1 ?_;refine Z_6 ?_;refine cq (λq:(Nat×Int)×Lw×LAd=>[(0,.int .u32 q.1.2),(1,.slice A l.length c),(4,.pointer (some ⟨b4,0,none⟩)),(6,.pointer (some ⟨b26,0,none⟩)),(27,.slice A l.length c),(28,.int .i64 (l.length:Int)),(29,.int .i64 (q.1.1:Int))]) (λq=>[pg0 b4]++lwF b26 (l.length:Int) q.2.1 q.2.2) (λq=>q.1.1<=l.length/\mS q.1.2 q.2.1 (l.drop q.1.1)=R/\q.2.1.sm (10*q.1.1)) (λq=>l.length - q.1.1) (⟨(0,pc),Lw.init,⟨none,0,none,0,none,0⟩⟩) ?_ ?_ ?_ ?_
 .exact⟨aq _,hR,F4⟩
 .exact Zwk
 .exact Zu
 rintro⟨⟨k,pc2⟩,L,X⟩ ⟨hk,hG,hsm⟩;dsimp only at hk hG hsm|-;refine Z_6 ?_;refine ZW ?_ ?_<;>intro hc5
 .simp only[aj]at hc5;have hkl:k<l.length:=Wq1;obtain⟨ad,had⟩:=h.some_ Wq1;have h2:=h;rw[had]at h2;obtain⟨x,hx⟩:∃x,l[k]? =some x:=⟨_,ai hkl⟩;rw[jL hx,DZ,zl l k hkl]at hG;obtain⟨op,nn⟩:=x;dsimp only at hG;refine Z_7 ?_;refine Zy (fg (j:=k) had rfl Zrf Zv0 Zv0 Zrf (λ_=>hkl)) ?_;refine dN (cz (vs:=[.int .i64 op,.int .u32 nn]) Zrf Zrf Zv0) (fv h2 (λi v hi=>fK (f:=EO) Zrf (i:=i) hx hi)) rfl ?_;refine ZN λb8=>?_
  refine ZA ?_;refine ZM ?_;refine Z_6 ?_;refine ZSe (λw hi=>tG op nn w) ?_;refine Z_4 ?_;refine eu (cy rfl rfl) (.cons (dh rfl) .nil) (λ_ _=>rfl) (λhg w hi=>yZ op w) rfl ?_;refine Z_5 ?_;refine eu (cy rfl rfl) (.cons (dh rfl) .nil) (λ_ _=>rfl) (λhg w hi=>xu op w) rfl ?_;refine Z_4 ?_;refine iu (fV rfl rfl) (eE (dh rfl) Zv0 Zl) (λ_ _=>trivial) rfl ?_;refine Z_5 ?_;refine ZW ?_ ?_<;>intro hc7
  .rw[hc7,ac]at hG;rw[hno hG.symm hc1];refine Z_2 ?_;refine Zy (iP (vs:=pgZ) Zk (.inl ⟨_,rfl,rfl⟩)) ?_;refine ZM ?_;refine dS ?_;refine lS (cs':=[]) (.inl rfl) Zu rfl rfl rfl Zh Zrf Zrf ?_;exact de
  rw[hc7,aa]at hG;refine Z_7 ?_;refine ZSe (λw hi=>sJ op w) ?_;refine Zy (ce rfl rfl Zv0 rfl) ?_;refine Zy (df Zv0 Zv0 rfl) ?_;refine Z_7 ?_;refine ZcL (lwF b26 (l.length:Int) L X) (λw hi hin=>lone_ok b26 (l.length:Int) L X (hsm.mono Wq1) op nn _ w hin) ?_;rintro _ _ ⟨_,⟨L2,X2,hL2,rfl⟩,rfl⟩;refine Z_4 ?_;refine Wq8 ?_;refine bX ((⟨(k+1,IntKind.u32.wrap (pc2+IntKind.u32.wrap (cA op))),L2,X2⟩:(Nat×Int)×Lw×LAd)) ?_ ?_ ?_
  .exact⟨⟨by dsimp only;omega,by dsimp only;rw[hL2];exact hG,by dsimp only;rw[hL2];exact(L8 hsm _ _ _).mono Wq1⟩,by dsimp only;omega⟩
  .exact Zwk
  exact Zj
 simp only[ah]at hc5;obtain rfl:k=l.length:=Wq1;rw[List.drop_length]at hG;have hG:R=some (pc2,L):=hG.symm;have hraw2:=hraw pc2 L (l.getLastD (0,0)) hG;rw[hyes pc2 L hG hc1];refine dS ?_;refine dN (cz (vs:=[.slice X.Ac L.code.length X.cc,.int .i64 0,.int .i64 0,.int .i64 0,.int .i64 0,.slice none 0 0,.slice none 0 0,.int .i64 L.flags,.int .u32 0,.int .i64 L.target,.int .i64 L.branch,.int .u32 0,.int .i64 (l.length:Int),.int .i64 0]) Zrf Zrf Zv0) (cK Zh rfl) rfl ?_;refine ZN λb9=>?_
 refine ZM ?_;refine Z_6 ?_;refine ZL ?_;refine Z_2 ?_;refine da (λq:Int×Int=>[(1,.slice A l.length c),(4,.pointer (some ⟨b4,0,none⟩)),(6,.pointer (some ⟨b26,0,none⟩)),(9,.pointer (some ⟨b9,0,none⟩))]) (λq=>[pg0 b4]++lwF b26 (l.length:Int) L X++[row b9 [.slice X.Ac L.code.length X.cc,.int .i64 0,.int .i64 0,.int .i64 0,.int .i64 0,.slice none 0 0,.slice none 0 0,.int .i64 L.flags,.int .u32 q.1,.int .i64 L.target,.int .i64 L.branch,.int .u32 q.2,.int .i64 (l.length:Int),.int .i64 0] 242]) (λq=>wW pc2 L (l.getLastD (0,0)) l.length=⟨L.code,L.d.MN,L.r.MN,L.d.high,L.r.high,L.d.l,L.r.l,L.flags,q.1,L.target,L.branch,q.2,l.length,L.code.length⟩) ?_ ?_
 .refine Z_5 ?_;refine Zy (eE Zv0 Zv0 Zl) ?_;obtain⟨ad,had⟩:=h.some_ (show 0<l.length by omega);have h2:=h;rw[had]at h2;obtain⟨x,hx⟩:∃x,l[l.length - 1]? =some x:=⟨_,ai Wq1⟩;have hlast:=KT hx;rw[hlast];obtain⟨op,nn⟩:=x;refine Zy (fg (j:=l.length - 1) had rfl Zrf (Zv rfl) (Zv rfl) Wq4 Wq4) ?_;refine dN (cz (vs:=[.int .i64 op,.int .u32 nn]) Zrf Zrf Zv0) (fv h2 (λi v hi=>fK (f:=EO) Zrf (i:=i) hx hi)) rfl ?_;refine ZN λb10=>?_
  refine ZM ?_;refine ri ?_;refine ZW ?_ ?_<;>intro hc15
  .refine Z_4 ?_;refine ZSe (λw hi=>Ae nn w) ?_;refine Zy (df Zv0 Zv0 rfl) ?_;refine Z_1 ?_;refine ZL ?_;refine Z_2 ?_;refine bX ((⟨IntKind.u32.wrap (pc2+lI nn),0⟩:Int×Int)) ?_ ?_ ?_
   .exact(by unfold wW;dsimp only;rw[hc15,ac,ac])
   .exact Zwk
   exact Zj
  refine Z_8 ?_;refine ZW ?_ ?_<;>intro hc17
  .refine Z_4 ?_;refine ZSe (λw hi=>Ae nn w) ?_;refine Zy (df Zv0 Zv0 rfl) ?_;refine Z_1 ?_;refine ZL ?_;refine Z_2 ?_;refine bX ((⟨pc2,IntKind.u32.wrap (pc2+lI nn)⟩:Int×Int)) ?_ ?_ ?_
   .exact(by unfold wW;dsimp only;rw[hc15,aa,aa,hc17,ac])
   .exact Zwk
   exact Zj
  refine Z_2 ?_;refine bX ((⟨pc2,0⟩:Int×Int)) ?_ ?_ ?_
  .exact(by unfold wW;dsimp only;rw[hc15,aa,aa,hc17,aa])
  .exact Zwk
  exact Zj
 rintro⟨nx,tk⟩ hq;dsimp only at hq|-;rw[hq]at hraw2|-;have hl500:=hsm;refine Zs (bU ⟨λj=>List.elem j [21,23,25,27],sQ b26 (AM (l.length:Int) L X)⟩ Zk ?_);refine gO ?_;refine ZFe 2 14 ?_;refine ZFe 3 1 ?_;refine iV 4 rfl Zk Zk Zk (bQ Zrf (Zv rfl)) Wq2 (bV (t:=271) Zh) rfl ?_;refine ZE 5 ?_;refine ZE 6 ?_;refine ZFe 7 18 ?_;refine ZFe 8 1 ?_;refine iV 9 rfl Zk Zk Zk (bQ Zrf (Zv rfl)) Wq2 (bV (t:=271) Zh) rfl ?_;refine ZE 10 ?_;refine ZE 11 ?_;refine ZFe 12 14 ?_;refine ZFe 13 2 ?_;refine iV 14 rfl Zk Zk Zk (bQ Zrf (Zv rfl)) Wq2 (bV (t:=271) Zh) rfl ?_;refine ZE 15 ?_;refine ZE 16 ?_;refine ZFe 17 18 ?_;refine ZFe 18 2 ?_;refine iV 19 rfl Zk Zk Zk (bQ Zrf (Zv rfl)) Wq2 (bV (t:=271) Zh) rfl ?_;refine ZFe 20 1 ?_;refine cn 21 Zk ?_;refine du rfl rfl (fq Zrf rfl rfl rfl Za Zp) (λ_=>by rintro _ _ ⟨rfl,rfl⟩;exact bV (t:=271) Zh) ?_;rintro _ _ ⟨rfl,rfl⟩;refine ZFe 22 2 ?_;refine cn 23 Zk ?_;refine du rfl rfl (fq Zrf rfl rfl rfl Za Zp) (λ_=>by rintro _ _ ⟨rfl,rfl⟩;exact bV (t:=271) Zh) ?_;rintro _ _ ⟨rfl,rfl⟩;refine ZFe 24 3 ?_;refine cn 25 Zk ?_;refine du rfl rfl (fq Zrf rfl rfl rfl Za Zp) (λ_=>by rintro _ _ ⟨rfl,rfl⟩;exact bV (t:=271) Zh) ?_;rintro _ _ ⟨rfl,rfl⟩;refine ZFe 26 4 ?_;refine cn 27 Zk ?_;refine du rfl rfl (fq Zrf rfl rfl rfl Za Zp) (λ_=>by rintro _ _ ⟨rfl,rfl⟩;exact bV (t:=271) Zh) ?_;rintro _ _ ⟨rfl,rfl⟩;refine dx ?_;refine Z_2 ?_;refine bU ⟨λj=>List.elem j [11,13],sQ b26 (AM (l.length:Int) L X)⟩ Zk ?_;refine gO ?_;refine ZFe 2 14 ?_;refine ZFe 3 0 ?_;refine iV 4 rfl Zk Zk Zk (bQ Zrf (Zv rfl)) Wq2 (bV (t:=271) Zh) rfl ?_;refine ZE 5 ?_;refine ZE 6 ?_;refine ZFe 7 18 ?_;refine ZFe 8 0 ?_;refine iV 9 rfl Zk Zk Zk (bQ Zrf (Zv rfl)) Wq2 (bV (t:=271) Zh) rfl ?_;refine ZFe 10 5 ?_;refine cn 11 Zk ?_;refine du rfl rfl (fq Zrf rfl rfl rfl Za Zp) (λ_=>by rintro _ _ ⟨rfl,rfl⟩;exact bV (t:=271) Zh) ?_;rintro _ _ ⟨rfl,rfl⟩;refine ZFe 12 6 ?_;refine cn 13 Zk ?_;refine du rfl rfl (fq Zrf rfl rfl rfl Za Zp) (λ_=>by rintro _ _ ⟨rfl,rfl⟩;exact bV (t:=271) Zh) ?_;rintro _ _ ⟨rfl,rfl⟩;refine dx ?_;refine Z_7 ?_;refine ZL ?_;refine Z_5 ?_;refine ZS (λw hi=>JN ⟨L.code,L.d.MN,L.r.MN,L.d.high,L.r.high,L.d.l,L.r.l,L.flags,nx,L.target,L.branch,tk,l.length,L.code.length⟩ ⟨X.Ac,X.cc,X.Ad,X.cd,X.Ar,X.cr⟩ hraw2 rfl (aW hsm.code Wq1) (aW hsm.dl Wq1) (aW hsm.rl Wq1) w ⟨hi.rd Zh,hi.rd Zh,hi.rd Zh⟩) ?_;rintro _ _ ⟨_,⟨Q9,rfl,rfl⟩,rfl⟩;refine ZM ?_;refine Z_4 ?_;obtain⟨p9,hp9⟩:=Zgn (cH ⟨L.code,L.d.MN,L.r.MN,L.d.high,L.r.high,L.d.l,L.r.l,L.flags,nx,L.target,L.branch,tk,l.length,L.code.length⟩);rw[hp9];refine bP [row b4 _ _,slv 286 5 Q9.Ac p9.code.length Q9.cc (p9.code.flatMap II.cells),sl .i64 3 Q9.Ad p9.MV.length Q9.cd p9.MV,sl .i64 3 Q9.Ar p9.MW.length Q9.cr p9.MW] Zj ?_;refine lS (cs':=[slv _ _ _ _ _ _,slv _ _ _ _ _ _,slv _ _ _ _ _ _]) (.inl rfl) Zu rfl rfl rfl Zh Zrf Zrf ?_;exact⟨Q9,rfl,rfl⟩
end Go.Proofs.YtkegldppffignaaGreatDoor
namespace Go.Ink
open Go.RowKit
theorem Ce:∀(l:List (Int×Int)) (pc:Int) (L:Lw) (q:Int×Lw) (n:Nat),mS pc L l=some q->L.sm n->q.2.sm (n+10*l.length)
 |[],pc,L,q,n,h,hs=>by obtain rfl:(pc,L)=q:=ay h;exact hs.mono cE
 |i::l,pc,L,q,n,h,hs=>by
  obtain⟨-, -, -,h4⟩:=lA h;exact(Ce l _ _ q (n+10) h4 (L8 hs _ _ _)).mono (by simp only[ak];omega)
theorem yK{pc:Int}{l:List (Int×Int)}(hu:∀i,i∈l->u32 i.2){p:Pg}(hlow:fJ pc l=some p):rE p/\p.count=l.length/\1<=l.length/\l.length<=8/\(p.M0=true->gD (gQ p (dV p))/\(gQ p (dV p)).length<=100000):=by
 unfold fJ at hlow;cases hlen:decide ((l.length:Int)<1)||decide (8<(l.length:Int))with
 |true=>rw[hlen]at hlow;cases hlow
 |false=>
 rw[hlen,aa]at hlow;simp only[bz,ah]at hlen;have hl0:l≠[]:=λe=>by rw[e]at hlen;simp at hlen
 cases hgo:mS pc Lw.init l with
 |none=>rw[hgo]at hlow;cases hlow
 |some q=>
 rw[hgo]at hlow;obtain⟨nx,w⟩:=q;obtain rfl:=ay hlow;obtain⟨lk, -,hnx⟩:=rW l pc Lw.init _ hu hgo tf;have hnx:=hnx hl0;have hsm:=Ce l pc Lw.init _ 0 hgo F4;dsimp only at lk hnx hsm;obtain⟨i,hi⟩:=Zgn (l.getLastD (0,0));rw[hi];obtain⟨p0,hp0⟩:=Zgn (wW nx w i l.length);rw[hp0];have f1:p0.code=w.code:=by rw[<-hp0];rfl
 have f2:p0.MV=w.d.l:=by rw[<-hp0];rfl
 have f3:p0.MW=w.r.l:=by rw[<-hp0];rfl
 have g5:(cH p0).next=bif i.1==32||i.1==38 then IntKind.u32.wrap (nx+lI i.2)else nx:=by rw[<-hp0];rfl
 have g6:(cH p0).taken=bif i.1==32||i.1==38 then 0 else bif w.branch !=0 then IntKind.u32.wrap (nx+lI i.2)else 0:=by rw[<-hp0];rfl
 have g8:(cH p0).count=l.length:=by rw[<-hp0];rfl
 have hlen4:=tn l pc Lw.init _ hgo;have hlen5:w.code.length<=32:=by have:Lw.init.code.length=0:=rfl;dsimp only at hlen4;omega
 have hlen6:(cH p0).code.length<=64:=by
  have:=za (gl p0) p0.code 0 (List.replicate p0.code.length 0) [];have e:(cH p0).code=(mm (gl p0) p0.code 0 (List.replicate p0.code.length 0) []).2:=rfl;rw[e];rw[f1]at this|-;simp at this;omega
 have himc:ImC (cH p0).code:=zb (gl p0) p0.code 0 _ [] (λ_ h=>by cases h) (by rw[f1];exact lk.imm);have hn32:u32 (cH p0).next:=by rw[g5];cases i.1==32||i.1==38 with|true=>exact u5 _|false=>exact hnx
 have ht32:u32 (cH p0).taken:=by
  have z:u32 0:=⟨by decide,by decide⟩;rw[g6];cases i.1==32||i.1==38 with
  |true=>exact z
  |false=>cases w.branch !=0 with
   |true=>exact u5 _
   |false=>exact z
 have hd:=hsm.dl;have hr:=hsm.rl;have fit:rE (cH p0):=⟨rfl,hlen6,by show(ef _ p0.MV).length<=100;unfold ef;rw[List.length_map,f2];omega,by show(ef _ p0.MW).length<=100;unfold ef;rw[List.length_map,f3];omega,himc⟩;refine⟨fit,g8,by omega,by omega,λhright=>?_⟩;obtain⟨pok, -, -, -⟩:=sR hright himc hlen6 hn32 ht32;have hplan:I9 (dV (cH p0)) (gM (cH p0)) (cH p0).code.length:=Gu (λi hi=>G1 (cH p0) hi) hlen6;refine⟨Ef pok rfl hplan.has,?_⟩;have:=xD (cH p0) (dV (cH p0)) (IntKind.u32.wrap ((fL (cH p0) (dV (cH p0)) 0).length:Nat)) hlen6 fit.MV fit.MW;unfold gQ;rw[ae,ak,ao];omega
end Go.Ink
namespace Go.Proofs.YtkegldppffignaaGreatDoor
open Go.RowKit Go.Ink Go.Proofs.Tryz
attribute [local irreducible] OpY bS
theorem I2(p:Pg)(Q:PAd)(hf:rE p)(hr:p.M0=false)(w:World)(h:CU p Q w):
  Ctr prog 173 [pgv p Q,.int .i64 7] w [] (λr cs=>r= .tuple #[.agg #[.slice none 0 0,.slice none 0 0,.int .i64 0],.int .i64 1]/\cs=[]):=by
 have hR:=tB p Q hf;rw[hr]at hR;refine bN func173 rfl ntmps173 rfl (Inv.start w) ?_;refine Z_2 ?_;refine ZO λb2=>?_;refine ZN λb4=>?_
 refine Z_7 ?_;refine ZSe (λw hi=>hR w (h.MZ hi)) ?_;refine Z_2 ?_;refine eZ (cy rfl rfl) rfl rfl ?_;refine eZ (cy rfl rfl) rfl rfl ?_;refine eZ (cy rfl rfl) rfl rfl ?_;refine Zy (y_or (q:=false) (Zv rfl) ⟨_,rfl,λ_ e=>by simp at e⟩) ?_;refine Z_2 ?_;refine bW rfl (rfl) ?_;refine Z_2 ?_;refine Zy (iP (vs:=[Value.slice none 0 0,.slice none 0 0,.int .i64 0]) Zk (.inl ⟨_,rfl,rfl⟩)) ?_;refine ZM ?_;refine Z_5 ?_;refine lS (cs':=[]) (.inl rfl) Zu rfl rfl rfl Zh Zrf Zrf ?_;exact de
theorem Ix(p:Pg)(Q:PAd)(hf:rE p)(hr:p.M0=false)(w:World)(h:CU p Q w):
  Ctr prog 149 [pgv p Q] w [] (λr cs=>r= .tuple #[.slice none 0 0,.int .i64 12]/\cs=[]):=by
 refine bN func149 rfl ntmps149 rfl (Inv.start w) ?_;refine Z_2 ?_;refine ZO λb1=>?_;refine Z_7 ?_;refine ZSe (λw hi=>I2 p Q hf hr w (h.MZ hi)) ?_;refine Z_3 ?_;refine ZN λb4=>?_
 refine ZM ?_;refine dS ?_;refine bW rfl (rfl) ?_;refine Z_8 ?_;refine i9 ?_;exact de
end Go.Proofs.YtkegldppffignaaGreatDoor
namespace Go.Ink
open Go.RowKit
section
variable {C:Cx} {Q:lK} {fr:Fr} {cs cs':List bL} {ops:Array Oper} {l:List Oper} {e:Exit} {fn:Func} {K:Value->List bL->Prop}
theorem L3(hc:∀w,Inv C.w0 C.S cs w->Inv C.w0 C.S cs' w)(h:WL C ops Q l fr cs'):WL C ops Q l fr cs:=λa w hf hi=>h a w hf (hc w hi)
theorem pq{t T bb tt t2 T2 b2 tt2 u:Nat}{v:Value}{xs ys:List Value}(he:e= .ret\/e= .normal)(hs:cs'.Sublist cs)(h0:fn.results= #[.cell t T,.cell t2 T2,.tmp u])(h1:look fr t=some (.pointer (some ⟨bb,0,none⟩)))(h2:look fr t2=some (.pointer (some ⟨b2,0,none⟩)))(h3:look fr u=some v)(hc:Has cs (row bb xs tt))(hc2:Has cs (row b2 ys tt2))
  (hT:∀w,(isAgg T).run C.P w= .ok true w) (hz:∀w,(sizeOf T).run C.P w= .ok xs.length w) (hT2:∀w,(isAgg T2).run C.P w= .ok true w) (hz2:∀w,(sizeOf T2).run C.P w= .ok ys.length w) (hk:K (.tuple #[.agg xs.toArray,.agg ys.toArray,v]) cs'):QOk C (bodyPost C.P fn (zK C.w0 C.S K)) e fr cs:=
 mK he hs (λa w hf hi=>by
  have e1:=hf.at_ t _ h1;have e2:=hf.at_ t2 _ h2;have e3:=hf.at_ u _ h3;simp only[bA]at e1 e2 e3;simp[results,h0,e1,e2,e3,asAddr,gW hT hz hi hc,gW hT2 hz2 hi hc2]) hk
end
theorem Ctr.up{P:Program}{f:FuncId}{args:List Value}{w:World}{cin:List bL}{K K':Value->List bL->Prop}(h:Ctr P f args w cin K)(hk:∀v cs w',K v cs->Inv w (bM cin) cs w'->∃cs',K' v cs'/\Inv w (bM cin) cs' w'):Ctr P f args w cin K':=
 Calls.mono h λe w' hq=>by
  obtain⟨v,cout,rfl,h1,h2⟩:=hq;obtain⟨cs',h3,h4⟩:=hk v cout w' h1 h2;exact⟨v,cs',rfl,h3,h4⟩
abbrev EnX.Nj(E:EnX)(X:CaX):EnX:=⟨E.bc,E.mr,E.room,X,E.RZ,E.last,E.Nk,E.Nh,E.begun⟩
abbrev EnX.Np(E:EnX)(RZ:List (Ky×RS)):EnX:=⟨E.bc,E.mr,E.room,E.X,RZ,E.last,E.Nk,E.Nh,E.begun⟩
def lX(Z:List BA)(RZ:List (Ky×RS)):List (Ky×RS):=RZ.filter λx=>Z.any λt=>t.key==x.1
theorem J2(RZ:List (Ky×RS)):(rnM RZ).map (·.1)=RZ.map (·.1):=by unfold rnM;rw[List.map_map];rfl
theorem oG.rk{E:EnX}(h:oG E):(E.RZ.map (·.1)).Nodup:=by have:=h.eg.N0;rwa[show E.eng.runs=rnM E.RZ from rfl,J2]at this
theorem oY(E:Eng){MK:List Int}(h:MK≠[]):mA E MK=IA E MK:=by
 unfold mA;cases MK with
 |nil=>exact absurd rfl h
 |cons=>rfl
theorem Lt(E:EnX)(MK:List Int)(X':CaX)(hX:X'.Z=E.X.Z.filter λx=> !MK.contains (x.b.key.2/64)):
  (bif decide (0<((E.X.Z.filter λx=>MK.contains (x.b.key.2/64)).length:Int))then((E.Nj X').Np (lX X'.Z E.RZ)).eng else(E.Nj X').eng)=IA E.eng MK:=by
 have h2:=vH (λx:BA=>MK.contains (x.b.key.2/64)) E.X.Z;have hl:(E.eng.l.filter λt=> !MK.contains (t.key.2/64))=X'.Z.map BA.b:=by rw[hX];exact Ls E.X.Z MK
 have hlen:E.eng.l.length=E.X.Z.length:=List.length_map _;unfold IA;rw[hl,hlen];dsimp only;rw[List.length_map,hX];cases hd:decide (0<((E.X.Z.filter λx=>MK.contains (x.b.key.2/64)).length:Int))with
 |true=>
  simp only[aj]at hd;rw[ac,ax Wq1,ac];rw[<-hX];show Eng.mk E.room (X'.Z.map BA.b) (rnM (lX X'.Z E.RZ)) E.last E.Nk E.Nh E.begun=Eng.mk E.room _ (uM _ (rnM E.RZ)) E.last E.Nk E.Nh E.begun;rw[yO]
  rfl
 |false=>
  simp only[ah]at hd;rw[aa,aw Wq1,aa];rw[<-hX]
  rfl
theorem Ft(E:Eng)(MK:List Int):(mA E MK).last=E.last:=by unfold mA;cases MK.isEmpty<;>rfl
theorem oG.N7{E E':EnX}(h:oG E)(MK:List Int)(he:E'.eng=mA E.eng MK)(hc:qa E'.room E'.X)(hr:∀y,y∈E'.RZ->y∈E.RZ):oG E':=⟨hc,by rw[he];exact h.eg.turn MK,λy hy=>h.rs y (hr y hy),by have e:=congrArg Eng.last he;rw[Ft]at e;rw[show E'.last=E.last from e];exact h.last⟩
theorem DQ{b:List Int}{l:List (Int×Int)}{sz:Nat}{R:List (Int×Int)×Nat×Bool}(h:(l++(cM b 0 sz).1,(cM b 0 sz).2)=R):(l,sz,false)=R:=by
 rw[<-h];show(l,sz,false)=(l++[],sz,false);rw[az]
theorem DP{b:List Int}{l:List (Int×Int)}{k sz:Nat}{R:List (Int×Int)×Nat×Bool}(h:(l++(cM b (k+1) sz).1,(cM b (k+1) sz).2)=R)(hd:dw (b.drop sz)=none):(l,sz,false)=R:=by
 rw[<-h];have e:cM b (k+1) sz=([],sz,false):=by rw[cM,hd]
 rw[e,az]
theorem Gv{b:List Int}{l:List (Int×Int)}{k sz z:Nat}{i:Int×Int}{R:List (Int×Int)×Nat×Bool}(h:(l++(cM b (k+1) sz).1,(cM b (k+1) sz).2)=R)(hd:dw (b.drop sz)=some (i,z))(hp:dB i.1=false):(l,sz,false)=R:=by
 rw[<-h];have e:cM b (k+1) sz=([],sz,false):=by rw[cM,hd];dsimp only;rw[hp,aa]
 rw[e,az]
theorem Gx{b:List Int}{l:List (Int×Int)}{k sz z:Nat}{i:Int×Int}{R:List (Int×Int)×Nat×Bool}(h:(l++(cM b (k+1) sz).1,(cM b (k+1) sz).2)=R)(hd:dw (b.drop sz)=some (i,z))(hp:dB i.1=true)(he:fN i.1=true):(l++[i],sz+z,true)=R:=by
 rw[<-h];have e:cM b (k+1) sz=([i],sz+z,true):=by rw[cM,hd];dsimp only;rw[hp,he,ac,ac]
 rw[e]
theorem Kl{b:List Int}{l:List (Int×Int)}{k sz z:Nat}{i:Int×Int}{R:List (Int×Int)×Nat×Bool}(h:(l++(cM b (k+1) sz).1,(cM b (k+1) sz).2)=R)(hd:dw (b.drop sz)=some (i,z))(hp:dB i.1=true)(he:fN i.1=false):(l++[i]++(cM b k (sz+z)).1,(cM b k (sz+z)).2)=R:=by
 rw[<-h];have e:cM b (k+1) sz=(i::(cM b k (sz+z)).1,(cM b k (sz+z)).2.1,(cM b k (sz+z)).2.2):=by rw[cM,hd];dsimp only;rw[hp,he,ac,aa]
 rw[e,ap]
 rfl
end Go.Ink
namespace Go.Proofs.YtkegldppffignaaGreatDoor
open Go.RowKit Go.Ink Go.Proofs.Tryz
attribute [local irreducible] OpY bS
abbrev pgC(Ap:Option Addr)(cp:Nat)(MK:List Int):bL:=sl .i64 3 Ap MK.length cp MK
abbrev caP(bc:Nat)(room:Int)(X:CaX)(Ap:Option Addr)(cp:Nat)(MK:List Int):List bL:=[caR bc (.int .i64 room) (.slice X.Ac X.Z.length X.cc) (.map (some X.ml)) (.int .i64 X.fl),blC X,dp (X.Z.map baC),mpc X.ml (lkV X.LK),dp (lkC X.LK),pgC Ap cp MK]
theorem IS(bc:Nat)(room:Int)(X:CaX)(hX:qa room X)(Ap:Option Addr)(cp:Nat)(MK:List Int)(w:World)(hi:Inv w (bM (caP bc room X Ap cp MK)) (caP bc room X Ap cp MK) w):
  Ctr prog 75 [.pointer (some ⟨bc,0,none⟩),.slice Ap MK.length cp] w (caP bc room X Ap cp MK) (λv cs=>v= .int .i64 ((X.Z.filter (eM MK)).length:Int)/\∃X':CaX,cs=caP bc room X' Ap cp MK/\qa room X'/\X'.Z=X.Z.filter λx=> !eM MK x):=LN bc room X hX Ap cp MK w hi
abbrev enP(be:Nat)(E:EnX)(Ap:Option Addr)(cp:Nat)(MK:List Int):List bL:=[enR be E,caR E.bc (.int .i64 E.room) (.slice E.X.Ac E.X.Z.length E.X.cc) (.map (some E.X.ml)) (.int .i64 E.X.fl),blC E.X,dp (E.X.Z.map baC),mpc E.X.ml (lkV E.X.LK),dp (lkC E.X.LK),mpc E.mr (rnV E.RZ),dp (rnC E.RZ),pgC Ap cp MK]
abbrev tdF(b1 be:Nat)(E:EnX):List bL:=row b1 [.pointer (some ⟨be,0,none⟩)] 43::enR be E::caF E.bc E.room E.X
theorem JE(b1 be:Nat)(E:EnX)(hS:BaSm E.X.Z)(q:Ky)(x:RS)(w:World)(hi:Inv w (bM (tdF b1 be E)) (tdF b1 be E) w):
  Ctr prog 104 ([]++[.agg (cC q).toArray,.agg x.cells.toArray]++[.pointer (some ⟨b1,0,none⟩)]) w (tdF b1 be E) (λv cs=>v= .bool (!(E.X.Z.find? λt=>t.key==q).isSome)/\cs=tdF b1 be E):=by
 have HF:=CL E.bc E.room E.X hS q;obtain⟨o,ho⟩:=Zgn ((E.X.Z.find? λt=>t.key==q));rw[ho]at HF|-;refine bN func104 rfl ntmps104 rfl hi ?_;cases o with
 |none=>
  refine Z_2 ?_;refine ZO λb3=>?_;refine ZO λb4=>?_
  refine Z_4 ?_;refine iR ⟨λj=>List.elem j [5,10],[]⟩ [(0,4),(1,0),(2,0),(3,1),(4,1),(5,3),(6,3),(7,3),(8,3),(9,3),(10,3),(11,3)] Zk Zk ?_;refine jB rfl (bQ Zrf Zv0) (cu Zh rfl) rfl ?_;refine cW rfl (CY Zv0) rfl ?_;refine cW rfl (dT 0 rfl Zv0 Zf) rfl ?_;refine v8 rfl (bQ Zrf Zv0) (cu Zh rfl) rfl ?_;refine ny rfl Zh Zrf Zrf (Zv rfl) rfl ?_;refine Jk [(5,[(6,0),(7,0),(8,0),(9,2),(10,2),(11,0)]),(9,[(5,2),(6,0),(7,0),(8,0),(10,2),(11,0)])] Zk (.cons ?_ (.cons ?_ .nil))
  .refine ZcS (caF E.bc E.room E.X) (λw hi hin=>HF w hin) ?_;rintro _ _ ⟨_,⟨rfl,rfl⟩,rfl⟩;refine I5 ?_;refine fo rfl ?_;refine dO rfl rfl (fG Zrf rfl) ZJ rfl ?_;rintro _ _ ⟨b6,rfl,rfl⟩;refine fo rfl ?_;refine eX rfl rfl (bZ Zrf rfl rfl (jA rfl) Za (by exact rfl)) ZJ ?_;rintro _ _ ⟨rfl,rfl⟩;refine cW rfl (fP Zv0) rfl ?_;refine eU ?_;refine Z_9 ?_;refine bP (tdF b1 be E) Zj ?_;refine zH (cs':=tdF b1 be E) (.inl rfl) (aR _) rfl rfl ?_;exact de
  refine dO rfl rfl (fG Zrf rfl) ZJ rfl ?_;rintro _ _ ⟨b6,rfl,rfl⟩;refine fo rfl ?_;refine ZcS (caF E.bc E.room E.X) (λw hi hin=>HF w hin) ?_;rintro _ _ ⟨_,⟨rfl,rfl⟩,rfl⟩;refine I5 ?_;refine fo rfl ?_;refine eX rfl rfl (bZ Zrf rfl rfl (jA rfl) Za (by exact rfl)) ZJ ?_;rintro _ _ ⟨rfl,rfl⟩;refine cW rfl (fP Zv0) rfl ?_;refine eU ?_;refine Z_9 ?_;refine bP (tdF b1 be E) Zj ?_;refine zH (cs':=tdF b1 be E) (.inl rfl) (aR _) rfl rfl ?_;exact de
 |some y=>
  refine Z_2 ?_;refine ZO λb3=>?_;refine ZO λb4=>?_
  refine Z_4 ?_;refine iR ⟨λj=>List.elem j [5,10],[]⟩ [(0,4),(1,0),(2,0),(3,1),(4,1),(5,3),(6,3),(7,3),(8,3),(9,3),(10,3),(11,3)] Zk Zk ?_;refine jB rfl (bQ Zrf Zv0) (cu Zh rfl) rfl ?_;refine cW rfl (CY Zv0) rfl ?_;refine cW rfl (dT 0 rfl Zv0 Zf) rfl ?_;refine v8 rfl (bQ Zrf Zv0) (cu Zh rfl) rfl ?_;refine ny rfl Zh Zrf Zrf (Zv rfl) rfl ?_;refine Jk [(5,[(6,0),(7,0),(8,0),(9,2),(10,2),(11,0)]),(9,[(5,2),(6,0),(7,0),(8,0),(10,2),(11,0)])] Zk (.cons ?_ (.cons ?_ .nil))
  .refine ZcS (caF E.bc E.room E.X) (λw hi hin=>HF w hin) ?_;rintro _ _ ⟨_,⟨A9,c9,rfl,rfl⟩,rfl⟩;refine I5 ?_;refine fo rfl ?_;refine dO rfl rfl (fG Zrf rfl) ZJ rfl ?_;rintro _ _ ⟨b6,rfl,rfl⟩;refine fo rfl ?_;refine eX rfl rfl (bZ Zrf rfl rfl (gc ⟨y.b,A9,c9⟩) Za (by exact rfl)) ZJ ?_;rintro _ _ ⟨rfl,rfl⟩;refine cW rfl (fP Zv0) rfl ?_;refine eU ?_;refine Z_9 ?_;refine bP (tdF b1 be E) Zj ?_;refine zH (cs':=tdF b1 be E) (.inl rfl) (aR _) rfl rfl ?_;exact de
  refine dO rfl rfl (fG Zrf rfl) ZJ rfl ?_;rintro _ _ ⟨b6,rfl,rfl⟩;refine fo rfl ?_;refine ZcS (caF E.bc E.room E.X) (λw hi hin=>HF w hin) ?_;rintro _ _ ⟨_,⟨A9,c9,rfl,rfl⟩,rfl⟩;refine I5 ?_;refine fo rfl ?_;refine eX rfl rfl (bZ Zrf rfl rfl (gc ⟨y.b,A9,c9⟩) Za (by exact rfl)) ZJ ?_;rintro _ _ ⟨rfl,rfl⟩;refine cW rfl (fP Zv0) rfl ?_;refine eU ?_;refine Z_9 ?_;refine bP (tdF b1 be E) Zj ?_;refine zH (cs':=tdF b1 be E) (.inl rfl) (aR _) rfl rfl ?_;exact de
theorem CC(be:Nat)(E:EnX)(hS:BaSm E.X.Z)(hn:(E.RZ.map (·.1)).Nodup)(hk:∀y,y∈E.RZ->lc y.1)(w:World)(hi:Inv w (bM (enF be E)) (enF be E) w):
  Ctr prog 76 [.pointer (some ⟨be,0,none⟩)] w (enF be E) (λ_ cs=>cs=enF be (E.Np (lX E.X.Z E.RZ))):=by
 have hkr:(E.RZ.filter λx=> !!(E.X.Z.find? λt=>t.key==x.1).isSome)=lX E.X.Z E.RZ:=by
  unfold lX;apply List.filter_congr;intro x _;rw[Bool.not_not,LR]
 have hsub:(rnC (lX E.X.Z E.RZ)).Sublist (rnC E.RZ):=List.Sublist.map _ List.filter_sublist;have HM:=λb1 w hi=>DW (dp (tdF b1 be E)) (λq=> !(E.X.Z.find? λt=>t.key==q).isSome) 104 [.pointer (some ⟨b1,0,none⟩)] (λ_ _=>rfl) E.RZ hn hk E.mr
  (λq x w _ hin=>Ctr.mono (Ctr.join hin λhin2=>JE b1 be E hS q x w hin2) (λv cs ⟨cs0,⟨h1,h2⟩,h3⟩=>⟨h1,by rw[h3,h2]⟩)) w hi
 rw[hkr]at HM;refine bN func76 rfl ntmps76 rfl hi ?_;refine Z_2 ?_;refine ZO λb1=>?_;refine Z_7 ?_;refine Zy (lL rfl) ?_;refine L3 (cs':=dp (tdF b1 be E)::[mpc E.mr (rnV E.RZ),dp (rnC E.RZ)]) (λw hi=>hi.Od Zi) ?_;refine ZcL ([mpc E.mr (rnV E.RZ),dp (tdF b1 be E)]) (λw hi hin=>HM b1 w hin) ?_;rintro _ _ ⟨_,rfl,rfl⟩;refine L3 (cs':=tdF b1 be E++[mpc E.mr (rnV (lX E.X.Z E.RZ)),dp (rnC E.RZ)]) (λw hi=>(hi.perm (List.Perm.swap ..)).NY) ?_;refine Zn (og (cin:=rnC E.RZ) (cin':=rnC (lX E.X.Z E.RZ)) Zd hsub ?_);refine bP (enF be (E.Np (lX E.X.Z E.RZ))) Zj ?_;refine jb (cs':=enF be (E.Np (lX E.X.Z E.RZ))) (.inr rfl) (aR _) rfl ?_
 rfl
theorem vJ(be:Nat)(E:EnX)(hE:oG E)(Ap:Option Addr)(cp:Nat)(MK:List Int)(w:World)(hi:Inv w (bM (enP be E Ap cp MK)) (enP be E Ap cp MK) w):
  Ctr prog 43 [.pointer (some ⟨be,0,none⟩),.slice Ap MK.length cp] w (enP be E Ap cp MK) (λ_ cs=>∃E',cs=enP be E' Ap cp MK/\oG E'/\E'.eng=mA E.eng MK):=by
 have HD:=IS E.bc E.room E.X hE.ca Ap cp MK;refine bN func43 rfl ntmps43 rfl hi ?_;by_cases hp:MK=[]
 .subst hp;refine Z_6 ?_;refine Wq17 ?_;refine Wq17 ?_;refine eZ (bR rfl rfl) rfl rfl ?_;refine Zy (CZ (q:=false) (Zv rfl) ⟨_,rfl,λ_ e=>absurd e Wq5⟩) ?_;refine Z_2 ?_;refine fS ?_;refine Zc (jb (cs':=enP be E Ap cp []) (.inr rfl) (aR _) rfl ?_);exact⟨E,rfl,hE,rfl⟩
 have hpl:0<MK.length:=List.length_pos_iff.2 hp;have HX:=Lt E MK;obtain⟨n9,hn9⟩:∃n:Nat,(E.X.Z.filter λx=>MK.contains (x.b.key.2/64)).length=n:=⟨_,rfl⟩;rw[hn9]at HX;rw[show(E.X.Z.filter (eM MK)).length=n9 from hn9]at HD;refine Z_5 ?_;rw[show decide ((0:Int)<(MK.length:Int))=true from ax Wq1];refine Z_6 ?_;refine fF (bR rfl rfl) rfl (dY (caP E.bc E.room E.X Ap cp MK) rfl (λ_ _=>rfl) Zi (λw hi hin=>HD w hin)) rfl ?_;rintro _ _ ⟨_,⟨rfl,X',rfl,hX',hXZ⟩,rfl⟩;have hX2:=HX X' hXZ;refine Z_4 ?_;refine ZW ?_ ?_<;>intro hc0
 .have hd:decide (0<((n9:Nat):Int))=true:=hc0
  rw[hd,ac]at hX2;refine Z_2 ?_;refine ZcL (enF be (E.Nj X')) (λw hi hin=>CC be (E.Nj X') hX'.sm hE.rk (λy hy=>(hE.rs y hy).1) w hin) ?_;rintro _ _ ⟨_,rfl,rfl⟩;refine Zn (bP (enP be ((E.Nj X').Np (lX X'.Z E.RZ)) Ap cp MK) Zj ?_);refine jb (cs':=enP be ((E.Nj X').Np (lX X'.Z E.RZ)) Ap cp MK) (.inr rfl) (aR _) rfl ?_;exact⟨_,rfl,hE.N7 MK (by rw[hX2,oY _ hp]) hX' (λy hy=>(List.mem_filter.1 hy).1),by rw[hX2,oY _ hp]⟩
 have hd:decide (0<((n9:Nat):Int))=false:=hc0
 rw[hd,aa]at hX2;refine Zc (bP (enP be (E.Nj X') Ap cp MK) Zj ?_);refine jb (cs':=enP be (E.Nj X') Ap cp MK) (.inr rfl) (aR _) rfl ?_;exact⟨_,rfl,hE.N7 MK (by rw[hX2,oY _ hp]) hX' (λy hy=>hy),by rw[hX2,oY _ hp]⟩
end Go.Proofs.YtkegldppffignaaGreatDoor
namespace Go.Ink
open Go.RowKit
theorem rd_drop{w:World}{A:Option Addr}{c:Nat}{xs:List Int}(h:Rd w .u8 A xs.length c xs){k:Nat}(hk:k<=xs.length):Rd w .u8 (if c=k then A else A.map (·.add (k*1))) (xs.length - k) (c - k) (xs.drop k):=by
 have h5:=RdV.cut h (lo:=k) (hi:=xs.length) hk (aM _);have e:(ints .u8 xs).take xs.length=ints .u8 xs:=List.take_of_length_le (by simp[ints]);rw[Nat.mul_one]at h5;simp only[Nat.mul_one]at h5|-;rw[e]at h5;have e2:(ints .u8 xs).drop k=ints .u8 (xs.drop k):=by simp[ints]
 rw[e2]at h5;exact h5
theorem KY(l:List (Int×Int))(op nn:Int):l.flatMap EO++[.int .i64 op,.int .u32 nn]=(l++[(op,nn)]).flatMap EO:=by simp
theorem two1(a b:Int):∀u∈([.int .i64 a,.int .u32 b]:List Value),u.oneCell'=true:=λu h=>by
 simp only[aJ,aY,or_false]at h;rcases h with rfl|rfl<;>rfl
end Go.Ink
namespace Go.Proofs.YtkegldppffignaaGreatDoor
open Go.RowKit Go.Ink Go.Proofs.Tryz
attribute [local irreducible] OpY bS
theorem Iq(A:Option Addr)(c:Nat)(b:List Int)(hb:u8s b)(hbl:b.length<=1000)(w:World)(h:Rd w .u8 A b.length c b):
  Ctr prog 147 [.slice A b.length c] w [] (λv cs=>∃A1 c1,∃x:RS,x.r=⟨b.take (cM b 8 0).2.1,(cM b 8 0).2.2⟩/\v= .tuple #[.slice A1 (cM b 8 0).1.length c1,.agg x.cells.toArray]/\cs=[slv 27 2 A1 (cM b 8 0).1.length c1 ((cM b 8 0).1.flatMap EO),rsC x]):=by
 obtain⟨R,hR⟩:=Zgn (cM b 8 0);rw[hR];have hR0:(([]:List (Int×Int))++(cM b 8 0).1,(cM b 8 0).2)=R:=hR;have hcap:=h.cap;refine bN func147 rfl ntmps147 rfl (Inv.start w) ?_;refine Z_3 ?_;refine ZN λb3=>?_
 refine Z_9 ?_;refine ZN λb5=>?_;refine Z_4 ?_;refine dC 27 2 ?_;refine Z_3 ?_;refine da (λq:(List (Int×Int)×Nat×Bool)×Option Addr×Nat=>[(0,.slice A b.length c),(3,.pointer (some ⟨b3,0,none⟩)),(4,.slice q.2.1 q.1.1.length q.2.2),(5,.pointer (some ⟨b5,0,none⟩)),(6,.int .i64 (q.1.2.1:Int))]) (λq=>[row b3 [.slice none 0 0,.bool false] 181,row b5 [.slice none 0 0,.bool q.1.2.2] 181,slv 27 2 q.2.1 q.1.1.length q.2.2 (q.1.1.flatMap EO)]) (λq=>q.1=R/\q.1.2.1<=b.length) ?_ ?_
 .refine Zx ?_;refine cq (λq:(List (Int×Int)×Nat×Bool)×Option Addr×Nat=>[(0,.slice A b.length c),(3,.pointer (some ⟨b3,0,none⟩)),(4,.slice q.2.1 q.1.1.length q.2.2),(5,.pointer (some ⟨b5,0,none⟩)),(6,.int .i64 (q.1.2.1:Int))]) (λq=>[row b3 [.slice none 0 0,.bool false] 181,row b5 [.slice none 0 0,.bool q.1.2.2] 181,slv 27 2 q.2.1 q.1.1.length q.2.2 (q.1.1.flatMap EO)]) (λq=>q.1.1.length<=8/\q.1.2.1<=b.length/\(q.1.2.2=true->q.1=R)/\(q.1.2.2=false->(q.1.1++(cM b (8 - q.1.1.length) q.1.2.1).1,(cM b (8 - q.1.1.length) q.1.2.1).2)=R)) (λq=>8 - q.1.1.length) (⟨([],0,false),none,0⟩) ?_ ?_ ?_ ?_
  .exact⟨aq _,aq _,λe=>(by cases e),λ_=>hR0⟩
  .exact Zwk
  .exact Zu
  rintro⟨⟨l,sz,en⟩,A1,c1⟩ ⟨hl,hsz,hT,hF⟩;dsimp only at hl hsz hT hF|-;have hb5:(b.drop sz).length=b.length - sz:=bI;refine jd ?_;refine ZW ?_ ?_<;>intro hc4
  .have hc4':(decide ((l.length:Int)<8)&& !en)=true:=hc4;simp only[aL,aj,Bool.not_eq_true']at hc4';obtain⟨hl8,rfl⟩:=hc4';have hF:=hF rfl;obtain⟨k,hk⟩:∃k,8 - l.length=k+1:=⟨8 - l.length - 1,by omega⟩;rw[hk]at hF;have HD:=λA c w h=>zn A c (b.drop sz) (λx hx=>hb x (List.mem_of_mem_drop hx)) w h
   rw[hb5]at HD;have hS:=DP hF;have hN:=λi z=>Gv (z:=z) (i:=i) hF
   have hE:=λi z=>Gx (z:=z) (i:=i) hF
   have hO:=λi z=>Kl (z:=z) (i:=i) hF
   have hRg:=λ(op nn:Int) (z:Nat)=>nh (b:=b.drop sz) (λx hx=>hb x (List.mem_of_mem_drop hx)) (op:=op) (nn:=nn) (z:=z)
   obtain⟨o,ho⟩:=Zgn (dw (b.drop sz));rw[ho]at HD hS hN hE hO hRg;refine Z_7 ?_;refine Zy (sc rfl Zrf (Zv rfl) (.inr ⟨_,_,rfl,(Zv rfl)⟩) (.inl ⟨rfl,rfl⟩) Wq1 Wq1) ?_;refine ZS (λw hi=>HD _ _ w (rd_drop (h.MZ hi) hsz)) ?_;rintro _ _ ⟨_,⟨⟨y,rfl,hy⟩,rfl⟩,rfl⟩;refine Z_4 ?_;refine ZN λb7=>?_
   refine ZM ?_;refine Z_6 ?_;rcases o with _|⟨⟨op,nn⟩,z⟩
   .have hy0:(y==0)=false:=hy;have hq:=hS rfl;have hy1:(y !=0)=true:=(by rw[bne,hy0];rfl);refine Z_3 ?_;rw[hy1];refine ZA ?_;refine eZ (cy rfl rfl) rfl rfl ?_;refine eZ (cy rfl rfl) rfl rfl ?_;refine eZ (cy rfl rfl) rfl rfl ?_;refine eZ (cy rfl rfl) rfl rfl ?_;refine Zy (y_or (q:=false) (Zv rfl) ⟨_,rfl,λ_ e=>absurd e Wq5⟩) ?_;refine Z_2 ?_;refine bW rfl (rfl) ?_;refine Z_5 ?_;refine bX ((⟨(l,sz,false),A1,c1⟩:(List (Int×Int)×Nat×Bool)×Option Addr×Nat)) ?_ ?_ ?_
    .exact⟨hq,hsz⟩
    .exact Zwk
    exact Zj
   have hy0:(y==0)=true:=hy;obtain rfl:y=0:=(by simpa using hy0);have hN:=hN (op,nn) z rfl;have hE:=hE (op,nn) z rfl;have hO:=hO (op,nn) z rfl;obtain⟨hnn,hz1,hz5,hzl⟩:=hRg op nn z rfl;dsimp only at hN hE hO;refine Z_6 ?_;refine eu (cy rfl rfl) (.cons (dh rfl) .nil) (λ_ _=>rfl) (λhg w hi=>yZ op w) rfl ?_;refine Z_4 ?_;refine ZW ?_ ?_<;>intro hc6
   .have hp:dB op=false:=(by have h9:(false|| !dB op)=true:=hc6;simpa using h9);have hq:=hN hp;refine Z_5 ?_;refine bX ((⟨(l,sz,false),A1,c1⟩:(List (Int×Int)×Nat×Bool)×Option Addr×Nat)) ?_ ?_ ?_
    .exact⟨hq,hsz⟩
    .exact Zwk
    exact Zj
   have hp:dB op=true:=(by have h9:(false|| !dB op)=false:=hc6;simpa using h9);refine Z_6 ?_;refine ro ?_;rintro _ _ ⟨b36,rfl,rfl⟩;refine gj (cD (n:=l.length) (e:=27) (sz:=2) (bytes:=16) rfl rfl Za rfl rfl (λw hi=>hi.rd (show Has _ (slv 27 2 (some ⟨b36,0,none⟩) 1 1 [.int .i64 op,.int .u32 nn])from Zh)) (two1 op nn) gS Wq1) rfl ?_;rintro _ _ ⟨A2,c2,rfl,rfl⟩;rw[KY,show l.length+1=(l++[(op,nn)]).length by simp];refine Z_7 ?_;refine Zy (df (Zv rfl) (Zv rfl) (show _=((sz+z:Nat):Int)from by show IntKind.i64.wrap ((sz:Int)+(z:Int))=_;rw[bK];omega)) ?_;refine Z_6 ?_;refine ZSe (λw hi=>xu op w) ?_;refine Z_1 ?_;refine ZL ?_;refine Z_2 ?_;refine bX ((⟨(l++[(op,nn)],sz+z,fN op),A2,c2⟩:(List (Int×Int)×Nat×Bool)×Option Addr×Nat)) ?_ ?_ ?_
   .exact⟨⟨(by simp;omega),(by dsimp only;omega),(λe=>by dsimp only at e|-;rw[e];exact hE hp e),(λe=>by dsimp only;rw[ae,show 8 - (l.length+[(op,nn)].length)=k by simp;omega];exact hO hp e)⟩,(by simp;omega)⟩
   .exact Zwk
   exact Zj
  have hq:(l,sz,en)=R:=(by cases en with|true=>exact hT rfl|false=>(have h8:¬((l.length:Int)<8):=(by have h9:(decide ((l.length:Int)<8)&& !false)=false:=hc4;rw[Bool.not_false,Bool.and_true]at h9;exact of_decide_eq_false h9);have hF:=hF rfl;rw[show 8 - l.length=0 by omega]at hF;exact DQ hF));refine Z_4 ?_;refine bX ((⟨(l,sz,en),A1,c1⟩:(List (Int×Int)×Nat×Bool)×Option Addr×Nat)) ?_ ?_ ?_
  .exact⟨hq,hsz⟩
  .exact Zwk
  exact Zj
 rintro⟨⟨l,sz,en⟩,A1,c1⟩ ⟨rfl,hsz⟩;dsimp only at hsz|-;have htl:(b.take sz).length=sz:=(by rw[aB];omega);refine Z_4 ?_;refine Zy (ge sz rfl Zrf (Zv rfl) (Zv rfl) (λ_=>by first|rfl|omega) Wq4) ?_;refine ZS (λw hi=>IX A sz c (b.take sz) w (by have h9:=jo (h.MZ hi) sz;rw[htl]at h9;exact h9) Wq1) ?_;rintro _ _ ⟨_,⟨A9,c9,rfl,rfl⟩,rfl⟩;refine Z_1 ?_;refine ZL ?_;refine Z_3 ?_;refine bU ⟨λj=>List.elem j [3],[]⟩ Zk ?_;refine ZE 0 ?_;refine ZI 1 ?_;refine ZE 2 ?_;refine cn 3 Zk ?_;refine ZR ?_;refine dx ?_;refine Z_2 ?_;refine bP (row b3 [.slice A9 sz c9,.bool en] 181::[slv 27 2 A1 l.length c1 (l.flatMap EO),sl .u8 5 A9 sz c9 (b.take sz)]) Zj ?_;refine od (cs':=[slv 27 2 A1 l.length c1 (l.flatMap EO),sl .u8 5 A9 sz c9 (b.take sz)]) (.inl rfl) (List.Sublist.cons _ (aR _)) rfl rfl rfl Zh Zrf Zrf ?_;exact⟨A1,c1,⟨⟨b.take sz,en⟩,A9,c9⟩,rfl,by show _=Value.tuple #[_,.agg (RS.cells ⟨⟨b.take sz,en⟩,A9,c9⟩).toArray];unfold RS.cells;dsimp only;rw[htl],by unfold rsC;dsimp only;rw[htl]⟩
end Go.Proofs.YtkegldppffignaaGreatDoor
