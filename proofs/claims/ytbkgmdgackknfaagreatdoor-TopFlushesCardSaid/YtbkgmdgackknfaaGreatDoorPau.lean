/- Lemmas. -/
import Derived.Test.YtbkgmdgackknfaaGreatDoorPat
set_option linter.unusedSimpArgs false
set_option linter.unusedVariables false
set_option maxRecDepth 100000
set_option maxHeartbeats 4000000
namespace Go.Ink
open Go.RowKit Go.Proofs.Tryz
theorem Lw.sm.mono{L:Lw}{n m:Nat}(h:L.sm n)(hnm:n<=m):L.sm m:=⟨aN h.code hnm,aN h.dl hnm,aN h.rl hnm,⟨h.dn.1,by have:=h.dn.2;omega⟩,⟨h.rn.1,by have:=h.rn.2;omega⟩⟩
theorem Kj{k:Int}{code:List II}{s:Sd}{n:Nat}(h1:code.length<=n)(h2:s.l.length<=n)(h3:0<=s.RL/\s.RL<=n):(fe k code s).2.1.length<=n+1/\(fe k code s).2.2.l.length<=n+1/\(0<=(fe k code s).2.2.RL/\(fe k code s).2.2.RL<=(n+1:Nat)):=by
 grind [fe]
theorem ij{L:Lw}{n:Nat}(h:L.sm n){C:List II}{s:Sd}(hC:C=(fe 1 L.code L.d).2.1)(hs:s=(fe 1 L.code L.d).2.2)(f t br:Int):Lw.sm ⟨C,s,L.r,f,t,br⟩ (n+1):=by
 subst hC hs;obtain⟨h1,h2,h3⟩:=Kj (k:=1) h.code h.dl h.dn;exact⟨h1,h2,aN h.rl Wq1,h3,⟨h.rn.1,by have:=h.rn.2;grind⟩⟩
theorem sm_popR{L:Lw}{n:Nat}(h:L.sm n){C:List II}{s:Sd}(hC:C=(fe 2 L.code L.r).2.1)(hs:s=(fe 2 L.code L.r).2.2)(f t br:Int):Lw.sm ⟨C,L.d,s,f,t,br⟩ (n+1):=by
 subst hC hs;obtain⟨h1,h2,h3⟩:=Kj (k:=2) h.code h.rl h.rn;exact⟨h1,aN h.dl Wq1,h2,⟨h.dn.1,by have:=h.dn.2;grind⟩,h3⟩
theorem xC{L:Lw}{n:Nat}(h:L.sm n)(op a b i:Int):(L.add op a b i).sm (n+1):=⟨by have:=h.code;show(L.code++[_]).length<=_;simp;omega,aN h.dl Wq1,aN h.rl Wq1,⟨h.dn.1,by have:=h.dn.2;show L.d.RL<=_;omega⟩,⟨h.rn.1,by have:=h.rn.2;show L.r.RL<=_;omega⟩⟩
theorem rC{L:Lw}{n:Nat}(h:L.sm n)(l:List Int)(hl:l.length<=3):(L.SF l).sm (n+3):=⟨aN h.code Wq1,by have:=h.dl;show(L.d.l++l).length<=_;grind,aN h.rl Wq1,⟨h.dn.1,by have:=h.dn.2;show L.d.RL<=_;omega⟩,⟨h.rn.1,by have:=h.rn.2;show L.r.RL<=_;omega⟩⟩
theorem JT{L:Lw}{n:Nat}(h:L.sm n)(l:List Int)(hl:l.length<=3):(L.S9 l).sm (n+3):=⟨aN h.code Wq1,aN h.dl Wq1,by have:=h.rl;show(L.r.l++l).length<=_;grind,⟨h.dn.1,by have:=h.dn.2;show L.d.RL<=_;omega⟩,⟨h.rn.1,by have:=h.rn.2;show L.r.RL<=_;omega⟩⟩
theorem tw{L:Lw}{n:Nat}(h:L.sm n):L.RK.2.sm (n+1):=ij h rfl rfl _ _ _
theorem sm_pR{L:Lw}{n:Nat}(h:L.sm n):L.Su.2.sm (n+1):=sm_popR h rfl rfl _ _ _
theorem uY{L:Lw}{n:Nat}(h:L.sm n)(f t br:Int):Lw.sm ⟨L.code,L.d,L.r,f,t,br⟩ n:=⟨h.code,h.dl,h.rl,h.dn,h.rn⟩
theorem sm_go{L:Lw}{n:Nat}(h:L.sm n)(op i next:Int):(L.go op i next).sm (n+10):=by
 unfold Lw.go Lw.reckon;cases op==1||op==2<;>simp only[ai,ah]
 case true=>exact(rC (xC h _ _ _ _) _ cH).mono Wq1
 cases op==3<;>simp only[ai,ah]
 case true=>exact(rC (tw h) _ cH).mono Wq1
 cases op==4<;>simp only[ai,ah]
 case true=>exact(tw h).mono Wq1
 cases op==5<;>simp only[ai,ah]
 case true=>exact(rC (tw (tw h)) _ cH).mono Wq1
 cases op==6<;>simp only[ai,ah]
 case true=>exact(rC (tw (tw h)) _ cH).mono Wq1
 cases op==7<;>simp only[ai,ah]
 case true=>exact(JT (tw h) _ cH).mono Wq1
 cases op==8<;>simp only[ai,ah]
 case true=>exact(rC (sm_pR h) _ cH).mono Wq1
 cases decide (16<=op)&&decide (op<=25)<;>simp only[ai,ah]
 case true=>
  cases op !=25<;>simp only[ai,ah]
  .exact(uY (xC (tw (tw h)) _ _ _ _) _ _ _).mono Wq1
  exact(rC (xC (uY (xC (tw (tw h)) _ _ _ _) _ _ _) _ _ _ _) _ cH).mono Wq1
 cases op==38<;>simp only[ai,ah]
 case true=>exact(JT (xC h _ _ _ _) _ cH).mono Wq1
 cases op==39<;>simp only[ai,ah]
 case true=>exact(uY (sm_pR h) _ _ _).mono Wq1
 cases op==40<;>simp only[ai,ah]
 case true=>exact(uY (tw h) _ _ _).mono Wq1
 cases decide (33<=op)&&decide (op<=37)<;>simp only[ai,ah]
 .exact h.mono Wq1
 exact(uY h _ _ _).mono Wq1
section
attribute [local irreducible] OpY bH
theorem K0(b:Nat)(N:Int)(L:Lw)(X:LAd)(hs:L.sm 1000)(w:World)(hi:Inv w (bD (lwF b N L X)) (lwF b N L X) w):
  Ctr prog 224 [.pointer (some ⟨b,14,none⟩)] w (lwF b N L X) (λ_ cs=>cs=lwF b N ⟨L.code,L.d.top,L.r,L.flags,L.target,L.branch⟩ X):=O6 b N L.code L.r L.d.l L.d.RL L.d.high L.flags L.target L.branch X hs.dl hs.dn w hi
theorem KZ(b:Nat)(N:Int)(L:Lw)(X:LAd)(hs:L.sm 1000)(w:World)(hi:Inv w (bD (lwF b N L X)) (lwF b N L X) w):
  Ctr prog 224 [.pointer (some ⟨b,18,none⟩)] w (lwF b N L X) (λ_ cs=>cs=lwF b N ⟨L.code,L.d,L.r.top,L.flags,L.target,L.branch⟩ X):=O5 b N L.code L.d L.r.l L.r.RL L.r.high L.flags L.target L.branch X hs.rl hs.rn w hi
theorem lone_ok(b:Nat)(N:Int)(L:Lw)(X:LAd)(hs:L.sm 500)(op n next:Int)(w:World)(hi:Inv w (bD (lwF b N L X)) (lwF b N L X) w):
  Ctr prog 180 [.p b,.agg #[.i op,.w n],.w next] w (lwF b N L X) (λ_ cs=>∃L' X',L'=L.one op n next/\cs=lwF b N L' X'):=by
 have hgo:=sm_go hs op n next
 refine Zfn func180 ntmps180 hi ?_;refine Z_2 ?_;refine ZO λb4=>?_;refine Z_3 ?_;refine Dd ?_;refine ZFe 2 14 ?_;refine ZE 3 ?_;refine ZE 4 ?_;refine ZFe 5 18 ?_;refine ZE 6 ?_;refine ZE 7 ?_;refine eQ ?_;refine Zt (cD (λq:Lw×LAd=>[(0,.p b),(6,.pointer (some ⟨b,14,none⟩)),(7,.pointer (some ⟨b,18,none⟩))]) (λq=>lwF b N q.1 q.2) (λq=>q.1=L.go op n next) ?_ ?_)
 .refine IB ?_;refine ZW ?_ ?_<;>intro hc3
  .refine bL ⟨λj=>List.elem j [8,10,13],tx b4 [.i op,.w n]⟩ Zk (kQ ?_);refine ZFe 3 0 ?_;refine ZE 5 ?_;refine ZFe 6 1 ?_;refine iW 7 rfl Zk Zk Zk (bF Zrf (Zv rfl)) Wq3 (bK (t:=71) Zh) rfl (ke 4 8 Zk ?_ ?_)
   .refine lR ?_;refine cn 8 Zk (Wq314 ?_);rintro _ _ ⟨_,⟨rfl,C2,A2,c2,hC2,rfl⟩,rfl⟩;refine cn 9 Zk (jT rfl rfl (i6 rfl rfl Zrf Zrf rfl rfl) (λ_=>by rintro _ _ ⟨b40,rfl,rfl⟩;exact bK (t:=71) Zh) rfl ?_);rintro _ _ ⟨b40,rfl,rfl⟩;refine cn 10 Zk ?_;have hbd:L.d.l.length<=600:=aN hs.dl Wq1;refine Wq230 ?_;rintro _ _ ⟨A9,c9,rfl,rfl⟩;refine Wq282 ?_;rintro _ _ ⟨rfl,rfl⟩;refine eQ ?_;refine Zo (bJ (((⟨C2,⟨L.d.l++[L.here],L.d.RL,L.d.high⟩,L.r,L.flags,L.target,L.branch⟩,⟨A2,c2,A9,c9,X.Ar,X.cr⟩):Lw×LAd)) ?_ ?_ ?_)
    ·(dsimp only;subst hC2;unfold Lw.go;rw[hc3];rfl)
    .exact Zwk
    exact Zj
   refine Wq314 ?_;rintro _ _ ⟨_,⟨rfl,C2,A2,c2,hC2,rfl⟩,rfl⟩;refine ZG 4 ?_;refine cn 9 Zk (jT rfl rfl (i6 rfl rfl Zrf Zrf rfl rfl) (λ_=>by rintro _ _ ⟨b40,rfl,rfl⟩;exact bK (t:=71) Zh) rfl ?_);rintro _ _ ⟨b40,rfl,rfl⟩;refine cn 10 Zk ?_;have hbd:L.d.l.length<=600:=aN hs.dl Wq1;refine Wq230 ?_;rintro _ _ ⟨A9,c9,rfl,rfl⟩;refine Wq282 ?_;rintro _ _ ⟨rfl,rfl⟩;refine eQ ?_;refine Zo (bJ (((⟨C2,⟨L.d.l++[L.here],L.d.RL,L.d.high⟩,L.r,L.flags,L.target,L.branch⟩,⟨A2,c2,A9,c9,X.Ar,X.cr⟩):Lw×LAd)) ?_ ?_ ?_)
   ·(dsimp only;subst hC2;unfold Lw.go;rw[hc3];rfl)
   .exact Zwk
   exact Zj
  refine Zw7 ?_ ?_<;>intro hc5
  .refine Z_4 ?_;refine IM ?_;rintro _ _ ⟨_,⟨rfl,C2,s2,A2,c2,hC2,hs2,rfl⟩,rfl⟩;refine gK ?_;refine kY ?_;rintro _ _ ⟨b57,rfl,rfl⟩;have hbd:s2.l.length<=600:=aN (ij hs hC2 hs2 0 0 0).dl Wq1;refine fW (cj (n:=s2.l.length) (e:=3) (sz:=1) (bytes:=8) rfl rfl Za rfl rfl (λw hi=>hi.rd (show Has _ (slv 3 1 (sA b57) 2 2 (ints .i64 [(fe 1 L.code L.d).1,(fe 1 L.code L.d).1]))from Zh)) di gq Wq1) rfl ?_;rintro _ _ ⟨A9,c9,rfl,rfl⟩;rw[bX,show s2.l.length+2=(s2.l++[(fe 1 L.code L.d).1,(fe 1 L.code L.d).1]).length by simp];refine mP ?_;refine Z_2 ?_;refine bJ (((⟨C2,⟨s2.l++[(fe 1 L.code L.d).1,(fe 1 L.code L.d).1],s2.RL,s2.high⟩,L.r,L.flags,L.target,L.branch⟩,⟨A2,c2,A9,c9,X.Ar,X.cr⟩):Lw×LAd)) ?_ ?_ ?_
   ·(dsimp only;subst hC2 hs2;unfold Lw.go;rw[hc3,hc5];rfl)
   .exact Zwk
   exact Zj
  refine Zw7 ?_ ?_<;>intro hc8
  .refine Z_3 ?_;refine IM ?_;rintro _ _ ⟨_,⟨rfl,C2,s2,A2,c2,hC2,hs2,rfl⟩,rfl⟩;refine Z_2 ?_;refine bJ (((⟨C2,s2,L.r,L.flags,L.target,L.branch⟩,⟨A2,c2,X.Ad,X.cd,X.Ar,X.cr⟩):Lw×LAd)) ?_ ?_ ?_
   ·(dsimp only;subst hC2 hs2;unfold Lw.go;rw[hc3,hc5,hc8];rfl)
   .exact Zwk
   exact Zj
  refine Zw7 ?_ ?_<;>intro hc10
  .refine Z_4 ?_;refine IM ?_;rintro _ _ ⟨_,⟨rfl,C2,s2,A2,c2,hC2,hs2,rfl⟩,rfl⟩;refine Wq105 ?_;rintro _ _ ⟨_,⟨rfl,C3,s3,A3,c3,hC3,hs3,rfl⟩,rfl⟩;refine gK ?_;refine kY ?_;rintro _ _ ⟨b83,rfl,rfl⟩;have hbd:s3.l.length<=600:=aN (ij (ij hs hC2 hs2 L.flags L.target L.branch) hC3 hs3 0 0 0).dl Wq1;refine fW (cj (n:=s3.l.length) (e:=3) (sz:=1) (bytes:=8) rfl rfl Za rfl rfl (λw hi=>hi.rd (show Has _ (slv 3 1 (sA b83) 2 2 (ints .i64 [(fe 1 L.code L.d).1,(fe 1 C2 s2).1]))from Zh)) di gq Wq1) rfl ?_;rintro _ _ ⟨A9,c9,rfl,rfl⟩;rw[bX,show s3.l.length+2=(s3.l++[(fe 1 L.code L.d).1,(fe 1 C2 s2).1]).length by simp];refine mP ?_;refine Z_2 ?_;refine bJ (((⟨C3,⟨s3.l++[(fe 1 L.code L.d).1,(fe 1 C2 s2).1],s3.RL,s3.high⟩,L.r,L.flags,L.target,L.branch⟩,⟨A3,c3,A9,c9,X.Ar,X.cr⟩):Lw×LAd)) ?_ ?_ ?_
   ·(dsimp only;subst hC3 hs3 hC2 hs2;unfold Lw.go;rw[hc3,hc5,hc8,hc10];rfl)
   .exact Zwk
   exact Zj
  refine Zw7 ?_ ?_<;>intro hc14
  .refine Z_4 ?_;refine IM ?_;rintro _ _ ⟨_,⟨rfl,C2,s2,A2,c2,hC2,hs2,rfl⟩,rfl⟩;refine Wq105 ?_;rintro _ _ ⟨_,⟨rfl,C3,s3,A3,c3,hC3,hs3,rfl⟩,rfl⟩;refine fD ?_;refine kY ?_;rintro _ _ ⟨b104,rfl,rfl⟩;have hbd:s3.l.length<=600:=aN (ij (ij hs hC2 hs2 L.flags L.target L.branch) hC3 hs3 0 0 0).dl Wq1;refine fW (cj (n:=s3.l.length) (e:=3) (sz:=1) (bytes:=8) rfl rfl Za rfl rfl (λw hi=>hi.rd (show Has _ (slv 3 1 (sA b104) 3 3 (ints .i64 [(fe 1 C2 s2).1,(fe 1 L.code L.d).1,(fe 1 C2 s2).1]))from Zh)) di gq Wq1) rfl ?_;rintro _ _ ⟨A9,c9,rfl,rfl⟩;rw[bX,show s3.l.length+3=(s3.l++[(fe 1 C2 s2).1,(fe 1 L.code L.d).1,(fe 1 C2 s2).1]).length by simp];refine mP ?_;refine Z_2 ?_;refine bJ (((⟨C3,⟨s3.l++[(fe 1 C2 s2).1,(fe 1 L.code L.d).1,(fe 1 C2 s2).1],s3.RL,s3.high⟩,L.r,L.flags,L.target,L.branch⟩,⟨A3,c3,A9,c9,X.Ar,X.cr⟩):Lw×LAd)) ?_ ?_ ?_
   ·(dsimp only;subst hC3 hs3 hC2 hs2;unfold Lw.go;rw[hc3,hc5,hc8,hc10,hc14];rfl)
   .exact Zwk
   exact Zj
  refine Zw7 ?_ ?_<;>intro hc18
  .refine Wq340 ?_;refine ke 4 7 Zk ?_ ?_
   .refine lR ?_;refine cn 7 Zk (pL (lwF b N L X) (λw hi hin=>ui b N L X (hs.mono Wq1) w hin) ?_);rintro _ _ ⟨rfl,C2,s2,A2,c2,hC2,hs2,rfl⟩;refine cn 8 Zk (AR ?_);rintro _ _ ⟨b119,rfl,rfl⟩;refine cn 9 Zk ?_;have hbd:L.r.l.length<=600:=aN hs.rl Wq1;refine Wq291 ?_;rintro _ _ ⟨A9,c9,rfl,rfl⟩;rw[bX,show L.r.l.length+1=(L.r.l++[(fe 1 L.code L.d).1]).length by simp];refine IN ?_;refine Zo (bJ (((⟨C2,s2,⟨L.r.l++[(fe 1 L.code L.d).1],L.r.RL,L.r.high⟩,L.flags,L.target,L.branch⟩,⟨A2,c2,X.Ad,X.cd,A9,c9⟩):Lw×LAd)) ?_ ?_ ?_)
    ·(dsimp only;subst hC2 hs2;unfold Lw.go;rw[hc3,hc5,hc8,hc10,hc14,hc18];rfl)
    .exact Zwk
    exact Zj
   refine pL (lwF b N L X) (λw hi hin=>ui b N L X (hs.mono Wq1) w hin) ?_;rintro _ _ ⟨rfl,C2,s2,A2,c2,hC2,hs2,rfl⟩;refine ZG 4 ?_;refine cn 8 Zk (AR ?_);rintro _ _ ⟨b119,rfl,rfl⟩;refine cn 9 Zk ?_;have hbd:L.r.l.length<=600:=aN hs.rl Wq1;refine Wq291 ?_;rintro _ _ ⟨A9,c9,rfl,rfl⟩;rw[bX,show L.r.l.length+1=(L.r.l++[(fe 1 L.code L.d).1]).length by simp];refine IN ?_;refine Zo (bJ (((⟨C2,s2,⟨L.r.l++[(fe 1 L.code L.d).1],L.r.RL,L.r.high⟩,L.flags,L.target,L.branch⟩,⟨A2,c2,X.Ad,X.cd,A9,c9⟩):Lw×LAd)) ?_ ?_ ?_)
   ·(dsimp only;subst hC2 hs2;unfold Lw.go;rw[hc3,hc5,hc8,hc10,hc14,hc18];rfl)
   .exact Zwk
   exact Zj
  refine Zw7 ?_ ?_<;>intro hc20
  .refine Wq340 ?_;refine ke 4 7 Zk ?_ ?_
   .refine lR ?_;refine cn 7 Zk (pL (lwF b N L X) (λw hi hin=>zO b N L X (hs.mono Wq1) w hin) ?_);rintro _ _ ⟨rfl,C2,s2,A2,c2,hC2,hs2,rfl⟩;refine cn 8 Zk (AR ?_);rintro _ _ ⟨b134,rfl,rfl⟩;refine cn 9 Zk ?_;have hbd:L.d.l.length<=600:=aN hs.dl Wq1;refine Wq290 ?_;rintro _ _ ⟨A9,c9,rfl,rfl⟩;rw[bX,show L.d.l.length+1=(L.d.l++[(fe 2 L.code L.r).1]).length by simp];refine IN ?_;refine Zo (bJ (((⟨C2,⟨L.d.l++[(fe 2 L.code L.r).1],L.d.RL,L.d.high⟩,s2,L.flags,L.target,L.branch⟩,⟨A2,c2,A9,c9,X.Ar,X.cr⟩):Lw×LAd)) ?_ ?_ ?_)
    ·(dsimp only;subst hC2 hs2;unfold Lw.go;rw[hc3,hc5,hc8,hc10,hc14,hc18,hc20];rfl)
    .exact Zwk
    exact Zj
   refine pL (lwF b N L X) (λw hi hin=>zO b N L X (hs.mono Wq1) w hin) ?_;rintro _ _ ⟨rfl,C2,s2,A2,c2,hC2,hs2,rfl⟩;refine ZG 4 ?_;refine cn 8 Zk (AR ?_);rintro _ _ ⟨b134,rfl,rfl⟩;refine cn 9 Zk ?_;have hbd:L.d.l.length<=600:=aN hs.dl Wq1;refine Wq290 ?_;rintro _ _ ⟨A9,c9,rfl,rfl⟩;rw[bX,show L.d.l.length+1=(L.d.l++[(fe 2 L.code L.r).1]).length by simp];refine IN ?_;refine Zo (bJ (((⟨C2,⟨L.d.l++[(fe 2 L.code L.r).1],L.d.RL,L.d.high⟩,s2,L.flags,L.target,L.branch⟩,⟨A2,c2,A9,c9,X.Ar,X.cr⟩):Lw×LAd)) ?_ ?_ ?_)
   ·(dsimp only;subst hC2 hs2;unfold Lw.go;rw[hc3,hc5,hc8,hc10,hc14,hc18,hc20];rfl)
   .exact Zwk
   exact Zj
  refine gK ?_;refine ZW ?_ ?_<;>intro hc22
  .have hop:16<=op/\op<=25:=bR;have hwop:IntKind.u32.wrap op=op:=(by rw[aC];omega);refine Z_4 ?_;refine IM ?_;rintro _ _ ⟨_,⟨rfl,C2,s2,A2,c2,hC2,hs2,rfl⟩,rfl⟩;refine Wq105 ?_;rintro _ _ ⟨_,⟨rfl,C3,s3,A3,c3,hC3,hs3,rfl⟩,rfl⟩;refine fB ?_;refine Zy (cQ rfl rfl Zv0 hwop) ?_;refine ZA ?_;refine dz (lwF b N ⟨C3,s3,L.r,L.flags,L.target,L.branch⟩ ⟨A3,c3,X.Ad,X.cd,X.Ar,X.cr⟩) (λw hi hin=>vK b N ⟨C3,s3,L.r,L.flags,L.target,L.branch⟩ ⟨A3,c3,X.Ad,X.cd,X.Ar,X.cr⟩ ((ij (ij hs hC2 hs2 L.flags L.target L.branch) hC3 hs3 _ _ _).mono Wq1) 4 0 (fe 1 C2 s2).1 (fe 1 L.code L.d).1 op w hin) ?_;rintro _ _ ⟨rfl,C4,A4,c4,hC4,rfl⟩;have h3:=ij (ij hs hC2 hs2 L.flags L.target L.branch) hC3 hs3 L.flags L.target L.branch;have h4:=xC h3 4 (fe 1 C2 s2).1 (fe 1 L.code L.d).1 op;have hs4:Lw.sm ⟨C4,s3,L.r,(C3.length:Int),L.target,L.branch⟩ 1000:=(by refine⟨?_,(h3.mono (by omega:_<=1000)).dl,(h3.mono (by omega:_<=1000)).rl,(h3.mono (by omega:_<=1000)).dn,(h3.mono (by omega:_<=1000)).rn⟩;rw[hC4];exact aN h4.code Wq1);refine Z_3 ?_;refine ZL ?_;refine Zw8 ?_ ?_<;>intro hc26
   .refine bL ⟨λj=>List.elem j [11,13,16],[]⟩ Zk (kQ ?_);refine ZFe 3 0 ?_;refine mE ?_;refine ZE 7 ?_;refine ZE 8 ?_;refine Zy4 9 rfl (cQ rfl rfl Zv0 hwop) ?_;refine ZE 10 ?_;refine ke 4 11 Zk ?_ ?_
    .refine lR ?_;refine cn 11 Zk (Wq245 ?_);rintro _ _ ⟨_,⟨rfl,C5,A5,c5,hC5,rfl⟩,rfl⟩;refine cn 12 Zk (AR ?_);rintro _ _ ⟨b176,rfl,rfl⟩;refine cn 13 Zk ?_;have hbd:s3.l.length<=600:=aN (ij (ij hs hC2 hs2 L.flags L.target L.branch) hC3 hs3 0 0 0).dl Wq1;refine Wq301 ?_;rintro _ _ ⟨A9,c9,rfl,rfl⟩;rw[bX,show s3.l.length+1=(s3.l++[(C4.length:Int)]).length by simp];refine ZE 14 ?_;refine ZFe 15 0 ?_;refine cn 16 Zk (nO ?_);refine Zo (bJ (((⟨C5,⟨s3.l++[(C4.length:Int)],s3.RL,s3.high⟩,L.r,(C3.length:Int),L.target,L.branch⟩,⟨A5,c5,A9,c9,X.Ar,X.cr⟩):Lw×LAd)) ?_ ?_ ?_)
     ·(dsimp only;subst hC5 hC4 hC3 hs3 hC2 hs2;unfold Lw.go;rw[hc3,hc5,hc8,hc10,hc14,hc18,hc20,hc22];unfold Lw.reckon;dsimp only;rw[hc26];rfl)
     .exact Zwk
     exact Zj
    refine Wq245 ?_;rintro _ _ ⟨_,⟨rfl,C5,A5,c5,hC5,rfl⟩,rfl⟩;refine ZG 4 ?_;refine cn 12 Zk (AR ?_);rintro _ _ ⟨b176,rfl,rfl⟩;refine cn 13 Zk ?_;have hbd:s3.l.length<=600:=aN (ij (ij hs hC2 hs2 L.flags L.target L.branch) hC3 hs3 0 0 0).dl Wq1;refine Wq301 ?_;rintro _ _ ⟨A9,c9,rfl,rfl⟩;rw[bX,show s3.l.length+1=(s3.l++[(C4.length:Int)]).length by simp];refine ZE 14 ?_;refine ZFe 15 0 ?_;refine cn 16 Zk (nO ?_);refine Zo (bJ (((⟨C5,⟨s3.l++[(C4.length:Int)],s3.RL,s3.high⟩,L.r,(C3.length:Int),L.target,L.branch⟩,⟨A5,c5,A9,c9,X.Ar,X.cr⟩):Lw×LAd)) ?_ ?_ ?_)
    ·(dsimp only;subst hC5 hC4 hC3 hs3 hC2 hs2;unfold Lw.go;rw[hc3,hc5,hc8,hc10,hc14,hc18,hc20,hc22];unfold Lw.reckon;dsimp only;rw[hc26];rfl)
    .exact Zwk
    exact Zj
   refine Z_2 ?_;refine bJ (((⟨C4,s3,L.r,(C3.length:Int),L.target,L.branch⟩,⟨A4,c4,X.Ad,X.cd,X.Ar,X.cr⟩):Lw×LAd)) ?_ ?_ ?_
   ·(dsimp only;subst hC4 hC3 hs3 hC2 hs2;unfold Lw.go;rw[hc3,hc5,hc8,hc10,hc14,hc18,hc20,hc22];unfold Lw.reckon;dsimp only;rw[hc26];rfl)
   .exact Zwk
   exact Zj
  refine Zw7 ?_ ?_<;>intro hc28
  .refine Wq340 ?_;refine ke 4 7 Zk ?_ ?_
   .refine lR ?_;refine cn 7 Zk (pL (lwF b N L X) (λw hi hin=>vI b N L X (hs.mono Wq1) next w hin) ?_);rintro _ _ ⟨rfl,C2,A2,c2,hC2,rfl⟩;refine cn 8 Zk (AR ?_);rintro _ _ ⟨b191,rfl,rfl⟩;refine cn 9 Zk ?_;have hbd:L.r.l.length<=600:=aN hs.rl Wq1;refine Wq313 ?_;rintro _ _ ⟨A9,c9,rfl,rfl⟩;rw[bX,show L.r.l.length+1=(L.r.l++[L.here]).length by simp];refine IN ?_;refine Zo (bJ (((⟨C2,L.d,⟨L.r.l++[L.here],L.r.RL,L.r.high⟩,L.flags,L.target,L.branch⟩,⟨A2,c2,X.Ad,X.cd,A9,c9⟩):Lw×LAd)) ?_ ?_ ?_)
    ·(dsimp only;subst hC2;unfold Lw.go;rw[hc3,hc5,hc8,hc10,hc14,hc18,hc20,hc22,hc28];rfl)
    .exact Zwk
    exact Zj
   refine pL (lwF b N L X) (λw hi hin=>vI b N L X (hs.mono Wq1) next w hin) ?_;rintro _ _ ⟨rfl,C2,A2,c2,hC2,rfl⟩;refine ZG 4 ?_;refine cn 8 Zk (AR ?_);rintro _ _ ⟨b191,rfl,rfl⟩;refine cn 9 Zk ?_;have hbd:L.r.l.length<=600:=aN hs.rl Wq1;refine Wq313 ?_;rintro _ _ ⟨A9,c9,rfl,rfl⟩;rw[bX,show L.r.l.length+1=(L.r.l++[L.here]).length by simp];refine IN ?_;refine Zo (bJ (((⟨C2,L.d,⟨L.r.l++[L.here],L.r.RL,L.r.high⟩,L.flags,L.target,L.branch⟩,⟨A2,c2,X.Ad,X.cd,A9,c9⟩):Lw×LAd)) ?_ ?_ ?_)
   ·(dsimp only;subst hC2;unfold Lw.go;rw[hc3,hc5,hc8,hc10,hc14,hc18,hc20,hc22,hc28];rfl)
   .exact Zwk
   exact Zj
  refine Zw7 ?_ ?_<;>intro hc30
  .refine Z_4 ?_;refine dz (lwF b N L X) (λw hi hin=>zO b N L X (hs.mono Wq1) w hin) ?_;rintro _ _ ⟨rfl,C2,s2,A2,c2,hC2,hs2,rfl⟩;refine Z_3 ?_;refine ZL ?_;refine Z_2 ?_;refine bJ (((⟨C2,L.d,s2,L.flags,(fe 2 L.code L.r).1,L.branch⟩,⟨A2,c2,X.Ad,X.cd,X.Ar,X.cr⟩):Lw×LAd)) ?_ ?_ ?_
   ·(dsimp only;subst hC2 hs2;unfold Lw.go;rw[hc3,hc5,hc8,hc10,hc14,hc18,hc20,hc22,hc28,hc30];rfl)
   .exact Zwk
   exact Zj
  refine Zw7 ?_ ?_<;>intro hc32
  .refine Z_4 ?_;refine IM ?_;rintro _ _ ⟨_,⟨rfl,C2,s2,A2,c2,hC2,hs2,rfl⟩,rfl⟩;refine Z_3 ?_;refine ZL ?_;refine Z_2 ?_;refine bJ (((⟨C2,s2,L.r,L.flags,(fe 1 L.code L.d).1,L.branch⟩,⟨A2,c2,X.Ad,X.cd,X.Ar,X.cr⟩):Lw×LAd)) ?_ ?_ ?_
   ·(dsimp only;subst hC2 hs2;unfold Lw.go;rw[hc3,hc5,hc8,hc10,hc14,hc18,hc20,hc22,hc28,hc30,hc32];rfl)
   .exact Zwk
   exact Zj
  refine gK ?_;refine ZW ?_ ?_<;>intro hc34
  .refine Z_6 ?_;refine ZL ?_;refine Z_2 ?_;refine bJ (((⟨L.code,L.d,L.r,L.flags,L.target,op⟩,X):Lw×LAd)) ?_ ?_ ?_
   ·(dsimp only;unfold Lw.go;rw[hc3,hc5,hc8,hc10,hc14,hc18,hc20,hc22,hc28,hc30,hc32,hc34];rfl)
   .exact Zwk
   exact Zj
  refine Z_2 ?_;refine bJ (((L,X):Lw×LAd)) ?_ ?_ ?_
  ·(dsimp only;unfold Lw.go;grind)
  .exact Zwk
  exact Zj
 rintro⟨L9,X9⟩ hL9;dsimp only at hL9|-;rw[<-hL9]at hgo;refine Z_3 ?_;refine ZcL (lwF b N L9 X9) (λw hi hin=>K0 b N L9 X9 (hgo.mono Wq1) w hin) ?_;rintro _ _ ⟨_,rfl,rfl⟩;refine Z_4 ?_;refine ZcL (lwF b N ⟨L9.code,L9.d.top,L9.r,L9.flags,L9.target,L9.branch⟩ X9) (λw hi hin=>KZ b N ⟨L9.code,L9.d.top,L9.r,L9.flags,L9.target,L9.branch⟩ X9 ⟨(hgo.mono Wq1).code,(hgo.mono Wq1).dl,(hgo.mono Wq1).rl,(hgo.mono Wq1).dn,(hgo.mono Wq1).rn⟩ w hin) ?_;rintro _ _ ⟨_,rfl,rfl⟩;refine Zn (iY (cs':=lwF b N L9.RR X9) (.inr rfl) Zu rfl ?_);exact⟨L9.RR,X9,by unfold Lw.one;rw[hL9],rfl⟩
theorem Ck(op:Int)(w:World):Ctr prog 177 [.i op] w [] (λv cs=>v= .bool (dr op)/\cs=[]):=by
 refine Zfs func177 ntmps177 ?_;refine IB ?_;refine ZW ?_ ?_<;>intro hc1
 .refine Z_2 ?_;refine bW rfl (hc1) (gf ?_);refine⟨?_,rfl⟩;unfold dr;cases h1:decide (0<=op)<;>cases h2:decide (op<=8)<;>cases h3:decide (16<=op)<;>cases h4:decide (op<=25)<;>cases h5:(op !=24)<;>cases h6:decide (32<=op)<;>cases h7:decide (op<=40)<;>simp_all<;>omega
 refine pV ?_ ?_<;>intro hc2
 .refine gf ?_;refine⟨?_,rfl⟩;unfold dr;cases h1:decide (0<=op)<;>cases h2:decide (op<=8)<;>cases h3:decide (16<=op)<;>cases h4:decide (op<=25)<;>cases h5:(op !=24)<;>cases h6:decide (32<=op)<;>cases h7:decide (op<=40)<;>simp_all<;>omega
 refine IB ?_;refine Zra ?_;refine⟨?_,rfl⟩;unfold dr;cases h1:decide (0<=op)<;>cases h2:decide (op<=8)<;>cases h3:decide (16<=op)<;>cases h4:decide (op<=25)<;>cases h5:(op !=24)<;>cases h6:decide (32<=op)<;>cases h7:decide (op<=40)<;>simp_all<;>omega
abbrev usF(b:Nat)(A:Option Addr)(c N:Nat)(U:List Bool):List bC:=[row b [.slice A N c] 62,slv 4 1 A N c (U.map Value.bool)]
theorem qk(b:Nat)(A:Option Addr)(c N:Nat)(U:List Bool)(hN:U.length=N)(B:Option Addr)(cb:Nat)(l:List Int)(hl:l.length<=1000)(hin:∀n,n∈l->n≠ -1->0<=n/\n.toNat<U.length)(w:World)(hi:Inv w (bD (usF b A c N U)) (usF b A c N U) w)(hR:∀w',cY (bD (usF b A c N U)) w w'->Rd w' .i64 B l.length cb l):
  Ctr prog 225 [.slice B l.length cb,.p b] w (usF b A c N U) (λ_ cs=>cs=usF b A c N (iO U l)):=by
 refine Zfn func225 ntmps225 hi ?_;refine Z_8 ?_;refine bN (λq:Nat×List Bool=>[(1,.p b),(5,.slice B l.length cb),(6,.i l.length),(7,.i (q.1:Int))]) (λq=>usF b A c N q.2) (λq=>q.1<=l.length/\q.2.length=U.length/\iO q.2 (l.drop q.1)=iO U l) (λq=>l.length - q.1) (⟨0,U⟩) ?_ ?_ ?_ ?_
 .grind
 .exact Zwk
 .exact Zu
 rintro⟨k,V⟩ ⟨hk,hV,hM⟩;dsimp only at hk hV hM|-;refine Zw6 ?_ ?_<;>intro hc1
 .simp only[ae]at hc1;have hkl:k<l.length:=Wq1;obtain⟨ad,had⟩:=(hR w (cY.refl _ _)).some_ Wq1;have hR2:∀w',cY (bD (usF b A c N U)) w w'->RdV w' 1 (some ad) l.length cb (ints .i64 l):=(λw' hk=>had▸hR w' hk);obtain⟨x,hx⟩:∃x,l[k]? =some x:=⟨_,aa hkl⟩;have hxi:=hin x (ak hx);rw[jz hx]at hM;have hM:iO (bif x != -1 then V.set x.toNat true else V) (l.drop (k+1))=iO U l:=hM;refine Z_6 ?_;refine Zy (fI (j:=k) had rfl Zrf Zv0 Zv0 Zrf (λ_=>hkl)) ?_;refine dK (bF Zrf Zv0) (oh (v:= .i x) hR2 (cq hx)) rfl (Zw9 ?_ ?_)<;>intro hc3
  .rw[hc3,ai]at hM;obtain⟨hx0,hx1⟩:=hxi bR;obtain⟨n,rfl⟩:∃n:Nat,x=n:=ap hx0;rw[aM]at hx1 hM;obtain⟨bs,rfl⟩:=dV (hi.get (show Has _ (slv 4 1 A N c (U.map Value.bool))from Zh)) Wq1;refine Z_3 ?_;refine Zy (bV (bb:=bs) (o:=0) (n:=N) (c:=c) (j:=n) (sz:=1) (r:=n) rfl Zrf (Zv rfl) (Zv rfl) Zrf Wq2 Wq1) ?_;refine eE (iK Zrf rfl rfl rfl Za Wq1) ?_;rintro _ _ ⟨rfl,rfl⟩;rw[<-List.map_set];refine gh ?_;refine bJ ((⟨k+1,V.set n true⟩:Nat×List Bool)) ?_ ?_ ?_
   .grind
   .exact Zwk
   exact Zj
  rw[hc3,ah]at hM;refine gh ?_;refine bJ ((⟨k+1,V⟩:Nat×List Bool)) ?_ ?_ ?_
  .grind
  .exact Zwk
  exact Zj
 simp only[ac]at hc1;obtain rfl:k=l.length:=by omega
 rw[List.drop_length]at hM;have hM:V=iO U l:=hM;subst hM;refine Z_4 ?_;refine iY (cs':=usF b A c N (iO U l)) (.inr rfl) Zu rfl ?_
 rfl
abbrev plF(b:Nat)(A:Option Addr)(c N:Nat)(pl:List Int):List bC:=[row b [.slice A N c] 55,sl .i64 3 A N c pl]
theorem xx(b:Nat)(A:Option Addr)(c N:Nat)(pl:List Int)(hN:pl.length=N)(B:Option Addr)(cb:Nat)(l:List Int)(hl:l.length<=1000)(hin:∀n,n∈l->0<=n/\n.toNat<pl.length)(w:World)(hi:Inv w (bD (plF b A c N pl)) (plF b A c N pl) w)(hR:∀w',cY (bD (plF b A c N pl)) w w'->Rd w' .i64 B l.length cb l):
  Ctr prog 226 [.slice B l.length cb,.p b] w (plF b A c N pl) (λv9 cs=>∃A' c',v9= .slice A' (dR pl l).length c'/\cs=plF b A c N pl++[sl .i64 3 A' (dR pl l).length c' (dR pl l)]):=by
 refine Zfn func226 ntmps226 hi ?_;refine kM ?_;refine cT 3 1 (Z_6 ?_);refine bN (λq:Nat×List Int×Option Addr×Nat=>[(1,.p b),(4,.slice q.2.2.1 q.2.1.length q.2.2.2),(7,.slice B l.length cb),(8,.i l.length),(9,.i (q.1:Int))]) (λq=>[row b [.slice A N c] 55,sl .i64 3 A N c pl,sl .i64 3 q.2.2.1 q.2.1.length q.2.2.2 q.2.1]) (λq=>q.1<=l.length/\q.2.1=dR pl (l.take q.1)) (λq=>l.length - q.1) (⟨0,[],none,0⟩) ?_ ?_ ?_ ?_
 .exact⟨au _,rfl⟩
 .exact Zwk
 .exact Zu
 rintro⟨k,m,A1,c1⟩ ⟨hk,hm⟩;dsimp only at hk hm|-;have hml:m.length=k:=(by rw[hm];unfold dR;grind);refine Zw6 ?_ ?_<;>intro hc3
 .simp only[ae]at hc3;have hkl:k<l.length:=Wq1;obtain⟨ad,had⟩:=(hR w (cY.refl _ _)).some_ Wq1;have hR2:∀w',cY (bD (plF b A c N pl)) w w'->RdV w' 1 (some ad) l.length cb (ints .i64 l):=(λw' hk=>had▸hR w' hk);obtain⟨x,hx⟩:∃x,l[k]? =some x:=⟨_,aa hkl⟩;obtain⟨hx0,hx1⟩:=hin x (ak hx);obtain⟨n,rfl⟩:∃n:Nat,x=n:=ap hx0;rw[aM]at hx1;obtain⟨bs,rfl⟩:=dV (hi.get (show Has _ (sl .i64 3 A N c pl)from Zh)) Wq1;have hm2:dR pl (l.take (k+1))=m++[pl.getD n 0]:=(by rw[List.take_add_one,hx,hm];unfold dR;simp_all);refine Z_6 ?_;refine Zy (fI (j:=k) had rfl Zrf Zv0 Zv0 Zrf (λ_=>hkl)) ?_;refine dK (bF Zrf Zv0) (oh (v:= .i n) hR2 (cq hx)) rfl (Z_7 ?_);refine Zy (bV (bb:=bs) (o:=0) (n:=N) (c:=c) (j:=n) (sz:=1) (r:=n) rfl Zrf (Zv rfl) (Zv rfl) Zrf Wq2 Wq1) ?_;refine dK (bF Zrf Zv0) (cM Zh (iP hx1)) rfl (kY ?_);rintro _ _ ⟨b18,rfl,rfl⟩;refine fW (cj (n:=m.length) (e:=3) (sz:=1) (bytes:=8) rfl rfl Za rfl rfl (λw hi=>hi.rd (show Has _ (slv 3 1 (sA b18) 1 1 (ints .i64 [pl.getD n 0]))from Zh)) di gq Wq1) rfl ?_;rintro _ _ ⟨A2,c2,rfl,rfl⟩;rw[bX,show m.length+1=(m++[pl.getD n 0]).length by simp];refine gv ?_;refine bJ ((⟨k+1,m++[pl.getD n 0],A2,c2⟩:Nat×List Int×Option Addr×Nat)) ?_ ?_ ?_
  .grind
  .exact Zwk
  exact Zj
 simp only[ac]at hc3;obtain rfl:k=l.length:=by omega
 rw[bl]at hm;subst hm;refine fD ?_;refine CV ?_;exact pN
theorem Bh{U:List Bool}{j:Nat}(h:j<U.length):(U.map Value.bool)[j]? =some (.bool (U.getD j false)):=by grind
abbrev pg0(b:Nat):bC:=row b [.slice none 0 0,.i 0,.i 0,.i 0,.i 0,.slice none 0 0,.slice none 0 0,.i 0,.w 0,.i 0,.i 0,.w 0,.i 0,.i 0] 258
theorem NV(p:Pg)(Q:PAd)(hraw:Raw p)(hv:p.values=p.code.length)(hm:p.code.length<=500)(hoD:p.RV.length<=500)(hoR:p.RX.length<=500)(w:World)(h:Gt p Q w):
  Ctr prog 182 [pgv p Q] w [] (λv9 cs=>∃Q',v9=pgv (cA p) Q'/\cs=[slv 305 5 Q'.Ac (cA p).code.length Q'.cc ((cA p).code.flatMap II.cells),sl .i64 3 Q'.Ad (cA p).RV.length Q'.cd (cA p).RV,sl .i64 3 Q'.Ar (cA p).RX.length Q'.cr (cA p).RX]):=by
 have hrc:=h.code;obtain⟨N,hN⟩:=Zgn (p.code.length);have hU0:gy p=jQ p.code N (iO (iO (iO (List.replicate N false) p.RV) p.RX) [p.flags,p.target]):=by unfold gy Hv;rw[hN]
 have hiD:∀n,n∈p.RV->n≠ -1->0<=n/\n.toNat<N:=λn hn _=>by have:=hraw.RV n hn;unfold II.in_ at this;omega
 have hiR:∀n,n∈p.RX->n≠ -1->0<=n/\n.toNat<N:=λn hn _=>by have:=hraw.RX n hn;unfold II.in_ at this;omega
 have hiF:∀n,n∈[p.flags,p.target]->n≠ -1->0<=n/\n.toNat<N:=λn hn h1=>by
  simp only[aG,aS,or_false]at hn;rcases hn with rfl|rfl
  .rcases hraw.flags with h2|h2
   .omega
   unfold II.in_ at h2;omega
  rcases hraw.target with h2|h2
  .omega
  unfold II.in_ at h2;omega
 have hvN:p.values=N:=by rw[hv,hN]
 have hoD2:∀n,n∈p.RV->0<=n/\n.toNat<N:=λn hn=>by have:=hraw.RV n hn;unfold II.in_ at this;omega
 have hoR2:∀n,n∈p.RX->0<=n/\n.toNat<N:=λn hn=>by have:=hraw.RX n hn;unfold II.in_ at this;omega
 have hfl:p.flags≠ -1->∃n:Nat,p.flags=n/\n<N:=λh1=>by
  rcases hraw.flags with h2|h2
  .omega
  unfold II.in_ at h2;grind
 have htg:p.target≠ -1->∃n:Nat,p.target=n/\n<N:=λh1=>by
  rcases hraw.target with h2|h2
  .omega
  unfold II.in_ at h2;grind
 obtain⟨Z,hZ⟩:=Zgn (List.replicate N false);have hZl:Z.length=N:=by rw[<-hZ];simp
 have hZv:(List.replicate N (.bool false:Value))=Z.map Value.bool:=by rw[<-hZ];simp
 rw[hZ]at hU0;obtain⟨P0,hP0⟩:=Zgn (List.replicate N (0:Int));have hP0l:P0.length=N:=by rw[<-hP0];simp
 have hPv:(List.replicate N (.i 0:Value))=ints .i64 P0:=by rw[<-hP0];simp[ints]
 refine Zfs func182 ntmps182 ?_;refine Z_2 ?_;refine ZO λb1=>?_;refine ZN λb2=>?_
 refine Z_6 ?_;refine fW (lC (bytes:=1) (n:=N) rfl rfl rfl rfl rfl hvN hvN Wq1 gq) rfl ?_;rintro _ _ ⟨b14,rfl,rfl⟩;rw[hZv];refine ZN λb3=>?_
 refine ZL ?_;refine Z_4 ?_;refine Zy (lX rfl) ?_;refine Z_8 ?_;refine fW (iM (usF b3 (sA b14) N N Z) rfl rfl (λ_ _=>rfl) Zi (λw hi hin=>qk b3 (sA b14) N N Z hZl Q.Ad Q.cd p.RV Wq1 bR w hin (λw' hk=>RdV.RT h.RV hi Zi hk))) rfl ?_;rintro _ _ ⟨_,rfl,rfl⟩;obtain⟨U1,hU1⟩:=Zgn (iO Z p.RV);have hl1:U1.length=N:=(by rw[<-hU1,fQ,hZl]);rw[hU1]at hU0|-;refine Z_7 ?_;refine fW (iM (usF b3 (sA b14) N N U1) rfl rfl (λ_ _=>rfl) Zi (λw hi hin=>qk b3 (sA b14) N N U1 hl1 Q.Ar Q.cr p.RX Wq1 bR w hin (λw' hk=>RdV.RT h.RX hi Zi hk))) rfl ?_;rintro _ _ ⟨_,rfl,rfl⟩;obtain⟨U2,hU2⟩:=Zgn (iO U1 p.RX);have hl2:U2.length=N:=(by rw[<-hU2,fQ,hl1]);rw[hU2]at hU0|-;refine Z_9 ?_;refine kY ?_;rintro _ _ ⟨b29,rfl,rfl⟩;refine fW (iM (usF b3 (sA b14) N N U2) rfl rfl (λ_ _=>rfl) Zi (λw hi hin=>qk b3 (sA b14) N N U2 hl2 (sA b29) 2 [p.flags,p.target] cH bR w hin (λw' hk=>dp (hi.SO Zi (show Has _ (slv 3 1 (sA b29) 2 2 (ints .i64 [p.flags,p.target]))from Zh) hk)))) rfl ?_;rintro _ _ ⟨_,rfl,rfl⟩;obtain⟨U3,hU3⟩:=Zgn (iO U2 [p.flags,p.target]);have hl3:U3.length=N:=(by rw[<-hU3,fQ,hl2]);rw[hU3]at hU0|-;refine Z_7 ?_;refine Zy (gr (Zv rfl) (Zv rfl) (show _=(N:Int) - 1 from by rw[hvN,bA];omega)) ?_;refine Z_4 ?_;refine bN (λq:Nat×List Bool=>[(1,.p b1),(2,.p b2),(3,.p b3),(4,.func (.func 225) #[] #[.p b3]),(5,.i ((q.1:Int) - 1))]) (λq=>[row b3 [.slice (sA b14) N N] 62,slv 4 1 (sA b14) N N (q.2.map Value.bool),row b1 (jD p Q) 258,pg0 b2]) (λq=>q.1<=N/\q.2.length=N/\jQ p.code q.1 q.2=gy p) (λq=>q.1) (⟨N,U3⟩) ?_ ?_ ?_ ?_
 .grind
 .exact Zwk
 .exact Zu
 rintro⟨k,V⟩ ⟨hk,hV,hB⟩;dsimp only at hk hV hB|-;refine Zw7 ?_ ?_<;>intro hc7
 .simp only[ae]at hc7;obtain⟨j,rfl⟩:∃j,k=j+1:=⟨k - 1,by omega⟩;have hjN:j<p.code.length:=Wq1;have hj5:((j+1:Nat):Int) - 1=(j:Int):=Wq1;rw[hj5];obtain⟨ad,had⟩:=hrc.some_ Wq1;have hrc2:=hrc;rw[had]at hrc2;obtain⟨x,hx⟩:∃x,p.code[j]? =some x:=⟨_,aa hjN⟩;have hgx:p.code.getD j II.zero=x:=bR;have hB:jQ p.code j (bif V.getD j false&&ly (p.code.getD j II.zero)then iO V [(p.code.getD j II.zero).a,(p.code.getD j II.zero).b]else V)=gy p:=hB;rw[hgx]at hB;obtain⟨op,dst,xa,xb,imm⟩:=x;dsimp only at hB;refine Z_9 ?_;refine Zy (fI (j:=j) had rfl Zrf Zv0 Zv0 Zrf (λ_=>hjN)) ?_;refine dK (bP (vs:=[.i op,.i dst,.i xa,.i xb,.w imm]) Zrf Zrf Zv0) (dY hrc2 (λi v hi=>da (f:=II.cells) Zrf (i:=i) hx hi)) rfl ?_;refine ZN λb6=>?_
  refine jh ?_;refine Zy (bV (bb:=b14) (o:=0) (n:=N) (c:=N) (j:=j) (sz:=1) (r:=j) rfl Zrf (Zv rfl) (Zv rfl) Zrf Wq2 Wq1) ?_;refine dK (bF Zrf (Zv rfl)) (cM Zh (Bh Wq1)) rfl (fD ?_);refine ZW ?_ ?_<;>intro hc10
  .have hc:(V.getD j false&&ly ⟨op,dst,xa,xb,imm⟩)=true:=hc10;rw[hc,ai]at hB;obtain⟨-,hab⟩:=Bool.and_eq_true_iff.1 hc;have hxi:=hraw.wf j _ hx hab;dsimp only at hxi;refine Z_6 ?_;refine kY ?_;rintro _ _ ⟨b62,rfl,rfl⟩;refine fW (iM (usF b3 (sA b14) N N V) rfl rfl (λ_ _=>rfl) Zi (λw hi hin=>qk b3 (sA b14) N N V hV (sA b62) 2 [xa,xb] cH (λn hn _=>by simp only[aG,aS,or_false]at hn;omega) w hin (λw' hk=>dp (hi.SO Zi (show Has _ (slv 3 1 (sA b62) 2 2 (ints .i64 [xa,xb]))from Zh) hk)))) rfl ?_;rintro _ _ ⟨_,rfl,rfl⟩;refine Z_5 ?_;refine oN ?_;refine Z_2 ?_;refine bJ ((⟨j,iO V [xa,xb]⟩:Nat×List Bool)) ?_ ?_ ?_
   .exact⟨⟨by omega,by dsimp only;rw[fQ,hV],hB⟩,by omega⟩
   .exact Zwk
   exact Zj
  have hc:(V.getD j false&&ly ⟨op,dst,xa,xb,imm⟩)=false:=hc10;rw[hc,ah]at hB;refine Z_5 ?_;refine oN ?_;refine Z_2 ?_;refine bJ ((⟨j,V⟩:Nat×List Bool)) ?_ ?_ ?_
  .grind
  .exact Zwk
  exact Zj
 simp only[ac]at hc7;obtain rfl:k=0:=by omega
 have hB:V=gy p:=hB;subst hB;refine Z_9 ?_;refine fW (lC (bytes:=8) (n:=N) rfl rfl rfl rfl rfl hvN hvN Wq1 gq) rfl ?_;rintro _ _ ⟨b66,rfl,rfl⟩;rw[hPv];refine ZN λb7=>?_
 refine ZL ?_;refine fB ?_;refine cT 305 5 (Z_7 ?_);refine bN (λq:Nat×List Int×List II×Option Addr×Nat=>[(1,.p b1),(2,.p b2),(3,.p b3),(7,.p b7),(8,.slice q.2.2.2.1 q.2.2.1.length q.2.2.2.2),(68,.slice Q.Ac p.code.length Q.cc),(69,.i p.code.length),(70,.i (q.1:Int))]) (λq=>[row b3 [.slice (sA b14) N N] 62,slv 4 1 (sA b14) N N ((gy p).map Value.bool),row b1 (jD p Q) 258,pg0 b2,sl .i64 3 (sA b66) N N q.2.1,row b7 [.slice (sA b66) N N] 55,slv 305 5 q.2.2.2.1 q.2.2.1.length q.2.2.2.2 (q.2.2.1.flatMap II.cells)]) (λq=>q.1<=N/\q.2.1.length=N/\q.2.2.1.length<=q.1/\nD (gy p) (p.code.drop q.1) q.1 q.2.1 q.2.2.1=eK p) (λq=>N - q.1) (⟨0,P0,[],none,0⟩) ?_ ?_ ?_ ?_
 .exact⟨au _,hP0l,au _,by unfold eK;grind⟩
 .exact Zwk
 .exact Zu
 rintro⟨i,pl,c,A,cc⟩ ⟨hi9,hpl,hcl,hW⟩;dsimp only at hi9 hpl hcl hW|-;refine Zw6 ?_ ?_<;>intro hc15
 .simp only[ae]at hc15;have hiN:i<p.code.length:=Wq1;obtain⟨ad,had⟩:=hrc.some_ Wq1;have hrc2:=hrc;rw[had]at hrc2;obtain⟨x,hx⟩:∃x,p.code[i]? =some x:=⟨_,aa hiN⟩;rw[jz hx]at hW;have hW:(bif(gy p).getD i false then nD (gy p) (p.code.drop (i+1)) (i+1) (pl.set i (c.length:Int)) (c++[o3 x (pl.set i (c.length:Int)) c.length])else nD (gy p) (p.code.drop (i+1)) (i+1) pl c)=eK p:=hW;have hwf:=hraw.wf i x hx;obtain⟨op,dst,xa,xb,imm⟩:=x;dsimp only at hwf;refine Z_7 ?_;refine Zy (fI (j:=i) had rfl Zrf Zv0 Zv0 Zrf (λ_=>hiN)) ?_;refine Wq172 ?_;refine ZN λb10=>?_
  refine ZA ?_;refine ZM ?_;refine Z_7 ?_;refine Zy (bV (bb:=b14) (o:=0) (n:=N) (c:=N) (j:=i) (sz:=1) (r:=i) rfl Zrf (Zv rfl) (Zv rfl) Zrf Wq2 Wq1) ?_;refine dK (bF Zrf (Zv rfl)) (cM Zh (Bh Wq1)) rfl (Zw3 ?_ ?_)<;>intro hc17
  .have hu:(gy p).getD i false=false:=bR;rw[hu,ah]at hW;refine gv ?_;refine bJ ((⟨i+1,pl,c,A,cc⟩:Nat×List Int×List II×Option Addr×Nat)) ?_ ?_ ?_
   .grind
   .exact Zwk
   exact Zj
  have hu:(gy p).getD i false=true:=bR;rw[hu,ai]at hW;obtain⟨pl2,hpl2⟩:=Zgn (pl.set i (c.length:Int));have hpl2l:pl2.length=N:=bR;rw[hpl2]at hW;refine Z_8 ?_;refine Zy (bV (bb:=b66) (o:=0) (n:=N) (c:=N) (j:=i) (sz:=1) (r:=i) rfl Zrf (Zv rfl) (Zv rfl) Zrf Wq2 Wq1) ?_;refine eE (iK Zrf rfl rfl rfl Za Wq1) ?_;rintro _ _ ⟨rfl,rfl⟩;rw[nB,hpl2];refine Z_2 ?_;refine cD (λq:Int×Int=>[(1,.p b1),(2,.p b2),(3,.p b3),(7,.p b7),(8,.slice A c.length cc),(10,.p b10),(68,.slice Q.Ac p.code.length Q.cc),(69,.i p.code.length),(70,.i (i:Int))]) (λq=>[row b3 [.slice (sA b14) N N] 62,slv 4 1 (sA b14) N N ((gy p).map Value.bool),row b1 (jD p Q) 258,pg0 b2,row b7 [.slice (sA b66) N N] 55,sl .i64 3 (sA b66) N N pl2,slv 305 5 A c.length cc (c.flatMap II.cells),row b10 [.i op,.i dst,.i q.1,.i q.2,.w imm] 305]) (λq=>o3 ⟨op,dst,xa,xb,imm⟩ pl2 c.length=⟨op,c.length,q.1,q.2,imm⟩) ?_ ?_
  .refine fD ?_;refine ZW ?_ ?_<;>intro hc19
   .have hab:ly ⟨op,dst,xa,xb,imm⟩=true:=hc19;obtain⟨⟨a1,a2⟩,a3,a4⟩:=hwf hab;obtain⟨na,rfl⟩:∃n:Nat,xa=n:=ap a1;obtain⟨nb,rfl⟩:∃n:Nat,xb=n:=ap a3;have hsw:o3 ⟨op,dst,na,nb,imm⟩ pl2 c.length=⟨op,c.length,pl2.getD na 0,pl2.getD nb 0,imm⟩:=(by unfold o3;rw[hab];rfl);refine bL ⟨λj=>List.elem j [11,13],[]⟩ Zk (ZG 0 ?_);refine ZFe 1 2 ?_;refine ZG 2 ?_;refine Zy4 3 rfl (bV (bb:=b66) (o:=0) (n:=N) (c:=N) (j:=na) (sz:=1) (r:=na) rfl Zrf (Zv rfl) (Zv rfl) Zrf Wq2 Wq1) ?_;refine Zy5 4 rfl (bF Zrf (Zv rfl)) (cM Zh (iP Wq1)) ?_;refine ZFe 6 3 ?_;refine ZG 7 ?_;refine ZFe 10 2 ?_;refine ke 5 11 Zk ?_ ?_
    .refine lR ?_;refine Zy4 8 rfl (bV (bb:=b66) (o:=0) (n:=N) (c:=N) (j:=nb) (sz:=1) (r:=nb) rfl Zrf (Zv rfl) (Zv rfl) Zrf Wq2 Wq1) ?_;refine ke 9 11 Zk ?_ ?_
     .refine GC rfl (bF Zrf (Zv rfl)) (cM Zh (iP Wq1)) rfl (cn 11 Zk (ZQ ?_));refine ZFe 12 3 ?_;refine cn 13 Zk (nO ?_);refine bJ ((⟨pl2.getD na 0,pl2.getD nb 0⟩:Int×Int)) ?_ ?_ ?_
      .exact hsw
      .exact Zwk
      exact Zj
     refine ZQ ?_;refine Zy5 9 rfl (bF Zrf (Zv rfl)) (cM Zh (iP Wq1)) ?_;refine ZFe 12 3 ?_;refine cn 13 Zk (nO ?_);refine bJ ((⟨pl2.getD na 0,pl2.getD nb 0⟩:Int×Int)) ?_ ?_ ?_
     .exact hsw
     .exact Zwk
     exact Zj
    refine ZQ ?_;refine ZG 5 ?_;refine Zy4 8 rfl (bV (bb:=b66) (o:=0) (n:=N) (c:=N) (j:=nb) (sz:=1) (r:=nb) rfl Zrf (Zv rfl) (Zv rfl) Zrf Wq2 Wq1) ?_;refine Zy5 9 rfl (bF Zrf (Zv rfl)) (cM Zh (iP Wq1)) ?_;refine ZFe 12 3 ?_;refine cn 13 Zk (nO ?_);refine bJ ((⟨pl2.getD na 0,pl2.getD nb 0⟩:Int×Int)) ?_ ?_ ?_
    .exact hsw
    .exact Zwk
    exact Zj
   have hab:ly ⟨op,dst,xa,xb,imm⟩=false:=hc19;have hsw:o3 ⟨op,dst,xa,xb,imm⟩ pl2 c.length=⟨op,c.length,xa,xb,imm⟩:=(by unfold o3;grind);refine Zc (bJ ((⟨xa,xb⟩:Int×Int)) ?_ ?_ ?_)
   .exact hsw
   .exact Zwk
   exact Zj
  rintro⟨ya,yb⟩ hsw;dsimp only at hsw|-;rw[hsw]at hW;refine Z_5 ?_;refine ZL ?_;refine Z_5 ?_;refine jj ?_;rintro _ _ ⟨b110,rfl,rfl⟩;refine fW (cj (n:=c.length) (e:=305) (sz:=5) (bytes:=40) rfl rfl Za rfl rfl (λw hi=>hi.rd (show Has _ (slv 305 5 (sA b110) 1 1 [.i op,.i c.length,.i ya,.i yb,.w imm])from Zh)) (one5 _ _ _ _ _) gq Wq1) rfl ?_;rintro _ _ ⟨A2,c2,rfl,rfl⟩;rw[Lu c ⟨op,c.length,ya,yb,imm⟩,show c.length+1=(c++[(⟨op,c.length,ya,yb,imm⟩:II)]).length by simp];refine gv ?_;refine bJ ((⟨i+1,pl2,c++[⟨op,c.length,ya,yb,imm⟩],A2,c2⟩:Nat×List Int×List II×Option Addr×Nat)) ?_ ?_ ?_
  .grind
  .exact Zwk
  exact Zj
 simp only[ac]at hc15;obtain rfl:i=N:=Wq1;rw[List.drop_of_length_le Wq1]at hW;have hW:(pl,c)=eK p:=hW;have hsT:∀fl tg,ib pl p.flags=fl->ib pl p.target=tg->cA p=⟨c,p.RI,p.RJ,p.Sn,p.Sq,dR pl p.RV,dR pl p.RX,fl,p.next,tg,p.branch,p.taken,p.count,c.length⟩:=(by intro fl tg h1 h2;unfold cA;grind);refine Z_7 ?_;refine Zy (lX rfl) ?_;refine Z_4 ?_;refine ig ⟨λj=>List.elem j [6,10,12,14,16,18],[]⟩ [(0,0),(1,0),(2,0),(3,0),(4,0),(5,4),(7,0),(8,0),(6,3),(9,3),(10,3),(11,3),(12,3),(13,3),(14,3),(15,3),(16,3),(17,3),(18,3)] Zk Zk (nN ?_);refine nN ?_;refine dx rfl (y_len ⟨_,rfl⟩ Zv0) rfl (nN ?_);refine dx rfl (dF 5 rfl Zv0 Zf) rfl (MS ?_);refine nN ?_;refine dx rfl (dF 6 rfl Zv0 Zf) rfl (Nu [(6,[(9,1),(11,0),(10,2),(12,2),(13,0),(14,2),(15,0),(16,2),(17,0),(18,2)]),(9,[(11,0),(6,2),(10,2),(12,2),(13,0),(14,2),(15,0),(16,2),(17,0),(18,2)])] Zk (.cons ?_ (.cons ?_ .nil)))
 .refine Wq255 ?_;rintro _ _ ⟨_,⟨A3,c3,rfl,rfl⟩,rfl⟩;refine AZ rfl (bF Zrf Zv0) (cN Zh rfl) rfl (dx rfl (dF 0 rfl Zv0 Zf) rfl (Wq235 ?_));rintro _ _ ⟨_,⟨A4,c4,rfl,rfl⟩,rfl⟩;refine CY ?_;rintro _ _ ⟨rfl,rfl⟩;refine dx rfl (dF 13 rfl Zv0 Zf) rfl (CY ?_);rintro _ _ ⟨rfl,rfl⟩;refine dx rfl (dF 5 rfl Zv0 Zf) rfl (CY ?_);rintro _ _ ⟨rfl,rfl⟩;refine dx rfl (dF 6 rfl Zv0 Zf) rfl (CY ?_);rintro _ _ ⟨rfl,rfl⟩;refine lb (Zw9 ?_ ?_)<;>intro hc26
  .have hf1:p.flags≠ -1:=(by simpa using hc26);obtain⟨nf,hnf,hnf2⟩:=hfl hf1;have hm1:ib pl p.flags=pl.getD nf 0:=(by unfold ib;rw[hc26,ai,hnf,aM]);refine Wq284 ?_;refine ZW ?_ ?_<;>intro hc28
   .exact Wq78
   exact QH
  have hm1:ib pl p.flags=p.flags:=(by unfold ib;rw[hc26,ah]);refine pV ?_ ?_<;>intro hc28
  .exact Wq78
  exact QH
 refine QW rfl (bF Zrf Zv0) (cN Zh rfl) rfl (dx rfl (dF 0 rfl Zv0 Zf) rfl (eW ?_));refine Wq255 ?_;rintro _ _ ⟨_,⟨A3,c3,rfl,rfl⟩,rfl⟩;refine Wq235 ?_;rintro _ _ ⟨_,⟨A4,c4,rfl,rfl⟩,rfl⟩;refine CY ?_;rintro _ _ ⟨rfl,rfl⟩;refine dx rfl (dF 13 rfl Zv0 Zf) rfl (CY ?_);rintro _ _ ⟨rfl,rfl⟩;refine dx rfl (dF 5 rfl Zv0 Zf) rfl (CY ?_);rintro _ _ ⟨rfl,rfl⟩;refine dx rfl (dF 6 rfl Zv0 Zf) rfl (CY ?_);rintro _ _ ⟨rfl,rfl⟩;refine lb (Zw9 ?_ ?_)<;>intro hc26
 .have hf1:p.flags≠ -1:=(by simpa using hc26);obtain⟨nf,hnf,hnf2⟩:=hfl hf1;have hm1:ib pl p.flags=pl.getD nf 0:=(by unfold ib;rw[hc26,ai,hnf,aM]);refine Wq284 ?_;refine ZW ?_ ?_<;>intro hc28
  .exact Wq78
  exact QH
 have hm1:ib pl p.flags=p.flags:=(by unfold ib;rw[hc26,ah]);refine pV ?_ ?_<;>intro hc28
 .exact Wq78
 exact QH
end
end Go.Ink
