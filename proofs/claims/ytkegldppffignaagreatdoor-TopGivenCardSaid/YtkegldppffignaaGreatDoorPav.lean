/- Lemmas. -/
import Derived.Test.YtkegldppffignaaGreatDoorPaa
import Derived.Test.YtkegldppffignaaGreatDoorPab
import Derived.Test.YtkegldppffignaaGreatDoorPam
import Derived.Test.YtkegldppffignaaGreatDoorPau
set_option linter.unusedSimpArgs false
set_option linter.unusedVariables false
set_option maxRecDepth 100000
set_option maxHeartbeats 4000000
namespace Go.Ink
open Go.RowKit
theorem Lw.sm.mono{L:Lw}{n m:Nat}(h:L.sm n)(hnm:n<=m):L.sm m:=⟨aW h.code hnm,aW h.dl hnm,aW h.rl hnm,⟨h.dn.1,by have:=h.dn.2;omega⟩,⟨h.rn.1,by have:=h.rn.2;omega⟩⟩
theorem Gm{k:Int}{code:List II}{s:Sd}{n:Nat}(h1:code.length<=n)(h2:s.l.length<=n)(h3:0<=s.MN/\s.MN<=n):(fj k code s).2.1.length<=n+1/\(fj k code s).2.2.l.length<=n+1/\(0<=(fj k code s).2.2.MN/\(fj k code s).2.2.MN<=(n+1:Nat)):=by
 unfold fj;split
 .refine⟨by show code.length<=_;omega,by show s.l.dropLast.length<=_;rw[List.length_dropLast];omega,h3.1,?_⟩;show s.MN<=_;omega
 refine⟨by show(code++[_]).length<=_;simp;omega,aq _,?_,?_⟩
 .show 0<=s.MN+1;omega
 show s.MN+1<=_;omega
theorem gV{L:Lw}{n:Nat}(h:L.sm n){C:List II}{s:Sd}(hC:C=(fj 1 L.code L.d).2.1)(hs:s=(fj 1 L.code L.d).2.2)(f t br:Int):Lw.sm ⟨C,s,L.r,f,t,br⟩ (n+1):=by
 subst hC hs;obtain⟨h1,h2,h3⟩:=Gm (k:=1) h.code h.dl h.dn;exact⟨h1,h2,aW h.rl Wq1,h3,⟨h.rn.1,by have:=h.rn.2;show L.r.MN<=_;omega⟩⟩
theorem sm_popR{L:Lw}{n:Nat}(h:L.sm n){C:List II}{s:Sd}(hC:C=(fj 2 L.code L.r).2.1)(hs:s=(fj 2 L.code L.r).2.2)(f t br:Int):Lw.sm ⟨C,L.d,s,f,t,br⟩ (n+1):=by
 subst hC hs;obtain⟨h1,h2,h3⟩:=Gm (k:=2) h.code h.rl h.rn;exact⟨h1,aW h.dl Wq1,h2,⟨h.dn.1,by have:=h.dn.2;show L.d.MN<=_;omega⟩,h3⟩
theorem vg{L:Lw}{n:Nat}(h:L.sm n)(op a b i:Int):(L.add op a b i).sm (n+1):=⟨by have:=h.code;show(L.code++[_]).length<=_;simp;omega,aW h.dl Wq1,aW h.rl Wq1,⟨h.dn.1,by have:=h.dn.2;show L.d.MN<=_;omega⟩,⟨h.rn.1,by have:=h.rn.2;show L.r.MN<=_;omega⟩⟩
theorem qg{L:Lw}{n:Nat}(h:L.sm n)(l:List Int)(hl:l.length<=3):(L.Nu l).sm (n+3):=⟨aW h.code Wq1,by have:=h.dl;show(L.d.l++l).length<=_;rw[ae];omega,aW h.rl Wq1,⟨h.dn.1,by have:=h.dn.2;show L.d.MN<=_;omega⟩,⟨h.rn.1,by have:=h.rn.2;show L.r.MN<=_;omega⟩⟩
theorem F3{L:Lw}{n:Nat}(h:L.sm n)(l:List Int)(hl:l.length<=3):(L.N1 l).sm (n+3):=⟨aW h.code Wq1,aW h.dl Wq1,by have:=h.rl;show(L.r.l++l).length<=_;rw[ae];omega,⟨h.dn.1,by have:=h.dn.2;show L.d.MN<=_;omega⟩,⟨h.rn.1,by have:=h.rn.2;show L.r.MN<=_;omega⟩⟩
theorem ru{L:Lw}{n:Nat}(h:L.sm n):L.MP.2.sm (n+1):=gV h rfl rfl _ _ _
theorem sm_pR{L:Lw}{n:Nat}(h:L.sm n):L.Nn.2.sm (n+1):=sm_popR h rfl rfl _ _ _
theorem sI{L:Lw}{n:Nat}(h:L.sm n)(f t br:Int):Lw.sm ⟨L.code,L.d,L.r,f,t,br⟩ n:=⟨h.code,h.dl,h.rl,h.dn,h.rn⟩
theorem sm_go{L:Lw}{n:Nat}(h:L.sm n)(op i next:Int):(L.go op i next).sm (n+10):=by
 unfold Lw.go Lw.reckon;cases op==1||op==2<;>simp only[ac,aa]
 case true=>exact(qg (vg h _ _ _ _) _ cE).mono Wq1
 cases op==3<;>simp only[ac,aa]
 case true=>exact(qg (ru h) _ cE).mono Wq1
 cases op==4<;>simp only[ac,aa]
 case true=>exact(ru h).mono Wq1
 cases op==5<;>simp only[ac,aa]
 case true=>exact(qg (ru (ru h)) _ cE).mono Wq1
 cases op==6<;>simp only[ac,aa]
 case true=>exact(qg (ru (ru h)) _ cE).mono Wq1
 cases op==7<;>simp only[ac,aa]
 case true=>exact(F3 (ru h) _ cE).mono Wq1
 cases op==8<;>simp only[ac,aa]
 case true=>exact(qg (sm_pR h) _ cE).mono Wq1
 cases decide (16<=op)&&decide (op<=25)<;>simp only[ac,aa]
 case true=>
  cases op !=25<;>simp only[ac,aa]
  .exact(sI (vg (ru (ru h)) _ _ _ _) _ _ _).mono Wq1
  exact(qg (vg (sI (vg (ru (ru h)) _ _ _ _) _ _ _) _ _ _ _) _ cE).mono Wq1
 cases op==38<;>simp only[ac,aa]
 case true=>exact(F3 (vg h _ _ _ _) _ cE).mono Wq1
 cases op==39<;>simp only[ac,aa]
 case true=>exact(sI (sm_pR h) _ _ _).mono Wq1
 cases op==40<;>simp only[ac,aa]
 case true=>exact(sI (ru h) _ _ _).mono Wq1
 cases decide (33<=op)&&decide (op<=37)<;>simp only[ac,aa]
 .exact h.mono Wq1
 exact(sI h _ _ _).mono Wq1
end Go.Ink
namespace Go.Proofs.YtkegldppffignaaGreatDoor
open Go.RowKit Go.Ink Go.Proofs.Tryz
attribute [local irreducible] OpY bS
theorem GS(b:Nat)(N:Int)(L:Lw)(X:LAd)(hs:L.sm 1000)(w:World)(hi:Inv w (bM (lwF b N L X)) (lwF b N L X) w):
  Ctr prog 214 [.pointer (some ⟨b,14,none⟩)] w (lwF b N L X) (λ_ cs=>cs=lwF b N ⟨L.code,L.d.top,L.r,L.flags,L.target,L.branch⟩ X):=KK b N L.code L.r L.d.l L.d.MN L.d.high L.flags L.target L.branch X hs.dl hs.dn w hi
theorem GR(b:Nat)(N:Int)(L:Lw)(X:LAd)(hs:L.sm 1000)(w:World)(hi:Inv w (bM (lwF b N L X)) (lwF b N L X) w):
  Ctr prog 214 [.pointer (some ⟨b,18,none⟩)] w (lwF b N L X) (λ_ cs=>cs=lwF b N ⟨L.code,L.d,L.r.top,L.flags,L.target,L.branch⟩ X):=KJ b N L.code L.d L.r.l L.r.MN L.r.high L.flags L.target L.branch X hs.rl hs.rn w hi
theorem lone_ok(b:Nat)(N:Int)(L:Lw)(X:LAd)(hs:L.sm 500)(op n next:Int)(w:World)(hi:Inv w (bM (lwF b N L X)) (lwF b N L X) w):
  Ctr prog 170 [.pointer (some ⟨b,0,none⟩),.agg #[.int .i64 op,.int .u32 n],.int .u32 next] w (lwF b N L X) (λ_ cs=>∃L' X',L'=L.one op n next/\cs=lwF b N L' X'):=by
 have hgo:=sm_go hs op n next
 refine bN func170 rfl ntmps170 rfl hi ?_;refine Z_2 ?_;refine ZO λb4=>?_;refine Z_3 ?_;refine bU ⟨λj=>List.elem j [],[]⟩ Zk ?_;refine gO ?_;refine ZFe 2 14 ?_;refine ZE 3 ?_;refine ZE 4 ?_;refine ZFe 5 18 ?_;refine ZE 6 ?_;refine ZE 7 ?_;refine dx ?_;refine Zt ?_;refine da (λq:Lw×LAd=>[(0,.pointer (some ⟨b,0,none⟩)),(6,.pointer (some ⟨b,14,none⟩)),(7,.pointer (some ⟨b,18,none⟩))]) (λq=>lwF b N q.1 q.2) (λq=>q.1=L.go op n next) ?_ ?_
 .refine Je ?_;refine ZW ?_ ?_<;>intro hc3
  .refine bU ⟨λj=>List.elem j [8,10,13],sQ b4 [.int .i64 op,.int .u32 n]⟩ Zk ?_;refine gO ?_;refine ZE 2 ?_;refine ZFe 3 0 ?_;refine ZE 5 ?_;refine ZFe 6 1 ?_;refine iV 7 rfl Zk Zk Zk (bQ Zrf (Zv rfl)) Wq2 (bV (t:=27) Zh) rfl ?_;refine k8 4 8 Zk ?_ ?_
   .refine kY ?_;refine cn 8 Zk ?_;refine kf rfl rfl (dY (lwF b N L X) rfl (λ_ _=>rfl) Zi (λw hi hin=>pE b N L X (hs.mono Wq1) n w hin)) (λ_=>by rintro _ _ ⟨_,⟨rfl,C2,A2,c2,hC2,rfl⟩,rfl⟩;exact bV (t:=27) Zh) rfl ?_;rintro _ _ ⟨_,⟨rfl,C2,A2,c2,hC2,rfl⟩,rfl⟩;refine cn 9 Zk ?_;refine kf rfl rfl (g9 rfl rfl Zrf Zrf rfl rfl) (λ_=>by rintro _ _ ⟨b40,rfl,rfl⟩;exact bV (t:=27) Zh) rfl ?_;rintro _ _ ⟨b40,rfl,rfl⟩;refine cn 10 Zk ?_;have hbd:L.d.l.length<=600:=aW hs.dl Wq1;refine kf rfl rfl (cD (n:=L.d.l.length) (e:=3) (sz:=1) (bytes:=8) rfl rfl Za rfl rfl (λw hi=>hi.rd (show Has _ (slv 3 1 (some ⟨b40,0,none⟩) 1 1 (ints .i64 [L.here]))from Zh)) cN gS Wq1) (λ_=>by rintro _ _ ⟨A9,c9,rfl,rfl⟩;exact bV (t:=27) Zh) rfl ?_;rintro _ _ ⟨A9,c9,rfl,rfl⟩;rw[cj,show L.d.l.length+1=(L.d.l++[L.here]).length by simp];refine ZE 11 ?_;refine ZFe 12 0 ?_;refine cn 13 Zk ?_;refine du rfl rfl (fq Zrf rfl rfl rfl Za Zp) (λ_=>by rintro _ _ ⟨rfl,rfl⟩;exact bV (t:=27) Zh) ?_;rintro _ _ ⟨rfl,rfl⟩;refine dx ?_;refine Zo ?_;refine bX (((⟨C2,⟨L.d.l++[L.here],L.d.MN,L.d.high⟩,L.r,L.flags,L.target,L.branch⟩,⟨A2,c2,A9,c9,X.Ar,X.cr⟩):Lw×LAd)) ?_ ?_ ?_
    ·(dsimp only;subst hC2;unfold Lw.go;rw[hc3];rfl)
    .exact Zwk
    exact Zj
   refine kf rfl rfl (dY (lwF b N L X) rfl (λ_ _=>rfl) Zi (λw hi hin=>pE b N L X (hs.mono Wq1) n w hin)) (λ_=>by rintro _ _ ⟨_,⟨rfl,C2,A2,c2,hC2,rfl⟩,rfl⟩;exact bV (t:=27) Zh) rfl ?_;rintro _ _ ⟨_,⟨rfl,C2,A2,c2,hC2,rfl⟩,rfl⟩;refine ZG 4 ?_;refine cn 9 Zk ?_;refine kf rfl rfl (g9 rfl rfl Zrf Zrf rfl rfl) (λ_=>by rintro _ _ ⟨b40,rfl,rfl⟩;exact bV (t:=27) Zh) rfl ?_;rintro _ _ ⟨b40,rfl,rfl⟩;refine cn 10 Zk ?_;have hbd:L.d.l.length<=600:=aW hs.dl Wq1;refine kf rfl rfl (cD (n:=L.d.l.length) (e:=3) (sz:=1) (bytes:=8) rfl rfl Za rfl rfl (λw hi=>hi.rd (show Has _ (slv 3 1 (some ⟨b40,0,none⟩) 1 1 (ints .i64 [L.here]))from Zh)) cN gS Wq1) (λ_=>by rintro _ _ ⟨A9,c9,rfl,rfl⟩;exact bV (t:=27) Zh) rfl ?_;rintro _ _ ⟨A9,c9,rfl,rfl⟩;rw[cj,show L.d.l.length+1=(L.d.l++[L.here]).length by simp];refine ZE 11 ?_;refine ZFe 12 0 ?_;refine cn 13 Zk ?_;refine du rfl rfl (fq Zrf rfl rfl rfl Za Zp) (λ_=>by rintro _ _ ⟨rfl,rfl⟩;exact bV (t:=27) Zh) ?_;rintro _ _ ⟨rfl,rfl⟩;refine dx ?_;refine Zo ?_;refine bX (((⟨C2,⟨L.d.l++[L.here],L.d.MN,L.d.high⟩,L.r,L.flags,L.target,L.branch⟩,⟨A2,c2,A9,c9,X.Ar,X.cr⟩):Lw×LAd)) ?_ ?_ ?_
   ·(dsimp only;subst hC2;unfold Lw.go;rw[hc3];rfl)
   .exact Zwk
   exact Zj
  refine Z_7 ?_;refine ZW ?_ ?_<;>intro hc5
  .refine Z_4 ?_;refine ZcL (lwF b N L X) (λw hi hin=>i4 b N L X (hs.mono Wq1) w hin) ?_;rintro _ _ ⟨_,⟨rfl,C2,s2,A2,c2,hC2,hs2,rfl⟩,rfl⟩;refine fE ?_;refine jO ?_;rintro _ _ ⟨b57,rfl,rfl⟩;have hbd:s2.l.length<=600:=aW (gV hs hC2 hs2 0 0 0).dl Wq1;refine gj (cD (n:=s2.l.length) (e:=3) (sz:=1) (bytes:=8) rfl rfl Za rfl rfl (λw hi=>hi.rd (show Has _ (slv 3 1 (some ⟨b57,0,none⟩) 2 2 (ints .i64 [(fj 1 L.code L.d).1,(fj 1 L.code L.d).1]))from Zh)) cN gS Wq1) rfl ?_;rintro _ _ ⟨A9,c9,rfl,rfl⟩;rw[cj,show s2.l.length+2=(s2.l++[(fj 1 L.code L.d).1,(fj 1 L.code L.d).1]).length by simp];refine Z_2 ?_;refine ZL ?_;refine Z_2 ?_;refine bX (((⟨C2,⟨s2.l++[(fj 1 L.code L.d).1,(fj 1 L.code L.d).1],s2.MN,s2.high⟩,L.r,L.flags,L.target,L.branch⟩,⟨A2,c2,A9,c9,X.Ar,X.cr⟩):Lw×LAd)) ?_ ?_ ?_
   ·(dsimp only;subst hC2 hs2;unfold Lw.go;rw[hc3,hc5];rfl)
   .exact Zwk
   exact Zj
  refine Z_7 ?_;refine ZW ?_ ?_<;>intro hc8
  .refine Z_3 ?_;refine ZcL (lwF b N L X) (λw hi hin=>i4 b N L X (hs.mono Wq1) w hin) ?_;rintro _ _ ⟨_,⟨rfl,C2,s2,A2,c2,hC2,hs2,rfl⟩,rfl⟩;refine Z_2 ?_;refine bX (((⟨C2,s2,L.r,L.flags,L.target,L.branch⟩,⟨A2,c2,X.Ad,X.cd,X.Ar,X.cr⟩):Lw×LAd)) ?_ ?_ ?_
   ·(dsimp only;subst hC2 hs2;unfold Lw.go;rw[hc3,hc5,hc8];rfl)
   .exact Zwk
   exact Zj
  refine Z_7 ?_;refine ZW ?_ ?_<;>intro hc10
  .refine Z_4 ?_;refine ZcL (lwF b N L X) (λw hi hin=>i4 b N L X (hs.mono Wq1) w hin) ?_;rintro _ _ ⟨_,⟨rfl,C2,s2,A2,c2,hC2,hs2,rfl⟩,rfl⟩;refine Z_7 ?_;refine ZcL (lwF b N ⟨C2,s2,L.r,L.flags,L.target,L.branch⟩ ⟨A2,c2,X.Ad,X.cd,X.Ar,X.cr⟩) (λw hi hin=>i4 b N ⟨C2,s2,L.r,L.flags,L.target,L.branch⟩ ⟨A2,c2,X.Ad,X.cd,X.Ar,X.cr⟩ ((gV hs hC2 hs2 _ _ _).mono Wq1) w hin) ?_;rintro _ _ ⟨_,⟨rfl,C3,s3,A3,c3,hC3,hs3,rfl⟩,rfl⟩;refine fE ?_;refine jO ?_;rintro _ _ ⟨b83,rfl,rfl⟩;have hbd:s3.l.length<=600:=aW (gV (gV hs hC2 hs2 L.flags L.target L.branch) hC3 hs3 0 0 0).dl Wq1;refine gj (cD (n:=s3.l.length) (e:=3) (sz:=1) (bytes:=8) rfl rfl Za rfl rfl (λw hi=>hi.rd (show Has _ (slv 3 1 (some ⟨b83,0,none⟩) 2 2 (ints .i64 [(fj 1 L.code L.d).1,(fj 1 C2 s2).1]))from Zh)) cN gS Wq1) rfl ?_;rintro _ _ ⟨A9,c9,rfl,rfl⟩;rw[cj,show s3.l.length+2=(s3.l++[(fj 1 L.code L.d).1,(fj 1 C2 s2).1]).length by simp];refine Z_2 ?_;refine ZL ?_;refine Z_2 ?_;refine bX (((⟨C3,⟨s3.l++[(fj 1 L.code L.d).1,(fj 1 C2 s2).1],s3.MN,s3.high⟩,L.r,L.flags,L.target,L.branch⟩,⟨A3,c3,A9,c9,X.Ar,X.cr⟩):Lw×LAd)) ?_ ?_ ?_
   ·(dsimp only;subst hC3 hs3 hC2 hs2;unfold Lw.go;rw[hc3,hc5,hc8,hc10];rfl)
   .exact Zwk
   exact Zj
  refine Z_7 ?_;refine ZW ?_ ?_<;>intro hc14
  .refine Z_4 ?_;refine ZcL (lwF b N L X) (λw hi hin=>i4 b N L X (hs.mono Wq1) w hin) ?_;rintro _ _ ⟨_,⟨rfl,C2,s2,A2,c2,hC2,hs2,rfl⟩,rfl⟩;refine Z_7 ?_;refine ZcL (lwF b N ⟨C2,s2,L.r,L.flags,L.target,L.branch⟩ ⟨A2,c2,X.Ad,X.cd,X.Ar,X.cr⟩) (λw hi hin=>i4 b N ⟨C2,s2,L.r,L.flags,L.target,L.branch⟩ ⟨A2,c2,X.Ad,X.cd,X.Ar,X.cr⟩ ((gV hs hC2 hs2 _ _ _).mono Wq1) w hin) ?_;rintro _ _ ⟨_,⟨rfl,C3,s3,A3,c3,hC3,hs3,rfl⟩,rfl⟩;refine gR ?_;refine jO ?_;rintro _ _ ⟨b104,rfl,rfl⟩;have hbd:s3.l.length<=600:=aW (gV (gV hs hC2 hs2 L.flags L.target L.branch) hC3 hs3 0 0 0).dl Wq1;refine gj (cD (n:=s3.l.length) (e:=3) (sz:=1) (bytes:=8) rfl rfl Za rfl rfl (λw hi=>hi.rd (show Has _ (slv 3 1 (some ⟨b104,0,none⟩) 3 3 (ints .i64 [(fj 1 C2 s2).1,(fj 1 L.code L.d).1,(fj 1 C2 s2).1]))from Zh)) cN gS Wq1) rfl ?_;rintro _ _ ⟨A9,c9,rfl,rfl⟩;rw[cj,show s3.l.length+3=(s3.l++[(fj 1 C2 s2).1,(fj 1 L.code L.d).1,(fj 1 C2 s2).1]).length by simp];refine Z_2 ?_;refine ZL ?_;refine Z_2 ?_;refine bX (((⟨C3,⟨s3.l++[(fj 1 C2 s2).1,(fj 1 L.code L.d).1,(fj 1 C2 s2).1],s3.MN,s3.high⟩,L.r,L.flags,L.target,L.branch⟩,⟨A3,c3,A9,c9,X.Ar,X.cr⟩):Lw×LAd)) ?_ ?_ ?_
   ·(dsimp only;subst hC3 hs3 hC2 hs2;unfold Lw.go;rw[hc3,hc5,hc8,hc10,hc14];rfl)
   .exact Zwk
   exact Zj
  refine Z_7 ?_;refine ZW ?_ ?_<;>intro hc18
  .refine bU ⟨λj=>List.elem j [7,9,12],[]⟩ Zk ?_;refine gO ?_;refine ZE 2 ?_;refine ZFe 3 0 ?_;refine ZE 5 ?_;refine ZE 6 ?_;refine k8 4 7 Zk ?_ ?_
   .refine kY ?_;refine cn 7 Zk ?_;refine ZcA (lwF b N L X) (λw hi hin=>i4 b N L X (hs.mono Wq1) w hin) ?_;rintro _ _ ⟨_,⟨rfl,C2,s2,A2,c2,hC2,hs2,rfl⟩,rfl⟩;refine cn 8 Zk ?_;refine xI ?_;rintro _ _ ⟨b119,rfl,rfl⟩;refine cn 9 Zk ?_;have hbd:L.r.l.length<=600:=aW hs.rl Wq1;refine kf rfl rfl (cD (n:=L.r.l.length) (e:=3) (sz:=1) (bytes:=8) rfl rfl Za rfl rfl (λw hi=>hi.rd (show Has _ (slv 3 1 (some ⟨b119,0,none⟩) 1 1 (ints .i64 [(fj 1 L.code L.d).1]))from Zh)) cN gS Wq1) ZJ rfl ?_;rintro _ _ ⟨A9,c9,rfl,rfl⟩;rw[cj,show L.r.l.length+1=(L.r.l++[(fj 1 L.code L.d).1]).length by simp];refine ZE 10 ?_;refine ZFe 11 0 ?_;refine cn 12 Zk ?_;refine ZQ ?_;refine dx ?_;refine Zo ?_;refine bX (((⟨C2,s2,⟨L.r.l++[(fj 1 L.code L.d).1],L.r.MN,L.r.high⟩,L.flags,L.target,L.branch⟩,⟨A2,c2,X.Ad,X.cd,A9,c9⟩):Lw×LAd)) ?_ ?_ ?_
    ·(dsimp only;subst hC2 hs2;unfold Lw.go;rw[hc3,hc5,hc8,hc10,hc14,hc18];rfl)
    .exact Zwk
    exact Zj
   refine ZcA (lwF b N L X) (λw hi hin=>i4 b N L X (hs.mono Wq1) w hin) ?_;rintro _ _ ⟨_,⟨rfl,C2,s2,A2,c2,hC2,hs2,rfl⟩,rfl⟩;refine ZG 4 ?_;refine cn 8 Zk ?_;refine xI ?_;rintro _ _ ⟨b119,rfl,rfl⟩;refine cn 9 Zk ?_;have hbd:L.r.l.length<=600:=aW hs.rl Wq1;refine kf rfl rfl (cD (n:=L.r.l.length) (e:=3) (sz:=1) (bytes:=8) rfl rfl Za rfl rfl (λw hi=>hi.rd (show Has _ (slv 3 1 (some ⟨b119,0,none⟩) 1 1 (ints .i64 [(fj 1 L.code L.d).1]))from Zh)) cN gS Wq1) ZJ rfl ?_;rintro _ _ ⟨A9,c9,rfl,rfl⟩;rw[cj,show L.r.l.length+1=(L.r.l++[(fj 1 L.code L.d).1]).length by simp];refine ZE 10 ?_;refine ZFe 11 0 ?_;refine cn 12 Zk ?_;refine ZQ ?_;refine dx ?_;refine Zo ?_;refine bX (((⟨C2,s2,⟨L.r.l++[(fj 1 L.code L.d).1],L.r.MN,L.r.high⟩,L.flags,L.target,L.branch⟩,⟨A2,c2,X.Ad,X.cd,A9,c9⟩):Lw×LAd)) ?_ ?_ ?_
   ·(dsimp only;subst hC2 hs2;unfold Lw.go;rw[hc3,hc5,hc8,hc10,hc14,hc18];rfl)
   .exact Zwk
   exact Zj
  refine Z_7 ?_;refine ZW ?_ ?_<;>intro hc20
  .refine bU ⟨λj=>List.elem j [7,9,12],[]⟩ Zk ?_;refine gO ?_;refine ZE 2 ?_;refine ZFe 3 0 ?_;refine ZE 5 ?_;refine ZE 6 ?_;refine k8 4 7 Zk ?_ ?_
   .refine kY ?_;refine cn 7 Zk ?_;refine ZcA (lwF b N L X) (λw hi hin=>xh b N L X (hs.mono Wq1) w hin) ?_;rintro _ _ ⟨_,⟨rfl,C2,s2,A2,c2,hC2,hs2,rfl⟩,rfl⟩;refine cn 8 Zk ?_;refine xI ?_;rintro _ _ ⟨b134,rfl,rfl⟩;refine cn 9 Zk ?_;have hbd:L.d.l.length<=600:=aW hs.dl Wq1;refine kf rfl rfl (cD (n:=L.d.l.length) (e:=3) (sz:=1) (bytes:=8) rfl rfl Za rfl rfl (λw hi=>hi.rd (show Has _ (slv 3 1 (some ⟨b134,0,none⟩) 1 1 (ints .i64 [(fj 2 L.code L.r).1]))from Zh)) cN gS Wq1) ZJ rfl ?_;rintro _ _ ⟨A9,c9,rfl,rfl⟩;rw[cj,show L.d.l.length+1=(L.d.l++[(fj 2 L.code L.r).1]).length by simp];refine ZE 10 ?_;refine ZFe 11 0 ?_;refine cn 12 Zk ?_;refine ZQ ?_;refine dx ?_;refine Zo ?_;refine bX (((⟨C2,⟨L.d.l++[(fj 2 L.code L.r).1],L.d.MN,L.d.high⟩,s2,L.flags,L.target,L.branch⟩,⟨A2,c2,A9,c9,X.Ar,X.cr⟩):Lw×LAd)) ?_ ?_ ?_
    ·(dsimp only;subst hC2 hs2;unfold Lw.go;rw[hc3,hc5,hc8,hc10,hc14,hc18,hc20];rfl)
    .exact Zwk
    exact Zj
   refine ZcA (lwF b N L X) (λw hi hin=>xh b N L X (hs.mono Wq1) w hin) ?_;rintro _ _ ⟨_,⟨rfl,C2,s2,A2,c2,hC2,hs2,rfl⟩,rfl⟩;refine ZG 4 ?_;refine cn 8 Zk ?_;refine xI ?_;rintro _ _ ⟨b134,rfl,rfl⟩;refine cn 9 Zk ?_;have hbd:L.d.l.length<=600:=aW hs.dl Wq1;refine kf rfl rfl (cD (n:=L.d.l.length) (e:=3) (sz:=1) (bytes:=8) rfl rfl Za rfl rfl (λw hi=>hi.rd (show Has _ (slv 3 1 (some ⟨b134,0,none⟩) 1 1 (ints .i64 [(fj 2 L.code L.r).1]))from Zh)) cN gS Wq1) ZJ rfl ?_;rintro _ _ ⟨A9,c9,rfl,rfl⟩;rw[cj,show L.d.l.length+1=(L.d.l++[(fj 2 L.code L.r).1]).length by simp];refine ZE 10 ?_;refine ZFe 11 0 ?_;refine cn 12 Zk ?_;refine ZQ ?_;refine dx ?_;refine Zo ?_;refine bX (((⟨C2,⟨L.d.l++[(fj 2 L.code L.r).1],L.d.MN,L.d.high⟩,s2,L.flags,L.target,L.branch⟩,⟨A2,c2,A9,c9,X.Ar,X.cr⟩):Lw×LAd)) ?_ ?_ ?_
   ·(dsimp only;subst hC2 hs2;unfold Lw.go;rw[hc3,hc5,hc8,hc10,hc14,hc18,hc20];rfl)
   .exact Zwk
   exact Zj
  refine fE ?_;refine ZW ?_ ?_<;>intro hc22
  .have hop:16<=op/\op<=25:=(by simpa using hc22);have hwop:IntKind.u32.wrap op=op:=(by rw[aE];omega);refine Z_4 ?_;refine ZcL (lwF b N L X) (λw hi hin=>i4 b N L X (hs.mono Wq1) w hin) ?_;rintro _ _ ⟨_,⟨rfl,C2,s2,A2,c2,hC2,hs2,rfl⟩,rfl⟩;refine Z_7 ?_;refine ZcL (lwF b N ⟨C2,s2,L.r,L.flags,L.target,L.branch⟩ ⟨A2,c2,X.Ad,X.cd,X.Ar,X.cr⟩) (λw hi hin=>i4 b N ⟨C2,s2,L.r,L.flags,L.target,L.branch⟩ ⟨A2,c2,X.Ad,X.cd,X.Ar,X.cr⟩ ((gV hs hC2 hs2 _ _ _).mono Wq1) w hin) ?_;rintro _ _ ⟨_,⟨rfl,C3,s3,A3,c3,hC3,hs3,rfl⟩,rfl⟩;refine dS ?_;refine Zy (ce rfl rfl Zv0 hwop) ?_;refine ZA ?_;refine ZcL (lwF b N ⟨C3,s3,L.r,L.flags,L.target,L.branch⟩ ⟨A3,c3,X.Ad,X.cd,X.Ar,X.cr⟩) (λw hi hin=>mW b N ⟨C3,s3,L.r,L.flags,L.target,L.branch⟩ ⟨A3,c3,X.Ad,X.cd,X.Ar,X.cr⟩ ((gV (gV hs hC2 hs2 L.flags L.target L.branch) hC3 hs3 _ _ _).mono Wq1) 4 0 (fj 1 C2 s2).1 (fj 1 L.code L.d).1 op w hin) ?_;rintro _ _ ⟨_,⟨rfl,C4,A4,c4,hC4,rfl⟩,rfl⟩;have h3:=gV (gV hs hC2 hs2 L.flags L.target L.branch) hC3 hs3 L.flags L.target L.branch;have h4:=vg h3 4 (fj 1 C2 s2).1 (fj 1 L.code L.d).1 op;have hs4:Lw.sm ⟨C4,s3,L.r,(C3.length:Int),L.target,L.branch⟩ 1000:=(by refine⟨?_,(h3.mono (by omega:_<=1000)).dl,(h3.mono (by omega:_<=1000)).rl,(h3.mono (by omega:_<=1000)).dn,(h3.mono (by omega:_<=1000)).rn⟩;rw[hC4];exact aW h4.code Wq1);refine Z_3 ?_;refine ZL ?_;refine Z_8 ?_;refine ZW ?_ ?_<;>intro hc26
   .refine bU ⟨λj=>List.elem j [11,13,16],[]⟩ Zk ?_;refine gO ?_;refine ZE 2 ?_;refine ZFe 3 0 ?_;refine ZE 5 ?_;refine ZE 6 ?_;refine ZE 7 ?_;refine ZE 8 ?_;refine cG 9 rfl Zk Zk Zk (ce rfl rfl Zv0 hwop) rfl ?_;refine ZE 10 ?_;refine k8 4 11 Zk ?_ ?_
    .refine kY ?_;refine cn 11 Zk ?_;refine ZcA (lwF b N ⟨C4,s3,L.r,(C3.length:Int),L.target,L.branch⟩ ⟨A4,c4,X.Ad,X.cd,X.Ar,X.cr⟩) (λw hi hin=>mW b N ⟨C4,s3,L.r,(C3.length:Int),L.target,L.branch⟩ ⟨A4,c4,X.Ad,X.cd,X.Ar,X.cr⟩ hs4 3 0 (fj 1 C2 s2).1 (fj 1 L.code L.d).1 op w hin) ?_;rintro _ _ ⟨_,⟨rfl,C5,A5,c5,hC5,rfl⟩,rfl⟩;refine cn 12 Zk ?_;refine xI ?_;rintro _ _ ⟨b176,rfl,rfl⟩;refine cn 13 Zk ?_;have hbd:s3.l.length<=600:=aW (gV (gV hs hC2 hs2 L.flags L.target L.branch) hC3 hs3 0 0 0).dl Wq1;refine kf rfl rfl (cD (n:=s3.l.length) (e:=3) (sz:=1) (bytes:=8) rfl rfl Za rfl rfl (λw hi=>hi.rd (show Has _ (slv 3 1 (some ⟨b176,0,none⟩) 1 1 (ints .i64 [(C4.length:Int)]))from Zh)) cN gS Wq1) ZJ rfl ?_;rintro _ _ ⟨A9,c9,rfl,rfl⟩;rw[cj,show s3.l.length+1=(s3.l++[(C4.length:Int)]).length by simp];refine ZE 14 ?_;refine ZFe 15 0 ?_;refine cn 16 Zk ?_;refine ZQ ?_;refine dx ?_;refine Zo ?_;refine bX (((⟨C5,⟨s3.l++[(C4.length:Int)],s3.MN,s3.high⟩,L.r,(C3.length:Int),L.target,L.branch⟩,⟨A5,c5,A9,c9,X.Ar,X.cr⟩):Lw×LAd)) ?_ ?_ ?_
     ·(dsimp only;subst hC5 hC4 hC3 hs3 hC2 hs2;unfold Lw.go;rw[hc3,hc5,hc8,hc10,hc14,hc18,hc20,hc22];unfold Lw.reckon;dsimp only;rw[hc26];rfl)
     .exact Zwk
     exact Zj
    refine ZcA (lwF b N ⟨C4,s3,L.r,(C3.length:Int),L.target,L.branch⟩ ⟨A4,c4,X.Ad,X.cd,X.Ar,X.cr⟩) (λw hi hin=>mW b N ⟨C4,s3,L.r,(C3.length:Int),L.target,L.branch⟩ ⟨A4,c4,X.Ad,X.cd,X.Ar,X.cr⟩ hs4 3 0 (fj 1 C2 s2).1 (fj 1 L.code L.d).1 op w hin) ?_;rintro _ _ ⟨_,⟨rfl,C5,A5,c5,hC5,rfl⟩,rfl⟩;refine ZG 4 ?_;refine cn 12 Zk ?_;refine xI ?_;rintro _ _ ⟨b176,rfl,rfl⟩;refine cn 13 Zk ?_;have hbd:s3.l.length<=600:=aW (gV (gV hs hC2 hs2 L.flags L.target L.branch) hC3 hs3 0 0 0).dl Wq1;refine kf rfl rfl (cD (n:=s3.l.length) (e:=3) (sz:=1) (bytes:=8) rfl rfl Za rfl rfl (λw hi=>hi.rd (show Has _ (slv 3 1 (some ⟨b176,0,none⟩) 1 1 (ints .i64 [(C4.length:Int)]))from Zh)) cN gS Wq1) ZJ rfl ?_;rintro _ _ ⟨A9,c9,rfl,rfl⟩;rw[cj,show s3.l.length+1=(s3.l++[(C4.length:Int)]).length by simp];refine ZE 14 ?_;refine ZFe 15 0 ?_;refine cn 16 Zk ?_;refine ZQ ?_;refine dx ?_;refine Zo ?_;refine bX (((⟨C5,⟨s3.l++[(C4.length:Int)],s3.MN,s3.high⟩,L.r,(C3.length:Int),L.target,L.branch⟩,⟨A5,c5,A9,c9,X.Ar,X.cr⟩):Lw×LAd)) ?_ ?_ ?_
    ·(dsimp only;subst hC5 hC4 hC3 hs3 hC2 hs2;unfold Lw.go;rw[hc3,hc5,hc8,hc10,hc14,hc18,hc20,hc22];unfold Lw.reckon;dsimp only;rw[hc26];rfl)
    .exact Zwk
    exact Zj
   refine Z_2 ?_;refine bX (((⟨C4,s3,L.r,(C3.length:Int),L.target,L.branch⟩,⟨A4,c4,X.Ad,X.cd,X.Ar,X.cr⟩):Lw×LAd)) ?_ ?_ ?_
   ·(dsimp only;subst hC4 hC3 hs3 hC2 hs2;unfold Lw.go;rw[hc3,hc5,hc8,hc10,hc14,hc18,hc20,hc22];unfold Lw.reckon;dsimp only;rw[hc26];rfl)
   .exact Zwk
   exact Zj
  refine Z_7 ?_;refine ZW ?_ ?_<;>intro hc28
  .refine bU ⟨λj=>List.elem j [7,9,12],[]⟩ Zk ?_;refine gO ?_;refine ZE 2 ?_;refine ZFe 3 0 ?_;refine ZE 5 ?_;refine ZE 6 ?_;refine k8 4 7 Zk ?_ ?_
   .refine kY ?_;refine cn 7 Zk ?_;refine ZcA (lwF b N L X) (λw hi hin=>pE b N L X (hs.mono Wq1) next w hin) ?_;rintro _ _ ⟨_,⟨rfl,C2,A2,c2,hC2,rfl⟩,rfl⟩;refine cn 8 Zk ?_;refine xI ?_;rintro _ _ ⟨b191,rfl,rfl⟩;refine cn 9 Zk ?_;have hbd:L.r.l.length<=600:=aW hs.rl Wq1;refine kf rfl rfl (cD (n:=L.r.l.length) (e:=3) (sz:=1) (bytes:=8) rfl rfl Za rfl rfl (λw hi=>hi.rd (show Has _ (slv 3 1 (some ⟨b191,0,none⟩) 1 1 (ints .i64 [L.here]))from Zh)) cN gS Wq1) ZJ rfl ?_;rintro _ _ ⟨A9,c9,rfl,rfl⟩;rw[cj,show L.r.l.length+1=(L.r.l++[L.here]).length by simp];refine ZE 10 ?_;refine ZFe 11 0 ?_;refine cn 12 Zk ?_;refine ZQ ?_;refine dx ?_;refine Zo ?_;refine bX (((⟨C2,L.d,⟨L.r.l++[L.here],L.r.MN,L.r.high⟩,L.flags,L.target,L.branch⟩,⟨A2,c2,X.Ad,X.cd,A9,c9⟩):Lw×LAd)) ?_ ?_ ?_
    ·(dsimp only;subst hC2;unfold Lw.go;rw[hc3,hc5,hc8,hc10,hc14,hc18,hc20,hc22,hc28];rfl)
    .exact Zwk
    exact Zj
   refine ZcA (lwF b N L X) (λw hi hin=>pE b N L X (hs.mono Wq1) next w hin) ?_;rintro _ _ ⟨_,⟨rfl,C2,A2,c2,hC2,rfl⟩,rfl⟩;refine ZG 4 ?_;refine cn 8 Zk ?_;refine xI ?_;rintro _ _ ⟨b191,rfl,rfl⟩;refine cn 9 Zk ?_;have hbd:L.r.l.length<=600:=aW hs.rl Wq1;refine kf rfl rfl (cD (n:=L.r.l.length) (e:=3) (sz:=1) (bytes:=8) rfl rfl Za rfl rfl (λw hi=>hi.rd (show Has _ (slv 3 1 (some ⟨b191,0,none⟩) 1 1 (ints .i64 [L.here]))from Zh)) cN gS Wq1) ZJ rfl ?_;rintro _ _ ⟨A9,c9,rfl,rfl⟩;rw[cj,show L.r.l.length+1=(L.r.l++[L.here]).length by simp];refine ZE 10 ?_;refine ZFe 11 0 ?_;refine cn 12 Zk ?_;refine ZQ ?_;refine dx ?_;refine Zo ?_;refine bX (((⟨C2,L.d,⟨L.r.l++[L.here],L.r.MN,L.r.high⟩,L.flags,L.target,L.branch⟩,⟨A2,c2,X.Ad,X.cd,A9,c9⟩):Lw×LAd)) ?_ ?_ ?_
   ·(dsimp only;subst hC2;unfold Lw.go;rw[hc3,hc5,hc8,hc10,hc14,hc18,hc20,hc22,hc28];rfl)
   .exact Zwk
   exact Zj
  refine Z_7 ?_;refine ZW ?_ ?_<;>intro hc30
  .refine Z_4 ?_;refine ZcL (lwF b N L X) (λw hi hin=>xh b N L X (hs.mono Wq1) w hin) ?_;rintro _ _ ⟨_,⟨rfl,C2,s2,A2,c2,hC2,hs2,rfl⟩,rfl⟩;refine Z_3 ?_;refine ZL ?_;refine Z_2 ?_;refine bX (((⟨C2,L.d,s2,L.flags,(fj 2 L.code L.r).1,L.branch⟩,⟨A2,c2,X.Ad,X.cd,X.Ar,X.cr⟩):Lw×LAd)) ?_ ?_ ?_
   ·(dsimp only;subst hC2 hs2;unfold Lw.go;rw[hc3,hc5,hc8,hc10,hc14,hc18,hc20,hc22,hc28,hc30];rfl)
   .exact Zwk
   exact Zj
  refine Z_7 ?_;refine ZW ?_ ?_<;>intro hc32
  .refine Z_4 ?_;refine ZcL (lwF b N L X) (λw hi hin=>i4 b N L X (hs.mono Wq1) w hin) ?_;rintro _ _ ⟨_,⟨rfl,C2,s2,A2,c2,hC2,hs2,rfl⟩,rfl⟩;refine Z_3 ?_;refine ZL ?_;refine Z_2 ?_;refine bX (((⟨C2,s2,L.r,L.flags,(fj 1 L.code L.d).1,L.branch⟩,⟨A2,c2,X.Ad,X.cd,X.Ar,X.cr⟩):Lw×LAd)) ?_ ?_ ?_
   ·(dsimp only;subst hC2 hs2;unfold Lw.go;rw[hc3,hc5,hc8,hc10,hc14,hc18,hc20,hc22,hc28,hc30,hc32];rfl)
   .exact Zwk
   exact Zj
  refine fE ?_;refine ZW ?_ ?_<;>intro hc34
  .refine Z_6 ?_;refine ZL ?_;refine Z_2 ?_;refine bX (((⟨L.code,L.d,L.r,L.flags,L.target,op⟩,X):Lw×LAd)) ?_ ?_ ?_
   ·(dsimp only;unfold Lw.go;rw[hc3,hc5,hc8,hc10,hc14,hc18,hc20,hc22,hc28,hc30,hc32,hc34];rfl)
   .exact Zwk
   exact Zj
  refine Z_2 ?_;refine bX (((L,X):Lw×LAd)) ?_ ?_ ?_
  ·(dsimp only;unfold Lw.go;rw[hc3,hc5,hc8,hc10,hc14,hc18,hc20,hc22,hc28,hc30,hc32,hc34];rfl)
  .exact Zwk
  exact Zj
 rintro⟨L9,X9⟩ hL9;dsimp only at hL9|-;rw[<-hL9]at hgo;refine Z_3 ?_;refine ZcL (lwF b N L9 X9) (λw hi hin=>GS b N L9 X9 (hgo.mono Wq1) w hin) ?_;rintro _ _ ⟨_,rfl,rfl⟩;refine Z_4 ?_;refine ZcL (lwF b N ⟨L9.code,L9.d.top,L9.r,L9.flags,L9.target,L9.branch⟩ X9) (λw hi hin=>GR b N ⟨L9.code,L9.d.top,L9.r,L9.flags,L9.target,L9.branch⟩ X9 ⟨(hgo.mono Wq1).code,(hgo.mono Wq1).dl,(hgo.mono Wq1).rl,(hgo.mono Wq1).dn,(hgo.mono Wq1).rn⟩ w hin) ?_;rintro _ _ ⟨_,rfl,rfl⟩;refine Zn (jb (cs':=lwF b N L9.MT X9) (.inr rfl) Zu rfl ?_);exact⟨L9.MT,X9,by unfold Lw.one;rw[hL9],rfl⟩
theorem yZ(op:Int)(w:World):Ctr prog 168 [.int .i64 op] w [] (λv cs=>v= .bool (dB op)/\cs=[]):=by
 refine bN func168 rfl ntmps168 rfl (Inv.start w) ?_;refine Je ?_;refine ZW ?_ ?_<;>intro hc1
 .refine Z_2 ?_;refine bW rfl (hc1) ?_;refine fX ?_;refine⟨?_,rfl⟩;unfold dB;cases h1:decide (0<=op)<;>cases h2:decide (op<=8)<;>cases h3:decide (16<=op)<;>cases h4:decide (op<=25)<;>cases h5:(op !=24)<;>cases h6:decide (32<=op)<;>cases h7:decide (op<=40)<;>simp_all<;>omega
 refine dS ?_;refine ZW ?_ ?_<;>intro hc2
 .refine fX ?_;refine⟨?_,rfl⟩;unfold dB;cases h1:decide (0<=op)<;>cases h2:decide (op<=8)<;>cases h3:decide (16<=op)<;>cases h4:decide (op<=25)<;>cases h5:(op !=24)<;>cases h6:decide (32<=op)<;>cases h7:decide (op<=40)<;>simp_all<;>omega
 refine Je ?_;refine Zra ?_;refine⟨?_,rfl⟩;unfold dB;cases h1:decide (0<=op)<;>cases h2:decide (op<=8)<;>cases h3:decide (16<=op)<;>cases h4:decide (op<=25)<;>cases h5:(op !=24)<;>cases h6:decide (32<=op)<;>cases h7:decide (op<=40)<;>simp_all<;>omega
abbrev usF(b:Nat)(A:Option Addr)(c N:Nat)(U:List Bool):List bL:=[row b [.slice A N c] 141,slv 4 1 A N c (U.map Value.bool)]
theorem o7(b:Nat)(A:Option Addr)(c N:Nat)(U:List Bool)(hN:U.length=N)(B:Option Addr)(cb:Nat)(l:List Int)(hl:l.length<=1000)(hin:∀n,n∈l->n≠ -1->0<=n/\n.toNat<U.length)(w:World)(hi:Inv w (bM (usF b A c N U)) (usF b A c N U) w)(hR:∀w',dG (bM (usF b A c N U)) w w'->Rd w' .i64 B l.length cb l):
  Ctr prog 215 [.slice B l.length cb,.pointer (some ⟨b,0,none⟩)] w (usF b A c N U) (λ_ cs=>cs=usF b A c N (i3 U l)):=by
 refine bN func215 rfl ntmps215 rfl hi ?_;refine Z_8 ?_;refine cq (λq:Nat×List Bool=>[(1,.pointer (some ⟨b,0,none⟩)),(5,.slice B l.length cb),(6,.int .i64 l.length),(7,.int .i64 (q.1:Int))]) (λq=>usF b A c N q.2) (λq=>q.1<=l.length/\q.2.length=U.length/\i3 q.2 (l.drop q.1)=i3 U l) (λq=>l.length - q.1) (⟨0,U⟩) ?_ ?_ ?_ ?_
 .exact⟨aq _,rfl,rfl⟩
 .exact Zwk
 .exact Zu
 rintro⟨k,V⟩ ⟨hk,hV,hM⟩;dsimp only at hk hV hM|-;refine Z_6 ?_;refine ZW ?_ ?_<;>intro hc1
 .simp only[aj]at hc1;have hkl:k<l.length:=Wq1;obtain⟨ad,had⟩:=(hR w (dG.refl _ _)).some_ Wq1;have hR2:∀w',dG (bM (usF b A c N U)) w w'->RdV w' 1 (some ad) l.length cb (ints .i64 l):=(λw' hk=>had▸hR w' hk);obtain⟨x,hx⟩:∃x,l[k]? =some x:=⟨_,ai hkl⟩;have hxi:=hin x (aD hx);rw[jL hx]at hM;have hM:i3 (bif x != -1 then V.set x.toNat true else V) (l.drop (k+1))=i3 U l:=hM;refine Z_6 ?_;refine Zy (fg (j:=k) had rfl Zrf Zv0 Zv0 Zrf (λ_=>hkl)) ?_;refine dN (bQ Zrf Zv0) (j7 (v:= .int .i64 x) hR2 (cR hx)) rfl ?_;refine Z_9 ?_;refine ZW ?_ ?_<;>intro hc3
  .rw[hc3,ac]at hM;obtain⟨hx0,hx1⟩:=hxi (by simpa using hc3);obtain⟨n,rfl⟩:∃n:Nat,x=n:=ar hx0;rw[aP]at hx1 hM;obtain⟨bs,rfl⟩:=ez (hi.get (show Has _ (slv 4 1 A N c (U.map Value.bool))from Zh)) Wq1;refine Z_3 ?_;refine Zy (cw (bb:=bs) (o:=0) (n:=N) (c:=c) (j:=n) (sz:=1) (r:=n) rfl Zrf (Zv rfl) (Zv rfl) Zrf Wq4 Wq1) ?_;refine dH (fh Zrf rfl rfl rfl Za Wq1) ?_;rintro _ _ ⟨rfl,rfl⟩;rw[<-List.map_set];refine Z_4 ?_;refine Wq8 ?_;refine bX ((⟨k+1,V.set n true⟩:Nat×List Bool)) ?_ ?_ ?_
   .exact⟨⟨by omega,by dsimp only;rw[aC,hV],hM⟩,by dsimp only;omega⟩
   .exact Zwk
   exact Zj
  rw[hc3,aa]at hM;refine Z_4 ?_;refine Wq8 ?_;refine bX ((⟨k+1,V⟩:Nat×List Bool)) ?_ ?_ ?_
  .exact⟨⟨by omega,hV,hM⟩,by dsimp only;omega⟩
  .exact Zwk
  exact Zj
 simp only[ah]at hc1;obtain rfl:k=l.length:=by omega
 rw[List.drop_length]at hM;have hM:V=i3 U l:=hM;subst hM;refine Z_4 ?_;refine jb (cs':=usF b A c N (i3 U l)) (.inr rfl) Zu rfl ?_
 rfl
abbrev plF(b:Nat)(A:Option Addr)(c N:Nat)(pl:List Int):List bL:=[row b [.slice A N c] 60,sl .i64 3 A N c pl]
theorem nA(b:Nat)(A:Option Addr)(c N:Nat)(pl:List Int)(hN:pl.length=N)(B:Option Addr)(cb:Nat)(l:List Int)(hl:l.length<=1000)(hin:∀n,n∈l->0<=n/\n.toNat<pl.length)(w:World)(hi:Inv w (bM (plF b A c N pl)) (plF b A c N pl) w)(hR:∀w',dG (bM (plF b A c N pl)) w w'->Rd w' .i64 B l.length cb l):
  Ctr prog 216 [.slice B l.length cb,.pointer (some ⟨b,0,none⟩)] w (plF b A c N pl) (λv9 cs=>∃A' c',v9= .slice A' (ef pl l).length c'/\cs=plF b A c N pl++[sl .i64 3 A' (ef pl l).length c' (ef pl l)]):=by
 refine bN func216 rfl ntmps216 rfl hi ?_;refine jd ?_;refine dC 3 1 ?_;refine Z_6 ?_;refine cq (λq:Nat×List Int×Option Addr×Nat=>[(1,.pointer (some ⟨b,0,none⟩)),(4,.slice q.2.2.1 q.2.1.length q.2.2.2),(7,.slice B l.length cb),(8,.int .i64 l.length),(9,.int .i64 (q.1:Int))]) (λq=>[row b [.slice A N c] 60,sl .i64 3 A N c pl,sl .i64 3 q.2.2.1 q.2.1.length q.2.2.2 q.2.1]) (λq=>q.1<=l.length/\q.2.1=ef pl (l.take q.1)) (λq=>l.length - q.1) (⟨0,[],none,0⟩) ?_ ?_ ?_ ?_
 .exact⟨aq _,rfl⟩
 .exact Zwk
 .exact Zu
 rintro⟨k,m,A1,c1⟩ ⟨hk,hm⟩;dsimp only at hk hm|-;have hml:m.length=k:=(by rw[hm];unfold ef;rw[List.length_map,aB];omega);refine Z_6 ?_;refine ZW ?_ ?_<;>intro hc3
 .simp only[aj]at hc3;have hkl:k<l.length:=Wq1;obtain⟨ad,had⟩:=(hR w (dG.refl _ _)).some_ Wq1;have hR2:∀w',dG (bM (plF b A c N pl)) w w'->RdV w' 1 (some ad) l.length cb (ints .i64 l):=(λw' hk=>had▸hR w' hk);obtain⟨x,hx⟩:∃x,l[k]? =some x:=⟨_,ai hkl⟩;obtain⟨hx0,hx1⟩:=hin x (aD hx);obtain⟨n,rfl⟩:∃n:Nat,x=n:=ar hx0;rw[aP]at hx1;obtain⟨bs,rfl⟩:=ez (hi.get (show Has _ (sl .i64 3 A N c pl)from Zh)) Wq1;have hm2:ef pl (l.take (k+1))=m++[pl.getD n 0]:=(by rw[List.take_add_one,hx,hm];unfold ef;rw[List.map_append];rfl);refine Z_6 ?_;refine Zy (fg (j:=k) had rfl Zrf Zv0 Zv0 Zrf (λ_=>hkl)) ?_;refine dN (bQ Zrf Zv0) (j7 (v:= .int .i64 n) hR2 (cR hx)) rfl ?_;refine Z_7 ?_;refine Zy (cw (bb:=bs) (o:=0) (n:=N) (c:=c) (j:=n) (sz:=1) (r:=n) rfl Zrf (Zv rfl) (Zv rfl) Zrf Wq4 Wq1) ?_;refine dN (bQ Zrf Zv0) (dm Zh (eQ hx1)) rfl ?_;refine jO ?_;rintro _ _ ⟨b18,rfl,rfl⟩;refine gj (cD (n:=m.length) (e:=3) (sz:=1) (bytes:=8) rfl rfl Za rfl rfl (λw hi=>hi.rd (show Has _ (slv 3 1 (some ⟨b18,0,none⟩) 1 1 (ints .i64 [pl.getD n 0]))from Zh)) cN gS Wq1) rfl ?_;rintro _ _ ⟨A2,c2,rfl,rfl⟩;rw[cj,show m.length+1=(m++[pl.getD n 0]).length by simp];refine Z_5 ?_;refine Wq8 ?_;refine bX ((⟨k+1,m++[pl.getD n 0],A2,c2⟩:Nat×List Int×Option Addr×Nat)) ?_ ?_ ?_
  .exact⟨⟨by omega,hm2.symm⟩,by dsimp only;omega⟩
  .exact Zwk
  exact Zj
 simp only[ah]at hc3;obtain rfl:k=l.length:=by omega
 rw[bn]at hm;subst hm;refine gR ?_;refine Zrb ([row _ _ _,slv _ _ _ _ _ _,slv _ _ _ _ _ _]) ?_;exact⟨_,_,rfl,rfl⟩
end Go.Proofs.YtkegldppffignaaGreatDoor
namespace Go.Ink
open Go.RowKit
theorem xS{U:List Bool}{j:Nat}(h:j<U.length):(U.map Value.bool)[j]? =some (.bool (U.getD j false)):=by simp[ai h]
end Go.Ink
namespace Go.Proofs.YtkegldppffignaaGreatDoor
open Go.RowKit Go.Ink Go.Proofs.Tryz
attribute [local irreducible] OpY bS
abbrev pg0(b:Nat):bL:=row b [.slice none 0 0,.int .i64 0,.int .i64 0,.int .i64 0,.int .i64 0,.slice none 0 0,.slice none 0 0,.int .i64 0,.int .u32 0,.int .i64 0,.int .i64 0,.int .u32 0,.int .i64 0,.int .i64 0] 242
theorem JN(p:Pg)(Q:PAd)(hraw:Raw p)(hv:p.values=p.code.length)(hm:p.code.length<=500)(hoD:p.MV.length<=500)(hoR:p.MW.length<=500)(w:World)(h:CU p Q w):
  Ctr prog 172 [pgv p Q] w [] (λv9 cs=>∃Q',v9=pgv (cH p) Q'/\cs=[slv 286 5 Q'.Ac (cH p).code.length Q'.cc ((cH p).code.flatMap II.cells),sl .i64 3 Q'.Ad (cH p).MV.length Q'.cd (cH p).MV,sl .i64 3 Q'.Ar (cH p).MW.length Q'.cr (cH p).MW]):=by
 have hrc:=h.code;obtain⟨N,hN⟩:=Zgn (p.code.length);have hU0:gl p=j0 p.code N (i3 (i3 (i3 (List.replicate N false) p.MV) p.MW) [p.flags,p.target]):=by unfold gl DV;rw[hN]
 have hiD:∀n,n∈p.MV->n≠ -1->0<=n/\n.toNat<N:=λn hn _=>by have:=hraw.MV n hn;unfold II.in_ at this;omega
 have hiR:∀n,n∈p.MW->n≠ -1->0<=n/\n.toNat<N:=λn hn _=>by have:=hraw.MW n hn;unfold II.in_ at this;omega
 have hiF:∀n,n∈[p.flags,p.target]->n≠ -1->0<=n/\n.toNat<N:=λn hn h1=>by
  simp only[aJ,aY,or_false]at hn;rcases hn with rfl|rfl
  .rcases hraw.flags with h2|h2
   .exact absurd h2 h1
   unfold II.in_ at h2;omega
  rcases hraw.target with h2|h2
  .exact absurd h2 h1
  unfold II.in_ at h2;omega
 have hvN:p.values=N:=by rw[hv,hN]
 have hoD2:∀n,n∈p.MV->0<=n/\n.toNat<N:=λn hn=>by have:=hraw.MV n hn;unfold II.in_ at this;omega
 have hoR2:∀n,n∈p.MW->0<=n/\n.toNat<N:=λn hn=>by have:=hraw.MW n hn;unfold II.in_ at this;omega
 have hfl:p.flags≠ -1->∃n:Nat,p.flags=n/\n<N:=λh1=>by
  rcases hraw.flags with h2|h2
  .exact absurd h2 h1
  unfold II.in_ at h2;exact⟨p.flags.toNat,by omega,by omega⟩
 have htg:p.target≠ -1->∃n:Nat,p.target=n/\n<N:=λh1=>by
  rcases hraw.target with h2|h2
  .exact absurd h2 h1
  unfold II.in_ at h2;exact⟨p.target.toNat,by omega,by omega⟩
 obtain⟨Z,hZ⟩:=Zgn (List.replicate N false);have hZl:Z.length=N:=by rw[<-hZ];simp
 have hZv:(List.replicate N (.bool false:Value))=Z.map Value.bool:=by rw[<-hZ];simp
 rw[hZ]at hU0;obtain⟨P0,hP0⟩:=Zgn (List.replicate N (0:Int));have hP0l:P0.length=N:=by rw[<-hP0];simp
 have hPv:(List.replicate N (.int .i64 0:Value))=ints .i64 P0:=by rw[<-hP0];simp[ints]
 refine bN func172 rfl ntmps172 rfl (Inv.start w) ?_;refine Z_2 ?_;refine ZO λb1=>?_;refine ZN λb2=>?_
 refine Z_6 ?_;refine gj (kO (bytes:=1) (n:=N) rfl rfl rfl rfl rfl hvN hvN Wq1 gS) rfl ?_;rintro _ _ ⟨b14,rfl,rfl⟩;rw[hZv];refine ZN λb3=>?_
 refine ZL ?_;refine Z_4 ?_;refine Zy (lL rfl) ?_;refine Z_8 ?_;refine gj (fR (usF b3 (some ⟨b14,0,none⟩) N N Z) rfl rfl (λ_ _=>rfl) Zi (λw hi hin=>o7 b3 (some ⟨b14,0,none⟩) N N Z hZl Q.Ad Q.cd p.MV Wq1 (by rw[hZl];exact hiD) w hin (λw' hk=>RdV.M6 h.MV hi Zi hk))) rfl ?_;rintro _ _ ⟨_,rfl,rfl⟩;obtain⟨U1,hU1⟩:=Zgn (i3 Z p.MV);have hl1:U1.length=N:=(by rw[<-hU1,gr,hZl]);rw[hU1]at hU0|-;refine Z_7 ?_;refine gj (fR (usF b3 (some ⟨b14,0,none⟩) N N U1) rfl rfl (λ_ _=>rfl) Zi (λw hi hin=>o7 b3 (some ⟨b14,0,none⟩) N N U1 hl1 Q.Ar Q.cr p.MW Wq1 (by rw[hl1];exact hiR) w hin (λw' hk=>RdV.M6 h.MW hi Zi hk))) rfl ?_;rintro _ _ ⟨_,rfl,rfl⟩;obtain⟨U2,hU2⟩:=Zgn (i3 U1 p.MW);have hl2:U2.length=N:=(by rw[<-hU2,gr,hl1]);rw[hU2]at hU0|-;refine Z_9 ?_;refine jO ?_;rintro _ _ ⟨b29,rfl,rfl⟩;refine gj (fR (usF b3 (some ⟨b14,0,none⟩) N N U2) rfl rfl (λ_ _=>rfl) Zi (λw hi hin=>o7 b3 (some ⟨b14,0,none⟩) N N U2 hl2 (some ⟨b29,0,none⟩) 2 [p.flags,p.target] cE (by rw[hl2];exact hiF) w hin (λw' hk=>dk (hi.Nv Zi (show Has _ (slv 3 1 (some ⟨b29,0,none⟩) 2 2 (ints .i64 [p.flags,p.target]))from Zh) hk)))) rfl ?_;rintro _ _ ⟨_,rfl,rfl⟩;obtain⟨U3,hU3⟩:=Zgn (i3 U2 [p.flags,p.target]);have hl3:U3.length=N:=(by rw[<-hU3,gr,hl2]);rw[hU3]at hU0|-;refine Z_7 ?_;refine Zy (eE (Zv rfl) (Zv rfl) (show _=(N:Int) - 1 from by rw[hvN,bK];omega)) ?_;refine Z_4 ?_;refine cq (λq:Nat×List Bool=>[(1,.pointer (some ⟨b1,0,none⟩)),(2,.pointer (some ⟨b2,0,none⟩)),(3,.pointer (some ⟨b3,0,none⟩)),(4,.func (.func 215) #[] #[.pointer (some ⟨b3,0,none⟩)]),(5,.int .i64 ((q.1:Int) - 1))]) (λq=>[row b3 [.slice (some ⟨b14,0,none⟩) N N] 141,slv 4 1 (some ⟨b14,0,none⟩) N N (q.2.map Value.bool),row b1 (jR p Q) 242,pg0 b2]) (λq=>q.1<=N/\q.2.length=N/\j0 p.code q.1 q.2=gl p) (λq=>q.1) (⟨N,U3⟩) ?_ ?_ ?_ ?_
 .exact⟨aM _,hl3,hU0.symm⟩
 .exact Zwk
 .exact Zu
 rintro⟨k,V⟩ ⟨hk,hV,hB⟩;dsimp only at hk hV hB|-;refine Z_7 ?_;refine ZW ?_ ?_<;>intro hc7
 .simp only[aj]at hc7;obtain⟨j,rfl⟩:∃j,k=j+1:=⟨k - 1,by omega⟩;have hjN:j<p.code.length:=Wq1;have hj5:((j+1:Nat):Int) - 1=(j:Int):=Wq1;rw[hj5];obtain⟨ad,had⟩:=hrc.some_ Wq1;have hrc2:=hrc;rw[had]at hrc2;obtain⟨x,hx⟩:∃x,p.code[j]? =some x:=⟨_,ai hjN⟩;have hgx:p.code.getD j II.zero=x:=(by rw[aF,hx];rfl);have hB:j0 p.code j (bif V.getD j false&&lr (p.code.getD j II.zero)then i3 V [(p.code.getD j II.zero).a,(p.code.getD j II.zero).b]else V)=gl p:=hB;rw[hgx]at hB;obtain⟨op,dst,xa,xb,imm⟩:=x;dsimp only at hB;refine Z_9 ?_;refine Zy (fg (j:=j) had rfl Zrf Zv0 Zv0 Zrf (λ_=>hjN)) ?_;refine dN (cz (vs:=[.int .i64 op,.int .i64 dst,.int .i64 xa,.int .i64 xb,.int .u32 imm]) Zrf Zrf Zv0) (fv hrc2 (λi v hi=>fK (f:=II.cells) Zrf (i:=i) hx hi)) rfl ?_;refine ZN λb6=>?_
  refine ZM ?_;refine Z_6 ?_;refine Zy (cw (bb:=b14) (o:=0) (n:=N) (c:=N) (j:=j) (sz:=1) (r:=j) rfl Zrf (Zv rfl) (Zv rfl) Zrf Wq4 Wq1) ?_;refine dN (bQ Zrf (Zv rfl)) (dm Zh (xS Wq1)) rfl ?_;refine gR ?_;refine ZW ?_ ?_<;>intro hc10
  .have hc:(V.getD j false&&lr ⟨op,dst,xa,xb,imm⟩)=true:=hc10;rw[hc,ac]at hB;obtain⟨-,hab⟩:=Bool.and_eq_true_iff.1 hc;have hxi:=hraw.wf j _ hx hab;dsimp only at hxi;refine Z_6 ?_;refine jO ?_;rintro _ _ ⟨b62,rfl,rfl⟩;refine gj (fR (usF b3 (some ⟨b14,0,none⟩) N N V) rfl rfl (λ_ _=>rfl) Zi (λw hi hin=>o7 b3 (some ⟨b14,0,none⟩) N N V hV (some ⟨b62,0,none⟩) 2 [xa,xb] cE (λn hn _=>by simp only[aJ,aY,or_false]at hn;rcases hn with rfl|rfl<;>omega) w hin (λw' hk=>dk (hi.Nv Zi (show Has _ (slv 3 1 (some ⟨b62,0,none⟩) 2 2 (ints .i64 [xa,xb]))from Zh) hk)))) rfl ?_;rintro _ _ ⟨_,rfl,rfl⟩;refine Z_5 ?_;refine Zy (eE Zv0 Zv0 Zl) ?_;refine Z_2 ?_;refine bX ((⟨j,i3 V [xa,xb]⟩:Nat×List Bool)) ?_ ?_ ?_
   .exact⟨⟨by omega,by dsimp only;rw[gr,hV],hB⟩,by dsimp only;omega⟩
   .exact Zwk
   exact Zj
  have hc:(V.getD j false&&lr ⟨op,dst,xa,xb,imm⟩)=false:=hc10;rw[hc,aa]at hB;refine Z_5 ?_;refine Zy (eE Zv0 Zv0 Zl) ?_;refine Z_2 ?_;refine bX ((⟨j,V⟩:Nat×List Bool)) ?_ ?_ ?_
  .exact⟨⟨by omega,hV,hB⟩,by dsimp only;omega⟩
  .exact Zwk
  exact Zj
 simp only[ah]at hc7;obtain rfl:k=0:=by omega
 have hB:V=gl p:=hB;subst hB;refine Z_9 ?_;refine gj (kO (bytes:=8) (n:=N) rfl rfl rfl rfl rfl hvN hvN Wq1 gS) rfl ?_;rintro _ _ ⟨b66,rfl,rfl⟩;rw[hPv];refine ZN λb7=>?_
 refine ZL ?_;refine dS ?_;refine dC 286 5 ?_;refine Z_7 ?_;refine cq (λq:Nat×List Int×List II×Option Addr×Nat=>[(1,.pointer (some ⟨b1,0,none⟩)),(2,.pointer (some ⟨b2,0,none⟩)),(3,.pointer (some ⟨b3,0,none⟩)),(7,.pointer (some ⟨b7,0,none⟩)),(8,.slice q.2.2.2.1 q.2.2.1.length q.2.2.2.2),(68,.slice Q.Ac p.code.length Q.cc),(69,.int .i64 p.code.length),(70,.int .i64 (q.1:Int))]) (λq=>[row b3 [.slice (some ⟨b14,0,none⟩) N N] 141,slv 4 1 (some ⟨b14,0,none⟩) N N ((gl p).map Value.bool),row b1 (jR p Q) 242,pg0 b2,sl .i64 3 (some ⟨b66,0,none⟩) N N q.2.1,row b7 [.slice (some ⟨b66,0,none⟩) N N] 60,slv 286 5 q.2.2.2.1 q.2.2.1.length q.2.2.2.2 (q.2.2.1.flatMap II.cells)]) (λq=>q.1<=N/\q.2.1.length=N/\q.2.2.1.length<=q.1/\mm (gl p) (p.code.drop q.1) q.1 q.2.1 q.2.2.1=eV p) (λq=>N - q.1) (⟨0,P0,[],none,0⟩) ?_ ?_ ?_ ?_
 .exact⟨aq _,hP0l,aq _,by unfold eV;rw[hN,hP0];rfl⟩
 .exact Zwk
 .exact Zu
 rintro⟨i,pl,c,A,cc⟩ ⟨hi9,hpl,hcl,hW⟩;dsimp only at hi9 hpl hcl hW|-;refine Z_6 ?_;refine ZW ?_ ?_<;>intro hc15
 .simp only[aj]at hc15;have hiN:i<p.code.length:=Wq1;obtain⟨ad,had⟩:=hrc.some_ Wq1;have hrc2:=hrc;rw[had]at hrc2;obtain⟨x,hx⟩:∃x,p.code[i]? =some x:=⟨_,ai hiN⟩;rw[jL hx]at hW;have hW:(bif(gl p).getD i false then mm (gl p) (p.code.drop (i+1)) (i+1) (pl.set i (c.length:Int)) (c++[nW x (pl.set i (c.length:Int)) c.length])else mm (gl p) (p.code.drop (i+1)) (i+1) pl c)=eV p:=hW;have hwf:=hraw.wf i x hx;obtain⟨op,dst,xa,xb,imm⟩:=x;dsimp only at hwf;refine Z_7 ?_;refine Zy (fg (j:=i) had rfl Zrf Zv0 Zv0 Zrf (λ_=>hiN)) ?_;refine dN (cz (vs:=[.int .i64 op,.int .i64 dst,.int .i64 xa,.int .i64 xb,.int .u32 imm]) Zrf Zrf Zv0) (fv hrc2 (λj v hj=>fK (f:=II.cells) Zrf (i:=j) hx hj)) rfl ?_;refine ZN λb10=>?_
  refine ZA ?_;refine ZM ?_;refine Z_7 ?_;refine Zy (cw (bb:=b14) (o:=0) (n:=N) (c:=N) (j:=i) (sz:=1) (r:=i) rfl Zrf (Zv rfl) (Zv rfl) Zrf Wq4 Wq1) ?_;refine dN (bQ Zrf (Zv rfl)) (dm Zh (xS Wq1)) rfl ?_;refine Z_3 ?_;refine ZW ?_ ?_<;>intro hc17
  .have hu:(gl p).getD i false=false:=(by simpa using hc17);rw[hu,aa]at hW;refine Z_5 ?_;refine Wq8 ?_;refine bX ((⟨i+1,pl,c,A,cc⟩:Nat×List Int×List II×Option Addr×Nat)) ?_ ?_ ?_
   .exact⟨⟨by omega,hpl,by dsimp only;omega,hW⟩,by dsimp only;omega⟩
   .exact Zwk
   exact Zj
  have hu:(gl p).getD i false=true:=(by simpa using hc17);rw[hu,ac]at hW;obtain⟨pl2,hpl2⟩:=Zgn (pl.set i (c.length:Int));have hpl2l:pl2.length=N:=(by rw[<-hpl2,aC,hpl]);rw[hpl2]at hW;refine Z_8 ?_;refine Zy (cw (bb:=b66) (o:=0) (n:=N) (c:=N) (j:=i) (sz:=1) (r:=i) rfl Zrf (Zv rfl) (Zv rfl) Zrf Wq4 Wq1) ?_;refine dH (fh Zrf rfl rfl rfl Za Wq1) ?_;rintro _ _ ⟨rfl,rfl⟩;rw[mY,hpl2];refine Z_2 ?_;refine da (λq:Int×Int=>[(1,.pointer (some ⟨b1,0,none⟩)),(2,.pointer (some ⟨b2,0,none⟩)),(3,.pointer (some ⟨b3,0,none⟩)),(7,.pointer (some ⟨b7,0,none⟩)),(8,.slice A c.length cc),(10,.pointer (some ⟨b10,0,none⟩)),(68,.slice Q.Ac p.code.length Q.cc),(69,.int .i64 p.code.length),(70,.int .i64 (i:Int))]) (λq=>[row b3 [.slice (some ⟨b14,0,none⟩) N N] 141,slv 4 1 (some ⟨b14,0,none⟩) N N ((gl p).map Value.bool),row b1 (jR p Q) 242,pg0 b2,row b7 [.slice (some ⟨b66,0,none⟩) N N] 60,sl .i64 3 (some ⟨b66,0,none⟩) N N pl2,slv 286 5 A c.length cc (c.flatMap II.cells),row b10 [.int .i64 op,.int .i64 dst,.int .i64 q.1,.int .i64 q.2,.int .u32 imm] 286]) (λq=>nW ⟨op,dst,xa,xb,imm⟩ pl2 c.length=⟨op,c.length,q.1,q.2,imm⟩) ?_ ?_
  .refine gR ?_;refine ZW ?_ ?_<;>intro hc19
   .have hab:lr ⟨op,dst,xa,xb,imm⟩=true:=hc19;obtain⟨⟨a1,a2⟩,a3,a4⟩:=hwf hab;obtain⟨na,rfl⟩:∃n:Nat,xa=n:=ar a1;obtain⟨nb,rfl⟩:∃n:Nat,xb=n:=ar a3;have hsw:nW ⟨op,dst,na,nb,imm⟩ pl2 c.length=⟨op,c.length,pl2.getD na 0,pl2.getD nb 0,imm⟩:=(by unfold nW;rw[hab];rfl);refine bU ⟨λj=>List.elem j [11,13],[]⟩ Zk ?_;refine ZG 0 ?_;refine ZFe 1 2 ?_;refine ZG 2 ?_;refine cG 3 rfl Zk Zk Zk (cw (bb:=b66) (o:=0) (n:=N) (c:=N) (j:=na) (sz:=1) (r:=na) rfl Zrf (Zv rfl) (Zv rfl) Zrf Wq4 Wq1) rfl ?_;refine dD 4 rfl Zk Zk Zk Zk (bQ Zrf (Zv rfl)) (dm Zh (eQ Wq1)) rfl ?_;refine ZFe 6 3 ?_;refine ZG 7 ?_;refine ZFe 10 2 ?_;refine k8 5 11 Zk ?_ ?_
    .refine kY ?_;refine cG 8 rfl Zk Zk Zk (cw (bb:=b66) (o:=0) (n:=N) (c:=N) (j:=nb) (sz:=1) (r:=nb) rfl Zrf (Zv rfl) (Zv rfl) Zrf Wq4 Wq1) rfl ?_;refine k8 9 11 Zk ?_ ?_
     .refine Db rfl (bQ Zrf (Zv rfl)) (dm Zh (eQ Wq1)) rfl ?_;refine cn 11 Zk ?_;refine ZQ ?_;refine ZFe 12 3 ?_;refine cn 13 Zk ?_;refine ZQ ?_;refine dx ?_;refine bX ((⟨pl2.getD na 0,pl2.getD nb 0⟩:Int×Int)) ?_ ?_ ?_
      .exact hsw
      .exact Zwk
      exact Zj
     refine ZQ ?_;refine dD 9 rfl Zk Zk Zk Zk (bQ Zrf (Zv rfl)) (dm Zh (eQ Wq1)) rfl ?_;refine ZFe 12 3 ?_;refine cn 13 Zk ?_;refine ZQ ?_;refine dx ?_;refine bX ((⟨pl2.getD na 0,pl2.getD nb 0⟩:Int×Int)) ?_ ?_ ?_
     .exact hsw
     .exact Zwk
     exact Zj
    refine ZQ ?_;refine ZG 5 ?_;refine cG 8 rfl Zk Zk Zk (cw (bb:=b66) (o:=0) (n:=N) (c:=N) (j:=nb) (sz:=1) (r:=nb) rfl Zrf (Zv rfl) (Zv rfl) Zrf Wq4 Wq1) rfl ?_;refine dD 9 rfl Zk Zk Zk Zk (bQ Zrf (Zv rfl)) (dm Zh (eQ Wq1)) rfl ?_;refine ZFe 12 3 ?_;refine cn 13 Zk ?_;refine ZQ ?_;refine dx ?_;refine bX ((⟨pl2.getD na 0,pl2.getD nb 0⟩:Int×Int)) ?_ ?_ ?_
    .exact hsw
    .exact Zwk
    exact Zj
   have hab:lr ⟨op,dst,xa,xb,imm⟩=false:=hc19;have hsw:nW ⟨op,dst,xa,xb,imm⟩ pl2 c.length=⟨op,c.length,xa,xb,imm⟩:=(by unfold nW;rw[hab];rfl);refine Zc ?_;refine bX ((⟨xa,xb⟩:Int×Int)) ?_ ?_ ?_
   .exact hsw
   .exact Zwk
   exact Zj
  rintro⟨ya,yb⟩ hsw;dsimp only at hsw|-;rw[hsw]at hW;refine Z_5 ?_;refine ZL ?_;refine Z_5 ?_;refine ro ?_;rintro _ _ ⟨b110,rfl,rfl⟩;refine gj (cD (n:=c.length) (e:=286) (sz:=5) (bytes:=40) rfl rfl Za rfl rfl (λw hi=>hi.rd (show Has _ (slv 286 5 (some ⟨b110,0,none⟩) 1 1 [.int .i64 op,.int .i64 c.length,.int .i64 ya,.int .i64 yb,.int .u32 imm])from Zh)) (one5 _ _ _ _ _) gS Wq1) rfl ?_;rintro _ _ ⟨A2,c2,rfl,rfl⟩;rw[Hp c ⟨op,c.length,ya,yb,imm⟩,show c.length+1=(c++[(⟨op,c.length,ya,yb,imm⟩:II)]).length by simp];refine Z_5 ?_;refine Wq8 ?_;refine bX ((⟨i+1,pl2,c++[⟨op,c.length,ya,yb,imm⟩],A2,c2⟩:Nat×List Int×List II×Option Addr×Nat)) ?_ ?_ ?_
  .exact⟨⟨by omega,hpl2l,by simp;omega,hW⟩,by dsimp only;omega⟩
  .exact Zwk
  exact Zj
 simp only[ah]at hc15;obtain rfl:i=N:=Wq1;rw[List.drop_of_length_le Wq1]at hW;have hW:(pl,c)=eV p:=hW;have hsT:∀fl tg,eP pl p.flags=fl->eP pl p.target=tg->cH p=⟨c,p.MM,p.MO,p.Nc,p.Ng,ef pl p.MV,ef pl p.MW,fl,p.next,tg,p.branch,p.taken,p.count,c.length⟩:=(by intro fl tg h1 h2;unfold cH;rw[<-hW];dsimp only;rw[h1,h2]);refine Z_7 ?_;refine Zy (lL rfl) ?_;refine Z_4 ?_;refine iR ⟨λj=>List.elem j [6,10,12,14,16,18],[]⟩ [(0,0),(1,0),(2,0),(3,0),(4,0),(5,4),(7,0),(8,0),(6,3),(9,3),(10,3),(11,3),(12,3),(13,3),(14,3),(15,3),(16,3),(17,3),(18,3)] Zk Zk ?_;refine cW rfl (fZ Zv0) rfl ?_;refine cW rfl (fZ Zv0) rfl ?_;refine cW rfl (y_len ⟨_,rfl⟩ Zv0) rfl ?_;refine cW rfl (fZ Zv0) rfl ?_;refine cW rfl (dT 5 rfl Zv0 Zf) rfl ?_;refine jB rfl (bQ Zrf Zv0) (cu Zh rfl) rfl ?_;refine cW rfl (fZ Zv0) rfl ?_;refine cW rfl (dT 6 rfl Zv0 Zf) rfl ?_;refine Jk [(6,[(9,1),(11,0),(10,2),(12,2),(13,0),(14,2),(15,0),(16,2),(17,0),(18,2)]),(9,[(11,0),(6,2),(10,2),(12,2),(13,0),(14,2),(15,0),(16,2),(17,0),(18,2)])] Zk (.cons ?_ (.cons ?_ .nil))
 .refine dO rfl rfl (fR (plF b7 (some ⟨b66,0,none⟩) i i pl) rfl rfl (λ_ _=>rfl) Zi (λw hi hin=>nA b7 (some ⟨b66,0,none⟩) i i pl hpl Q.Ad Q.cd p.MV Wq1 (by rw[hpl];exact hoD2) w hin (λw' hk=>RdV.M6 h.MV hi Zi hk))) ZJ rfl ?_;rintro _ _ ⟨_,⟨A3,c3,rfl,rfl⟩,rfl⟩;refine v8 rfl (bQ Zrf Zv0) (cu Zh rfl) rfl ?_;refine cW rfl (dT 0 rfl Zv0 Zf) rfl ?_;refine fo rfl ?_;refine dO rfl rfl (fR (plF b7 (some ⟨b66,0,none⟩) i i pl) rfl rfl (λ_ _=>rfl) Zi (λw hi hin=>nA b7 (some ⟨b66,0,none⟩) i i pl hpl Q.Ar Q.cr p.MW Wq1 (by rw[hpl];exact hoR2) w hin (λw' hk=>RdV.M6 h.MW hi Zi hk))) ZJ rfl ?_;rintro _ _ ⟨_,⟨A4,c4,rfl,rfl⟩,rfl⟩;refine fo rfl ?_;refine eX rfl rfl (fq Zrf rfl rfl rfl Za Zp) ZJ ?_;rintro _ _ ⟨rfl,rfl⟩;refine cW rfl (dT 13 rfl Zv0 Zf) rfl ?_;refine fo rfl ?_;refine eX rfl rfl (fq Zrf rfl rfl rfl Za Zp) ZJ ?_;rintro _ _ ⟨rfl,rfl⟩;refine cW rfl (dT 5 rfl Zv0 Zf) rfl ?_;refine fo rfl ?_;refine eX rfl rfl (fq Zrf rfl rfl rfl Za Zp) ZJ ?_;rintro _ _ ⟨rfl,rfl⟩;refine cW rfl (dT 6 rfl Zv0 Zf) rfl ?_;refine fo rfl ?_;refine eX rfl rfl (fq Zrf rfl rfl rfl Za Zp) ZJ ?_;rintro _ _ ⟨rfl,rfl⟩;refine eU ?_;refine Z_9 ?_;refine ZW ?_ ?_<;>intro hc26
  .have hf1:p.flags≠ -1:=(by simpa using hc26);obtain⟨nf,hnf,hnf2⟩:=hfl hf1;have hm1:eP pl p.flags=pl.getD nf 0:=(by unfold eP;rw[hc26,ac,hnf,aP]);refine Z_4 ?_;refine Zy (cw (bb:=b66) (o:=0) (n:=i) (c:=i) (j:=nf) (sz:=1) (r:=nf) rfl Zrf (Zv rfl) (Zv rfl) (λ_=>hnf) Wq4 Wq1) ?_;refine dN (bQ Zrf (Zv rfl)) (dm Zh (eQ Wq1)) rfl ?_;refine Z_1 ?_;refine ZL ?_;refine dS ?_;refine ZW ?_ ?_<;>intro hc28
   .have ht1:p.target≠ -1:=(by simpa using hc28);obtain⟨nt,hnt,hnt2⟩:=htg ht1;have hm2:eP pl p.target=pl.getD nt 0:=(by unfold eP;rw[hc28,ac,hnt,aP]);refine Z_4 ?_;refine Zy (cw (bb:=b66) (o:=0) (n:=i) (c:=i) (j:=nt) (sz:=1) (r:=nt) rfl Zrf (Zv rfl) (Zv rfl) (λ_=>hnt) Wq4 Wq1) ?_;refine dN (bQ Zrf (Zv rfl)) (dm Zh (eQ Wq1)) rfl ?_;refine Z_1 ?_;refine ZL ?_;refine Z_5 ?_;exact Wq9
   have hm2:eP pl p.target=p.target:=(by unfold eP;rw[hc28,aa]);refine Z_5 ?_;exact Wq9
  have hm1:eP pl p.flags=p.flags:=(by unfold eP;rw[hc26,aa]);refine dS ?_;refine ZW ?_ ?_<;>intro hc28
  .have ht1:p.target≠ -1:=(by simpa using hc28);obtain⟨nt,hnt,hnt2⟩:=htg ht1;have hm2:eP pl p.target=pl.getD nt 0:=(by unfold eP;rw[hc28,ac,hnt,aP]);refine Z_4 ?_;refine Zy (cw (bb:=b66) (o:=0) (n:=i) (c:=i) (j:=nt) (sz:=1) (r:=nt) rfl Zrf (Zv rfl) (Zv rfl) (λ_=>hnt) Wq4 Wq1) ?_;refine dN (bQ Zrf (Zv rfl)) (dm Zh (eQ Wq1)) rfl ?_;refine Z_1 ?_;refine ZL ?_;refine Z_5 ?_;exact Wq9
  have hm2:eP pl p.target=p.target:=(by unfold eP;rw[hc28,aa]);refine Z_5 ?_;exact Wq9
 refine EY rfl (bQ Zrf Zv0) (cu Zh rfl) rfl ?_;refine cW rfl (dT 0 rfl Zv0 Zf) rfl ?_;refine fo rfl ?_;refine dO rfl rfl (fR (plF b7 (some ⟨b66,0,none⟩) i i pl) rfl rfl (λ_ _=>rfl) Zi (λw hi hin=>nA b7 (some ⟨b66,0,none⟩) i i pl hpl Q.Ad Q.cd p.MV Wq1 (by rw[hpl];exact hoD2) w hin (λw' hk=>RdV.M6 h.MV hi Zi hk))) ZJ rfl ?_;rintro _ _ ⟨_,⟨A3,c3,rfl,rfl⟩,rfl⟩;refine fo rfl ?_;refine dO rfl rfl (fR (plF b7 (some ⟨b66,0,none⟩) i i pl) rfl rfl (λ_ _=>rfl) Zi (λw hi hin=>nA b7 (some ⟨b66,0,none⟩) i i pl hpl Q.Ar Q.cr p.MW Wq1 (by rw[hpl];exact hoR2) w hin (λw' hk=>RdV.M6 h.MW hi Zi hk))) ZJ rfl ?_;rintro _ _ ⟨_,⟨A4,c4,rfl,rfl⟩,rfl⟩;refine fo rfl ?_;refine eX rfl rfl (fq Zrf rfl rfl rfl Za Zp) ZJ ?_;rintro _ _ ⟨rfl,rfl⟩;refine cW rfl (dT 13 rfl Zv0 Zf) rfl ?_;refine fo rfl ?_;refine eX rfl rfl (fq Zrf rfl rfl rfl Za Zp) ZJ ?_;rintro _ _ ⟨rfl,rfl⟩;refine cW rfl (dT 5 rfl Zv0 Zf) rfl ?_;refine fo rfl ?_;refine eX rfl rfl (fq Zrf rfl rfl rfl Za Zp) ZJ ?_;rintro _ _ ⟨rfl,rfl⟩;refine cW rfl (dT 6 rfl Zv0 Zf) rfl ?_;refine fo rfl ?_;refine eX rfl rfl (fq Zrf rfl rfl rfl Za Zp) ZJ ?_;rintro _ _ ⟨rfl,rfl⟩;refine eU ?_;refine Z_9 ?_;refine ZW ?_ ?_<;>intro hc26
 .have hf1:p.flags≠ -1:=(by simpa using hc26);obtain⟨nf,hnf,hnf2⟩:=hfl hf1;have hm1:eP pl p.flags=pl.getD nf 0:=(by unfold eP;rw[hc26,ac,hnf,aP]);refine Z_4 ?_;refine Zy (cw (bb:=b66) (o:=0) (n:=i) (c:=i) (j:=nf) (sz:=1) (r:=nf) rfl Zrf (Zv rfl) (Zv rfl) (λ_=>hnf) Wq4 Wq1) ?_;refine dN (bQ Zrf (Zv rfl)) (dm Zh (eQ Wq1)) rfl ?_;refine Z_1 ?_;refine ZL ?_;refine dS ?_;refine ZW ?_ ?_<;>intro hc28
  .have ht1:p.target≠ -1:=(by simpa using hc28);obtain⟨nt,hnt,hnt2⟩:=htg ht1;have hm2:eP pl p.target=pl.getD nt 0:=(by unfold eP;rw[hc28,ac,hnt,aP]);refine Z_4 ?_;refine Zy (cw (bb:=b66) (o:=0) (n:=i) (c:=i) (j:=nt) (sz:=1) (r:=nt) rfl Zrf (Zv rfl) (Zv rfl) (λ_=>hnt) Wq4 Wq1) ?_;refine dN (bQ Zrf (Zv rfl)) (dm Zh (eQ Wq1)) rfl ?_;refine Z_1 ?_;refine ZL ?_;refine Z_5 ?_;exact Wq9
  have hm2:eP pl p.target=p.target:=(by unfold eP;rw[hc28,aa]);refine Z_5 ?_;exact Wq9
 have hm1:eP pl p.flags=p.flags:=(by unfold eP;rw[hc26,aa]);refine dS ?_;refine ZW ?_ ?_<;>intro hc28
 .have ht1:p.target≠ -1:=(by simpa using hc28);obtain⟨nt,hnt,hnt2⟩:=htg ht1;have hm2:eP pl p.target=pl.getD nt 0:=(by unfold eP;rw[hc28,ac,hnt,aP]);refine Z_4 ?_;refine Zy (cw (bb:=b66) (o:=0) (n:=i) (c:=i) (j:=nt) (sz:=1) (r:=nt) rfl Zrf (Zv rfl) (Zv rfl) (λ_=>hnt) Wq4 Wq1) ?_;refine dN (bQ Zrf (Zv rfl)) (dm Zh (eQ Wq1)) rfl ?_;refine Z_1 ?_;refine ZL ?_;refine Z_5 ?_;exact Wq9
 have hm2:eP pl p.target=p.target:=(by unfold eP;rw[hc28,aa]);refine Z_5 ?_;exact Wq9
end Go.Proofs.YtkegldppffignaaGreatDoor
