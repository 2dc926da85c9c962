/- Lemmas. -/
import Derived.Test.YtakodpimdalajaaGreatDoorPaa
import Derived.Test.YtakodpimdalajaaGreatDoorPab
import Derived.Test.YtakodpimdalajaaGreatDoorPak
import Derived.Test.YtakodpimdalajaaGreatDoorPaq
set_option linter.unusedSimpArgs false
set_option linter.unusedVariables false
set_option maxRecDepth 100000
set_option maxHeartbeats 4000000
namespace Go.Ink
open Go.RowKit
theorem Lw.sm.mono{L:Lw}{n m:Nat}(h:L.sm n)(hnm:n≤m):L.sm m:=⟨aV h.code hnm,aV h.dl hnm,aV h.rl hnm,⟨h.dn.1,by have:=h.dn.2;omega⟩,⟨h.rn.1,by have:=h.rn.2;omega⟩⟩
theorem DC{k:Int}{code:List II}{s:Sd}{n:Nat}(h1:code.length≤n)(h2:s.l.length≤n)(h3:0≤s.Jp∧s.Jp≤n):(eL k code s).2.1.length≤n+1∧(eL k code s).2.2.l.length≤n+1∧(0≤(eL k code s).2.2.Jp∧(eL k code s).2.2.Jp≤(n+1:Nat)):=by
 unfold eL;split
 ·refine⟨by show code.length≤_;omega,by show s.l.dropLast.length≤_;rw[List.length_dropLast];omega,h3.1,?_⟩;show s.Jp≤_;omega
 refine⟨by show(code++[_]).length≤_;simp;omega,au _,?_,?_⟩
 ·show 0≤s.Jp+1;omega
 show s.Jp+1≤_;omega
theorem gr{L:Lw}{n:Nat}(h:L.sm n){C:List II}{s:Sd}(hC:C=(eL 1 L.code L.d).2.1)(hs:s=(eL 1 L.code L.d).2.2)(f t br:Int):Lw.sm ⟨C,s,L.r,f,t,br⟩ (n+1):=by
 subst hC hs;obtain⟨h1,h2,h3⟩:=DC (k:=1) h.code h.dl h.dn;exact⟨h1,h2,aV h.rl Wq1,h3,⟨h.rn.1,by have:=h.rn.2;show L.r.Jp≤_;omega⟩⟩
theorem sm_popR{L:Lw}{n:Nat}(h:L.sm n){C:List II}{s:Sd}(hC:C=(eL 2 L.code L.r).2.1)(hs:s=(eL 2 L.code L.r).2.2)(f t br:Int):Lw.sm ⟨C,L.d,s,f,t,br⟩ (n+1):=by
 subst hC hs;obtain⟨h1,h2,h3⟩:=DC (k:=2) h.code h.rl h.rn;exact⟨h1,aV h.dl Wq1,h2,⟨h.dn.1,by have:=h.dn.2;show L.d.Jp≤_;omega⟩,h3⟩
theorem tz{L:Lw}{n:Nat}(h:L.sm n)(op a b i:Int):(L.add op a b i).sm (n+1):=⟨by have:=h.code;show(L.code++[_]).length≤_;simp;omega,aV h.dl Wq1,aV h.rl Wq1,⟨h.dn.1,by have:=h.dn.2;show L.d.Jp≤_;omega⟩,⟨h.rn.1,by have:=h.rn.2;show L.r.Jp≤_;omega⟩⟩
theorem oX{L:Lw}{n:Nat}(h:L.sm n)(l:List Int)(hl:l.length≤3):(L.JX l).sm (n+3):=⟨aV h.code Wq1,by have:=h.dl;show(L.d.l++l).length≤_;rw[ae];omega,aV h.rl Wq1,⟨h.dn.1,by have:=h.dn.2;show L.d.Jp≤_;omega⟩,⟨h.rn.1,by have:=h.rn.2;show L.r.Jp≤_;omega⟩⟩
theorem Dj{L:Lw}{n:Nat}(h:L.sm n)(l:List Int)(hl:l.length≤3):(L.Kt l).sm (n+3):=⟨aV h.code Wq1,aV h.dl Wq1,by have:=h.rl;show(L.r.l++l).length≤_;rw[ae];omega,⟨h.dn.1,by have:=h.dn.2;show L.d.Jp≤_;omega⟩,⟨h.rn.1,by have:=h.rn.2;show L.r.Jp≤_;omega⟩⟩
theorem qa{L:Lw}{n:Nat}(h:L.sm n):L.Js.2.sm (n+1):=gr h rfl rfl _ _ _
theorem sm_pR{L:Lw}{n:Nat}(h:L.sm n):L.JT.2.sm (n+1):=sm_popR h rfl rfl _ _ _
theorem qT{L:Lw}{n:Nat}(h:L.sm n)(f t br:Int):Lw.sm ⟨L.code,L.d,L.r,f,t,br⟩ n:=⟨h.code,h.dl,h.rl,h.dn,h.rn⟩
theorem sm_go{L:Lw}{n:Nat}(h:L.sm n)(op i next:Int):(L.go op i next).sm (n+10):=by
 unfold Lw.go Lw.reckon;cases op==1||op==2<;>simp only[ac,aa]
 case true=>exact(oX (tz h _ _ _ _) _ cJ).mono Wq1
 cases op==3<;>simp only[ac,aa]
 case true=>exact(oX (qa h) _ cJ).mono Wq1
 cases op==4<;>simp only[ac,aa]
 case true=>exact(qa h).mono Wq1
 cases op==5<;>simp only[ac,aa]
 case true=>exact(oX (qa (qa h)) _ cJ).mono Wq1
 cases op==6<;>simp only[ac,aa]
 case true=>exact(oX (qa (qa h)) _ cJ).mono Wq1
 cases op==7<;>simp only[ac,aa]
 case true=>exact(Dj (qa h) _ cJ).mono Wq1
 cases op==8<;>simp only[ac,aa]
 case true=>exact(oX (sm_pR h) _ cJ).mono Wq1
 cases decide (16≤op)&&decide (op≤25)<;>simp only[ac,aa]
 case true=>
  cases op !=25<;>simp only[ac,aa]
  ·exact(qT (tz (qa (qa h)) _ _ _ _) _ _ _).mono Wq1
  exact(oX (tz (qT (tz (qa (qa h)) _ _ _ _) _ _ _) _ _ _ _) _ cJ).mono Wq1
 cases op==38<;>simp only[ac,aa]
 case true=>exact(Dj (tz h _ _ _ _) _ cJ).mono Wq1
 cases op==39<;>simp only[ac,aa]
 case true=>exact(qT (sm_pR h) _ _ _).mono Wq1
 cases op==40<;>simp only[ac,aa]
 case true=>exact(qT (qa h) _ _ _).mono Wq1
 cases decide (33≤op)&&decide (op≤37)<;>simp only[ac,aa]
 ·exact h.mono Wq1
 exact(qT h _ _ _).mono Wq1
end Go.Ink
namespace Go.Proofs.YtakodpimdalajaaGreatDoor
open Go.RowKit Go.Ink Go.Proofs.Tryz
attribute [local irreducible] OpY bP
theorem D1(b:Nat)(N:Int)(L:Lw)(X:LAd)(hs:L.sm 1000)(w:World)(hi:Inv w (bK (lwF b N L X)) (lwF b N L X) w):
  Ctr prog 216 [.pointer (some ⟨b,14,none⟩)] w (lwF b N L X) (fun _ cs=>cs=lwF b N ⟨L.code,L.d.top,L.r,L.flags,L.target,L.branch⟩ X):=G8 b N L.code L.r L.d.l L.d.Jp L.d.high L.flags L.target L.branch X hs.dl hs.dn w hi
theorem DZ(b:Nat)(N:Int)(L:Lw)(X:LAd)(hs:L.sm 1000)(w:World)(hi:Inv w (bK (lwF b N L X)) (lwF b N L X) w):
  Ctr prog 216 [.pointer (some ⟨b,18,none⟩)] w (lwF b N L X) (fun _ cs=>cs=lwF b N ⟨L.code,L.d,L.r.top,L.flags,L.target,L.branch⟩ X):=G7 b N L.code L.d L.r.l L.r.Jp L.r.high L.flags L.target L.branch X hs.rl hs.rn w hi
theorem lone_ok(b:Nat)(N:Int)(L:Lw)(X:LAd)(hs:L.sm 500)(op n next:Int)(w:World)(hi:Inv w (bK (lwF b N L X)) (lwF b N L X) w):
  Ctr prog 165 [.pointer (some ⟨b,0,none⟩),.agg #[.int .i64 op,.int .u32 n],.int .u32 next] w (lwF b N L X) (fun _ cs=>∃L' X',L'=L.one op n next∧cs=lwF b N L' X'):=by
 have hgo:=sm_go hs op n next
 refine bL func165 rfl ntmps165 rfl hi ?_;refine Z_2 ?_;refine ZO fun b4=>?_;refine Z_3 ?_;refine bR ⟨fun j=>List.elem j [],[]⟩ Zk ?_;refine gn ?_;refine ZFe 2 14 ?_;refine ZE 3 ?_;refine ZE 4 ?_;refine ZFe 5 18 ?_;refine ZE 6 ?_;refine ZE 7 ?_;refine dr ?_;refine Zt ?_;refine cW (fun q:Lw×LAd=>[(0,.pointer (some ⟨b,0,none⟩)),(6,.pointer (some ⟨b,14,none⟩)),(7,.pointer (some ⟨b,18,none⟩))]) (fun q=>lwF b N q.1 q.2) (fun q=>q.1=L.go op n next) ?_ ?_
 ·refine FT ?_;refine ZW ?_ ?_<;>intro hc3
  ·refine bR ⟨fun j=>List.elem j [8,10,13],qY b4 [.int .i64 op,.int .u32 n]⟩ Zk ?_;refine gn ?_;refine ZE 2 ?_;refine ZFe 3 0 ?_;refine ZE 5 ?_;refine ZFe 6 1 ?_;refine iC 7 rfl Zk Zk Zk (bO Zrf (Zv rfl)) Wq2 (bQ (t:=24) Zh) rfl ?_;refine j4 4 8 Zk ?_ ?_
   ·refine kg ?_;refine ce 8 Zk ?_;refine iZ rfl rfl (eB (lwF b N L X) rfl (fun _ _=>rfl) Zi (fun w hi hin=>oA b N L X (hs.mono Wq1) n w hin)) (fun _=>by rintro _ _ ⟨_,⟨rfl,C2,A2,c2,hC2,rfl⟩,rfl⟩;exact bQ (t:=24) Zh) rfl ?_;rintro _ _ ⟨_,⟨rfl,C2,A2,c2,hC2,rfl⟩,rfl⟩;refine ce 9 Zk ?_;refine iZ rfl rfl (io rfl rfl Zrf Zrf rfl rfl) (fun _=>by rintro _ _ ⟨b40,rfl,rfl⟩;exact bQ (t:=24) Zh) rfl ?_;rintro _ _ ⟨b40,rfl,rfl⟩;refine ce 10 Zk ?_;have hbd:L.d.l.length≤600:=aV hs.dl Wq1;refine iZ rfl rfl (cC (n:=L.d.l.length) (e:=3) (sz:=1) (bytes:=8) rfl rfl Za rfl rfl (fun w hi=>hi.rd (show Has _ (slv 3 1 (some ⟨b40,0,none⟩) 1 1 (ints .i64 [L.here]))from Zh)) cO g9 Wq1) (fun _=>by rintro _ _ ⟨A9,c9,rfl,rfl⟩;exact bQ (t:=24) Zh) rfl ?_;rintro _ _ ⟨A9,c9,rfl,rfl⟩;rw[cj,show L.d.l.length+1=(L.d.l++[L.here]).length by simp];refine ZE 11 ?_;refine ZFe 12 0 ?_;refine ce 13 Zk ?_;refine dp rfl rfl (fc Zrf rfl rfl rfl Za Zp) (fun _=>by rintro _ _ ⟨rfl,rfl⟩;exact bQ (t:=24) Zh) ?_;rintro _ _ ⟨rfl,rfl⟩;refine dr ?_;refine Zo ?_;refine bY (((⟨C2,⟨L.d.l++[L.here],L.d.Jp,L.d.high⟩,L.r,L.flags,L.target,L.branch⟩,⟨A2,c2,A9,c9,X.Ar,X.cr⟩):Lw×LAd)) ?_ ?_ ?_
    ·(dsimp only;subst hC2;unfold Lw.go;rw[hc3];rfl)
    ·exact Zwk
    exact Zj
   refine iZ rfl rfl (eB (lwF b N L X) rfl (fun _ _=>rfl) Zi (fun w hi hin=>oA b N L X (hs.mono Wq1) n w hin)) (fun _=>by rintro _ _ ⟨_,⟨rfl,C2,A2,c2,hC2,rfl⟩,rfl⟩;exact bQ (t:=24) Zh) rfl ?_;rintro _ _ ⟨_,⟨rfl,C2,A2,c2,hC2,rfl⟩,rfl⟩;refine ZG 4 ?_;refine ce 9 Zk ?_;refine iZ rfl rfl (io rfl rfl Zrf Zrf rfl rfl) (fun _=>by rintro _ _ ⟨b40,rfl,rfl⟩;exact bQ (t:=24) Zh) rfl ?_;rintro _ _ ⟨b40,rfl,rfl⟩;refine ce 10 Zk ?_;have hbd:L.d.l.length≤600:=aV hs.dl Wq1;refine iZ rfl rfl (cC (n:=L.d.l.length) (e:=3) (sz:=1) (bytes:=8) rfl rfl Za rfl rfl (fun w hi=>hi.rd (show Has _ (slv 3 1 (some ⟨b40,0,none⟩) 1 1 (ints .i64 [L.here]))from Zh)) cO g9 Wq1) (fun _=>by rintro _ _ ⟨A9,c9,rfl,rfl⟩;exact bQ (t:=24) Zh) rfl ?_;rintro _ _ ⟨A9,c9,rfl,rfl⟩;rw[cj,show L.d.l.length+1=(L.d.l++[L.here]).length by simp];refine ZE 11 ?_;refine ZFe 12 0 ?_;refine ce 13 Zk ?_;refine dp rfl rfl (fc Zrf rfl rfl rfl Za Zp) (fun _=>by rintro _ _ ⟨rfl,rfl⟩;exact bQ (t:=24) Zh) ?_;rintro _ _ ⟨rfl,rfl⟩;refine dr ?_;refine Zo ?_;refine bY (((⟨C2,⟨L.d.l++[L.here],L.d.Jp,L.d.high⟩,L.r,L.flags,L.target,L.branch⟩,⟨A2,c2,A9,c9,X.Ar,X.cr⟩):Lw×LAd)) ?_ ?_ ?_
   ·(dsimp only;subst hC2;unfold Lw.go;rw[hc3];rfl)
   ·exact Zwk
   exact Zj
  refine Z_7 ?_;refine ZW ?_ ?_<;>intro hc5
  ·refine Z_4 ?_;refine ZcL (lwF b N L X) (fun w hi hin=>iJ b N L X (hs.mono Wq1) w hin) ?_;rintro _ _ ⟨_,⟨rfl,C2,s2,A2,c2,hC2,hs2,rfl⟩,rfl⟩;refine fF ?_;refine ku ?_;rintro _ _ ⟨b57,rfl,rfl⟩;have hbd:s2.l.length≤600:=aV (gr hs hC2 hs2 0 0 0).dl Wq1;refine fb (cC (n:=s2.l.length) (e:=3) (sz:=1) (bytes:=8) rfl rfl Za rfl rfl (fun w hi=>hi.rd (show Has _ (slv 3 1 (some ⟨b57,0,none⟩) 2 2 (ints .i64 [(eL 1 L.code L.d).1,(eL 1 L.code L.d).1]))from Zh)) cO g9 Wq1) rfl ?_;rintro _ _ ⟨A9,c9,rfl,rfl⟩;rw[cj,show s2.l.length+2=(s2.l++[(eL 1 L.code L.d).1,(eL 1 L.code L.d).1]).length by simp];refine Z_2 ?_;refine ZL ?_;refine Z_2 ?_;refine bY (((⟨C2,⟨s2.l++[(eL 1 L.code L.d).1,(eL 1 L.code L.d).1],s2.Jp,s2.high⟩,L.r,L.flags,L.target,L.branch⟩,⟨A2,c2,A9,c9,X.Ar,X.cr⟩):Lw×LAd)) ?_ ?_ ?_
   ·(dsimp only;subst hC2 hs2;unfold Lw.go;rw[hc3,hc5];rfl)
   ·exact Zwk
   exact Zj
  refine Z_7 ?_;refine ZW ?_ ?_<;>intro hc8
  ·refine Z_3 ?_;refine ZcL (lwF b N L X) (fun w hi hin=>iJ b N L X (hs.mono Wq1) w hin) ?_;rintro _ _ ⟨_,⟨rfl,C2,s2,A2,c2,hC2,hs2,rfl⟩,rfl⟩;refine Z_2 ?_;refine bY (((⟨C2,s2,L.r,L.flags,L.target,L.branch⟩,⟨A2,c2,X.Ad,X.cd,X.Ar,X.cr⟩):Lw×LAd)) ?_ ?_ ?_
   ·(dsimp only;subst hC2 hs2;unfold Lw.go;rw[hc3,hc5,hc8];rfl)
   ·exact Zwk
   exact Zj
  refine Z_7 ?_;refine ZW ?_ ?_<;>intro hc10
  ·refine Z_4 ?_;refine ZcL (lwF b N L X) (fun w hi hin=>iJ b N L X (hs.mono Wq1) w hin) ?_;rintro _ _ ⟨_,⟨rfl,C2,s2,A2,c2,hC2,hs2,rfl⟩,rfl⟩;refine Z_7 ?_;refine ZcL (lwF b N ⟨C2,s2,L.r,L.flags,L.target,L.branch⟩ ⟨A2,c2,X.Ad,X.cd,X.Ar,X.cr⟩) (fun w hi hin=>iJ b N ⟨C2,s2,L.r,L.flags,L.target,L.branch⟩ ⟨A2,c2,X.Ad,X.cd,X.Ar,X.cr⟩ ((gr hs hC2 hs2 _ _ _).mono Wq1) w hin) ?_;rintro _ _ ⟨_,⟨rfl,C3,s3,A3,c3,hC3,hs3,rfl⟩,rfl⟩;refine fF ?_;refine ku ?_;rintro _ _ ⟨b83,rfl,rfl⟩;have hbd:s3.l.length≤600:=aV (gr (gr hs hC2 hs2 L.flags L.target L.branch) hC3 hs3 0 0 0).dl Wq1;refine fb (cC (n:=s3.l.length) (e:=3) (sz:=1) (bytes:=8) rfl rfl Za rfl rfl (fun w hi=>hi.rd (show Has _ (slv 3 1 (some ⟨b83,0,none⟩) 2 2 (ints .i64 [(eL 1 L.code L.d).1,(eL 1 C2 s2).1]))from Zh)) cO g9 Wq1) rfl ?_;rintro _ _ ⟨A9,c9,rfl,rfl⟩;rw[cj,show s3.l.length+2=(s3.l++[(eL 1 L.code L.d).1,(eL 1 C2 s2).1]).length by simp];refine Z_2 ?_;refine ZL ?_;refine Z_2 ?_;refine bY (((⟨C3,⟨s3.l++[(eL 1 L.code L.d).1,(eL 1 C2 s2).1],s3.Jp,s3.high⟩,L.r,L.flags,L.target,L.branch⟩,⟨A3,c3,A9,c9,X.Ar,X.cr⟩):Lw×LAd)) ?_ ?_ ?_
   ·(dsimp only;subst hC3 hs3 hC2 hs2;unfold Lw.go;rw[hc3,hc5,hc8,hc10];rfl)
   ·exact Zwk
   exact Zj
  refine Z_7 ?_;refine ZW ?_ ?_<;>intro hc14
  ·refine Z_4 ?_;refine ZcL (lwF b N L X) (fun w hi hin=>iJ b N L X (hs.mono Wq1) w hin) ?_;rintro _ _ ⟨_,⟨rfl,C2,s2,A2,c2,hC2,hs2,rfl⟩,rfl⟩;refine Z_7 ?_;refine ZcL (lwF b N ⟨C2,s2,L.r,L.flags,L.target,L.branch⟩ ⟨A2,c2,X.Ad,X.cd,X.Ar,X.cr⟩) (fun w hi hin=>iJ b N ⟨C2,s2,L.r,L.flags,L.target,L.branch⟩ ⟨A2,c2,X.Ad,X.cd,X.Ar,X.cr⟩ ((gr hs hC2 hs2 _ _ _).mono Wq1) w hin) ?_;rintro _ _ ⟨_,⟨rfl,C3,s3,A3,c3,hC3,hs3,rfl⟩,rfl⟩;refine gE ?_;refine ku ?_;rintro _ _ ⟨b104,rfl,rfl⟩;have hbd:s3.l.length≤600:=aV (gr (gr hs hC2 hs2 L.flags L.target L.branch) hC3 hs3 0 0 0).dl Wq1;refine fb (cC (n:=s3.l.length) (e:=3) (sz:=1) (bytes:=8) rfl rfl Za rfl rfl (fun w hi=>hi.rd (show Has _ (slv 3 1 (some ⟨b104,0,none⟩) 3 3 (ints .i64 [(eL 1 C2 s2).1,(eL 1 L.code L.d).1,(eL 1 C2 s2).1]))from Zh)) cO g9 Wq1) rfl ?_;rintro _ _ ⟨A9,c9,rfl,rfl⟩;rw[cj,show s3.l.length+3=(s3.l++[(eL 1 C2 s2).1,(eL 1 L.code L.d).1,(eL 1 C2 s2).1]).length by simp];refine Z_2 ?_;refine ZL ?_;refine Z_2 ?_;refine bY (((⟨C3,⟨s3.l++[(eL 1 C2 s2).1,(eL 1 L.code L.d).1,(eL 1 C2 s2).1],s3.Jp,s3.high⟩,L.r,L.flags,L.target,L.branch⟩,⟨A3,c3,A9,c9,X.Ar,X.cr⟩):Lw×LAd)) ?_ ?_ ?_
   ·(dsimp only;subst hC3 hs3 hC2 hs2;unfold Lw.go;rw[hc3,hc5,hc8,hc10,hc14];rfl)
   ·exact Zwk
   exact Zj
  refine Z_7 ?_;refine ZW ?_ ?_<;>intro hc18
  ·refine bR ⟨fun j=>List.elem j [7,9,12],[]⟩ Zk ?_;refine gn ?_;refine ZE 2 ?_;refine ZFe 3 0 ?_;refine ZE 5 ?_;refine ZE 6 ?_;refine j4 4 7 Zk ?_ ?_
   ·refine kg ?_;refine ce 7 Zk ?_;refine ZcA (lwF b N L X) (fun w hi hin=>iJ b N L X (hs.mono Wq1) w hin) ?_;rintro _ _ ⟨_,⟨rfl,C2,s2,A2,c2,hC2,hs2,rfl⟩,rfl⟩;refine ce 8 Zk ?_;refine vD ?_;rintro _ _ ⟨b119,rfl,rfl⟩;refine ce 9 Zk ?_;have hbd:L.r.l.length≤600:=aV hs.rl Wq1;refine iZ rfl rfl (cC (n:=L.r.l.length) (e:=3) (sz:=1) (bytes:=8) rfl rfl Za rfl rfl (fun w hi=>hi.rd (show Has _ (slv 3 1 (some ⟨b119,0,none⟩) 1 1 (ints .i64 [(eL 1 L.code L.d).1]))from Zh)) cO g9 Wq1) ZJ rfl ?_;rintro _ _ ⟨A9,c9,rfl,rfl⟩;rw[cj,show L.r.l.length+1=(L.r.l++[(eL 1 L.code L.d).1]).length by simp];refine ZE 10 ?_;refine ZFe 11 0 ?_;refine ce 12 Zk ?_;refine ZQ ?_;refine dr ?_;refine Zo ?_;refine bY (((⟨C2,s2,⟨L.r.l++[(eL 1 L.code L.d).1],L.r.Jp,L.r.high⟩,L.flags,L.target,L.branch⟩,⟨A2,c2,X.Ad,X.cd,A9,c9⟩):Lw×LAd)) ?_ ?_ ?_
    ·(dsimp only;subst hC2 hs2;unfold Lw.go;rw[hc3,hc5,hc8,hc10,hc14,hc18];rfl)
    ·exact Zwk
    exact Zj
   refine ZcA (lwF b N L X) (fun w hi hin=>iJ b N L X (hs.mono Wq1) w hin) ?_;rintro _ _ ⟨_,⟨rfl,C2,s2,A2,c2,hC2,hs2,rfl⟩,rfl⟩;refine ZG 4 ?_;refine ce 8 Zk ?_;refine vD ?_;rintro _ _ ⟨b119,rfl,rfl⟩;refine ce 9 Zk ?_;have hbd:L.r.l.length≤600:=aV hs.rl Wq1;refine iZ rfl rfl (cC (n:=L.r.l.length) (e:=3) (sz:=1) (bytes:=8) rfl rfl Za rfl rfl (fun w hi=>hi.rd (show Has _ (slv 3 1 (some ⟨b119,0,none⟩) 1 1 (ints .i64 [(eL 1 L.code L.d).1]))from Zh)) cO g9 Wq1) ZJ rfl ?_;rintro _ _ ⟨A9,c9,rfl,rfl⟩;rw[cj,show L.r.l.length+1=(L.r.l++[(eL 1 L.code L.d).1]).length by simp];refine ZE 10 ?_;refine ZFe 11 0 ?_;refine ce 12 Zk ?_;refine ZQ ?_;refine dr ?_;refine Zo ?_;refine bY (((⟨C2,s2,⟨L.r.l++[(eL 1 L.code L.d).1],L.r.Jp,L.r.high⟩,L.flags,L.target,L.branch⟩,⟨A2,c2,X.Ad,X.cd,A9,c9⟩):Lw×LAd)) ?_ ?_ ?_
   ·(dsimp only;subst hC2 hs2;unfold Lw.go;rw[hc3,hc5,hc8,hc10,hc14,hc18];rfl)
   ·exact Zwk
   exact Zj
  refine Z_7 ?_;refine ZW ?_ ?_<;>intro hc20
  ·refine bR ⟨fun j=>List.elem j [7,9,12],[]⟩ Zk ?_;refine gn ?_;refine ZE 2 ?_;refine ZFe 3 0 ?_;refine ZE 5 ?_;refine ZE 6 ?_;refine j4 4 7 Zk ?_ ?_
   ·refine kg ?_;refine ce 7 Zk ?_;refine ZcA (lwF b N L X) (fun w hi hin=>u6 b N L X (hs.mono Wq1) w hin) ?_;rintro _ _ ⟨_,⟨rfl,C2,s2,A2,c2,hC2,hs2,rfl⟩,rfl⟩;refine ce 8 Zk ?_;refine vD ?_;rintro _ _ ⟨b134,rfl,rfl⟩;refine ce 9 Zk ?_;have hbd:L.d.l.length≤600:=aV hs.dl Wq1;refine iZ rfl rfl (cC (n:=L.d.l.length) (e:=3) (sz:=1) (bytes:=8) rfl rfl Za rfl rfl (fun w hi=>hi.rd (show Has _ (slv 3 1 (some ⟨b134,0,none⟩) 1 1 (ints .i64 [(eL 2 L.code L.r).1]))from Zh)) cO g9 Wq1) ZJ rfl ?_;rintro _ _ ⟨A9,c9,rfl,rfl⟩;rw[cj,show L.d.l.length+1=(L.d.l++[(eL 2 L.code L.r).1]).length by simp];refine ZE 10 ?_;refine ZFe 11 0 ?_;refine ce 12 Zk ?_;refine ZQ ?_;refine dr ?_;refine Zo ?_;refine bY (((⟨C2,⟨L.d.l++[(eL 2 L.code L.r).1],L.d.Jp,L.d.high⟩,s2,L.flags,L.target,L.branch⟩,⟨A2,c2,A9,c9,X.Ar,X.cr⟩):Lw×LAd)) ?_ ?_ ?_
    ·(dsimp only;subst hC2 hs2;unfold Lw.go;rw[hc3,hc5,hc8,hc10,hc14,hc18,hc20];rfl)
    ·exact Zwk
    exact Zj
   refine ZcA (lwF b N L X) (fun w hi hin=>u6 b N L X (hs.mono Wq1) w hin) ?_;rintro _ _ ⟨_,⟨rfl,C2,s2,A2,c2,hC2,hs2,rfl⟩,rfl⟩;refine ZG 4 ?_;refine ce 8 Zk ?_;refine vD ?_;rintro _ _ ⟨b134,rfl,rfl⟩;refine ce 9 Zk ?_;have hbd:L.d.l.length≤600:=aV hs.dl Wq1;refine iZ rfl rfl (cC (n:=L.d.l.length) (e:=3) (sz:=1) (bytes:=8) rfl rfl Za rfl rfl (fun w hi=>hi.rd (show Has _ (slv 3 1 (some ⟨b134,0,none⟩) 1 1 (ints .i64 [(eL 2 L.code L.r).1]))from Zh)) cO g9 Wq1) ZJ rfl ?_;rintro _ _ ⟨A9,c9,rfl,rfl⟩;rw[cj,show L.d.l.length+1=(L.d.l++[(eL 2 L.code L.r).1]).length by simp];refine ZE 10 ?_;refine ZFe 11 0 ?_;refine ce 12 Zk ?_;refine ZQ ?_;refine dr ?_;refine Zo ?_;refine bY (((⟨C2,⟨L.d.l++[(eL 2 L.code L.r).1],L.d.Jp,L.d.high⟩,s2,L.flags,L.target,L.branch⟩,⟨A2,c2,A9,c9,X.Ar,X.cr⟩):Lw×LAd)) ?_ ?_ ?_
   ·(dsimp only;subst hC2 hs2;unfold Lw.go;rw[hc3,hc5,hc8,hc10,hc14,hc18,hc20];rfl)
   ·exact Zwk
   exact Zj
  refine fF ?_;refine ZW ?_ ?_<;>intro hc22
  ·have hop:16≤op∧op≤25:=(by simpa using hc22);have hwop:IntKind.u32.wrap op=op:=(by rw[aE];omega);refine Z_4 ?_;refine ZcL (lwF b N L X) (fun w hi hin=>iJ b N L X (hs.mono Wq1) w hin) ?_;rintro _ _ ⟨_,⟨rfl,C2,s2,A2,c2,hC2,hs2,rfl⟩,rfl⟩;refine Z_7 ?_;refine ZcL (lwF b N ⟨C2,s2,L.r,L.flags,L.target,L.branch⟩ ⟨A2,c2,X.Ad,X.cd,X.Ar,X.cr⟩) (fun w hi hin=>iJ b N ⟨C2,s2,L.r,L.flags,L.target,L.branch⟩ ⟨A2,c2,X.Ad,X.cd,X.Ar,X.cr⟩ ((gr hs hC2 hs2 _ _ _).mono Wq1) w hin) ?_;rintro _ _ ⟨_,⟨rfl,C3,s3,A3,c3,hC3,hs3,rfl⟩,rfl⟩;refine dS ?_;refine Zy (bW rfl rfl Zv0 hwop) ?_;refine ZA ?_;refine ZcL (lwF b N ⟨C3,s3,L.r,L.flags,L.target,L.branch⟩ ⟨A3,c3,X.Ad,X.cd,X.Ar,X.cr⟩) (fun w hi hin=>mc b N ⟨C3,s3,L.r,L.flags,L.target,L.branch⟩ ⟨A3,c3,X.Ad,X.cd,X.Ar,X.cr⟩ ((gr (gr hs hC2 hs2 L.flags L.target L.branch) hC3 hs3 _ _ _).mono Wq1) 4 0 (eL 1 C2 s2).1 (eL 1 L.code L.d).1 op w hin) ?_;rintro _ _ ⟨_,⟨rfl,C4,A4,c4,hC4,rfl⟩,rfl⟩;have h3:=gr (gr hs hC2 hs2 L.flags L.target L.branch) hC3 hs3 L.flags L.target L.branch;have h4:=tz h3 4 (eL 1 C2 s2).1 (eL 1 L.code L.d).1 op;have hs4:Lw.sm ⟨C4,s3,L.r,(C3.length:Int),L.target,L.branch⟩ 1000:=(by refine⟨?_,(h3.mono (by omega:_≤1000)).dl,(h3.mono (by omega:_≤1000)).rl,(h3.mono (by omega:_≤1000)).dn,(h3.mono (by omega:_≤1000)).rn⟩;rw[hC4];exact aV h4.code Wq1);refine Z_3 ?_;refine ZL ?_;refine Z_8 ?_;refine ZW ?_ ?_<;>intro hc26
   ·refine bR ⟨fun j=>List.elem j [11,13,16],[]⟩ Zk ?_;refine gn ?_;refine ZE 2 ?_;refine ZFe 3 0 ?_;refine ZE 5 ?_;refine ZE 6 ?_;refine ZE 7 ?_;refine ZE 8 ?_;refine cD 9 rfl Zk Zk Zk (bW rfl rfl Zv0 hwop) rfl ?_;refine ZE 10 ?_;refine j4 4 11 Zk ?_ ?_
    ·refine kg ?_;refine ce 11 Zk ?_;refine ZcA (lwF b N ⟨C4,s3,L.r,(C3.length:Int),L.target,L.branch⟩ ⟨A4,c4,X.Ad,X.cd,X.Ar,X.cr⟩) (fun w hi hin=>mc b N ⟨C4,s3,L.r,(C3.length:Int),L.target,L.branch⟩ ⟨A4,c4,X.Ad,X.cd,X.Ar,X.cr⟩ hs4 3 0 (eL 1 C2 s2).1 (eL 1 L.code L.d).1 op w hin) ?_;rintro _ _ ⟨_,⟨rfl,C5,A5,c5,hC5,rfl⟩,rfl⟩;refine ce 12 Zk ?_;refine vD ?_;rintro _ _ ⟨b176,rfl,rfl⟩;refine ce 13 Zk ?_;have hbd:s3.l.length≤600:=aV (gr (gr hs hC2 hs2 L.flags L.target L.branch) hC3 hs3 0 0 0).dl Wq1;refine iZ rfl rfl (cC (n:=s3.l.length) (e:=3) (sz:=1) (bytes:=8) rfl rfl Za rfl rfl (fun w hi=>hi.rd (show Has _ (slv 3 1 (some ⟨b176,0,none⟩) 1 1 (ints .i64 [(C4.length:Int)]))from Zh)) cO g9 Wq1) ZJ rfl ?_;rintro _ _ ⟨A9,c9,rfl,rfl⟩;rw[cj,show s3.l.length+1=(s3.l++[(C4.length:Int)]).length by simp];refine ZE 14 ?_;refine ZFe 15 0 ?_;refine ce 16 Zk ?_;refine ZQ ?_;refine dr ?_;refine Zo ?_;refine bY (((⟨C5,⟨s3.l++[(C4.length:Int)],s3.Jp,s3.high⟩,L.r,(C3.length:Int),L.target,L.branch⟩,⟨A5,c5,A9,c9,X.Ar,X.cr⟩):Lw×LAd)) ?_ ?_ ?_
     ·(dsimp only;subst hC5 hC4 hC3 hs3 hC2 hs2;unfold Lw.go;rw[hc3,hc5,hc8,hc10,hc14,hc18,hc20,hc22];unfold Lw.reckon;dsimp only;rw[hc26];rfl)
     ·exact Zwk
     exact Zj
    refine ZcA (lwF b N ⟨C4,s3,L.r,(C3.length:Int),L.target,L.branch⟩ ⟨A4,c4,X.Ad,X.cd,X.Ar,X.cr⟩) (fun w hi hin=>mc b N ⟨C4,s3,L.r,(C3.length:Int),L.target,L.branch⟩ ⟨A4,c4,X.Ad,X.cd,X.Ar,X.cr⟩ hs4 3 0 (eL 1 C2 s2).1 (eL 1 L.code L.d).1 op w hin) ?_;rintro _ _ ⟨_,⟨rfl,C5,A5,c5,hC5,rfl⟩,rfl⟩;refine ZG 4 ?_;refine ce 12 Zk ?_;refine vD ?_;rintro _ _ ⟨b176,rfl,rfl⟩;refine ce 13 Zk ?_;have hbd:s3.l.length≤600:=aV (gr (gr hs hC2 hs2 L.flags L.target L.branch) hC3 hs3 0 0 0).dl Wq1;refine iZ rfl rfl (cC (n:=s3.l.length) (e:=3) (sz:=1) (bytes:=8) rfl rfl Za rfl rfl (fun w hi=>hi.rd (show Has _ (slv 3 1 (some ⟨b176,0,none⟩) 1 1 (ints .i64 [(C4.length:Int)]))from Zh)) cO g9 Wq1) ZJ rfl ?_;rintro _ _ ⟨A9,c9,rfl,rfl⟩;rw[cj,show s3.l.length+1=(s3.l++[(C4.length:Int)]).length by simp];refine ZE 14 ?_;refine ZFe 15 0 ?_;refine ce 16 Zk ?_;refine ZQ ?_;refine dr ?_;refine Zo ?_;refine bY (((⟨C5,⟨s3.l++[(C4.length:Int)],s3.Jp,s3.high⟩,L.r,(C3.length:Int),L.target,L.branch⟩,⟨A5,c5,A9,c9,X.Ar,X.cr⟩):Lw×LAd)) ?_ ?_ ?_
    ·(dsimp only;subst hC5 hC4 hC3 hs3 hC2 hs2;unfold Lw.go;rw[hc3,hc5,hc8,hc10,hc14,hc18,hc20,hc22];unfold Lw.reckon;dsimp only;rw[hc26];rfl)
    ·exact Zwk
    exact Zj
   refine Z_2 ?_;refine bY (((⟨C4,s3,L.r,(C3.length:Int),L.target,L.branch⟩,⟨A4,c4,X.Ad,X.cd,X.Ar,X.cr⟩):Lw×LAd)) ?_ ?_ ?_
   ·(dsimp only;subst hC4 hC3 hs3 hC2 hs2;unfold Lw.go;rw[hc3,hc5,hc8,hc10,hc14,hc18,hc20,hc22];unfold Lw.reckon;dsimp only;rw[hc26];rfl)
   ·exact Zwk
   exact Zj
  refine Z_7 ?_;refine ZW ?_ ?_<;>intro hc28
  ·refine bR ⟨fun j=>List.elem j [7,9,12],[]⟩ Zk ?_;refine gn ?_;refine ZE 2 ?_;refine ZFe 3 0 ?_;refine ZE 5 ?_;refine ZE 6 ?_;refine j4 4 7 Zk ?_ ?_
   ·refine kg ?_;refine ce 7 Zk ?_;refine ZcA (lwF b N L X) (fun w hi hin=>oA b N L X (hs.mono Wq1) next w hin) ?_;rintro _ _ ⟨_,⟨rfl,C2,A2,c2,hC2,rfl⟩,rfl⟩;refine ce 8 Zk ?_;refine vD ?_;rintro _ _ ⟨b191,rfl,rfl⟩;refine ce 9 Zk ?_;have hbd:L.r.l.length≤600:=aV hs.rl Wq1;refine iZ rfl rfl (cC (n:=L.r.l.length) (e:=3) (sz:=1) (bytes:=8) rfl rfl Za rfl rfl (fun w hi=>hi.rd (show Has _ (slv 3 1 (some ⟨b191,0,none⟩) 1 1 (ints .i64 [L.here]))from Zh)) cO g9 Wq1) ZJ rfl ?_;rintro _ _ ⟨A9,c9,rfl,rfl⟩;rw[cj,show L.r.l.length+1=(L.r.l++[L.here]).length by simp];refine ZE 10 ?_;refine ZFe 11 0 ?_;refine ce 12 Zk ?_;refine ZQ ?_;refine dr ?_;refine Zo ?_;refine bY (((⟨C2,L.d,⟨L.r.l++[L.here],L.r.Jp,L.r.high⟩,L.flags,L.target,L.branch⟩,⟨A2,c2,X.Ad,X.cd,A9,c9⟩):Lw×LAd)) ?_ ?_ ?_
    ·(dsimp only;subst hC2;unfold Lw.go;rw[hc3,hc5,hc8,hc10,hc14,hc18,hc20,hc22,hc28];rfl)
    ·exact Zwk
    exact Zj
   refine ZcA (lwF b N L X) (fun w hi hin=>oA b N L X (hs.mono Wq1) next w hin) ?_;rintro _ _ ⟨_,⟨rfl,C2,A2,c2,hC2,rfl⟩,rfl⟩;refine ZG 4 ?_;refine ce 8 Zk ?_;refine vD ?_;rintro _ _ ⟨b191,rfl,rfl⟩;refine ce 9 Zk ?_;have hbd:L.r.l.length≤600:=aV hs.rl Wq1;refine iZ rfl rfl (cC (n:=L.r.l.length) (e:=3) (sz:=1) (bytes:=8) rfl rfl Za rfl rfl (fun w hi=>hi.rd (show Has _ (slv 3 1 (some ⟨b191,0,none⟩) 1 1 (ints .i64 [L.here]))from Zh)) cO g9 Wq1) ZJ rfl ?_;rintro _ _ ⟨A9,c9,rfl,rfl⟩;rw[cj,show L.r.l.length+1=(L.r.l++[L.here]).length by simp];refine ZE 10 ?_;refine ZFe 11 0 ?_;refine ce 12 Zk ?_;refine ZQ ?_;refine dr ?_;refine Zo ?_;refine bY (((⟨C2,L.d,⟨L.r.l++[L.here],L.r.Jp,L.r.high⟩,L.flags,L.target,L.branch⟩,⟨A2,c2,X.Ad,X.cd,A9,c9⟩):Lw×LAd)) ?_ ?_ ?_
   ·(dsimp only;subst hC2;unfold Lw.go;rw[hc3,hc5,hc8,hc10,hc14,hc18,hc20,hc22,hc28];rfl)
   ·exact Zwk
   exact Zj
  refine Z_7 ?_;refine ZW ?_ ?_<;>intro hc30
  ·refine Z_4 ?_;refine ZcL (lwF b N L X) (fun w hi hin=>u6 b N L X (hs.mono Wq1) w hin) ?_;rintro _ _ ⟨_,⟨rfl,C2,s2,A2,c2,hC2,hs2,rfl⟩,rfl⟩;refine Z_3 ?_;refine ZL ?_;refine Z_2 ?_;refine bY (((⟨C2,L.d,s2,L.flags,(eL 2 L.code L.r).1,L.branch⟩,⟨A2,c2,X.Ad,X.cd,X.Ar,X.cr⟩):Lw×LAd)) ?_ ?_ ?_
   ·(dsimp only;subst hC2 hs2;unfold Lw.go;rw[hc3,hc5,hc8,hc10,hc14,hc18,hc20,hc22,hc28,hc30];rfl)
   ·exact Zwk
   exact Zj
  refine Z_7 ?_;refine ZW ?_ ?_<;>intro hc32
  ·refine Z_4 ?_;refine ZcL (lwF b N L X) (fun w hi hin=>iJ b N L X (hs.mono Wq1) w hin) ?_;rintro _ _ ⟨_,⟨rfl,C2,s2,A2,c2,hC2,hs2,rfl⟩,rfl⟩;refine Z_3 ?_;refine ZL ?_;refine Z_2 ?_;refine bY (((⟨C2,s2,L.r,L.flags,(eL 1 L.code L.d).1,L.branch⟩,⟨A2,c2,X.Ad,X.cd,X.Ar,X.cr⟩):Lw×LAd)) ?_ ?_ ?_
   ·(dsimp only;subst hC2 hs2;unfold Lw.go;rw[hc3,hc5,hc8,hc10,hc14,hc18,hc20,hc22,hc28,hc30,hc32];rfl)
   ·exact Zwk
   exact Zj
  refine fF ?_;refine ZW ?_ ?_<;>intro hc34
  ·refine Z_6 ?_;refine ZL ?_;refine Z_2 ?_;refine bY (((⟨L.code,L.d,L.r,L.flags,L.target,op⟩,X):Lw×LAd)) ?_ ?_ ?_
   ·(dsimp only;unfold Lw.go;rw[hc3,hc5,hc8,hc10,hc14,hc18,hc20,hc22,hc28,hc30,hc32,hc34];rfl)
   ·exact Zwk
   exact Zj
  refine Z_2 ?_;refine bY (((L,X):Lw×LAd)) ?_ ?_ ?_
  ·(dsimp only;unfold Lw.go;rw[hc3,hc5,hc8,hc10,hc14,hc18,hc20,hc22,hc28,hc30,hc32,hc34];rfl)
  ·exact Zwk
  exact Zj
 rintro⟨L9,X9⟩ hL9;dsimp only at hL9⊢;rw[←hL9]at hgo;refine Z_3 ?_;refine ZcL (lwF b N L9 X9) (fun w hi hin=>D1 b N L9 X9 (hgo.mono Wq1) w hin) ?_;rintro _ _ ⟨_,rfl,rfl⟩;refine Z_4 ?_;refine ZcL (lwF b N ⟨L9.code,L9.d.top,L9.r,L9.flags,L9.target,L9.branch⟩ X9) (fun w hi hin=>DZ b N ⟨L9.code,L9.d.top,L9.r,L9.flags,L9.target,L9.branch⟩ X9 ⟨(hgo.mono Wq1).code,(hgo.mono Wq1).dl,(hgo.mono Wq1).rl,(hgo.mono Wq1).dn,(hgo.mono Wq1).rn⟩ w hin) ?_;rintro _ _ ⟨_,rfl,rfl⟩;refine Zn (iF (cs':=lwF b N L9.Ju X9) (.inr rfl) Zu rfl ?_);exact⟨L9.Ju,X9,by unfold Lw.one;rw[hL9],rfl⟩
theorem wY(op:Int)(w:World):Ctr prog 162 [.int .i64 op] w [] (fun v cs=>v= .bool (dx op)∧cs=[]):=by
 refine bL func162 rfl ntmps162 rfl (Inv.start w) ?_;refine FT ?_;refine ZW ?_ ?_<;>intro hc1
 ·refine Z_2 ?_;refine bU rfl (hc1) ?_;refine fG ?_;refine⟨?_,rfl⟩;unfold dx;cases h1:decide (0≤op)<;>cases h2:decide (op≤8)<;>cases h3:decide (16≤op)<;>cases h4:decide (op≤25)<;>cases h5:(op !=24)<;>cases h6:decide (32≤op)<;>cases h7:decide (op≤40)<;>simp_all<;>omega
 refine dS ?_;refine ZW ?_ ?_<;>intro hc2
 ·refine fG ?_;refine⟨?_,rfl⟩;unfold dx;cases h1:decide (0≤op)<;>cases h2:decide (op≤8)<;>cases h3:decide (16≤op)<;>cases h4:decide (op≤25)<;>cases h5:(op !=24)<;>cases h6:decide (32≤op)<;>cases h7:decide (op≤40)<;>simp_all<;>omega
 refine FT ?_;refine Zra ?_;refine⟨?_,rfl⟩;unfold dx;cases h1:decide (0≤op)<;>cases h2:decide (op≤8)<;>cases h3:decide (16≤op)<;>cases h4:decide (op≤25)<;>cases h5:(op !=24)<;>cases h6:decide (32≤op)<;>cases h7:decide (op≤40)<;>simp_all<;>omega
abbrev usF(b:Nat)(A:Option Addr)(c N:Nat)(U:List Bool):List bJ:=[row b [.slice A N c] 145,slv 4 1 A N c (U.map Value.bool)]
theorem nV(b:Nat)(A:Option Addr)(c N:Nat)(U:List Bool)(hN:U.length=N)(B:Option Addr)(cb:Nat)(l:List Int)(hl:l.length≤1000)(hin:∀n,n∈l→n≠ -1→0≤n∧n.toNat<U.length)(w:World)(hi:Inv w (bK (usF b A c N U)) (usF b A c N U) w)(hR:∀w',dC (bK (usF b A c N U)) w w'→Rd w' .i64 B l.length cb l):
  Ctr prog 217 [.slice B l.length cb,.pointer (some ⟨b,0,none⟩)] w (usF b A c N U) (fun _ cs=>cs=usF b A c N (iI U l)):=by
 refine bL func217 rfl ntmps217 rfl hi ?_;refine Z_8 ?_;refine cw (fun q:Nat×List Bool=>[(1,.pointer (some ⟨b,0,none⟩)),(5,.slice B l.length cb),(6,.int .i64 l.length),(7,.int .i64 (q.1:Int))]) (fun q=>usF b A c N q.2) (fun q=>q.1≤l.length∧q.2.length=U.length∧iI q.2 (l.drop q.1)=iI U l) (fun q=>l.length - q.1) (⟨0,U⟩) ?_ ?_ ?_ ?_
 ·exact⟨au _,rfl,rfl⟩
 ·exact Zwk
 ·exact Zu
 rintro⟨k,V⟩ ⟨hk,hV,hM⟩;dsimp only at hk hV hM⊢;refine Z_6 ?_;refine ZW ?_ ?_<;>intro hc1
 ·simp only[ak]at hc1;have hkl:k<l.length:=Wq1;obtain⟨ad,had⟩:=(hR w (dC.refl _ _)).some_ Wq1;have hR2:∀w',dC (bK (usF b A c N U)) w w'→RdV w' 1 (some ad) l.length cb (ints .i64 l):=(fun w' hk=>had▸hR w' hk);obtain⟨x,hx⟩:∃x,l[k]? =some x:=⟨_,ai hkl⟩;have hxi:=hin x (aI hx);rw[jg hx]at hM;have hM:iI (bif x != -1 then V.set x.toNat true else V) (l.drop (k+1))=iI U l:=hM;refine Z_6 ?_;refine Zy (eK (j:=k) had rfl Zrf Zv0 Zv0 Zrf (fun _=>hkl)) ?_;refine dL (bO Zrf Zv0) (jw (v:= .int .i64 x) hR2 (cQ hx)) rfl ?_;refine Z_9 ?_;refine ZW ?_ ?_<;>intro hc3
  ·rw[hc3,ac]at hM;obtain⟨hx0,hx1⟩:=hxi (by simpa using hc3);obtain⟨n,rfl⟩:∃n:Nat,x=n:=aq hx0;rw[aO]at hx1 hM;obtain⟨bs,rfl⟩:=fM (hi.get (show Has _ (slv 4 1 A N c (U.map Value.bool))from Zh)) Wq1;refine Z_3 ?_;refine Zy (cu (bb:=bs) (o:=0) (n:=N) (c:=c) (j:=n) (sz:=1) (r:=n) rfl Zrf (Zv rfl) (Zv rfl) Zrf Wq4 Wq1) ?_;refine dD (fo Zrf rfl rfl rfl Za Wq1) ?_;rintro _ _ ⟨rfl,rfl⟩;rw[←List.map_set];refine Z_4 ?_;refine Wq8 ?_;refine bY ((⟨k+1,V.set n true⟩:Nat×List Bool)) ?_ ?_ ?_
   ·exact⟨⟨by omega,by dsimp only;rw[aG,hV],hM⟩,by dsimp only;omega⟩
   ·exact Zwk
   exact Zj
  rw[hc3,aa]at hM;refine Z_4 ?_;refine Wq8 ?_;refine bY ((⟨k+1,V⟩:Nat×List Bool)) ?_ ?_ ?_
  ·exact⟨⟨by omega,hV,hM⟩,by dsimp only;omega⟩
  ·exact Zwk
  exact Zj
 simp only[ah]at hc1;obtain rfl:k=l.length:=by omega
 rw[List.drop_length]at hM;have hM:V=iI U l:=hM;subst hM;refine Z_4 ?_;refine iF (cs':=usF b A c N (iI U l)) (.inr rfl) Zu rfl ?_
 rfl
abbrev plF(b:Nat)(A:Option Addr)(c N:Nat)(pl:List Int):List bJ:=[row b [.slice A N c] 66,sl .i64 3 A N c pl]
theorem mE(b:Nat)(A:Option Addr)(c N:Nat)(pl:List Int)(hN:pl.length=N)(B:Option Addr)(cb:Nat)(l:List Int)(hl:l.length≤1000)(hin:∀n,n∈l→0≤n∧n.toNat<pl.length)(w:World)(hi:Inv w (bK (plF b A c N pl)) (plF b A c N pl) w)(hR:∀w',dC (bK (plF b A c N pl)) w w'→Rd w' .i64 B l.length cb l):
  Ctr prog 218 [.slice B l.length cb,.pointer (some ⟨b,0,none⟩)] w (plF b A c N pl) (fun v9 cs=>∃A' c',v9= .slice A' (dG pl l).length c'∧cs=plF b A c N pl++[sl .i64 3 A' (dG pl l).length c' (dG pl l)]):=by
 refine bL func218 rfl ntmps218 rfl hi ?_;refine jA ?_;refine dy 3 1 ?_;refine Z_6 ?_;refine cw (fun q:Nat×List Int×Option Addr×Nat=>[(1,.pointer (some ⟨b,0,none⟩)),(4,.slice q.2.2.1 q.2.1.length q.2.2.2),(7,.slice B l.length cb),(8,.int .i64 l.length),(9,.int .i64 (q.1:Int))]) (fun q=>[row b [.slice A N c] 66,sl .i64 3 A N c pl,sl .i64 3 q.2.2.1 q.2.1.length q.2.2.2 q.2.1]) (fun q=>q.1≤l.length∧q.2.1=dG pl (l.take q.1)) (fun q=>l.length - q.1) (⟨0,[],none,0⟩) ?_ ?_ ?_ ?_
 ·exact⟨au _,rfl⟩
 ·exact Zwk
 ·exact Zu
 rintro⟨k,m,A1,c1⟩ ⟨hk,hm⟩;dsimp only at hk hm⊢;have hml:m.length=k:=(by rw[hm];unfold dG;rw[List.length_map,aC];omega);refine Z_6 ?_;refine ZW ?_ ?_<;>intro hc3
 ·simp only[ak]at hc3;have hkl:k<l.length:=Wq1;obtain⟨ad,had⟩:=(hR w (dC.refl _ _)).some_ Wq1;have hR2:∀w',dC (bK (plF b A c N pl)) w w'→RdV w' 1 (some ad) l.length cb (ints .i64 l):=(fun w' hk=>had▸hR w' hk);obtain⟨x,hx⟩:∃x,l[k]? =some x:=⟨_,ai hkl⟩;obtain⟨hx0,hx1⟩:=hin x (aI hx);obtain⟨n,rfl⟩:∃n:Nat,x=n:=aq hx0;rw[aO]at hx1;obtain⟨bs,rfl⟩:=fM (hi.get (show Has _ (sl .i64 3 A N c pl)from Zh)) Wq1;have hm2:dG pl (l.take (k+1))=m++[pl.getD n 0]:=(by rw[List.take_add_one,hx,hm];unfold dG;rw[List.map_append];rfl);refine Z_6 ?_;refine Zy (eK (j:=k) had rfl Zrf Zv0 Zv0 Zrf (fun _=>hkl)) ?_;refine dL (bO Zrf Zv0) (jw (v:= .int .i64 n) hR2 (cQ hx)) rfl ?_;refine Z_7 ?_;refine Zy (cu (bb:=bs) (o:=0) (n:=N) (c:=c) (j:=n) (sz:=1) (r:=n) rfl Zrf (Zv rfl) (Zv rfl) Zrf Wq4 Wq1) ?_;refine dL (bO Zrf Zv0) (du Zh (ez hx1)) rfl ?_;refine ku ?_;rintro _ _ ⟨b18,rfl,rfl⟩;refine fb (cC (n:=m.length) (e:=3) (sz:=1) (bytes:=8) rfl rfl Za rfl rfl (fun w hi=>hi.rd (show Has _ (slv 3 1 (some ⟨b18,0,none⟩) 1 1 (ints .i64 [pl.getD n 0]))from Zh)) cO g9 Wq1) rfl ?_;rintro _ _ ⟨A2,c2,rfl,rfl⟩;rw[cj,show m.length+1=(m++[pl.getD n 0]).length by simp];refine Z_5 ?_;refine Wq8 ?_;refine bY ((⟨k+1,m++[pl.getD n 0],A2,c2⟩:Nat×List Int×Option Addr×Nat)) ?_ ?_ ?_
  ·exact⟨⟨by omega,hm2.symm⟩,by dsimp only;omega⟩
  ·exact Zwk
  exact Zj
 simp only[ah]at hc3;obtain rfl:k=l.length:=by omega
 rw[bA]at hm;subst hm;refine gE ?_;refine Zrb ([row _ _ _,slv _ _ _ _ _ _,slv _ _ _ _ _ _]) ?_;exact⟨_,_,rfl,rfl⟩
end Go.Proofs.YtakodpimdalajaaGreatDoor
namespace Go.Ink
open Go.RowKit
theorem vP{U:List Bool}{j:Nat}(h:j<U.length):(U.map Value.bool)[j]? =some (.bool (U.getD j false)):=by simp[ai h]
end Go.Ink
namespace Go.Proofs.YtakodpimdalajaaGreatDoor
open Go.RowKit Go.Ink Go.Proofs.Tryz
attribute [local irreducible] OpY bP
abbrev pg0(b:Nat):bJ:=row b [.slice none 0 0,.int .i64 0,.int .i64 0,.int .i64 0,.int .i64 0,.slice none 0 0,.slice none 0 0,.int .i64 0,.int .u32 0,.int .i64 0,.int .i64 0,.int .u32 0,.int .i64 0,.int .i64 0] 236
theorem Gl(p:Pg)(Q:PAd)(hraw:Raw p)(hv:p.values=p.code.length)(hm:p.code.length≤500)(hoD:p.Jw.length≤500)(hoR:p.Jx.length≤500)(w:World)(h:AK p Q w):
  Ctr prog 167 [pgv p Q] w [] (fun v9 cs=>∃Q',v9=pgv (cE p) Q'∧cs=[slv 294 5 Q'.Ac (cE p).code.length Q'.cc ((cE p).code.flatMap II.cells),sl .i64 3 Q'.Ad (cE p).Jw.length Q'.cd (cE p).Jw,sl .i64 3 Q'.Ar (cE p).Jx.length Q'.cr (cE p).Jx]):=by
 have hrc:=h.code;obtain⟨N,hN⟩:=Zgn (p.code.length);have hU0:fQ p=kf p.code N (iI (iI (iI (List.replicate N false) p.Jw) p.Jx) [p.flags,p.target]):=by unfold fQ BK;rw[hN]
 have hiD:∀n,n∈p.Jw→n≠ -1→0≤n∧n.toNat<N:=fun n hn _=>by have:=hraw.Jw n hn;unfold II.in_ at this;omega
 have hiR:∀n,n∈p.Jx→n≠ -1→0≤n∧n.toNat<N:=fun n hn _=>by have:=hraw.Jx n hn;unfold II.in_ at this;omega
 have hiF:∀n,n∈[p.flags,p.target]→n≠ -1→0≤n∧n.toNat<N:=fun n hn h1=>by
  simp only[aK,aY,or_false]at hn;rcases hn with rfl|rfl
  ·rcases hraw.flags with h2|h2
   ·exact absurd h2 h1
   unfold II.in_ at h2;omega
  rcases hraw.target with h2|h2
  ·exact absurd h2 h1
  unfold II.in_ at h2;omega
 have hvN:p.values=N:=by rw[hv,hN]
 have hoD2:∀n,n∈p.Jw→0≤n∧n.toNat<N:=fun n hn=>by have:=hraw.Jw n hn;unfold II.in_ at this;omega
 have hoR2:∀n,n∈p.Jx→0≤n∧n.toNat<N:=fun n hn=>by have:=hraw.Jx n hn;unfold II.in_ at this;omega
 have hfl:p.flags≠ -1→∃n:Nat,p.flags=n∧n<N:=fun h1=>by
  rcases hraw.flags with h2|h2
  ·exact absurd h2 h1
  unfold II.in_ at h2;exact⟨p.flags.toNat,by omega,by omega⟩
 have htg:p.target≠ -1→∃n:Nat,p.target=n∧n<N:=fun h1=>by
  rcases hraw.target with h2|h2
  ·exact absurd h2 h1
  unfold II.in_ at h2;exact⟨p.target.toNat,by omega,by omega⟩
 obtain⟨Z,hZ⟩:=Zgn (List.replicate N false);have hZl:Z.length=N:=by rw[←hZ];simp
 have hZv:(List.replicate N (.bool false:Value))=Z.map Value.bool:=by rw[←hZ];simp
 rw[hZ]at hU0;obtain⟨P0,hP0⟩:=Zgn (List.replicate N (0:Int));have hP0l:P0.length=N:=by rw[←hP0];simp
 have hPv:(List.replicate N (.int .i64 0:Value))=ints .i64 P0:=by rw[←hP0];simp[ints]
 refine bL func167 rfl ntmps167 rfl (Inv.start w) ?_;refine Z_2 ?_;refine ZO fun b1=>?_;refine ZN fun b2=>?_
 refine Z_6 ?_;refine fb (ju (bytes:=1) (n:=N) rfl rfl rfl rfl rfl hvN hvN Wq1 g9) rfl ?_;rintro _ _ ⟨b14,rfl,rfl⟩;rw[hZv];refine ZN fun b3=>?_
 refine ZL ?_;refine Z_4 ?_;refine Zy (kP rfl) ?_;refine Z_8 ?_;refine fb (fp (usF b3 (some ⟨b14,0,none⟩) N N Z) rfl rfl (fun _ _=>rfl) Zi (fun w hi hin=>nV b3 (some ⟨b14,0,none⟩) N N Z hZl Q.Ad Q.cd p.Jw Wq1 (by rw[hZl];exact hiD) w hin (fun w' hk=>RdV.JG h.Jw hi Zi hk))) rfl ?_;rintro _ _ ⟨_,rfl,rfl⟩;obtain⟨U1,hU1⟩:=Zgn (iI Z p.Jw);have hl1:U1.length=N:=(by rw[←hU1,fU,hZl]);rw[hU1]at hU0⊢;refine Z_7 ?_;refine fb (fp (usF b3 (some ⟨b14,0,none⟩) N N U1) rfl rfl (fun _ _=>rfl) Zi (fun w hi hin=>nV b3 (some ⟨b14,0,none⟩) N N U1 hl1 Q.Ar Q.cr p.Jx Wq1 (by rw[hl1];exact hiR) w hin (fun w' hk=>RdV.JG h.Jx hi Zi hk))) rfl ?_;rintro _ _ ⟨_,rfl,rfl⟩;obtain⟨U2,hU2⟩:=Zgn (iI U1 p.Jx);have hl2:U2.length=N:=(by rw[←hU2,fU,hl1]);rw[hU2]at hU0⊢;refine Z_9 ?_;refine ku ?_;rintro _ _ ⟨b29,rfl,rfl⟩;refine fb (fp (usF b3 (some ⟨b14,0,none⟩) N N U2) rfl rfl (fun _ _=>rfl) Zi (fun w hi hin=>nV b3 (some ⟨b14,0,none⟩) N N U2 hl2 (some ⟨b29,0,none⟩) 2 [p.flags,p.target] cJ (by rw[hl2];exact hiF) w hin (fun w' hk=>de (hi.JY Zi (show Has _ (slv 3 1 (some ⟨b29,0,none⟩) 2 2 (ints .i64 [p.flags,p.target]))from Zh) hk)))) rfl ?_;rintro _ _ ⟨_,rfl,rfl⟩;obtain⟨U3,hU3⟩:=Zgn (iI U2 [p.flags,p.target]);have hl3:U3.length=N:=(by rw[←hU3,fU,hl2]);rw[hU3]at hU0⊢;refine Z_7 ?_;refine Zy (dY (Zv rfl) (Zv rfl) (show _=(N:Int) - 1 from by rw[hvN,bI];omega)) ?_;refine Z_4 ?_;refine cw (fun q:Nat×List Bool=>[(1,.pointer (some ⟨b1,0,none⟩)),(2,.pointer (some ⟨b2,0,none⟩)),(3,.pointer (some ⟨b3,0,none⟩)),(4,.func (.func 217) #[] #[.pointer (some ⟨b3,0,none⟩)]),(5,.int .i64 ((q.1:Int) - 1))]) (fun q=>[row b3 [.slice (some ⟨b14,0,none⟩) N N] 145,slv 4 1 (some ⟨b14,0,none⟩) N N (q.2.map Value.bool),row b1 (jm p Q) 236,pg0 b2]) (fun q=>q.1≤N∧q.2.length=N∧kf p.code q.1 q.2=fQ p) (fun q=>q.1) (⟨N,U3⟩) ?_ ?_ ?_ ?_
 ·exact⟨aN _,hl3,hU0.symm⟩
 ·exact Zwk
 ·exact Zu
 rintro⟨k,V⟩ ⟨hk,hV,hB⟩;dsimp only at hk hV hB⊢;refine Z_7 ?_;refine ZW ?_ ?_<;>intro hc7
 ·simp only[ak]at hc7;obtain⟨j,rfl⟩:∃j,k=j+1:=⟨k - 1,by omega⟩;have hjN:j<p.code.length:=Wq1;have hj5:((j+1:Nat):Int) - 1=(j:Int):=Wq1;rw[hj5];obtain⟨ad,had⟩:=hrc.some_ Wq1;have hrc2:=hrc;rw[had]at hrc2;obtain⟨x,hx⟩:∃x,p.code[j]? =some x:=⟨_,ai hjN⟩;have hgx:p.code.getD j II.zero=x:=(by rw[aw,hx];rfl);have hB:kf p.code j (bif V.getD j false&&kq (p.code.getD j II.zero)then iI V [(p.code.getD j II.zero).a,(p.code.getD j II.zero).b]else V)=fQ p:=hB;rw[hgx]at hB;obtain⟨op,dst,xa,xb,imm⟩:=x;dsimp only at hB;refine Z_9 ?_;refine Zy (eK (j:=j) had rfl Zrf Zv0 Zv0 Zrf (fun _=>hjN)) ?_;refine dL (cn (vs:=[.int .i64 op,.int .i64 dst,.int .i64 xa,.int .i64 xb,.int .u32 imm]) Zrf Zrf Zv0) (fv hrc2 (fun i v hi=>fB (f:=II.cells) Zrf (i:=i) hx hi)) rfl ?_;refine ZN fun b6=>?_
  refine ZM ?_;refine Z_6 ?_;refine Zy (cu (bb:=b14) (o:=0) (n:=N) (c:=N) (j:=j) (sz:=1) (r:=j) rfl Zrf (Zv rfl) (Zv rfl) Zrf Wq4 Wq1) ?_;refine dL (bO Zrf (Zv rfl)) (du Zh (vP Wq1)) rfl ?_;refine gE ?_;refine ZW ?_ ?_<;>intro hc10
  ·have hc:(V.getD j false&&kq ⟨op,dst,xa,xb,imm⟩)=true:=hc10;rw[hc,ac]at hB;obtain⟨-,hab⟩:=Bool.and_eq_true_iff.1 hc;have hxi:=hraw.wf j _ hx hab;dsimp only at hxi;refine Z_6 ?_;refine ku ?_;rintro _ _ ⟨b62,rfl,rfl⟩;refine fb (fp (usF b3 (some ⟨b14,0,none⟩) N N V) rfl rfl (fun _ _=>rfl) Zi (fun w hi hin=>nV b3 (some ⟨b14,0,none⟩) N N V hV (some ⟨b62,0,none⟩) 2 [xa,xb] cJ (fun n hn _=>by simp only[aK,aY,or_false]at hn;rcases hn with rfl|rfl<;>omega) w hin (fun w' hk=>de (hi.JY Zi (show Has _ (slv 3 1 (some ⟨b62,0,none⟩) 2 2 (ints .i64 [xa,xb]))from Zh) hk)))) rfl ?_;rintro _ _ ⟨_,rfl,rfl⟩;refine Z_5 ?_;refine Zy (dY Zv0 Zv0 Zl) ?_;refine Z_2 ?_;refine bY ((⟨j,iI V [xa,xb]⟩:Nat×List Bool)) ?_ ?_ ?_
   ·exact⟨⟨by omega,by dsimp only;rw[fU,hV],hB⟩,by dsimp only;omega⟩
   ·exact Zwk
   exact Zj
  have hc:(V.getD j false&&kq ⟨op,dst,xa,xb,imm⟩)=false:=hc10;rw[hc,aa]at hB;refine Z_5 ?_;refine Zy (dY Zv0 Zv0 Zl) ?_;refine Z_2 ?_;refine bY ((⟨j,V⟩:Nat×List Bool)) ?_ ?_ ?_
  ·exact⟨⟨by omega,hV,hB⟩,by dsimp only;omega⟩
  ·exact Zwk
  exact Zj
 simp only[ah]at hc7;obtain rfl:k=0:=by omega
 have hB:V=fQ p:=hB;subst hB;refine Z_9 ?_;refine fb (ju (bytes:=8) (n:=N) rfl rfl rfl rfl rfl hvN hvN Wq1 g9) rfl ?_;rintro _ _ ⟨b66,rfl,rfl⟩;rw[hPv];refine ZN fun b7=>?_
 refine ZL ?_;refine dS ?_;refine dy 294 5 ?_;refine Z_7 ?_;refine cw (fun q:Nat×List Int×List II×Option Addr×Nat=>[(1,.pointer (some ⟨b1,0,none⟩)),(2,.pointer (some ⟨b2,0,none⟩)),(3,.pointer (some ⟨b3,0,none⟩)),(7,.pointer (some ⟨b7,0,none⟩)),(8,.slice q.2.2.2.1 q.2.2.1.length q.2.2.2.2),(68,.slice Q.Ac p.code.length Q.cc),(69,.int .i64 p.code.length),(70,.int .i64 (q.1:Int))]) (fun q=>[row b3 [.slice (some ⟨b14,0,none⟩) N N] 145,slv 4 1 (some ⟨b14,0,none⟩) N N ((fQ p).map Value.bool),row b1 (jm p Q) 236,pg0 b2,sl .i64 3 (some ⟨b66,0,none⟩) N N q.2.1,row b7 [.slice (some ⟨b66,0,none⟩) N N] 66,slv 294 5 q.2.2.2.1 q.2.2.1.length q.2.2.2.2 (q.2.2.1.flatMap II.cells)]) (fun q=>q.1≤N∧q.2.1.length=N∧q.2.2.1.length≤q.1∧kH (fQ p) (p.code.drop q.1) q.1 q.2.1 q.2.2.1=ee p) (fun q=>N - q.1) (⟨0,P0,[],none,0⟩) ?_ ?_ ?_ ?_
 ·exact⟨au _,hP0l,au _,by unfold ee;rw[hN,hP0];rfl⟩
 ·exact Zwk
 ·exact Zu
 rintro⟨i,pl,c,A,cc⟩ ⟨hi9,hpl,hcl,hW⟩;dsimp only at hi9 hpl hcl hW⊢;refine Z_6 ?_;refine ZW ?_ ?_<;>intro hc15
 ·simp only[ak]at hc15;have hiN:i<p.code.length:=Wq1;obtain⟨ad,had⟩:=hrc.some_ Wq1;have hrc2:=hrc;rw[had]at hrc2;obtain⟨x,hx⟩:∃x,p.code[i]? =some x:=⟨_,ai hiN⟩;rw[jg hx]at hW;have hW:(bif(fQ p).getD i false then kH (fQ p) (p.code.drop (i+1)) (i+1) (pl.set i (c.length:Int)) (c++[mX x (pl.set i (c.length:Int)) c.length])else kH (fQ p) (p.code.drop (i+1)) (i+1) pl c)=ee p:=hW;have hwf:=hraw.wf i x hx;obtain⟨op,dst,xa,xb,imm⟩:=x;dsimp only at hwf;refine Z_7 ?_;refine Zy (eK (j:=i) had rfl Zrf Zv0 Zv0 Zrf (fun _=>hiN)) ?_;refine dL (cn (vs:=[.int .i64 op,.int .i64 dst,.int .i64 xa,.int .i64 xb,.int .u32 imm]) Zrf Zrf Zv0) (fv hrc2 (fun j v hj=>fB (f:=II.cells) Zrf (i:=j) hx hj)) rfl ?_;refine ZN fun b10=>?_
  refine ZA ?_;refine ZM ?_;refine Z_7 ?_;refine Zy (cu (bb:=b14) (o:=0) (n:=N) (c:=N) (j:=i) (sz:=1) (r:=i) rfl Zrf (Zv rfl) (Zv rfl) Zrf Wq4 Wq1) ?_;refine dL (bO Zrf (Zv rfl)) (du Zh (vP Wq1)) rfl ?_;refine Z_3 ?_;refine ZW ?_ ?_<;>intro hc17
  ·have hu:(fQ p).getD i false=false:=(by simpa using hc17);rw[hu,aa]at hW;refine Z_5 ?_;refine Wq8 ?_;refine bY ((⟨i+1,pl,c,A,cc⟩:Nat×List Int×List II×Option Addr×Nat)) ?_ ?_ ?_
   ·exact⟨⟨by omega,hpl,by dsimp only;omega,hW⟩,by dsimp only;omega⟩
   ·exact Zwk
   exact Zj
  have hu:(fQ p).getD i false=true:=(by simpa using hc17);rw[hu,ac]at hW;obtain⟨pl2,hpl2⟩:=Zgn (pl.set i (c.length:Int));have hpl2l:pl2.length=N:=(by rw[←hpl2,aG,hpl]);rw[hpl2]at hW;refine Z_8 ?_;refine Zy (cu (bb:=b66) (o:=0) (n:=N) (c:=N) (j:=i) (sz:=1) (r:=i) rfl Zrf (Zv rfl) (Zv rfl) Zrf Wq4 Wq1) ?_;refine dD (fo Zrf rfl rfl rfl Za Wq1) ?_;rintro _ _ ⟨rfl,rfl⟩;rw[me,hpl2];refine Z_2 ?_;refine cW (fun q:Int×Int=>[(1,.pointer (some ⟨b1,0,none⟩)),(2,.pointer (some ⟨b2,0,none⟩)),(3,.pointer (some ⟨b3,0,none⟩)),(7,.pointer (some ⟨b7,0,none⟩)),(8,.slice A c.length cc),(10,.pointer (some ⟨b10,0,none⟩)),(68,.slice Q.Ac p.code.length Q.cc),(69,.int .i64 p.code.length),(70,.int .i64 (i:Int))]) (fun q=>[row b3 [.slice (some ⟨b14,0,none⟩) N N] 145,slv 4 1 (some ⟨b14,0,none⟩) N N ((fQ p).map Value.bool),row b1 (jm p Q) 236,pg0 b2,row b7 [.slice (some ⟨b66,0,none⟩) N N] 66,sl .i64 3 (some ⟨b66,0,none⟩) N N pl2,slv 294 5 A c.length cc (c.flatMap II.cells),row b10 [.int .i64 op,.int .i64 dst,.int .i64 q.1,.int .i64 q.2,.int .u32 imm] 294]) (fun q=>mX ⟨op,dst,xa,xb,imm⟩ pl2 c.length=⟨op,c.length,q.1,q.2,imm⟩) ?_ ?_
  ·refine gE ?_;refine ZW ?_ ?_<;>intro hc19
   ·have hab:kq ⟨op,dst,xa,xb,imm⟩=true:=hc19;obtain⟨⟨a1,a2⟩,a3,a4⟩:=hwf hab;obtain⟨na,rfl⟩:∃n:Nat,xa=n:=aq a1;obtain⟨nb,rfl⟩:∃n:Nat,xb=n:=aq a3;have hsw:mX ⟨op,dst,na,nb,imm⟩ pl2 c.length=⟨op,c.length,pl2.getD na 0,pl2.getD nb 0,imm⟩:=(by unfold mX;rw[hab];rfl);refine bR ⟨fun j=>List.elem j [11,13],[]⟩ Zk ?_;refine ZG 0 ?_;refine ZFe 1 2 ?_;refine ZG 2 ?_;refine cD 3 rfl Zk Zk Zk (cu (bb:=b66) (o:=0) (n:=N) (c:=N) (j:=na) (sz:=1) (r:=na) rfl Zrf (Zv rfl) (Zv rfl) Zrf Wq4 Wq1) rfl ?_;refine dm 4 rfl Zk Zk Zk Zk (bO Zrf (Zv rfl)) (du Zh (ez Wq1)) rfl ?_;refine ZFe 6 3 ?_;refine ZG 7 ?_;refine ZFe 10 2 ?_;refine j4 5 11 Zk ?_ ?_
    ·refine kg ?_;refine cD 8 rfl Zk Zk Zk (cu (bb:=b66) (o:=0) (n:=N) (c:=N) (j:=nb) (sz:=1) (r:=nb) rfl Zrf (Zv rfl) (Zv rfl) Zrf Wq4 Wq1) rfl ?_;refine j4 9 11 Zk ?_ ?_
     ·refine AU rfl (bO Zrf (Zv rfl)) (du Zh (ez Wq1)) rfl ?_;refine ce 11 Zk ?_;refine ZQ ?_;refine ZFe 12 3 ?_;refine ce 13 Zk ?_;refine ZQ ?_;refine dr ?_;refine bY ((⟨pl2.getD na 0,pl2.getD nb 0⟩:Int×Int)) ?_ ?_ ?_
      ·exact hsw
      ·exact Zwk
      exact Zj
     refine ZQ ?_;refine dm 9 rfl Zk Zk Zk Zk (bO Zrf (Zv rfl)) (du Zh (ez Wq1)) rfl ?_;refine ZFe 12 3 ?_;refine ce 13 Zk ?_;refine ZQ ?_;refine dr ?_;refine bY ((⟨pl2.getD na 0,pl2.getD nb 0⟩:Int×Int)) ?_ ?_ ?_
     ·exact hsw
     ·exact Zwk
     exact Zj
    refine ZQ ?_;refine ZG 5 ?_;refine cD 8 rfl Zk Zk Zk (cu (bb:=b66) (o:=0) (n:=N) (c:=N) (j:=nb) (sz:=1) (r:=nb) rfl Zrf (Zv rfl) (Zv rfl) Zrf Wq4 Wq1) rfl ?_;refine dm 9 rfl Zk Zk Zk Zk (bO Zrf (Zv rfl)) (du Zh (ez Wq1)) rfl ?_;refine ZFe 12 3 ?_;refine ce 13 Zk ?_;refine ZQ ?_;refine dr ?_;refine bY ((⟨pl2.getD na 0,pl2.getD nb 0⟩:Int×Int)) ?_ ?_ ?_
    ·exact hsw
    ·exact Zwk
    exact Zj
   have hab:kq ⟨op,dst,xa,xb,imm⟩=false:=hc19;have hsw:mX ⟨op,dst,xa,xb,imm⟩ pl2 c.length=⟨op,c.length,xa,xb,imm⟩:=(by unfold mX;rw[hab];rfl);refine Zc ?_;refine bY ((⟨xa,xb⟩:Int×Int)) ?_ ?_ ?_
   ·exact hsw
   ·exact Zwk
   exact Zj
  rintro⟨ya,yb⟩ hsw;dsimp only at hsw⊢;rw[hsw]at hW;refine Z_5 ?_;refine ZL ?_;refine Z_5 ?_;refine fb (da rfl rfl Zrf Zrf rfl rfl rfl) rfl ?_;rintro _ _ ⟨b110,rfl,rfl⟩;refine fb (cC (n:=c.length) (e:=294) (sz:=5) (bytes:=40) rfl rfl Za rfl rfl (fun w hi=>hi.rd (show Has _ (slv 294 5 (some ⟨b110,0,none⟩) 1 1 [.int .i64 op,.int .i64 c.length,.int .i64 ya,.int .i64 yb,.int .u32 imm])from Zh)) (one5 _ _ _ _ _) g9 Wq1) rfl ?_;rintro _ _ ⟨A2,c2,rfl,rfl⟩;rw[Er c ⟨op,c.length,ya,yb,imm⟩,show c.length+1=(c++[(⟨op,c.length,ya,yb,imm⟩:II)]).length by simp];refine Z_5 ?_;refine Wq8 ?_;refine bY ((⟨i+1,pl2,c++[⟨op,c.length,ya,yb,imm⟩],A2,c2⟩:Nat×List Int×List II×Option Addr×Nat)) ?_ ?_ ?_
  ·exact⟨⟨by omega,hpl2l,by simp;omega,hW⟩,by dsimp only;omega⟩
  ·exact Zwk
  exact Zj
 simp only[ah]at hc15;obtain rfl:i=N:=Wq1;rw[List.drop_of_length_le Wq1]at hW;have hW:(pl,c)=ee p:=hW;have hsT:∀fl tg,ef pl p.flags=fl→ef pl p.target=tg→cE p=⟨c,p.Jn,p.Jo,p.JK,p.JN,dG pl p.Jw,dG pl p.Jx,fl,p.next,tg,p.branch,p.taken,p.count,c.length⟩:=(by intro fl tg h1 h2;unfold cE;rw[←hW];dsimp only;rw[h1,h2]);refine Z_7 ?_;refine Zy (kP rfl) ?_;refine Z_4 ?_;refine jk ⟨fun j=>List.elem j [6,10,12,14,16,18],[]⟩ [(0,0),(1,0),(2,0),(3,0),(4,0),(5,4),(7,0),(8,0),(6,3),(9,3),(10,3),(11,3),(12,3),(13,3),(14,3),(15,3),(16,3),(17,3),(18,3)] Zk Zk ?_;refine cT rfl (fP Zv0) rfl ?_;refine cT rfl (fP Zv0) rfl ?_;refine cT rfl (y_len ⟨_,rfl⟩ Zv0) rfl ?_;refine cT rfl (fP Zv0) rfl ?_;refine cT rfl (dN 5 rfl Zv0 Zf) rfl ?_;refine jr rfl (bO Zrf Zv0) (cB Zh rfl) rfl ?_;refine cT rfl (fP Zv0) rfl ?_;refine cT rfl (dN 6 rfl Zv0 Zf) rfl ?_;refine FZ [(6,[(9,1),(11,0),(10,2),(12,2),(13,0),(14,2),(15,0),(16,2),(17,0),(18,2)]),(9,[(11,0),(6,2),(10,2),(12,2),(13,0),(14,2),(15,0),(16,2),(17,0),(18,2)])] Zk (.cons ?_ (.cons ?_ .nil))
 ·refine fD rfl rfl (fp (plF b7 (some ⟨b66,0,none⟩) i i pl) rfl rfl (fun _ _=>rfl) Zi (fun w hi hin=>mE b7 (some ⟨b66,0,none⟩) i i pl hpl Q.Ad Q.cd p.Jw Wq1 (by rw[hpl];exact hoD2) w hin (fun w' hk=>RdV.JG h.Jw hi Zi hk))) ZJ rfl ?_;rintro _ _ ⟨_,⟨A3,c3,rfl,rfl⟩,rfl⟩;refine uy rfl (bO Zrf Zv0) (cB Zh rfl) rfl ?_;refine cT rfl (dN 0 rfl Zv0 Zf) rfl ?_;refine gM rfl ?_;refine fD rfl rfl (fp (plF b7 (some ⟨b66,0,none⟩) i i pl) rfl rfl (fun _ _=>rfl) Zi (fun w hi hin=>mE b7 (some ⟨b66,0,none⟩) i i pl hpl Q.Ar Q.cr p.Jx Wq1 (by rw[hpl];exact hoR2) w hin (fun w' hk=>RdV.JG h.Jx hi Zi hk))) ZJ rfl ?_;rintro _ _ ⟨_,⟨A4,c4,rfl,rfl⟩,rfl⟩;refine gM rfl ?_;refine eC rfl rfl (fc Zrf rfl rfl rfl Za Zp) ZJ ?_;rintro _ _ ⟨rfl,rfl⟩;refine cT rfl (dN 13 rfl Zv0 Zf) rfl ?_;refine gM rfl ?_;refine eC rfl rfl (fc Zrf rfl rfl rfl Za Zp) ZJ ?_;rintro _ _ ⟨rfl,rfl⟩;refine cT rfl (dN 5 rfl Zv0 Zf) rfl ?_;refine gM rfl ?_;refine eC rfl rfl (fc Zrf rfl rfl rfl Za Zp) ZJ ?_;rintro _ _ ⟨rfl,rfl⟩;refine cT rfl (dN 6 rfl Zv0 Zf) rfl ?_;refine gM rfl ?_;refine eC rfl rfl (fc Zrf rfl rfl rfl Za Zp) ZJ ?_;rintro _ _ ⟨rfl,rfl⟩;refine eP ?_;refine Z_9 ?_;refine ZW ?_ ?_<;>intro hc26
  ·have hf1:p.flags≠ -1:=(by simpa using hc26);obtain⟨nf,hnf,hnf2⟩:=hfl hf1;have hm1:ef pl p.flags=pl.getD nf 0:=(by unfold ef;rw[hc26,ac,hnf,aO]);refine Z_4 ?_;refine Zy (cu (bb:=b66) (o:=0) (n:=i) (c:=i) (j:=nf) (sz:=1) (r:=nf) rfl Zrf (Zv rfl) (Zv rfl) (fun _=>hnf) Wq4 Wq1) ?_;refine dL (bO Zrf (Zv rfl)) (du Zh (ez Wq1)) rfl ?_;refine Z_1 ?_;refine ZL ?_;refine dS ?_;refine ZW ?_ ?_<;>intro hc28
   ·have ht1:p.target≠ -1:=(by simpa using hc28);obtain⟨nt,hnt,hnt2⟩:=htg ht1;have hm2:ef pl p.target=pl.getD nt 0:=(by unfold ef;rw[hc28,ac,hnt,aO]);refine Z_4 ?_;refine Zy (cu (bb:=b66) (o:=0) (n:=i) (c:=i) (j:=nt) (sz:=1) (r:=nt) rfl Zrf (Zv rfl) (Zv rfl) (fun _=>hnt) Wq4 Wq1) ?_;refine dL (bO Zrf (Zv rfl)) (du Zh (ez Wq1)) rfl ?_;refine Z_1 ?_;refine ZL ?_;refine Z_5 ?_;exact Wq7
   have hm2:ef pl p.target=p.target:=(by unfold ef;rw[hc28,aa]);refine Z_5 ?_;exact Wq7
  have hm1:ef pl p.flags=p.flags:=(by unfold ef;rw[hc26,aa]);refine dS ?_;refine ZW ?_ ?_<;>intro hc28
  ·have ht1:p.target≠ -1:=(by simpa using hc28);obtain⟨nt,hnt,hnt2⟩:=htg ht1;have hm2:ef pl p.target=pl.getD nt 0:=(by unfold ef;rw[hc28,ac,hnt,aO]);refine Z_4 ?_;refine Zy (cu (bb:=b66) (o:=0) (n:=i) (c:=i) (j:=nt) (sz:=1) (r:=nt) rfl Zrf (Zv rfl) (Zv rfl) (fun _=>hnt) Wq4 Wq1) ?_;refine dL (bO Zrf (Zv rfl)) (du Zh (ez Wq1)) rfl ?_;refine Z_1 ?_;refine ZL ?_;refine Z_5 ?_;exact Wq7
  have hm2:ef pl p.target=p.target:=(by unfold ef;rw[hc28,aa]);refine Z_5 ?_;exact Wq7
 refine CD rfl (bO Zrf Zv0) (cB Zh rfl) rfl ?_;refine cT rfl (dN 0 rfl Zv0 Zf) rfl ?_;refine gM rfl ?_;refine fD rfl rfl (fp (plF b7 (some ⟨b66,0,none⟩) i i pl) rfl rfl (fun _ _=>rfl) Zi (fun w hi hin=>mE b7 (some ⟨b66,0,none⟩) i i pl hpl Q.Ad Q.cd p.Jw Wq1 (by rw[hpl];exact hoD2) w hin (fun w' hk=>RdV.JG h.Jw hi Zi hk))) ZJ rfl ?_;rintro _ _ ⟨_,⟨A3,c3,rfl,rfl⟩,rfl⟩;refine gM rfl ?_;refine fD rfl rfl (fp (plF b7 (some ⟨b66,0,none⟩) i i pl) rfl rfl (fun _ _=>rfl) Zi (fun w hi hin=>mE b7 (some ⟨b66,0,none⟩) i i pl hpl Q.Ar Q.cr p.Jx Wq1 (by rw[hpl];exact hoR2) w hin (fun w' hk=>RdV.JG h.Jx hi Zi hk))) ZJ rfl ?_;rintro _ _ ⟨_,⟨A4,c4,rfl,rfl⟩,rfl⟩;refine gM rfl ?_;refine eC rfl rfl (fc Zrf rfl rfl rfl Za Zp) ZJ ?_;rintro _ _ ⟨rfl,rfl⟩;refine cT rfl (dN 13 rfl Zv0 Zf) rfl ?_;refine gM rfl ?_;refine eC rfl rfl (fc Zrf rfl rfl rfl Za Zp) ZJ ?_;rintro _ _ ⟨rfl,rfl⟩;refine cT rfl (dN 5 rfl Zv0 Zf) rfl ?_;refine gM rfl ?_;refine eC rfl rfl (fc Zrf rfl rfl rfl Za Zp) ZJ ?_;rintro _ _ ⟨rfl,rfl⟩;refine cT rfl (dN 6 rfl Zv0 Zf) rfl ?_;refine gM rfl ?_;refine eC rfl rfl (fc Zrf rfl rfl rfl Za Zp) ZJ ?_;rintro _ _ ⟨rfl,rfl⟩;refine eP ?_;refine Z_9 ?_;refine ZW ?_ ?_<;>intro hc26
 ·have hf1:p.flags≠ -1:=(by simpa using hc26);obtain⟨nf,hnf,hnf2⟩:=hfl hf1;have hm1:ef pl p.flags=pl.getD nf 0:=(by unfold ef;rw[hc26,ac,hnf,aO]);refine Z_4 ?_;refine Zy (cu (bb:=b66) (o:=0) (n:=i) (c:=i) (j:=nf) (sz:=1) (r:=nf) rfl Zrf (Zv rfl) (Zv rfl) (fun _=>hnf) Wq4 Wq1) ?_;refine dL (bO Zrf (Zv rfl)) (du Zh (ez Wq1)) rfl ?_;refine Z_1 ?_;refine ZL ?_;refine dS ?_;refine ZW ?_ ?_<;>intro hc28
  ·have ht1:p.target≠ -1:=(by simpa using hc28);obtain⟨nt,hnt,hnt2⟩:=htg ht1;have hm2:ef pl p.target=pl.getD nt 0:=(by unfold ef;rw[hc28,ac,hnt,aO]);refine Z_4 ?_;refine Zy (cu (bb:=b66) (o:=0) (n:=i) (c:=i) (j:=nt) (sz:=1) (r:=nt) rfl Zrf (Zv rfl) (Zv rfl) (fun _=>hnt) Wq4 Wq1) ?_;refine dL (bO Zrf (Zv rfl)) (du Zh (ez Wq1)) rfl ?_;refine Z_1 ?_;refine ZL ?_;refine Z_5 ?_;exact Wq7
  have hm2:ef pl p.target=p.target:=(by unfold ef;rw[hc28,aa]);refine Z_5 ?_;exact Wq7
 have hm1:ef pl p.flags=p.flags:=(by unfold ef;rw[hc26,aa]);refine dS ?_;refine ZW ?_ ?_<;>intro hc28
 ·have ht1:p.target≠ -1:=(by simpa using hc28);obtain⟨nt,hnt,hnt2⟩:=htg ht1;have hm2:ef pl p.target=pl.getD nt 0:=(by unfold ef;rw[hc28,ac,hnt,aO]);refine Z_4 ?_;refine Zy (cu (bb:=b66) (o:=0) (n:=i) (c:=i) (j:=nt) (sz:=1) (r:=nt) rfl Zrf (Zv rfl) (Zv rfl) (fun _=>hnt) Wq4 Wq1) ?_;refine dL (bO Zrf (Zv rfl)) (du Zh (ez Wq1)) rfl ?_;refine Z_1 ?_;refine ZL ?_;refine Z_5 ?_;exact Wq7
 have hm2:ef pl p.target=p.target:=(by unfold ef;rw[hc28,aa]);refine Z_5 ?_;exact Wq7
end Go.Proofs.YtakodpimdalajaaGreatDoor
