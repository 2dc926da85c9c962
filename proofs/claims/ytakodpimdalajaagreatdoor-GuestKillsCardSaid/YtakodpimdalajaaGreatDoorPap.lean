/- Lemmas. -/
import Derived.Test.YtakodpimdalajaaGreatDoorPaa
import Derived.Test.YtakodpimdalajaaGreatDoorPab
import Derived.Test.YtakodpimdalajaaGreatDoorPam
set_option linter.unusedSimpArgs false
set_option linter.unusedVariables false
set_option maxRecDepth 100000
set_option maxHeartbeats 4000000
namespace Go.Ink
open Go.RowKit
theorem tU(p:Pg)(pl:Pl):(gu p pl).length≤4:=by
 have:=i3 pl p.flags 7;unfold gu;cases decide (0≤p.flags)<;>simp only[ac,aa,ae,aj,ao]<;>omega
theorem ss(p:Pg)(pos:Nat):(ge p pos).length≤5:=by
 unfold ge;cases p.branch !=0<;>simp
theorem qO(p:Pg)(pl:Pl):(iR p pl).length≤2:=by
 have:=i3 pl p.target 7;unfold iR;cases decide (0≤p.target)<;>simp only[ac,aa,ae,aj,ao]<;>omega
theorem mF(pl:Pl)(b f w:Int)(o:List Int):(gS pl b f w o).length≤2*o.length+3:=by
 have:=uW pl b f o 0;unfold gS;simp only[ae,aj,ao];omega
theorem rA(a b:Int)(pl:Pl):∀(c:List II) (n:Nat),(jy a b pl c n).length≤30*c.length
 |[],_=>aN _
 |x::c,n=>by
  have h:=rA a b pl c (n+1);have h1:=GU a b pl n x;show(pi a b pl n x++jy a b pl c (n+1)).length≤30*(c.length+1);rw[ae];omega
theorem tK(a b:Int)(pl:Pl)(x:II):∀(c:List II) (n:Nat),jy a b pl (c++[x]) n=jy a b pl c n++pi a b pl ((n+c.length:Nat):Int) x
 |[],n=>by simp[jy]
 |y::c,n=>by
  have h:=tK a b pl x c (n+1);show pi a b pl n y++jy a b pl (c++[x]) (n+1)=(pi a b pl n y++jy a b pl c (n+1))++_;rw[h,ap,show n+1+c.length=n+(y::c).length by simp;omega]
theorem br_eq{p:Pg}{l11 l12 l13 l14 l15 l16:List HI}(h12:l12=l11++[⟨14,11,15,0,1⟩])(h13:l13=l12++[⟨1,12,0,0,fw p.branch⟩])(h14:l14=l13++[⟨5,11,11,12,0⟩])(h15:l15=l14++[⟨bif gP p.branch then 16 else 17,0,11,0,IntKind.u32.wrap ((l14.length:Int)+2)⟩])(h16:l16=l15++[⟨1,9,0,0,p.taken⟩])(hb:(p.branch !=0)=true):
  l16=l11++ge p l11.length:=by
 have hn:l14.length=l11.length+3:=by rw[h14,h13,h12];simp
 rw[hn]at h15;unfold ge;rw[h16,h15,h14,h13,h12,hb];simp only[ac,ap,aM,aP]
theorem end_eq{p:Pg}{pl:Pl}{l m1 l11 m2 m3 l31 l32 l33 l34:List HI}(h1:m1=l++gu p pl)(h11:l11=m1++[⟨1,9,0,0,p.next⟩])(h2:m2=l11++ge p l11.length)(h3:m3=m2++iR p pl)(h31:l31=m3++[⟨15,0,15,9,0⟩])(h32:l32=l31++[⟨1,11,0,0,IntKind.u32.wrap p.count⟩])(h33:l33=l32++[⟨15,0,15,11,36⟩])(h34:l34=l33++[⟨19,0,0,0,1⟩]):
  l34=l++qy p pl l.length:=by
 have hn:l11.length=l.length+(gu p pl).length+1:=by rw[h11,h1];simp;omega
 rw[hn]at h2;unfold qy;rw[h34,h33,h32,h31,h3,h2,h11,h1];simp only[ap,aM,aP]
end Go.Ink
namespace Go.Proofs.YtakodpimdalajaaGreatDoor
open Go.RowKit Go.Ink Go.Proofs.Tryz
attribute [local irreducible] OpY bP
section
variable (S:CdS) (l:List HI) (fix:List Int) (X:CAd)
theorem AA(hl:l.length≤20000)(j into:Int)(hj:∃n:Nat,j=n∧n<S.pl.reg.length∧n<S.pl.slot.length)(w:World)(hi:Inv w (bK (cdF S l fix X)) (cdF S l fix X) w)(hK:∀w',dC (bK (cdF S l fix X)) w w'→FR S w'):
  Ctr prog 230 [.pointer (some ⟨S.b,0,none⟩),.int .i64 j,.int .i64 into] w (cdF S l fix X) (fun r9 cs=>r9= .int .i64 (dP S.pl j into)∧∃l' X',l'=l++jj S.pl j into∧cs=cdF S l' (fix) X'):=by
 obtain⟨n,rfl,h1,h2⟩:=hj;exact pE S l fix X hl n into h1 h2 w hi hK
theorem cend_ok(hl:l.length≤10000)(hfl:0≤S.p.flags→∃n:Nat,S.p.flags=n∧n<S.pl.reg.length∧n<S.pl.slot.length)(htg:0≤S.p.target→∃n:Nat,S.p.target=n∧n<S.pl.reg.length∧n<S.pl.slot.length)(w:World)(hi:Inv w (bK (cdF S l fix X)) (cdF S l fix X) w)(hK:∀w',dC (bK (cdF S l fix X)) w w'→FR S w'):
  Ctr prog 173 [.pointer (some ⟨S.b,0,none⟩)] w (cdF S l fix X) (fun r9 cs=>∃l' X',l'=l++qy S.p S.pl l.length∧cs=cdF S l' (fix) X'):=by
 have gF:=tU S.p S.pl;have gG:=i3 S.pl S.p.flags 7;have gH:=i3 S.pl S.p.target 7;refine bL func173 rfl ntmps173 rfl hi ?_;refine cW (fun q:List HI×CAd=>[(0,.pointer (some ⟨S.b,0,none⟩))]) (fun q=>cdF S q.1 fix q.2) (fun q=>q.1=l++gu S.p S.pl) ?_ ?_
 ·refine dS ?_;refine ZW ?_ ?_<;>intro hc0
  ·have hf:=hfl (by simpa using hc0);refine Z_3 ?_;refine ZcL (cdF S l fix X) (fun w hi hin=>kb S l fix X xC 11 15 w hin) ?_;rintro _ _ ⟨_,⟨l1,X1,hl1,rfl⟩,rfl⟩;refine fF ?_;refine ZcL (cdF S l1 fix X1) (fun w hi hin=>AA S l1 fix X1 Ct S.p.flags 7 hf w hin (fun w' hk=>hK w' (hi.J5 Zi hk))) ?_;rintro _ _ ⟨_,⟨rfl,l2,X2,hl2,rfl⟩,rfl⟩;refine ZcL (cdF S l2 fix X2) (fun w hi hin=>gK S l2 fix X2 (by first|omega|(simp only[hl1,hl2,ae,aj,ao];omega)) 5 11 11 (dP S.pl S.p.flags 7) w hin) ?_;rintro _ _ ⟨_,⟨l3,X3,hl3,rfl⟩,rfl⟩;refine Z_4 ?_;refine ZcL (cdF S l3 fix X3) (fun w hi hin=>ue S l3 fix X3 (by first|omega|(simp only[hl1,hl2,hl3,ae,aj,ao];omega)) 15 1 11 w hin) ?_;rintro _ _ ⟨_,⟨l4,X4,hl4,rfl⟩,rfl⟩;refine Zn ?_;refine dM (((l4,X4):List HI×CAd)) ?_ ?_ ?_
   ·(simp only[hl1,hl2,hl3,hl4,gu,hc0,ac,aa,ap,aM,aP,ax])
   ·exact Zwk
   exact Zu
  refine Zc ?_;refine dM (((l,X):List HI×CAd)) ?_ ?_ ?_
  ·(simp only[gu,hc0,ac,aa,ap,aM,aP,ax])
  ·exact Zwk
  exact Zu
 rintro⟨m1,s1⟩ hm1;dsimp only at hm1⊢;have bm1:m1.length≤l.length+4:=(by rw[hm1,ae];omega);refine Z_8 ?_;refine ZcL (cdF S m1 fix s1) (fun w hi hin=>kb S m1 fix s1 xC 9 S.p.next w hin) ?_;rintro _ _ ⟨_,⟨l11,X11,hl11,rfl⟩,rfl⟩;refine Z_2 ?_;refine cW (fun q:List HI×CAd=>[(0,.pointer (some ⟨S.b,0,none⟩))]) (fun q=>cdF S q.1 fix q.2) (fun q=>q.1=l11++ge S.p l11.length) ?_ ?_
 ·refine dS ?_;refine ZW ?_ ?_<;>intro hc5
  ·refine Z_7 ?_;refine ZSe (fun w hi=>Hk S.p.branch w) ?_;refine dS ?_;refine ZcL (cdF S l11 fix X11) (fun w hi hin=>xt S l11 fix X11 (by first|omega|(simp only[hl11,ae,aj,ao];omega)) 11 15 1 w hin) ?_;rintro _ _ ⟨_,⟨l12,X12,hl12,rfl⟩,rfl⟩;refine Z_6 ?_;refine ZcL (cdF S l12 fix X12) (fun w hi hin=>kb S l12 fix X12 (by first|omega|(simp only[hl11,hl12,ae,aj,ao];omega)) 12 (fw S.p.branch) w hin) ?_;rintro _ _ ⟨_,⟨l13,X13,hl13,rfl⟩,rfl⟩;refine Z_5 ?_;refine ZcL (cdF S l13 fix X13) (fun w hi hin=>gK S l13 fix X13 (by first|omega|(simp only[hl11,hl12,hl13,ae,aj,ao];omega)) 5 11 11 12 w hin) ?_;rintro _ _ ⟨_,⟨l14,X14,hl14,rfl⟩,rfl⟩;refine Z_4 ?_;have b14:l14.length≤20000:=(by simp only[hl14,hl13,hl12,hl11,ae,aj,ao];omega);refine Z_5 ?_;refine Zy (cX Zv0 Zv0 Zl) ?_;refine Zy (bW rfl rfl Zv0 rfl) ?_;refine ZA ?_;refine ZN fun b4=>?_
   refine ZM ?_;refine Z_2 ?_;refine cW (fun _:Unit=>[(0,.pointer (some ⟨S.b,0,none⟩)),(4,.pointer (some ⟨b4,0,none⟩))]) (fun _=>[row S.b (ny S l14.length fix.length X14) 291,hiC X14.Al X14.cl l14,sl .i64 3 X14.Af fix.length X14.cf fix,row b4 [.int .i64 (bif gP S.p.branch then 16 else 17),.int .i64 0,.int .i64 11,.int .i64 0,.int .u32 (IntKind.u32.wrap ((l14.length:Int)+2))] 298]) (fun _=>True) ?_ ?_
   ·refine Z_6 ?_;refine ZW ?_ ?_<;>intro hc11
    ·have hjs:gP S.p.branch=false:=(by simpa using hc11);rw[hjs,aa];refine Z_2 ?_;refine ZL ?_;refine Zn ?_;refine bY (()) ?_ ?_ ?_
     ·trivial
     ·exact Zwk
     exact Zj
    have hjs:gP S.p.branch=true:=(by simpa using hc11);rw[hjs,ac];refine Zc ?_;refine bY (()) ?_ ?_ ?_
    ·trivial
    ·exact Zwk
    exact Zj
   intro s hs;refine Z_4 ?_;refine fb (da rfl rfl Zrf Zrf rfl rfl rfl) rfl ?_;rintro _ _ ⟨b66,rfl,rfl⟩;refine ZcL (cdF S l14 fix X14) (fun w hi hin=>jW S l14 fix X14 (by first|omega|(simp only[hl11,hl12,hl13,hl14,ae,aj,ao];omega)) [⟨bif gP S.p.branch then 16 else 17,0,11,0,IntKind.u32.wrap ((l14.length:Int)+2)⟩] (some ⟨b66,0,none⟩) 1 cJ w hin (fun w' hk=>de (hi.JY Zi (show Has _ (slv 298 5 (some ⟨b66,0,none⟩) 1 1 ([⟨bif gP S.p.branch then 16 else 17,0,11,0,IntKind.u32.wrap ((l14.length:Int)+2)⟩].flatMap HI.cells))from Zh) hk))) ?_;rintro _ _ ⟨_,⟨l15,X15,hl15,rfl⟩,rfl⟩;refine Z_9 ?_;refine ZcL (cdF S l15 fix X15) (fun w hi hin=>kb S l15 fix X15 (by first|omega|(simp only[hl11,hl12,hl13,hl14,hl15,ae,aj,ao];omega)) 9 S.p.taken w hin) ?_;rintro _ _ ⟨_,⟨l16,X16,hl16,rfl⟩,rfl⟩;refine Zn ?_;refine dM (((l16,X16):List HI×CAd)) ?_ ?_ ?_
   ·exact br_eq hl12 hl13 hl14 hl15 hl16 hc5
   ·exact Zwk
   exact Zu
  refine Zc ?_;refine dM (((l11,X11):List HI×CAd)) ?_ ?_ ?_
  ·(simp only[hl11,ge,hc5,ac,aa,ap,aM,aP,ax])
  ·exact Zwk
  exact Zu
 rintro⟨m2,s2⟩ hm2;dsimp only at hm2⊢;have gB:=ss S.p l11.length;have bm2:m2.length≤l.length+20:=(by have e2:m2.length=l11.length+(ge S.p l11.length).length:=(by rw[hm2,ae]);have e1:l11.length=m1.length+1:=(by rw[hl11];simp);omega);refine cW (fun q:List HI×CAd=>[(0,.pointer (some ⟨S.b,0,none⟩))]) (fun q=>cdF S q.1 fix q.2) (fun q=>q.1=m2++iR S.p S.pl) ?_ ?_
 ·refine dS ?_;refine ZW ?_ ?_<;>intro hc15
  ·have ht:=htg (by simpa using hc15);refine Z_8 ?_;refine ZcL (cdF S m2 fix s2) (fun w hi hin=>AA S m2 fix s2 xC S.p.target 7 ht w hin (fun w' hk=>hK w' (hi.J5 Zi hk))) ?_;rintro _ _ ⟨_,⟨rfl,l21,X21,hl21,rfl⟩,rfl⟩;refine ZA ?_;refine fb (da rfl rfl Zrf Zrf rfl rfl rfl) rfl ?_;rintro _ _ ⟨b90,rfl,rfl⟩;refine ZcL (cdF S l21 fix X21) (fun w hi hin=>jW S l21 fix X21 (by first|omega|(simp only[hl21,ae,aj,ao];omega)) [⟨2,9,dP S.pl S.p.target 7,0,0⟩] (some ⟨b90,0,none⟩) 1 cJ w hin (fun w' hk=>de (hi.JY Zi (show Has _ (slv 298 5 (some ⟨b90,0,none⟩) 1 1 ([⟨2,9,dP S.pl S.p.target 7,0,0⟩].flatMap HI.cells))from Zh) hk))) ?_;rintro _ _ ⟨_,⟨l22,X22,hl22,rfl⟩,rfl⟩;refine Zn ?_;refine dM (((l22,X22):List HI×CAd)) ?_ ?_ ?_
   ·(simp only[hl21,hl22,iR,hc15,ac,aa,ap,aM,aP,ax])
   ·exact Zwk
   exact Zu
  refine Zc ?_;refine dM (((m2,s2):List HI×CAd)) ?_ ?_ ?_
  ·(simp only[iR,hc15,ac,aa,ap,aM,aP,ax])
  ·exact Zwk
  exact Zu
 rintro⟨m3,s3⟩ hm3;dsimp only at hm3⊢;have gT:=qO S.p S.pl;have bm3:m3.length≤l.length+30:=(by rw[hm3,ae];omega);refine Z_3 ?_;refine ZcL (cdF S m3 fix s3) (fun w hi hin=>ue S m3 fix s3 xC 15 0 9 w hin) ?_;rintro _ _ ⟨_,⟨l31,X31,hl31,rfl⟩,rfl⟩;refine dS ?_;refine Zy (bW rfl rfl Zv0 rfl) ?_;refine ZcL (cdF S l31 fix X31) (fun w hi hin=>kb S l31 fix X31 (by first|omega|(simp only[hl31,ae,aj,ao];omega)) 11 (IntKind.u32.wrap S.p.count) w hin) ?_;rintro _ _ ⟨_,⟨l32,X32,hl32,rfl⟩,rfl⟩;refine Z_5 ?_;refine ZcL (cdF S l32 fix X32) (fun w hi hin=>ue S l32 fix X32 (by first|omega|(simp only[hl31,hl32,ae,aj,ao];omega)) 15 36 11 w hin) ?_;rintro _ _ ⟨_,⟨l33,X33,hl33,rfl⟩,rfl⟩;refine Z_5 ?_;refine fb (da rfl rfl Zrf Zrf rfl rfl rfl) rfl ?_;rintro _ _ ⟨b106,rfl,rfl⟩;refine ZcL (cdF S l33 fix X33) (fun w hi hin=>jW S l33 fix X33 (by first|omega|(simp only[hl31,hl32,hl33,ae,aj,ao];omega)) [⟨19,0,0,0,1⟩] (some ⟨b106,0,none⟩) 1 cJ w hin (fun w' hk=>de (hi.JY Zi (show Has _ (slv 298 5 (some ⟨b106,0,none⟩) 1 1 ([⟨19,0,0,0,1⟩].flatMap HI.cells))from Zh) hk))) ?_;rintro _ _ ⟨_,⟨l34,X34,hl34,rfl⟩,rfl⟩;refine Zn (iF (cs':=cdF S l34 fix X34) (.inr rfl) Zu rfl ?_);exact⟨l34,X34,(end_eq hm1 hl11 hm2 hm3 hl31 hl32 hl33 hl34),rfl⟩
end
end Go.Proofs.YtakodpimdalajaaGreatDoor
namespace Go.Ink
open Go.RowKit
theorem vy{α:Type}{f:α→Bool}{l:List α}{k:Nat}{x:α}(hx:l[k]? =some x)(h:(l.take k).all f=true)(hf:f x=true):(l.take (k+1)).all f=true:=by
 rw[List.take_add_one,hx,List.all_append,h,show((some x).toList).all f=f x by simp,hf];rfl
theorem FF{α:Type}{f:α→Bool}{l:List α}{k:Nat}{x:α}(hx:l[k]? =some x)(hf:f x=false):l.all f=false:=by
 cases h:l.all f with
 |false=>rfl
 |true=>rw[bE]at h;have:=h x (aI hx);rw[hf]at this;cases this
theorem pZ{a b:Int}:∀(c:List II) (i k:Nat) {x:II},c[k]? =some x→iN a b (c.take k) i=true→je a b (i+k) x=true→iN a b (c.take (k+1)) i=true
 |[],_,_,_,h,_,_=>by simp at h
 |y::c,i,0,x,h,_,h2=>by
  obtain rfl:y=x:=by simpa using h
  show(je a b i y&&iN a b (c.take 0) (i+1))=true;rw[show je a b i y=true from h2];rfl
 |y::c,i,k+1,x,h,h1,h2=>by
  have h1:(je a b i y&&iN a b (c.take k) (i+1))=true:=h1;rw[aB]at h1;have:=pZ c (i+1) k (x:=x) (by simpa using h) h1.2 (by rw[show i+1+k=i+(k+1) by omega];exact h2);show(je a b i y&&iN a b (c.take (k+1)) (i+1))=true;rw[h1.1,this];rfl
theorem un{a b:Int}:∀(c:List II) (i k:Nat) {x:II},c[k]? =some x→je a b (i+k) x=false→iN a b c i=false
 |[],_,_,_,h,_=>by simp at h
 |y::c,i,0,x,h,h2=>by
  obtain rfl:y=x:=by simpa using h
  show(je a b i y&&iN a b c (i+1))=false;rw[show je a b i y=false from h2];rfl
 |y::c,i,k+1,x,h,h2=>by
  have:=un c (i+1) k (x:=x) (by simpa using h) (by rw[show i+1+k=i+(k+1) by omega];exact h2);show(je a b i y&&iN a b c (i+1))=false;rw[this,Bool.and_false]
structure AK(p:Pg)(Q:PAd)(w:World):Prop where
 code:RdV w 5 Q.Ac p.code.length Q.cc (p.code.flatMap II.cells)
 Jw:Rd w .i64 Q.Ad p.Jw.length Q.cd p.Jw
 Jx:Rd w .i64 Q.Ar p.Jx.length Q.cr p.Jx
structure qj(p:Pg):Prop where
 JR:p.values=p.code.length
 JF:p.code.length≤64
 Jw:p.Jw.length≤100
 Jx:p.Jx.length≤100
 imm:∀x,x∈p.code→0≤x.imm∧x.imm≤4294967295
end Go.Ink
namespace Go.Proofs.YtakodpimdalajaaGreatDoor
open Go.RowKit Go.Ink Go.Proofs.Tryz
attribute [local irreducible] OpY bP
theorem nM(a b:Int)(w:World):Ctr prog 258 [.int .i64 a,.int .i64 b] w [] (fun r cs=>r= .bool (nN a b)∧cs=[]):=by
 refine bL func258 rfl ntmps258 rfl (Inv.start w) ?_;refine AI ?_;refine Zra ?_;exact⟨by unfold nN;cases decide (0≤a)<;>cases decide (a<b)<;>rfl,rfl⟩
theorem wh(w:World):Ctr prog 220 [.int .i64 7] w [] (fun r cs=>r= .bool true∧cs=[]):=by
 refine bL func220 rfl ntmps220 rfl (Inv.start w) ?_;refine vz ?_;refine Zra ?_;exact df
theorem Il(A:Option Addr)(c:Nat)(l:List Int)(hl:l.length≤100)(w:World)(h:Rd w .i64 A l.length c l):Ctr prog 256 [.slice A l.length c] w [] (fun r cs=>r= .bool (oN l)∧cs=[]):=by
 refine bL func256 rfl ntmps256 rfl (Inv.start w) ?_;refine gL ?_;refine cw (fun k:Nat=>[(5,.slice A l.length c),(6,.int .i64 l.length),(7,.int .i64 (k:Int))]) (fun _=>[]) (fun k=>k≤l.length∧(l.take k).all (fun n=>decide (0≤n)&&decide (n≤16))=true) (fun k=>l.length - k) (0) ?_ ?_ ?_ ?_
 ·exact⟨au _,rfl⟩
 ·exact Zwk
 ·exact Zu
 rintro k ⟨hk,ha⟩;refine Z_6 ?_;refine ZW ?_ ?_<;>intro hc2
 ·simp only[ak]at hc2;obtain⟨ad,rfl⟩:=h.some_ Wq1;obtain⟨x,hx⟩:∃x,l[k]? =some x:=⟨_,ai (show k<l.length by omega)⟩;refine Z_6 ?_;refine Zy (cU (j:=k) rfl Zrf (Zv rfl) (Zv rfl) Wq4 Wq4) ?_;refine dL (bO Zrf Zv0) (eH h (cQ hx)) rfl ?_;refine jA ?_;refine ZW ?_ ?_<;>intro hc4
  ·have hf:(fun n:Int=>decide (0≤n)&&decide (n≤16)) x=false:=(by have:=hc4;simp only[Bool.or_eq_true,ak]at this;simp only[Bool.and_eq_false_iff,ah];omega);refine fF ?_;refine Zra ?_;exact⟨by unfold oN;rw[FF hx hf],rfl⟩
  have hf:(fun n:Int=>decide (0≤n)&&decide (n≤16)) x=true:=(by have:=hc4;simp only[bj,ah]at this;simp only[aB,ak];omega);refine Z_4 ?_;refine Wq8 ?_;refine dM (k+1) ?_ ?_ ?_
  ·exact⟨⟨by omega,vy hx ha hf⟩,by omega⟩
  ·exact Zwk
  exact Zu
 simp only[ah]at hc2;obtain rfl:k=l.length:=by omega
 rw[bA]at ha;refine fF ?_;refine Zra ?_;exact⟨by unfold oN;rw[ha],rfl⟩
theorem Hr(p:Pg)(Q:PAd)(i:Nat)(x:II)(hx:p.code[i]? =some x)(him:0≤x.imm∧x.imm≤4294967295)(hd:0≤p.Jn∧p.Jn≤16)(hr:0≤p.Jo∧p.Jo≤16)(w:World)(h:RdV w 5 Q.Ac p.code.length Q.cc (p.code.flatMap II.cells)):
  Ctr prog 257 [pgv p Q,.int .i64 i] w [] (fun r cs=>r= .bool (je p.Jn p.Jo i x)∧cs=[]):=by
 have hil:i<p.code.length:=by
  rcases Nat.lt_or_ge i p.code.length with h9|h9
  ·exact h9
  rw[bH h9]at hx;cases hx
 obtain⟨ad,had⟩:=h.some_ Wq1;rw[had]at h;obtain⟨op,dst,xa,xb,imm⟩:=x;obtain⟨hi1,hi2⟩:=him;obtain⟨hd1,hd2⟩:=hd;obtain⟨hr1,hr2⟩:=hr;dsimp only at hi1 hi2;refine bL func257 rfl ntmps257 rfl (Inv.start w) ?_;refine Z_2 ?_;refine ZO fun b2=>?_;refine Z_8 ?_;refine Zy (eK (j:=i) had rfl Zrf Zv0 Zv0 Zrf (fun _=>hil)) ?_;refine dL (cn (vs:=[.int .i64 op,.int .i64 dst,.int .i64 xa,.int .i64 xb,.int .u32 imm]) Zrf Zrf Zv0) (fv h (fun j v hj=>fB (f:=II.cells) Zrf (i:=j) hx hj)) rfl ?_;refine ZN fun b5=>?_
 refine ZM ?_;refine fF ?_;refine ZW ?_ ?_<;>intro hc2
 ·refine Z_7 ?_;refine Zra ?_;exact⟨by simp only[je,hc2,ac],rfl⟩
 refine Z_7 ?_;refine dE fy (.cons Zv0 (.cons Zv0 .nil)) (fun _ _=>rfl) (fun hg w hi=>nM xa i w) rfl ?_;refine Z_4 ?_;refine dE (bZ rfl rfl) (.cons (dH rfl) (.cons (dH rfl) .nil)) (fun _ _=>rfl) (fun hg w hi=>nM xb i w) rfl ?_;refine lw ?_;refine fF ?_;refine ZW ?_ ?_<;>intro hc7
 ·refine Z_9 ?_;refine Zra ?_;exact⟨by simp only[je,hc2,hc7,ac,aa]<;>cases xa==0<;>cases xb==0<;>rfl,rfl⟩
 refine Z_6 ?_;refine ZW ?_ ?_<;>intro hc9
 ·refine Z_6 ?_;refine Zyy rfl rfl (bW rfl rfl (dH rfl) sF) ?_;refine Z_2 ?_;refine Zyy rfl rfl (bW rfl rfl (dH rfl) sF) ?_;refine fG ?_;exact⟨by simp only[je,hc2,hc7,hc9,ac,aa]<;>cases xa==0<;>cases xb==0<;>cases decide (imm<p.Jn)<;>rfl,rfl⟩
 refine Z_6 ?_;refine ZW ?_ ?_<;>intro hc11
 ·refine Z_6 ?_;refine Zyy rfl rfl (bW rfl rfl (dH rfl) sF) ?_;refine Z_2 ?_;refine Zyy rfl rfl (bW rfl rfl (dH rfl) sF) ?_;refine fG ?_;exact⟨by simp only[je,hc2,hc7,hc9,hc11,ac,aa]<;>cases xa==0<;>cases xb==0<;>cases decide (imm<p.Jo)<;>rfl,rfl⟩
 refine Z_6 ?_;refine ZW ?_ ?_<;>intro hc13
 ·refine FT ?_;refine Zra ?_;exact⟨by simp only[je,hc2,hc7,hc9,hc11,hc13,ac,aa]<;>cases nN xa i<;>cases nN xb i<;>cases decide (16≤imm)<;>cases decide (imm≤23)<;>rfl,rfl⟩
 refine Z_6 ?_;refine ZW ?_ ?_<;>intro hc15
 ·refine lw ?_;refine Z_4 ?_;refine Zra ?_;exact⟨by simp only[je,hc2,hc7,hc9,hc11,hc13,hc15,ac,aa]<;>cases nN xa i<;>cases nN xb i<;>cases decide (16≤imm)<;>cases decide (imm≤23)<;>cases imm==25<;>rfl,rfl⟩
 refine Z_9 ?_;refine Zra ?_;exact⟨by simp only[je,hc2,hc7,hc9,hc11,hc13,hc15,ac,aa],rfl⟩
theorem rL(p:Pg)(Q:PAd)(hf:qj p)(w:World)(h:AK p Q w):Ctr prog 219 [pgv p Q] w [] (fun r cs=>r= .bool p.JB∧cs=[]):=by
 have hv1:(p.values !=(p.code.length:Int))=false:=by rw[hf.JR];simp
 have hv2:decide (64<p.values)=false:=by rw[hf.JR];have:=hf.JF;simp;omega
 have hv3:p.values=p.code.length:=hf.JR;have hm64:=hf.JF;have hoD:=hf.Jw;have hoR:=hf.Jx;have himm:=hf.imm;have hrc:=h.code;have hrD:=h.Jw;have hrR:=h.Jx;refine bL func219 rfl ntmps219 rfl (Inv.start w) ?_;refine Z_2 ?_;refine ZO fun b1=>?_;refine AI ?_;rw[hv1,hv2];refine Z_8 ?_;refine iA (cq rfl rfl) rfl (io rfl rfl Zrf Zrf rfl rfl) rfl ?_;rintro _ _ ⟨b28,rfl,rfl⟩;refine dE (cq rfl rfl) (.cons (dH rfl) .nil) (fun _ _=>rfl) (fun hg w hi=>Il (some ⟨b28,0,none⟩) 4 [p.Jn,p.Jo,p.JK,p.JN] cJ w (hi.rd (show Has _ (slv 3 1 (some ⟨b28,0,none⟩) 4 4 (ints .i64 [p.Jn,p.Jo,p.JK,p.JN]))from Zh))) rfl ?_;refine gL ?_;refine ZW ?_ ?_<;>intro hc1
 ·have hok:p.J1=false:=(by unfold Pg.J1;have:=hc1;cases h1:oN [p.Jn,p.Jo,p.JK,p.JN]<;>cases h2:decide (p.count<1)<;>cases h3:decide (8<p.count)<;>simp_all);refine Z_7 ?_;refine Zra ?_;exact⟨by unfold Pg.JB;rw[hok];rfl,rfl⟩
 have hok:p.J1=true:=(by unfold Pg.J1;have:=hc1;cases h1:oN [p.Jn,p.Jo,p.JK,p.JN]<;>cases h2:decide (p.count<1)<;>cases h3:decide (8<p.count)<;>simp_all);have hnn:(0≤p.Jn∧p.Jn≤16)∧(0≤p.Jo∧p.Jo≤16):=(by have:=hok;unfold Pg.J1 oN at this;simp only[List.all_cons,aB,ak]at this;omega);refine gE ?_;refine cw (fun k:Nat=>[(1,.pointer (some ⟨b1,0,none⟩)),(43,.slice Q.Ac p.code.length Q.cc),(44,.int .i64 p.code.length),(45,.int .i64 (k:Int))]) (fun _=>[row b1 (jm p Q) 236]) (fun k=>k≤p.code.length∧iN p.Jn p.Jo (p.code.take k) 0=true) (fun k=>p.code.length - k) (0) ?_ ?_ ?_ ?_
 ·exact⟨au _,rfl⟩
 ·exact Zwk
 ·exact Zu
 rintro k ⟨hk,ha⟩;refine Z_6 ?_;refine ZW ?_ ?_<;>intro hc4
 ·simp only[ak]at hc4;obtain⟨x,hx⟩:∃x,p.code[k]? =some x:=⟨_,ai (show k<p.code.length by omega)⟩;refine gL ?_;refine ZSe (fun w hi=>Hr p Q k x hx (himm x (aI hx)) hnn.1 hnn.2 w (hrc.Jz hi)) ?_;refine Z_3 ?_;refine ZW ?_ ?_<;>intro hc6
  ·have hm:je p.Jn p.Jo (0+k) x=false:=(by rw[bl];simpa using hc6);refine fF ?_;refine Zra ?_;exact⟨by unfold Pg.JB;rw[un _ 0 _ hx hm,Bool.false_and,Bool.and_false],rfl⟩
  have hm:je p.Jn p.Jo (0+k) x=true:=(by rw[bl];simpa using hc6);refine Z_4 ?_;refine Wq8 ?_;refine dM (k+1) ?_ ?_ ?_
  ·exact⟨⟨by omega,pZ _ 0 k hx ha hm⟩,by omega⟩
  ·exact Zwk
  exact Zu
 simp only[ah]at hc4;obtain rfl:k=p.code.length:=by omega
 rw[bA]at ha;refine gE ?_;refine ku ?_;rintro _ _ ⟨b57,rfl,rfl⟩;refine Z_5 ?_;refine cw (fun k:Nat=>[(1,.pointer (some ⟨b1,0,none⟩)),(57,.slice (some ⟨b57,0,none⟩) 2 2),(58,.int .i64 2),(59,.int .i64 (k:Int))]) (fun _=>[row b1 (jm p Q) 236,slv 66 1 (some ⟨b57,0,none⟩) 2 2 [.slice Q.Ad p.Jw.length Q.cd,.slice Q.Ar p.Jx.length Q.cr]]) (fun k=>k≤2∧([p.Jw,p.Jx].take k).all (fun l=>l.all fun n=>nN n p.code.length)=true) (fun k=>2 - k) (0) ?_ ?_ ?_ ?_
 ·exact⟨au _,rfl⟩
 ·exact Zwk
 ·exact Zu
 rintro k2 ⟨hk2,ha2⟩;refine Z_6 ?_;refine ZW ?_ ?_<;>intro hc10
 ·simp only[ak]at hc10;obtain⟨A1,c1,l1,hx1,hx2,hR1,hb1⟩:∃(A1:Option Addr) (c1:Nat) (l1:List Int),[Value.slice Q.Ad p.Jw.length Q.cd,.slice Q.Ar p.Jx.length Q.cr][k2]? =some (.slice A1 l1.length c1)∧[p.Jw,p.Jx][k2]? =some l1∧Rd w .i64 A1 l1.length c1 l1∧l1.length≤100:=(by have h9:k2=0∨k2=1:=Wq1;rcases h9 with rfl|rfl;exact⟨_,_,p.Jw,rfl,rfl,hrD,hoD⟩;exact⟨_,_,p.Jx,rfl,rfl,hrR,hoR⟩);refine Z_6 ?_;refine Zy (cU (j:=k2) rfl Zrf (Zv rfl) (Zv rfl) Wq4 Wq4) ?_;refine dL (bO Zrf Zv0) (oY Zh hx1) rfl ?_;refine fF ?_;refine cw (fun k:Nat=>[(1,.pointer (some ⟨b1,0,none⟩)),(57,.slice (some ⟨b57,0,none⟩) 2 2),(58,.int .i64 2),(59,.int .i64 (k2:Int)),(63,.slice A1 l1.length c1),(64,.int .i64 l1.length),(65,.int .i64 (k:Int))]) (fun _=>[row b1 (jm p Q) 236,slv 66 1 (some ⟨b57,0,none⟩) 2 2 [.slice Q.Ad p.Jw.length Q.cd,.slice Q.Ar p.Jx.length Q.cr]]) (fun k=>k≤l1.length∧(l1.take k).all (fun n=>nN n p.code.length)=true) (fun k=>l1.length - k) (0) ?_ ?_ ?_ ?_
  ·exact⟨au _,rfl⟩
  ·exact Zwk
  ·exact Zu
  rintro k3 ⟨hk3,ha3⟩;refine Z_6 ?_;refine ZW ?_ ?_<;>intro hc13
  ·simp only[ak]at hc13;obtain⟨ad,rfl⟩:=hR1.some_ Wq1;obtain⟨x,hx⟩:∃x,l1[k3]? =some x:=⟨_,ai (show k3<l1.length by omega)⟩;refine Z_6 ?_;refine Zy (cU (j:=k3) rfl Zrf (Zv rfl) (Zv rfl) Wq4 Wq4) ?_;refine dL (bO Zrf Zv0) (eH hR1 (cQ hx)) rfl ?_;refine Z_8 ?_;refine ZSe (fun w hi=>nM x p.values w) ?_;refine Z_3 ?_;refine ZW ?_ ?_<;>intro hc15
   ·have hm:nN x p.code.length=false:=(by rw[←hv3];simpa using hc15);refine p6 ?_;refine Zra ?_;exact⟨by have h9:=FF (f:=fun l:List Int=>l.all fun n=>nN n p.code.length) hx2 (FF hx hm);unfold Pg.JB;simp only[List.all_cons,List.all_nil,Bool.and_true,Bool.and_eq_false_iff]at h9;rcases h9 with h9|h9<;>rw[h9]<;>simp,rfl⟩
   have hm:nN x p.code.length=true:=(by rw[←hv3];simpa using hc15);refine Z_4 ?_;refine Wq8 ?_;refine dM (k3+1) ?_ ?_ ?_
   ·exact⟨⟨by omega,vy hx ha3 hm⟩,by omega⟩
   ·exact Zwk
   exact Zu
  simp only[ah]at hc13;obtain rfl:k3=l1.length:=by omega
  rw[bA]at ha3;refine Z_7 ?_;refine Wq8 ?_;refine dM (k2+1) ?_ ?_ ?_
  ·exact⟨⟨by omega,vy hx2 ha2 ha3⟩,by omega⟩
  ·exact Zwk
  exact Zu
 simp only[ah]at hc10;obtain rfl:k2=2:=by omega
 refine p5 ?_;refine dE (bZ rfl rfl) (.cons (dH rfl) (.cons (dH rfl) .nil)) (fun _ _=>rfl) (fun hg w hi=>nM p.flags p.values w) rfl ?_;refine fF ?_;refine dE (dU rfl rfl) (.cons (dH rfl) (.cons (dH rfl) .nil)) (fun _ _=>rfl) (fun hg w hi=>nM p.target p.values w) rfl ?_;refine Z_5 ?_;refine ZW ?_ ?_<;>intro hc19
 ·refine Z_7 ?_;refine Zra ?_;exact⟨by have h9:p.J0=false:=(by unfold Pg.J0;rw[←hv3];have:=hc19;cases h1:p.flags != -1<;>cases h2:nN p.flags p.values<;>cases h3:p.target != -1<;>cases h4:nN p.target p.values<;>simp_all);unfold Pg.JB;rw[h9];simp,rfl⟩
 refine lw ?_;refine Z_6 ?_;refine Zra ?_;exact⟨by have h9:p.J0=(p.branch==0||((decide (33≤p.branch)&&decide (p.branch≤37))&&p.target== -1)):=(by unfold Pg.J0;rw[←hv3];have:=hc19;cases h1:p.flags != -1<;>cases h2:nN p.flags p.values<;>cases h3:p.target != -1<;>cases h4:nN p.target p.values<;>simp_all);simp only[List.take,List.all_cons,List.all_nil,Bool.and_true,aB]at ha2;unfold Pg.JB;rw[hok,ha,ha2.1,ha2.2,h9];cases p.branch==0<;>cases decide (33≤p.branch)<;>cases decide (p.branch≤37)<;>cases p.target== -1<;>rfl,rfl⟩
end Go.Proofs.YtakodpimdalajaaGreatDoor
namespace Go.Ink
open Go.RowKit
abbrev span(i:Nat)(t:Int):List Value:=[.int .i64 i,.int .i64 i,.int .i64 t]
def fu:Nat→List Int→List Value
 |_,[]=>[]
 |k,t::T=> .int .i64 k:: .int .i64 k:: .int .i64 t::fu (k+1) T
theorem tw:∀(T:List Int) (k:Nat) (t:Int),fu k (T++[t])=fu k T++[.int .i64 ((k+T.length:Nat):Int),.int .i64 ((k+T.length:Nat):Int),.int .i64 t]
 |[],k,t=>rfl
 |x::T,k,t=>by
  have h:=tw T (k+1) t;show _::_::_::fu (k+1) (T++[t])=_;rw[h,show k+1+T.length=k+(x::T).length by simp;omega]
  rfl
theorem jK:∀(T:List Int) (k i:Nat) {t:Int} {j:Nat} {v:Value},T[i]? =some t→(span (k+i) t)[j]? =some v→(fu k T)[i*3+j]? =some v
 |[],_,_,_,_,_,h,_=>by simp at h
 |x::T,k,0,t,j,v,h,hj=>by
  obtain rfl:x=t:=by simpa using h
  rw[Nat.zero_mul,bl]
  match j,hj with
  |0,hj=>exact hj
  |1,hj=>exact hj
  |2,hj=>exact hj
  |j+3,hj=>simp at hj
 |x::T,k,i+1,t,j,v,h,hj=>by
  have:=jK T (k+1) i (t:=t) (j:=j) (v:=v) (by simpa using h) (by rw[show k+1+i=k+(i+1) by omega];exact hj);rw[show(i+1)*3+j=(i*3+j)+3 by omega];exact this
theorem tv:∀(T:List Int) (k i:Nat) (t:Int),(fu k T).set (i*3+2) (.int .i64 t)=fu k (T.set i t)
 |[],_,_,_=>rfl
 |x::T,k,0,t=>rfl
 |x::T,k,i+1,t=>by
  have:=tv T (k+1) i t;rw[show(i+1)*3+2=(i*3+2)+3 by omega];show _::_::_::(fu (k+1) T).set (i*3+2) _=_;rw[this];rfl
theorem Bn:∀(T:List Int) (k:Nat),∀u∈fu k T,u.oneCell'=true
 |[],_,u,h=>by cases h
 |x::T,k,u,h=>by
  have h:u∈(.int .i64 k:: .int .i64 k:: .int .i64 x::fu (k+1) T:List Value):=h;simp only[aK]at h;rcases h with rfl|rfl|rfl|h
  ·rfl
  ·rfl
  ·rfl
  exact Bn T (k+1) u h
theorem nO(T:List Int)(n a:Int):(fZ T n a).length=T.length:=(jv T n a).1
theorem En(n:Nat):iota (n+1)=iota n++[(n:Int)]:=by unfold iota;rw[List.range_succ,List.map_append];rfl
theorem jg{α:Type}{l:List α}{k:Nat}{x:α}(h:l[k]? =some x):l.drop k=x::l.drop (k+1):=by
 rcases Nat.lt_or_ge k l.length with h9|h9
 ·rw[List.drop_eq_getElem_cons h9];rw[ai h9]at h;rw[aD h]
 rw[bH h9]at h;cases h
theorem GA{w0:World}{S:List Nat}{cs:List bJ}{n c j:Nat}{ad:Addr}{xs:List Value}{v:Value}(h:∀w,Inv w0 S cs w→RdV w 1 (some ad) n c xs)(hv:xs[j]? =some v):∀w,Inv w0 S cs w→cells [(ad.add (j*1),v)] w:=fun w hi z hz=>by
 rw[aL]at hz;subst hz;rw[Nat.mul_one];exact(h w hi).at_ ad rfl j v hv
theorem one3(a b c:Int):∀u∈([.int .i64 a,.int .i64 b,.int .i64 c]:List Value),u.oneCell'=true:=fun u h=>by
 simp only[aK,aY,or_false]at h;rcases h with rfl|rfl|rfl<;>rfl
theorem AK.Jz{p:Pg}{Q:PAd}{w0 w:World}{cs:List bJ}(h:AK p Q w0)(hi:Inv w0 [] cs w):AK p Q w:=⟨h.code.Jz hi,h.Jw.Jz hi,h.Jx.Jz hi⟩
theorem o3{p:Pg}(h:p.JB=true):(∀(k:Nat) (x:II),p.code[k]? =some x→kq x=true→(0≤x.a∧x.a<k)∧(0≤x.b∧x.b<k))∧(∀n,n∈p.Jw∨n∈p.Jx→0≤n∧n<p.code.length)∧(0≤p.flags→p.flags<p.code.length)∧(0≤p.target→p.target<p.code.length):=by
 unfold Pg.JB at h;simp only[aB]at h;obtain⟨-,h1,h2,h3,h4⟩:=h;have hv:∀a b,nN a b=true→0≤a∧a<b:=fun a b h=>by unfold nN at h;simpa using h
 refine⟨fun k x hx hab=>?_,fun n hn=>?_,fun h0=>?_,fun h0=>?_⟩
 ·have hm:=pG p.code 0 h1 k x hx;rw[bl]at hm;unfold kq at hab;unfold je at hm;have ho:x.op=3∨x.op=4:=by simpa using hab
  rcases ho with ho|ho<;>rw[ho]at hm<;>cases hd:(x.dst !=(k:Int))<;>rw[hd]at hm<;>simp[nN]at hm
  ·exact⟨hm.1.1.1,hm.1.1.2⟩
  exact⟨hm.1.1,hm.1.2⟩
 ·rcases hn with hn|hn
  ·exact hv _ _ (bE.1 h2 n hn)
  exact hv _ _ (bE.1 h3 n hn)
 ·unfold Pg.J0 at h4;simp only[aB,Bool.not_eq_true',bj]at h4;obtain⟨⟨h5, -⟩, -⟩:=h4;have h6:(p.flags != -1)=true:=by rw[bne_iff_ne];omega
  rw[h6,Bool.true_and]at h5;exact(hv _ _ (by simpa using h5)).2
 unfold Pg.J0 at h4;simp only[aB,Bool.not_eq_true',bj]at h4;obtain⟨⟨-,h5⟩, -⟩:=h4;have h6:(p.target != -1)=true:=by rw[bne_iff_ne];omega
 rw[h6,Bool.true_and]at h5;exact(hv _ _ (by simpa using h5)).2
end Go.Ink
namespace Go.Proofs.YtakodpimdalajaaGreatDoor
open Go.RowKit Go.Ink Go.Proofs.Tryz
attribute [local irreducible] OpY bP
abbrev lvC(A:Option Addr)(c:Nat)(T:List Int):bJ:=slv 343 3 A T.length c (fu 0 T)
abbrev lvF(b:Nat)(A:Option Addr)(c:Nat)(T:List Int):List bJ:=[row b [.slice A T.length c] 338,lvC A c T]
theorem DW(T:List Int)(i j:Nat)(w:World):Ctr prog 224 [.agg #[.int .i64 i,.int .i64 i,.int .i64 (T.getD i 0)],.agg #[.int .i64 j,.int .i64 j,.int .i64 (T.getD j 0)]] w [] (fun r cs=>r= .bool (lX T i j)∧cs=[]):=by
 obtain⟨ti,hti⟩:=Zgn (T.getD i 0);obtain⟨tj,htj⟩:=Zgn (T.getD j 0);unfold lX;rw[hti,htj];refine bL func224 rfl ntmps224 rfl (Inv.start w) ?_;refine Z_2 ?_;refine ZO fun b2=>?_;refine ZO fun b3=>?_
 refine lw ?_;refine fG ?_;exact⟨by cases decide ((i:Int)<tj)<;>cases decide ((j:Int)<ti)<;>cases(i:Int)==(j:Int)<;>rfl,rfl⟩
theorem CM(b:Nat)(A:Option Addr)(c:Nat)(T:List Int)(n at_:Int)(hn:0≤n→n.toNat<T.length)(w:World)(hi:Inv w (bK (lvF b A c T)) (lvF b A c T) w):
  Ctr prog 260 [.int .i64 n,.int .i64 at_,.pointer (some ⟨b,0,none⟩)] w (lvF b A c T) (fun _ cs=>cs=lvF b A c (fZ T n at_)):=by
 refine bL func260 rfl ntmps260 rfl hi ?_;refine Z_6 ?_;refine ZW ?_ ?_<;>intro hc0
 ·simp only[ak]at hc0;have hlt:=hn hc0;obtain⟨m,rfl⟩:∃m:Nat,n=m:=aq hc0;rw[aO]at hlt;obtain⟨bs,rfl⟩:=gU (hi.get (show Has _ (lvC A c T)from Zh)) Wq1;have hx:T[m]? =some (T.getD m 0):=(by simp[ai hlt]);have hu:fZ T m at_=T.set m (if at_>T.getD m 0 then at_ else T.getD m 0):=(by unfold fZ;rw[ay hc0,ac,aO]);obtain⟨t,ht⟩:=Zgn (T.getD m 0);rw[ht]at hx hu;obtain⟨t2,ht2⟩:=Zgn ((if at_>t then at_ else t));rw[ht2]at hu;refine bR ⟨fun j=>List.elem j [11],qY b [.slice (some ⟨bs,0,none⟩) T.length c]⟩ Zk ?_;refine iC 0 rfl Zk Zk Zk (bO Zrf (Zv rfl)) Wq2 (bQ (t:=338) Zh) rfl ?_;refine ZE 1 ?_;refine iC 2 rfl Zk Zk Zk (bO Zrf (Zv rfl)) Wq2 (bQ (t:=338) Zh) rfl ?_;refine ZE 3 ?_;refine cD 4 rfl Zk Zk Zk (cu (j:=m) (sz:=3) (r:=m*3) rfl Zrf (Zv rfl) (Zv rfl) Zrf (fun _=>hlt) Wq1) rfl ?_;refine ZFe 5 2 ?_;refine dm 6 rfl Zk Zk Zk Zk (bO Zrf Zv0) (zk Zh (jK T 0 m (j:=2) hx rfl)) rfl ?_;refine ZE 7 ?_;refine cD 8 rfl Zk Zk Zk (vH Zv0 Zv0 ht2) rfl ?_;refine cD 9 rfl Zk Zk Zk (cu (j:=m) (sz:=3) (r:=m*3) rfl Zrf (Zv rfl) (Zv rfl) Zrf (fun _=>hlt) Wq1) rfl ?_;refine ZFe 10 2 ?_;refine ce 11 Zk ?_;refine dp rfl rfl (uC Zrf rfl rfl rfl Za Wq1) (fun _=>by rintro _ _ ⟨rfl,rfl⟩;exact bQ (t:=338) Zh) ?_;rintro _ _ ⟨rfl,rfl⟩;refine dr ?_;refine iF (cs':=[row b [.slice (some ⟨bs,0,none⟩) T.length c] 338,slv 343 3 (some ⟨bs,0,none⟩) T.length c ((fu 0 T).set (m*3+2) (.int .i64 t2))]) (.inr rfl) Zu rfl ?_;rw[hu,tv,show T.length=(T.set m t2).length by simp]
 simp only[ah]at hc0;have hu:fZ T n at_=T:=(by unfold fZ;rw[az hc0];rfl);refine Zc (iF (cs':=lvF b A c T) (.inr rfl) Zu rfl ?_);rw[hu]
theorem lof_ok(p:Pg)(Q:PAd)(hf:qj p)(hr:p.JB=true)(w:World)(h:AK p Q w):
  Ctr prog 222 [pgv p Q] w [] (fun r cs=>∃A c,r= .slice A (gi p).length c∧cs=[lvC A c (gi p)]):=by
 have hv3:p.values=p.code.length:=hf.JR;have hm64:=hf.JF;have hrc:=h.code;have hrD:=h.Jw;have hrR:=h.Jx;obtain⟨u1,u2,u3,u4⟩:=o3 hr;obtain⟨N,hN⟩:=Zgn (p.code.length);rw[hN]at hv3 hm64 u2 u3 u4;have hlv:[p.Jw,p.Jx,[p.flags,p.target]].foldl (fun T l=>jt T l N) (eZ p.code 0 (iota N))=gi p:=by unfold gi;rw[hN];rfl
 obtain⟨L0,hL0⟩:=Zgn (eZ p.code 0 (iota N));rw[hL0]at hlv;refine bL func222 rfl ntmps222 rfl (Inv.start w) ?_;refine Z_2 ?_;refine ZO fun b1=>?_;refine Z_7 ?_;refine ZSe (fun w hi=>rL p Q hf w (h.Jz hi)) ?_;rw[hr];refine Z_3 ?_;refine gx ?_;refine Z_4 ?_;refine ZN fun b3=>?_;refine Z_5 ?_;refine dy 343 3 ?_
 try rw[hv3]
 refine Z_6 ?_;refine cw (fun q:Nat×List Int×Option Addr×Nat=>[(1,.pointer (some ⟨b1,0,none⟩)),(3,.pointer (some ⟨b3,0,none⟩)),(16,.int .i64 p.values),(17,.int .i64 (q.1:Int))]) (fun q=>[row b1 (jm p Q) 236,row b3 [.slice q.2.2.1 q.2.1.length q.2.2.2] 338,slv 343 3 q.2.2.1 q.2.1.length q.2.2.2 (fu 0 q.2.1)]) (fun q=>q.1≤N∧q.2.1=iota q.1) (fun q=>N - q.1) (⟨0,[],none,0⟩) ?_ ?_ ?_ ?_
 ·exact⟨au _,rfl⟩
 ·exact Zwk
 ·exact Zu
 rintro⟨k,T,A1,c1⟩ ⟨hk,hT⟩;dsimp only at hk hT⊢;have hTl:T.length=k:=(by rw[hT,oB]);refine Z_6 ?_;refine ZW ?_ ?_<;>intro hc5
 ·simp only[ak]at hc5;rw[hv3]at hc5;have hsp:fu 0 T++[.int .i64 (k:Int),.int .i64 (k:Int),.int .i64 (k:Int)]=fu 0 (T++[(k:Int)]):=(by rw[tw,hTl,bl]);refine p5 ?_;refine fb (da rfl rfl Zrf Zrf rfl rfl rfl) rfl ?_;rintro _ _ ⟨b25,rfl,rfl⟩;refine fb (cC (e:=343) (sz:=3) (bytes:=24) rfl rfl Za rfl rfl (fun w hi=>hi.rd (show Has _ (slv 343 3 (some ⟨b25,0,none⟩) 1 1 [.int .i64 (k:Int),.int .i64 (k:Int),.int .i64 (k:Int)])from Zh)) (one3 _ _ _) g9 Wq1) rfl ?_;rintro _ _ ⟨A2,c2,rfl,rfl⟩;rw[hsp,show T.length+1=(T++[(k:Int)]).length by simp];refine ZL ?_;refine Z_4 ?_;refine Wq8 ?_;refine bY ((⟨k+1,T++[(k:Int)],A2,c2⟩:Nat×List Int×Option Addr×Nat)) ?_ ?_ ?_
  ·exact⟨⟨by omega,by dsimp only;rw[En,hT]⟩,by dsimp only;omega⟩
  ·exact Zwk
  exact Zj
 simp only[ah]at hc5;rw[hv3]at hc5;obtain rfl:k=N:=by omega
 refine Z_7 ?_;refine Zy (kP rfl) ?_;refine jA ?_;refine cw (fun q:Nat×List Int=>[(1,.pointer (some ⟨b1,0,none⟩)),(3,.pointer (some ⟨b3,0,none⟩)),(5,.func (.func 260) #[] #[.pointer (some ⟨b3,0,none⟩)]),(30,.slice Q.Ac p.code.length Q.cc),(31,.int .i64 p.code.length),(32,.int .i64 (q.1:Int))]) (fun q=>[row b1 (jm p Q) 236,row b3 [.slice A1 q.2.length c1] 338,slv 343 3 A1 q.2.length c1 (fu 0 q.2)]) (fun q=>q.1≤k∧q.2.length=k∧eZ (p.code.drop q.1) q.1 q.2=L0) (fun q=>k - q.1) (⟨0,T⟩) ?_ ?_ ?_ ?_
 ·exact⟨au _,hTl,by rw[hT];exact hL0⟩
 ·exact Zwk
 ·exact Zu
 rintro⟨i,T⟩ ⟨hi2,hTl,hL⟩;dsimp only at hi2 hTl hL⊢;refine Z_6 ?_;refine ZW ?_ ?_<;>intro hc11
 ·simp only[ak]at hc11;rw[hN]at hc11;have hil:i<p.code.length:=Wq1;obtain⟨ad,had⟩:=hrc.some_ Wq1;have hrc2:=hrc;rw[had]at hrc2;obtain⟨x,hx⟩:∃x,p.code[i]? =some x:=⟨_,ai hil⟩;have hu:=u1 i x hx;rw[jg hx]at hL;have hL:eZ (p.code.drop (i+1)) (i+1) (bif kq x then fZ (fZ T x.a i) x.b i else T)=L0:=hL;obtain⟨op,dst,xa,xb,imm⟩:=x;dsimp only at hL hu;refine Z_7 ?_;refine Zy (eK (j:=i) had rfl Zrf Zv0 Zv0 Zrf (fun _=>hil)) ?_;refine dL (cn (vs:=[.int .i64 op,.int .i64 dst,.int .i64 xa,.int .i64 xb,.int .u32 imm]) Zrf Zrf Zv0) (fv hrc2 (fun j v hj=>fB (f:=II.cells) Zrf (i:=j) hx hj)) rfl ?_;refine ZN fun b7=>?_
  refine ZA ?_;refine ZM ?_;refine gL ?_;refine ZW ?_ ?_<;>intro hc13
  ·have hab:kq ⟨op,dst,xa,xb,imm⟩=true:=hc13;obtain⟨⟨ha1,ha2⟩,hb1,hb2⟩:=hu hab;rw[hab,ac]at hL;refine Z_6 ?_;refine fb (fp (lvF b3 A1 c1 T) rfl rfl (fun _ _=>rfl) Zi (fun w hi hin=>CM b3 A1 c1 T xa i Wq4 w hin)) rfl ?_;rintro _ _ ⟨_,rfl,rfl⟩;refine Z_7 ?_;refine fb (fp (lvF b3 A1 c1 (fZ T xa i)) rfl rfl (fun _ _=>rfl) Zi (fun w hi hin=>CM b3 A1 c1 (fZ T xa i) xb i (fun _=>by rw[nO];omega) w hin)) rfl ?_;rintro _ _ ⟨_,rfl,rfl⟩;refine Z_4 ?_;refine Wq8 ?_;refine bY ((⟨i+1,fZ (fZ T xa i) xb i⟩:Nat×List Int)) ?_ ?_ ?_
   ·exact⟨⟨by omega,by dsimp only;rw[nO,nO,hTl],hL⟩,by dsimp only;omega⟩
   ·exact Zwk
   exact Zj
  have hab:kq ⟨op,dst,xa,xb,imm⟩=false:=hc13;rw[hab,aa]at hL;refine Z_4 ?_;refine Wq8 ?_;refine bY ((⟨i+1,T⟩:Nat×List Int)) ?_ ?_ ?_
  ·exact⟨⟨by omega,hTl,hL⟩,by dsimp only;omega⟩
  ·exact Zwk
  exact Zj
 simp only[ah]at hc11;rw[hN]at hc11;obtain rfl:i=k:=by omega
 rw[List.drop_of_length_le Wq1]at hL;obtain rfl:T=L0:=hL;refine p5 ?_;refine ku ?_;rintro _ _ ⟨b64,rfl,rfl⟩;refine ku ?_;rintro _ _ ⟨b65,rfl,rfl⟩;refine Z_5 ?_;refine cw (fun q:Nat×List Int=>[(1,.pointer (some ⟨b1,0,none⟩)),(3,.pointer (some ⟨b3,0,none⟩)),(5,.func (.func 260) #[] #[.pointer (some ⟨b3,0,none⟩)]),(65,.slice (some ⟨b65,0,none⟩) 3 3),(66,.int .i64 3),(67,.int .i64 (q.1:Int))]) (fun q=>[row b1 (jm p Q) 236,row b3 [.slice A1 q.2.length c1] 338,slv 343 3 A1 q.2.length c1 (fu 0 q.2),slv 3 1 (some ⟨b64,0,none⟩) 2 2 (ints .i64 [p.flags,p.target]),slv 66 1 (some ⟨b65,0,none⟩) 3 3 [.slice Q.Ad p.Jw.length Q.cd,.slice Q.Ar p.Jx.length Q.cr,.slice (some ⟨b64,0,none⟩) 2 2]]) (fun q=>q.1≤3∧q.2.length=i∧([p.Jw,p.Jx,[p.flags,p.target]].drop q.1).foldl (fun T l=>jt T l i) q.2=gi p) (fun q=>3 - q.1) (⟨0,T⟩) ?_ ?_ ?_ ?_
 ·exact⟨au _,hTl,hlv⟩
 ·exact Zwk
 ·exact Zu
 rintro⟨k2,T2⟩ ⟨hk2,hTl2,hF⟩;dsimp only at hk2 hTl2 hF⊢;refine Z_6 ?_;refine ZW ?_ ?_<;>intro hc18
 ·simp only[ak]at hc18;obtain⟨A9,c9,l9,hx1,hx2,had9,hR9,hb9,hlen9⟩:∃(A9:Option Addr) (c9:Nat) (l9:List Int),[Value.slice Q.Ad p.Jw.length Q.cd,.slice Q.Ar p.Jx.length Q.cr,.slice (some ⟨b64,0,none⟩) 2 2][k2]? =some (.slice A9 l9.length c9)∧[p.Jw,p.Jx,[p.flags,p.target]][k2]? =some l9∧(0<l9.length→∃ad,A9=some ad)∧(∀(cs:List bJ) (w':World),Inv w [] cs w'→Has cs (slv 3 1 (some ⟨b64,0,none⟩) 2 2 (ints .i64 [p.flags,p.target]))→RdV w' 1 A9 l9.length c9 (ints .i64 l9))∧(∀x,x∈l9→0≤x→x<i)∧l9.length≤100:=(by have h9:k2=0∨k2=1∨k2=2:=Wq1;rcases h9 with rfl|rfl|rfl;exact⟨_,_,p.Jw,rfl,rfl,fun h=>hrD.some_ h,fun _ _ hi _=>hrD.Jz hi,fun x hx _=>(u2 x (Or.inl hx)).2,hf.Jw⟩;exact⟨_,_,p.Jx,rfl,rfl,fun h=>hrR.some_ h,fun _ _ hi _=>hrR.Jz hi,fun x hx _=>(u2 x (Or.inr hx)).2,hf.Jx⟩;exact⟨_,_,[p.flags,p.target],rfl,rfl,fun _=>⟨_,rfl⟩,fun _ _ hi hh=>hi.rd hh,fun x hx h0=>(by simp only[aK,aY,or_false]at hx;rcases hx with rfl|rfl;exact u3 h0;exact u4 h0),by show 2≤100;omega⟩);rw[jg hx2]at hF;have hF:([p.Jw,p.Jx,[p.flags,p.target]].drop (k2+1)).foldl (fun T l=>jt T l i) (jt T2 l9 i)=gi p:=hF;obtain⟨R9,hR9e⟩:=Zgn (jt T2 l9 i);rw[hR9e]at hF;refine Z_6 ?_;refine Zy (cU (j:=k2) rfl Zrf (Zv rfl) (Zv rfl) Wq4 Wq4) ?_;refine dL (bO Zrf Zv0) (oY Zh hx1) rfl ?_;refine fF ?_;refine cw (fun q:Nat×List Int=>[(1,.pointer (some ⟨b1,0,none⟩)),(3,.pointer (some ⟨b3,0,none⟩)),(5,.func (.func 260) #[] #[.pointer (some ⟨b3,0,none⟩)]),(65,.slice (some ⟨b65,0,none⟩) 3 3),(66,.int .i64 3),(67,.int .i64 (k2:Int)),(71,.slice A9 l9.length c9),(72,.int .i64 l9.length),(73,.int .i64 (q.1:Int))]) (fun q=>[row b1 (jm p Q) 236,row b3 [.slice A1 q.2.length c1] 338,slv 343 3 A1 q.2.length c1 (fu 0 q.2),slv 3 1 (some ⟨b64,0,none⟩) 2 2 (ints .i64 [p.flags,p.target]),slv 66 1 (some ⟨b65,0,none⟩) 3 3 [.slice Q.Ad p.Jw.length Q.cd,.slice Q.Ar p.Jx.length Q.cr,.slice (some ⟨b64,0,none⟩) 2 2]]) (fun q=>q.1≤l9.length∧q.2.length=i∧jt q.2 (l9.drop q.1) i=R9) (fun q=>l9.length - q.1) (⟨0,T2⟩) ?_ ?_ ?_ ?_
  ·exact⟨au _,hTl2,hR9e⟩
  ·exact Zwk
  ·exact Zu
  rintro⟨k3,T3⟩ ⟨hk3,hTl3,hF3⟩;dsimp only at hk3 hTl3 hF3⊢;refine Z_6 ?_;refine ZW ?_ ?_<;>intro hc21
  ·simp only[ak]at hc21;have hkl:k3<l9.length:=Wq1;obtain⟨ad9,rfl⟩:=had9 Wq1;obtain⟨x,hx⟩:∃x,l9[k3]? =some x:=⟨_,ai hkl⟩;have hxb:=hb9 x (aI hx);rw[jg hx]at hF3;have hF3:jt (fZ T3 x i) (l9.drop (k3+1)) i=R9:=hF3;refine Z_6 ?_;refine Zy (cU (j:=k3) rfl Zrf (Zv rfl) (Zv rfl) Wq4 Wq4) ?_;refine dL (bO Zrf Zv0) (GA (fun w hi=>hR9 _ w hi Zh) (cQ hx)) rfl ?_;refine Z_9 ?_;refine fb (fp (lvF b3 A1 c1 T3) rfl rfl (fun _ _=>rfl) Zi (fun w hi hin=>CM b3 A1 c1 T3 x p.code.length (fun h0=>by have:=hxb h0;omega) w hin)) rfl ?_;rintro _ _ ⟨_,rfl,rfl⟩;rw[show fZ T3 x (p.code.length:Int)=fZ T3 x i by rw[hN]];refine Z_4 ?_;refine Wq8 ?_;refine bY ((⟨k3+1,fZ T3 x i⟩:Nat×List Int)) ?_ ?_ ?_
   ·exact⟨⟨by omega,by dsimp only;rw[nO,hTl3],hF3⟩,by dsimp only;omega⟩
   ·exact Zwk
   exact Zj
  simp only[ah]at hc21;obtain rfl:k3=l9.length:=by omega
  rw[List.drop_length]at hF3;obtain rfl:T3=R9:=hF3;refine Z_7 ?_;refine Wq8 ?_;refine bY ((⟨k2+1,T3⟩:Nat×List Int)) ?_ ?_ ?_
  ·exact⟨⟨by omega,hTl3,hF⟩,by dsimp only;omega⟩
  ·exact Zwk
  exact Zj
 simp only[ah]at hc18;obtain rfl:k2=3:=by omega
 obtain rfl:T2=gi p:=hF;refine gE ?_;refine Zrb ([lvC A1 c1 (gi p)]) ?_;exact⟨A1,c1,rfl,rfl⟩
end Go.Proofs.YtakodpimdalajaaGreatDoor
namespace Go.Ink
open Go.RowKit
theorem and64r(n:Nat)(hn:n≤64):bits .and .u64 (n:Int) 4294967295=n:=by
 have h:∀k:Fin 65,bits .and .u64 ((k.val:Nat):Int) 4294967295=((k.val:Nat):Int):=by decide+kernel
 exact h ⟨n,by omega⟩
theorem IT(n:Nat)(hn:n≤64):(n:Int).fdiv (2^(min (32:Int).toNat IntKind.u64.bits))=0:=by
 show(n:Int).fdiv 4294967296=0;rw[Int.fdiv_eq_ediv_of_nonneg _ Wq5];omega
theorem mul1r(n:Nat)(hn:n≤64):IntKind.u64.wrap (1*(n:Int))=n:=by rw[aU];omega
theorem mul0r(n:Nat):IntKind.u64.wrap (0*(n:Int))=0:=by rw[Int.zero_mul];rfl
def By(m n:Nat):List Value:=List.replicate m (.int .i64 (-1))++List.replicate (n - m) (.int .i64 0)
theorem wg{m n:Nat}:(By m n).take m=List.replicate m (.int .i64 (-1)):=by unfold By;rw[List.take_append_of_le_length cJ,List.take_of_length_le cJ]
theorem rep0(n:Nat):(List.replicate n (.int .i64 0:Value)).take 0++(ints .i64 [-1]).take (min 1 n)++(List.replicate n (.int .i64 0)).drop (0+min 1 n)=By (min 1 n) n:=by
 unfold By;rw[List.take_zero,aP,List.drop_replicate,bl];cases n with
 |zero=>rfl
 |succ n=>rw[show min 1 (n+1)=1 by omega];rfl
theorem Gw{m n:Nat}(h:m≤n):(By m n).take m++(List.replicate m (.int .i64 (-1):Value)).take (min m (n - m))++(By m n).drop (m+min m (n - m))=By (m+min m (n - m)) n:=by
 rw[wg,List.take_replicate,show min (min m (n - m)) m=min m (n - m) by omega];unfold By;rw[List.drop_append,aJ,List.drop_of_length_le cJ,aP,List.drop_replicate,List.replicate_append_replicate,show m+min m (n - m) - m=min m (n - m) by omega,show n - m - min m (n - m)=n - (m+min m (n - m)) by omega]
theorem Gy(n:Nat):By n n=ints .i64 (List.replicate n (-1)):=by unfold By;simp[ints]
theorem Gx{m:Nat}:∀u∈List.replicate m (.int .i64 (-1):Value),u.oneCell'=true:=fun u h=>by
 obtain rfl:=List.eq_of_mem_replicate h;rfl
theorem RdV.head{w:World}{A:Option Addr}{n c m:Nat}{xs:List Value}(h:RdV w 1 A n c xs)(hm:m≤n):RdV w 1 A m c (xs.take m):=
 ⟨by rw[aC,h.len];omega,by have:=h.cap;omega,h.max,fun e=>by have:=h.nil e;omega,fun ad e j u hu=>h.at_ ad e j u (by rw[List.getElem?_take]at hu;split at hu;exact hu;cases hu)⟩
end Go.Ink
namespace Go.Proofs.YtakodpimdalajaaGreatDoor
open Go.RowKit Go.Ink Go.Proofs.Tryz
attribute [local irreducible] OpY bP
theorem GY(n:Nat)(hn:n≤64)(w:World):Ctr prog 277 [.int .u64 1,.int .u64 n] w [] (fun r cs=>r= .tuple #[.int .u64 0,.int .u64 n]∧cs=[]):=by
 refine bL func277 rfl ntmps277 rfl (Inv.start w) ?_;refine Z_9 ?_;refine Zy (nG (Zv rfl) (Zv rfl) (show _=(1:Int)from rfl)) ?_;refine Z_6 ?_;refine Zy (j0 (Zv rfl) (Zv rfl) Wq1 (show _=(0:Int)from rfl)) ?_;refine Z_6 ?_;refine Zy (nG Zv0 Zv0 (and64r n hn)) ?_;refine Z_6 ?_;refine Zy (j0 (Zv rfl) (Zv rfl) Wq1 (IT n hn)) ?_;refine Z_7 ?_;refine Zy (i4 Zv0 Zv0 (mul1r n hn)) ?_;refine Z_7 ?_;refine Zy (i4 Zv0 Zv0 (mul0r n)) ?_;refine ZA ?_;refine Zy (j0 (Zv rfl) (Zv rfl) Wq1 (IT n hn)) ?_;refine Zy (cX (Zv rfl) (Zv rfl) (show _=(0:Int)from rfl)) ?_;refine Z_6 ?_;refine Zy (nG (Zv rfl) (Zv rfl) (show _=(0:Int)from rfl)) ?_;refine Z_6 ?_;refine Zy (j0 (Zv rfl) (Zv rfl) Wq1 (show _=(0:Int)from rfl)) ?_;refine Z_8 ?_;refine Zy (i4 (Zv rfl) (Zv rfl) (show _=(0:Int)from rfl)) ?_;refine Zy (cX (Zv rfl) (Zv rfl) (show _=(0:Int)from rfl)) ?_;refine Z_7 ?_;refine Zy (i4 (Zv rfl) (Zv rfl) (show _=(0:Int)from rfl)) ?_;refine ZA ?_;refine Zy (cX (Zv rfl) (Zv rfl) (show _=(0:Int)from rfl)) ?_;refine ZA ?_;refine Zy (j0 (Zv rfl) (Zv rfl) Wq1 (show _=(0:Int)from rfl)) ?_;refine Zy (cX (Zv rfl) (Zv rfl) (show _=(0:Int)from rfl)) ?_;refine Z_7 ?_;refine Zy (i4 Zv0 Zv0 (mul1r n hn)) ?_;refine Z_4 ?_;refine jh ?_;exact df
theorem mul_ok(n:Nat)(hn:n≤64)(w:World):Ctr prog 259 [.int .u64 1,.int .u64 n] w [] (fun r cs=>r= .tuple #[.int .u64 0,.int .u64 n]∧cs=[]):=by
 refine bL func259 rfl ntmps259 rfl (Inv.start w) ?_;refine Z_7 ?_;refine gx ?_;refine Z_6 ?_;refine ZSe (fun w hi=>GY n hn w) ?_;refine p5 ?_;refine jh ?_;exact df
theorem Du(n:Nat)(hn:n≤64)(A:Option Addr)(c:Nat)(w:World)(h:Rd w .i64 A 1 c [-1]):
  Ctr prog 221 [.slice A 1 c,.int .i64 n] w [] (fun r cs=>∃A',r= .slice A' n n∧cs=[sl .i64 3 A' n n (List.replicate n (-1))]):=by
 refine bL func221 rfl ntmps221 rfl (Inv.start w) ?_;refine gE ?_;refine dw rfl (az Wq1) ?_;refine Z_6 ?_;refine Zy (bW rfl rfl (Zv rfl) (show _=(1:Int)from rfl)) ?_;refine ZA ?_;refine Zy (bW rfl rfl (Zv rfl) sF) ?_;refine ZSe (fun w hi=>mul_ok n hn w) ?_;refine AI ?_;refine dw rfl ((by simp;omega)) ?_;refine Z_5 ?_;refine Zy (bW rfl rfl Zv0 Zl) ?_;refine fb (ju (bytes:=8) (n:=n) rfl rfl rfl rfl rfl rfl rfl Wq1 g9) rfl ?_;rintro _ _ ⟨b30,rfl,rfl⟩;refine Z_7 ?_;refine fb (tp rfl rfl Za rfl rfl (fun w hi=>h.Jz hi) cO Wq1) rfl ?_;rintro _ _ ⟨rfl,rfl⟩;rw[rep0 n];refine Z_5 ?_;refine cw (fun m:Nat=>[(7,.slice (some ⟨b30,0,none⟩) n n),(8,.int .i64 (m:Int))]) (fun m=>[slv 3 1 (some ⟨b30,0,none⟩) n n (By m n)]) (fun m=>m≤n∧(0<n→0<m)) (fun m=>n - m) ((min 1 n)) ?_ ?_ ?_ ?_
 ·exact⟨by omega,by omega⟩
 ·exact Zwk
 ·exact Zu
 rintro m ⟨hm,hm0⟩;refine Z_9 ?_;refine ZW ?_ ?_<;>intro hc8
 ·simp only[ak]at hc8;refine Z_3 ?_;refine bR ⟨fun j=>List.elem j [7],[]⟩ Zk ?_;refine gn ?_;refine ZE 2 ?_;refine cD 3 rfl Zk Zk Zk (kO (sz:=1) (lo:=m) (hi:=n) (r:=m) rfl Zrf (Zv rfl) (.inr ⟨_,_,rfl,(Zv rfl)⟩) (.inl ⟨rfl,rfl⟩) Wq1 Wq1 Wq1 Wq1) rfl ?_;refine ZE 4 ?_;refine ZE 5 ?_;refine cD 6 rfl Zk Zk Zk (gf m rfl Zrf (Zv rfl) (Zv rfl) (fun _=>by first|rfl|omega) Wq4) rfl ?_;refine ce 7 Zk ?_;refine iZ rfl rfl (tp rfl rfl Za rfl rfl (fun w hi=>wg▸(hi.rd (show Has _ (slv 3 1 (some ⟨b30,0,none⟩) n n (By m n))from Zh)).head hm) Gx Wq1) ZJ rfl ?_;rintro _ _ ⟨rfl,rfl⟩;rw[Gw hm];refine cD 8 rfl Zk Zk Zk (cX Zv0 Zv0 Zl) rfl ?_;refine ZE 9 ?_;refine dr ?_;refine Zo ?_;refine dM (m+min m (n - m)) ?_ ?_ ?_
  ·exact⟨⟨by omega,by omega⟩,by omega⟩
  ·exact Zwk
  exact Zu
 simp only[ah]at hc8;obtain rfl:m=n:=by omega
 refine gE ?_;refine Zrb ([slv 3 1 (some ⟨b30,0,none⟩) m m (By m m)]) ?_;exact⟨_,rfl,by rw[Gy]⟩
end Go.Proofs.YtakodpimdalajaaGreatDoor
namespace Go.Ink
open Go.RowKit
theorem mh{l:List Int}{i:Nat}(h:i<l.length):l[i]? =some (l.getD i 0):=by simp[ai h]
theorem EN{T l:List Int}{n k:Nat}(h:jR T l n (l.length - k) k=fH T l n)(hk:k≤l.length)(ht:eQ T l n k l.length=true):k<l.length∧jR T l n (l.length - (k+1)) (k+1)=fH T l n:=by
 rcases Nat.lt_or_ge k l.length with h9|h9
 ·refine⟨h9,?_⟩;rw[show l.length - k=(l.length - (k+1))+1 by omega]at h;have h:(bif eQ T l n k l.length then jR T l n (l.length - (k+1)) (k+1)else k)=fH T l n:=h;rwa[ht,ac]at h
 obtain rfl:k=l.length:=by omega
 rw[Nat.sub_self]at h;have h:l.length=fH T l n:=h;have:=(px T l n).1;rw[←h,ht]at this;cases this
theorem HY{T l:List Int}{n k:Nat}(h:jR T l n (l.length - k) k=fH T l n)(hk:k≤l.length)(ht:eQ T l n k l.length=false):fH T l n=k:=by
 rcases Nat.lt_or_ge k l.length with h9|h9
 ·rw[show l.length - k=(l.length - (k+1))+1 by omega]at h;have h:(bif eQ T l n k l.length then jR T l n (l.length - (k+1)) (k+1)else k)=fH T l n:=h;rw[ht,aa]at h;exact h.symm
 obtain rfl:k=l.length:=by omega
 rw[Nat.sub_self]at h;exact h.symm
end Go.Ink
namespace Go.Proofs.YtakodpimdalajaaGreatDoor
open Go.RowKit Go.Ink Go.Proofs.Tryz
attribute [local irreducible] OpY bP
structure SAd where
 Ar:Option Addr
 cr:Nat
 As:Option Addr
 cs:Nat
 Av:Option Addr
 cv:Nat
abbrev scR(b:Nat)(X:SAd)(N:Nat)(JM:Int):bJ:=row b [.slice X.Ar N X.cr,.slice X.As N X.cs,.int .i64 JM,.slice X.Av N X.cv] 341
theorem zX(b:Nat)(X:SAd)(N:Nat)(JM:Int)(T l:List Int)(hT:T.length=N)(hl:l.length=N)(hN:N≤64)(A:Option Addr)(c:Nat)(n:Nat)(hn:n<N)(w:World)(h:(scR b X N JM).ok w)(h2:Rd w .i64 A N c l)(h3:RdV w 3 X.Av N X.cv (fu 0 T)):
  Ctr prog 223 [.pointer (some ⟨b,0,none⟩),.slice A N c,.int .i64 n] w [] (fun r cs=>r= .int .i64 (fH T l n)∧cs=[]):=by
 obtain⟨av,hav⟩:=h3.some_ Wq1;rw[hav]at h3;have hxn:T[n]? =some (T.getD n 0):=mh Wq1;refine bL func223 rfl ntmps223 rfl (Inv.start w) ?_;refine fF ?_;refine cw (fun k:Nat=>[(0,.pointer (some ⟨b,0,none⟩)),(1,.slice A N c),(2,.int .i64 n),(7,.int .i64 (k:Int))]) (fun _=>[]) (fun k=>k≤N∧jR T l n (l.length - k) k=fH T l n) (fun k=>N+1 - k) (0) ?_ ?_ ?_ ?_
 ·exact⟨au _,rfl⟩
 ·exact Zwk
 ·exact Zu
 rintro k ⟨hk,hF⟩;refine p5 ?_;refine cw (fun j:Nat=>[(0,.pointer (some ⟨b,0,none⟩)),(1,.slice A N c),(2,.int .i64 n),(7,.int .i64 (k:Int)),(8,.bool (eQ T l n k j)),(13,.slice A N c),(14,.int .i64 N),(15,.int .i64 (j:Int))]) (fun _=>[]) (fun j=>j≤N) (fun j=>N - j) (0) ?_ ?_ ?_ ?_
 ·exact au _
 ·exact Zwk
 ·exact Zu
 rintro j hj;refine Z_6 ?_;refine ZW ?_ ?_<;>intro hc5
 ·simp only[ak]at hc5;have hjN:j<N:=Wq1;obtain⟨ad,rfl⟩:=h2.some_ Wq1;have hx:l[j]? =some (l.getD j 0):=mh Wq1;have hxj:T[j]? =some (T.getD j 0):=mh Wq1;refine Z_7 ?_;refine Zy (cU (j:=j) rfl Zrf (Zv rfl) (Zv rfl) Wq4 Wq4) ?_;refine dL (bO Zrf Zv0) (eH h2 (cQ hx)) rfl ?_;refine Z_4 ?_;refine bR ⟨fun j=>List.elem j [],[]⟩ Zk ?_;refine gn ?_;refine ZF 2 ?_;refine ZF 3 ?_;refine ZF 4 ?_;refine ZF 5 ?_;refine ZF 6 ?_;refine ZF 7 ?_;refine ZFf 8 3 ?_;refine AZ 9 rfl Zk Zk Zk Zk (dU rfl rfl) (bO Zrf (dH rfl)) (cS h rfl) rfl ?_;refine ZF 10 ?_;refine wa_y 11 rfl Zk Zk Zk (dU rfl rfl) (eK (j:=j) hav rfl Zrf (dH rfl) (dH rfl) Zrf (fun _=>hjN)) rfl ?_;refine AZ 12 rfl Zk Zk Zk Zk (dU rfl rfl) (cn (vs:=[.int .i64 j,.int .i64 j,.int .i64 (T.getD j 0)]) Zrf Zrf (dH rfl)) (fv h3 (fun i v hv=>jK T 0 j hxj (by rw[bl];exact hv))) rfl ?_;refine ZF 13 ?_;refine ZF 14 ?_;refine ZFf 15 3 ?_;refine AZ 16 rfl Zk Zk Zk Zk (dU rfl rfl) (bO Zrf (dH rfl)) (cS h rfl) rfl ?_;refine ZF 17 ?_;refine wa_y 18 rfl Zk Zk Zk (dU rfl rfl) (eK (j:=n) hav rfl Zrf (dH rfl) (dH rfl) Zrf (fun _=>hn)) rfl ?_;refine AZ 19 rfl Zk Zk Zk Zk (dU rfl rfl) (cn (vs:=[.int .i64 n,.int .i64 n,.int .i64 (T.getD n 0)]) Zrf Zrf (dH rfl)) (fv h3 (fun i v hv=>jK T 0 n hxn (by rw[bl];exact hv))) rfl ?_;refine ce 20 Zk ?_;refine y6 rfl (dU rfl rfl) (.cons (dH rfl) (.cons (dH rfl) .nil)) (fun _ _=>rfl) (fun hg w hi=>DW T j n w) rfl ?_;refine ZF 21 ?_;refine ZE 22 ?_;refine ZE 23 ?_;refine dr ?_;refine Z_3 ?_;refine Wq8 ?_;refine dM (j+1) ?_ ?_ ?_
  ·exact⟨hjN,by omega⟩
  ·exact Zwk
  exact Zu
 simp only[ah]at hc5;obtain rfl:j=N:=by omega
 refine fF ?_;refine ZW ?_ ?_<;>intro hc9
 ·have htk:eQ T l n k l.length=false:=(by rw[hl];simpa using hc9);refine fF ?_;refine Zra ?_;exact⟨by rw[HY hF Wq1 htk],rfl⟩
 have htk:eQ T l n k l.length=true:=(by rw[hl];simpa using hc9);obtain⟨hk2,hF2⟩:=EN hF Wq1 htk;refine Z_5 ?_;refine Wq8 ?_;refine dM (k+1) ?_ ?_ ?_
 ·exact⟨⟨by omega,hF2⟩,by omega⟩
 ·exact Zwk
 exact Zu
end Go.Proofs.YtakodpimdalajaaGreatDoor
namespace Go.Ink
open Go.RowKit
theorem me{k:IntKind}(l:List Int)(n:Nat)(v:Int):(ints k l).set n (.int k v)=ints k (l.set n v):=by unfold ints;rw[List.map_set]
end Go.Ink
namespace Go.Proofs.YtakodpimdalajaaGreatDoor
open Go.RowKit Go.Ink Go.Proofs.Tryz
attribute [local irreducible] OpY bP
structure SBk where
 br:Nat
 cr:Nat
 bs:Nat
 cs:Nat
 bv:Nat
 cv:Nat
abbrev SBk.X(Y:SBk):SAd:=⟨some ⟨Y.br,0,none⟩,Y.cr,some ⟨Y.bs,0,none⟩,Y.cs,some ⟨Y.bv,0,none⟩,Y.cv⟩
abbrev scF(b:Nat)(X:SAd)(N:Nat)(T:List Int)(pl:Pl):List bJ:=[scR b X N pl.JM,sl .i64 3 X.Ar N X.cr pl.reg,sl .i64 3 X.As N X.cs pl.slot,slv 343 3 X.Av N X.cv (fu 0 T)]
theorem ze(b br cr bs cs bv cv:Nat)(N:Nat)(T:List Int)(pl:Pl)(hT:T.length=N)(hrl:pl.reg.length=N)(hsl:pl.slot.length=N)(hN:N≤64)(n:Nat)(hn:n<N)(w:World)(hi:Inv w (bK (scF b ⟨some ⟨br,0,none⟩,cr,some ⟨bs,0,none⟩,cs,some ⟨bv,0,none⟩,cv⟩ N T pl)) (scF b ⟨some ⟨br,0,none⟩,cr,some ⟨bs,0,none⟩,cs,some ⟨bv,0,none⟩,cv⟩ N T pl) w):
  Ctr prog 225 [.pointer (some ⟨b,0,none⟩),.int .i64 n] w (scF b ⟨some ⟨br,0,none⟩,cr,some ⟨bs,0,none⟩,cs,some ⟨bv,0,none⟩,cv⟩ N T pl) (fun _ c=>c=scF b ⟨some ⟨br,0,none⟩,cr,some ⟨bs,0,none⟩,cs,some ⟨bv,0,none⟩,cv⟩ N T (ko T pl n)):=by
 obtain⟨reg,slot,JM⟩:=pl;dsimp only at hrl hsl;have hfl:=(px T slot n).2.1;obtain⟨f,hf⟩:=Zgn (fH T slot n);have hsp:ko T ⟨reg,slot,JM⟩ n=⟨reg.set n (-1),slot.set n f,if(f:Int)+1>JM then(f:Int)+1 else JM⟩:=by unfold ko;rw[hf]
 have hFr:=zX b ⟨some ⟨br,0,none⟩,cr,some ⟨bs,0,none⟩,cs,some ⟨bv,0,none⟩,cv⟩ N JM T slot hT hsl hN (some ⟨bs,0,none⟩) cs n hn;rw[hf]at hFr hfl;rw[hsp];have hx:(slot.set n (f:Int))[n]? =some (f:Int):=by rw[List.getElem?_set_self Wq1]
 refine bL func225 rfl ntmps225 rfl hi ?_;refine Z_8 ?_;refine Zy (cu (j:=n) (sz:=1) (r:=n) rfl Zrf (Zv rfl) (Zv rfl) Wq4 Wq4 Wq1) ?_;refine dD (fo Zrf rfl rfl rfl Za Wq1) ?_;rintro _ _ ⟨rfl,rfl⟩;rw[me];refine Z_3 ?_;refine bR ⟨fun j=>List.elem j [15],[]⟩ Zk ?_;refine gn ?_;refine ZFe 2 0 ?_;refine ZFe 3 1 ?_;refine ZG 4 ?_;refine ZE 5 ?_;refine ZE 6 ?_;refine ZE 7 ?_;refine ZE 8 ?_;refine ZFe 9 0 ?_;refine ZFe 10 1 ?_;refine ZG 11 ?_;refine ZE 12 ?_;refine ce 13 Zk ?_;refine ZT (fun w hi=>hFr w (hi.get Zh) (de (hi.get (show Has _ (sl .i64 3 (some ⟨bs,0,none⟩) N cs slot)from Zh))) (de (hi.get (show Has _ (slv 343 3 (some ⟨bv,0,none⟩) N cv (fu 0 T))from Zh)))) ?_;rintro _ _ ⟨_,⟨rfl,rfl⟩,rfl⟩;refine cD 14 rfl Zk Zk Zk (cu (j:=n) (sz:=1) (r:=n) rfl Zrf (Zv rfl) (Zv rfl) Zrf (fun _=>hn) Wq1) rfl ?_;refine ce 15 Zk ?_;refine dp rfl rfl (fo Zrf rfl rfl rfl Za Wq1) ZJ ?_;rintro _ _ ⟨rfl,rfl⟩;rw[me];refine dr ?_;refine Zt (bR ⟨fun j=>List.elem j [19],[]⟩ Zk ?_);refine gn ?_;refine ZE 2 ?_;refine ZFe 3 0 ?_;refine ZFe 4 2 ?_;refine ZG 5 ?_;refine ZE 6 ?_;refine ZE 7 ?_;refine ZFe 8 0 ?_;refine ZFe 9 1 ?_;refine ZG 10 ?_;refine ZE 11 ?_;refine cD 12 rfl Zk Zk Zk (cu (j:=n) (sz:=1) (r:=n) rfl Zrf (Zv rfl) (Zv rfl) Zrf (fun _=>hn) Wq1) rfl ?_;refine dm 13 rfl Zk Zk Zk Zk (bO Zrf Zv0) (du Zh (cQ hx)) rfl ?_;refine cD 14 rfl Zk Zk Zk (cX Zv0 Zv0 Zl) rfl ?_;refine cD 15 rfl Zk Zk Zk (vH Zv0 Zv0 rfl) rfl ?_;refine ZE 16 ?_;refine ZFe 17 0 ?_;refine ZFe 18 2 ?_;refine ce 19 Zk ?_;refine ZQ ?_;refine dr ?_;refine iF (cs':=[row _ _ _,slv _ _ _ _ _ _,slv _ _ _ _ _ _,slv _ _ _ _ _ _]) (.inr rfl) Zu rfl ?_
 rfl
end Go.Proofs.YtakodpimdalajaaGreatDoor
namespace Go.Ink
open Go.RowKit
theorem lT(T:List Int)(JI:Int)(N:Nat):∀n,(gJ T JI N n).reg.length=N∧(gJ T JI N n).slot.length=N
 |0=>⟨by simp[gJ],by simp[gJ]⟩
 |n+1=>by
  obtain⟨h1,h2⟩:=lT T JI N n;show(lM T JI (gJ T JI N n) n).reg.length=N∧(lM T JI (gJ T JI N n) n).slot.length=N;unfold lM ko;cases decide (((fH T (gJ T JI N n).reg n:Nat):Int)<JI)<;>cases(gh T (gJ T JI N n).reg n n !=n)<;>simp[h1,h2]
end Go.Ink
namespace Go.Proofs.YtakodpimdalajaaGreatDoor
open Go.RowKit Go.Ink Go.Proofs.Tryz
attribute [local irreducible] OpY bP
theorem Bx(v:Int)(n:Nat)(hv:v=n)(hn:n≤64)(A:Option Addr)(c:Nat)(w:World)(h:Rd w .i64 A 1 c [-1]):
  Ctr prog 221 [.slice A 1 c,.int .i64 v] w [] (fun r cs=>∃A',r= .slice A' n n∧cs=[sl .i64 3 A' n n (List.replicate n (-1))]):=by
 subst hv;exact Du n hn A c w h
theorem lofN_ok(p:Pg)(Q:PAd)(hf:qj p)(hr:p.JB=true)(T:List Int)(N:Nat)(hT:gi p=T)(hN:T.length=N)(w:World)(h:AK p Q w):
  Ctr prog 222 [pgv p Q] w [] (fun r cs=>∃A c,r= .slice A N c∧cs=[slv 343 3 A N c (fu 0 T)]):=by
 subst hT hN;exact lof_ok p Q hf hr w h
abbrev Jg(b:Nat):bJ:=row b [.slice none 0 0,.slice none 0 0,.int .i64 0] 285
theorem IC(p:Pg)(Q:PAd)(hf:qj p)(hr:p.JB=true)(w:World)(h:AK p Q w):
  Ctr prog 168 [pgv p Q,.int .i64 7] w [] (fun r cs=>∃Ar cr As c2,r= .tuple #[.agg #[.slice Ar p.code.length cr,.slice As p.code.length c2,.int .i64 (dJ p).JM],.int .i64 0]∧cs=[sl .i64 3 Ar p.code.length cr (dJ p).reg,sl .i64 3 As p.code.length c2 (dJ p).slot]):=by
 have hv3:p.values=p.code.length:=hf.JR;have hm64:=hf.JF;have hpl:dJ p=gJ (gi p) 7 p.code.length p.code.length:=rfl;have hTl:=He p;obtain⟨T,hT⟩:=Zgn (gi p);rw[hT]at hpl hTl;have hlo:=lofN_ok p Q hf hr T _ hT hTl;have hrp:=Bx p.values p.code.length hv3 hm64;have hpl0:gJ T 7 p.code.length 0=⟨List.replicate p.code.length (-1),List.replicate p.code.length (-1),0⟩:=rfl;rw[hpl];obtain⟨N,hN⟩:=Zgn (p.code.length);rw[hN]at hlo hTl hrp hpl0 hm64⊢;have hlens:=lT T 7 N;have hst:∀k,gJ T 7 N (k+1)=lM T 7 (gJ T 7 N k) k:=fun _=>rfl
 refine bL func168 rfl ntmps168 rfl (Inv.start w) ?_;refine Z_2 ?_;refine ZO fun b2=>?_;refine ZN fun b4=>?_
 refine Z_7 ?_;refine ZSe (fun w hi=>rL p Q hf w (h.Jz hi)) ?_;rw[hr];refine Z_3 ?_;refine dE (cq rfl rfl) (.cons (dH rfl) .nil) (fun _ _=>rfl) (fun hg w hi=>wh w) rfl ?_;refine Z_4 ?_;refine gx ?_;refine Z_2 ?_;refine cW (fun q:Nat×SAd=>[(1,.int .i64 7),(2,.pointer (some ⟨b2,0,none⟩)),(4,.pointer (some ⟨b4,0,none⟩)),(5,.int .i64 0),(6,.pointer (some ⟨q.1,0,none⟩))]) (fun q=>[row b4 [.slice none 0 0,.slice none 0 0,.int .i64 0] 285,scR q.1 q.2 N 0,sl .i64 3 q.2.Ar N q.2.cr (List.replicate N (-1)),sl .i64 3 q.2.As N q.2.cs (List.replicate N (-1)),slv 343 3 q.2.Av N q.2.cv (fu 0 T)]) (fun _=>True) ?_ ?_
 ·refine bR ⟨fun j=>List.elem j [],[]⟩ Zk ?_;refine ZFe 1 13 ?_;refine ZG 2 ?_;refine ZFe 5 13 ?_;refine ZG 6 ?_;refine ZI 9 ?_;refine j4 0 4 Zk ?_ ?_
  ·refine vD ?_;rintro _ _ ⟨b22,rfl,rfl⟩;refine j4 3 4 Zk ?_ ?_
   ·refine ZT (fun w hi=>hrp (some ⟨b22,0,none⟩) 1 w (hi.rd (show Has _ (slv 3 1 (some ⟨b22,0,none⟩) 1 1 (ints .i64 [-1]))from Zh))) ?_;rintro _ _ ⟨_,⟨Ar,rfl,rfl⟩,rfl⟩;refine ce 4 Zk ?_;refine vD ?_;rintro _ _ ⟨b26,rfl,rfl⟩;refine ce 7 Zk ?_;refine ZT (fun w hi=>hrp (some ⟨b26,0,none⟩) 1 w (hi.rd (show Has _ (slv 3 1 (some ⟨b26,0,none⟩) 1 1 (ints .i64 [-1]))from Zh))) ?_;rintro _ _ ⟨_,⟨As,rfl,rfl⟩,rfl⟩;refine ZE 8 ?_;refine ce 10 Zk ?_;refine ZT (fun w hi=>hlo w (h.Jz hi)) ?_;rintro _ _ ⟨_,⟨Av,cv,rfl,rfl⟩,rfl⟩;refine ZE 11 ?_;refine ce 12 Zk ?_;refine iZ rfl rfl (sJ rfl rfl) ZJ rfl ?_;rintro _ _ ⟨b34,rfl,rfl⟩;refine ZE 13 ?_;refine dr ?_;refine bY (((b34,⟨Ar,N,As,N,Av,cv⟩):Nat×SAd)) ?_ ?_ ?_
    ·trivial
    ·exact Zwk
    exact Zj
   refine vD ?_;rintro _ _ ⟨b26,rfl,rfl⟩;refine ce 3 Zk ?_;refine ZT (fun w hi=>hrp (some ⟨b22,0,none⟩) 1 w (hi.rd (show Has _ (slv 3 1 (some ⟨b22,0,none⟩) 1 1 (ints .i64 [-1]))from Zh))) ?_;rintro _ _ ⟨_,⟨Ar,rfl,rfl⟩,rfl⟩;refine ce 7 Zk ?_;refine ZT (fun w hi=>hrp (some ⟨b26,0,none⟩) 1 w (hi.rd (show Has _ (slv 3 1 (some ⟨b26,0,none⟩) 1 1 (ints .i64 [-1]))from Zh))) ?_;rintro _ _ ⟨_,⟨As,rfl,rfl⟩,rfl⟩;refine ZE 8 ?_;refine ce 10 Zk ?_;refine ZT (fun w hi=>hlo w (h.Jz hi)) ?_;rintro _ _ ⟨_,⟨Av,cv,rfl,rfl⟩,rfl⟩;refine ZE 11 ?_;refine ce 12 Zk ?_;refine iZ rfl rfl (sJ rfl rfl) ZJ rfl ?_;rintro _ _ ⟨b34,rfl,rfl⟩;refine ZE 13 ?_;refine dr ?_;refine bY (((b34,⟨Ar,N,As,N,Av,cv⟩):Nat×SAd)) ?_ ?_ ?_
   ·trivial
   ·exact Zwk
   exact Zj
  refine vD ?_;rintro _ _ ⟨b26,rfl,rfl⟩;refine ce 0 Zk ?_;refine vD ?_;rintro _ _ ⟨b22,rfl,rfl⟩;refine ce 3 Zk ?_;refine ZT (fun w hi=>hrp (some ⟨b22,0,none⟩) 1 w (hi.rd (show Has _ (slv 3 1 (some ⟨b22,0,none⟩) 1 1 (ints .i64 [-1]))from Zh))) ?_;rintro _ _ ⟨_,⟨Ar,rfl,rfl⟩,rfl⟩;refine ce 7 Zk ?_;refine ZT (fun w hi=>hrp (some ⟨b26,0,none⟩) 1 w (hi.rd (show Has _ (slv 3 1 (some ⟨b26,0,none⟩) 1 1 (ints .i64 [-1]))from Zh))) ?_;rintro _ _ ⟨_,⟨As,rfl,rfl⟩,rfl⟩;refine ZE 8 ?_;refine ce 10 Zk ?_;refine ZT (fun w hi=>hlo w (h.Jz hi)) ?_;rintro _ _ ⟨_,⟨Av,cv,rfl,rfl⟩,rfl⟩;refine ZE 11 ?_;refine ce 12 Zk ?_;refine iZ rfl rfl (sJ rfl rfl) ZJ rfl ?_;rintro _ _ ⟨b34,rfl,rfl⟩;refine ZE 13 ?_;refine dr ?_;refine bY (((b34,⟨Ar,N,As,N,Av,cv⟩):Nat×SAd)) ?_ ?_ ?_
  ·trivial
  ·exact Zwk
  exact Zj
 rintro⟨b6,X⟩ -;dsimp only;refine gE ?_;refine cw (fun k:Nat=>[(1,.int .i64 7),(2,.pointer (some ⟨b2,0,none⟩)),(4,.pointer (some ⟨b4,0,none⟩)),(5,.int .i64 0),(6,.pointer (some ⟨b6,0,none⟩)),(38,.slice X.Av N X.cv),(39,.int .i64 N),(40,.int .i64 (k:Int))]) (fun k=>Jg b4::scF b6 X N T (gJ T 7 N k)) (fun k=>k≤N) (fun k=>N - k) (0) ?_ ?_ ?_ ?_
 ·exact au _
 ·exact Zwk
 ·exact Zu
 rintro k hk;obtain⟨hrl,hsl⟩:=hlens k;have hstk:=hst k;obtain⟨pl,hplk⟩:=Zgn (gJ T 7 N k);rw[hplk]at hrl hsl hstk;dsimp only;rw[hplk];refine Z_6 ?_;refine ZW ?_ ?_<;>intro hc5
 ·simp only[ak]at hc5;have hkN:k<N:=Wq1;have hxk:T[k]? =some (T.getD k 0):=mh Wq1;have hfl:=(px T pl.reg k).2.1;obtain⟨f,hfe⟩:=Zgn (fH T pl.reg k);rw[hfe]at hfl;refine Z_6 ?_;refine fq (fun w hi=>fM (hi.get (show Has _ (sl .i64 3 X.Ar N X.cr pl.reg)from Zh)) Wq1) (fun h1=>?_);refine fq (fun w hi=>fM (hi.get (show Has _ (sl .i64 3 X.As N X.cs pl.slot)from Zh)) Wq1) (fun h2=>?_);refine fq (fun w hi=>gU (hi.get (show Has _ (slv 343 3 X.Av N X.cv (fu 0 T))from Zh)) Wq1) (fun h3=>?_);refine fq (fun w hi=>(de (hi.get (show Has _ (slv 343 3 X.Av N X.cv (fu 0 T))from Zh))).cap) (fun h4=>?_);obtain⟨Ar,cr,As,c2,Av,cv⟩:=X;dsimp only at h1 h2 h3 h4⊢;obtain⟨br,rfl⟩:=h1;obtain⟨bs,rfl⟩:=h2;obtain⟨bv,rfl⟩:=h3;have hFr:=zX b6 ⟨some ⟨br,0,none⟩,cr,some ⟨bs,0,none⟩,c2,some ⟨bv,0,none⟩,cv⟩ N pl.JM T pl.reg hTl hrl hm64 (some ⟨br,0,none⟩) cr k hkN;rw[hfe]at hFr;refine ZA ?_;refine Zy (cU (j:=k) rfl Zrf (Zv rfl) (Zv rfl) Wq4 Wq4) ?_;refine dL (cn (vs:=[.int .i64 k,.int .i64 k,.int .i64 (T.getD k 0)]) Zrf Zrf (Zv rfl)) (vZ Zh (fun i v hv=>jK T 0 k hxk (by rw[bl];exact hv))) rfl ?_;refine ZN fun b8=>?_
  refine ZA ?_;refine ZM ?_;refine fF ?_;refine ZSe (fun w hi=>hFr w (hi.get Zh) (de (hi.get (show Has _ (sl .i64 3 (some ⟨br,0,none⟩) N cr pl.reg)from Zh))) (de (hi.get (show Has _ (slv 343 3 (some ⟨bv,0,none⟩) N cv (fu 0 T))from Zh)))) ?_;refine fF ?_;refine ZW ?_ ?_<;>intro hc8
  ·have hsc:lM T 7 pl k=⟨pl.reg.set k f,pl.slot,pl.JM⟩:=(by unfold lM;rw[hfe,hc8,ac]);rw[hsc]at hstk;refine Z_9 ?_;refine Zy (cu (j:=k) (sz:=1) (r:=k) rfl Zrf (Zv rfl) (Zv rfl) Wq4 Wq4 Wq1) ?_;refine dD (fo Zrf rfl rfl rfl Za Wq1) ?_;rintro _ _ ⟨rfl,rfl⟩;rw[me];refine Z_7 ?_;refine Wq8 ?_;refine bY (k+1) ?_ ?_ ?_
   ·exact⟨hkN,by omega⟩
   ·exact Zwk
   exact(show xD _ _ from by(try dsimp only);rw[hstk];exact Zj)
  have hsc:lM T 7 pl k=(bif(gh T pl.reg k k !=k)then ko T ⟨pl.reg.set k (pl.reg.getD (gh T pl.reg k k) 0),pl.slot,pl.JM⟩ (gh T pl.reg k k)else ko T pl k):=(by unfold lM;rw[hfe,hc8,aa]);rw[hsc]at hstk;refine p5 ?_;refine Zy (gf (A:=some ⟨bv,0,none⟩) (n:=N) (c:=cv) k rfl Zrf (Zv rfl) (Zv rfl) Zrf Wq4) ?_;refine Z_5 ?_;refine cw (fun j:Nat=>[(1,.int .i64 7),(2,.pointer (some ⟨b2,0,none⟩)),(4,.pointer (some ⟨b4,0,none⟩)),(5,.int .i64 0),(6,.pointer (some ⟨b6,0,none⟩)),(7,.int .i64 k),(8,.pointer (some ⟨b8,0,none⟩)),(10,.int .i64 (gh T pl.reg k j:Nat)),(38,.slice (some ⟨bv,0,none⟩) N cv),(39,.int .i64 N),(40,.int .i64 (k:Int)),(70,.slice (some ⟨bv,0,none⟩) k cv),(71,.int .i64 k),(72,.int .i64 (j:Int))]) (fun j=>[Jg b4,scR b6 ⟨some ⟨br,0,none⟩,cr,some ⟨bs,0,none⟩,c2,some ⟨bv,0,none⟩,cv⟩ N pl.JM,sl .i64 3 (some ⟨br,0,none⟩) N cr pl.reg,sl .i64 3 (some ⟨bs,0,none⟩) N c2 pl.slot,slv 343 3 (some ⟨bv,0,none⟩) N cv (fu 0 T),row b8 [.int .i64 k,.int .i64 k,.int .i64 (T.getD k 0)] 343]) (fun j=>j≤k) (fun j=>k - j) (0) ?_ ?_ ?_ ?_
  ·exact au _
  ·exact Zwk
  ·exact Zu
  rintro j hj;have hL:gh T pl.reg k j≤k:=(by rcases rF T pl.reg k j with h|⟨h, -⟩<;>omega);have hLs:gh T pl.reg k (j+1)=bif((pl.reg.getD j 0 != -1)&&lX T k j)&&decide (T.getD (gh T pl.reg k j) 0<T.getD j 0)then j else gh T pl.reg k j:=rfl
  obtain⟨L,hLe⟩:=Zgn (gh T pl.reg k j);rw[hLe]at hL hLs;dsimp only;rw[hLe];refine Z_6 ?_;refine ZW ?_ ?_<;>intro hc12
  ·simp only[ak]at hc12;have hjk:j<k:=Wq1;have hxj:T[j]? =some (T.getD j 0):=mh Wq1;have hxL:T[L]? =some (T.getD L 0):=mh Wq1;have hxr:pl.reg[j]? =some (pl.reg.getD j 0):=mh Wq1;refine Z_7 ?_;refine Zy (cU (j:=j) rfl Zrf (Zv rfl) (Zv rfl) Wq4 Wq4) ?_;refine dL (cn (vs:=[.int .i64 j,.int .i64 j,.int .i64 (T.getD j 0)]) Zrf Zrf (Zv rfl)) (vZ Zh (fun i v hv=>jK T 0 j hxj (by rw[bl];exact hv))) rfl ?_;refine ZN fun b12=>?_
   refine ZA ?_;refine ZM ?_;refine Z_3 ?_;refine bR ⟨fun j=>List.elem j [],[]⟩ Zk ?_;refine gn ?_;refine ZFe 2 0 ?_;refine ZFe 3 0 ?_;refine ZG 4 ?_;refine ZE 5 ?_;refine cD 6 rfl Zk Zk Zk (cu (j:=j) (sz:=1) (r:=j) rfl Zrf (Zv rfl) (Zv rfl) Zrf Wq4 Wq1) rfl ?_;refine dm 7 rfl Zk Zk Zk Zk (bO Zrf Zv0) (du Zh (cQ hxr)) rfl ?_;refine ZE 8 ?_;refine ZE 9 ?_;refine qL 10 rfl Zk Zk Zk Zk (bZ rfl rfl) Zh Zrf Zrf (Zv rfl) rfl ?_;refine qL 11 rfl Zk Zk Zk Zk (bZ rfl rfl) Zh Zrf Zrf (Zv rfl) rfl ?_;refine ce 12 Zk ?_;refine y6 rfl (bZ rfl rfl) (.cons (dH rfl) (.cons (dH rfl) .nil)) (fun _ _=>rfl) (fun hg w hi=>DW T k j w) rfl ?_;refine ZE 13 ?_;refine ZE 14 ?_;refine ZFf 15 2 ?_;refine AZ 16 rfl Zk Zk Zk Zk (bZ rfl rfl) (bO Zrf (dH rfl)) (cB Zh rfl) rfl ?_;refine ZF 17 ?_;refine ZF 18 ?_;refine ZFf 19 3 ?_;refine AZ 20 rfl Zk Zk Zk Zk (bZ rfl rfl) (bO Zrf (dH rfl)) (cB Zh rfl) rfl ?_;refine ZF 21 ?_;refine wa_y 22 rfl Zk Zk Zk (bZ rfl rfl) (cu (bb:=bv) (o:=0) (n:=N) (c:=cv) (j:=L) (sz:=3) (r:=L*3) rfl Zrf (dH rfl) (dH rfl) Zrf Wq4 Wq1) rfl ?_;refine ZFf 23 2 ?_;refine AZ 24 rfl Zk Zk Zk Zk (bZ rfl rfl) (bO Zrf (dH rfl)) (zk Zh (jK T 0 L (j:=2) hxL rfl)) rfl ?_;refine ZF 25 ?_;refine ZE 26 ?_;refine dr ?_;refine Zt ?_;refine ZW ?_ ?_<;>intro hc14
   ·rw[hc14,ac]at hLs;refine Z_7 ?_;refine Wq8 ?_;refine bY (j+1) ?_ ?_ ?_
    ·exact⟨hjk,by omega⟩
    ·exact Zwk
    exact Zj
   rw[hc14,aa]at hLs;refine Z_4 ?_;refine Wq8 ?_;refine bY (j+1) ?_ ?_ ?_
   ·exact⟨hjk,by omega⟩
   ·exact Zwk
   exact Zj
  simp only[ah]at hc12;obtain rfl:j=k:=by omega
  rw[hLe]at hstk;refine jA ?_;refine ZW ?_ ?_<;>intro hc17
  ·have hne:(L !=j)=true:=(by rw[bne_iff_ne]at hc17⊢;omega);rw[hne,ac]at hstk;have hxr:pl.reg[L]? =some (pl.reg.getD L 0):=mh Wq1;refine bR ⟨fun j=>List.elem j [15],[]⟩ Zk ?_;refine gn ?_;refine ZFe 2 0 ?_;refine ZFe 3 0 ?_;refine ZG 4 ?_;refine ZE 5 ?_;refine ZE 6 ?_;refine ZE 7 ?_;refine ZFe 8 0 ?_;refine ZFe 9 0 ?_;refine ZG 10 ?_;refine ZE 11 ?_;refine cD 12 rfl Zk Zk Zk (cu (j:=L) (sz:=1) (r:=L) rfl Zrf (Zv rfl) (Zv rfl) Zrf Wq4 Wq1) rfl ?_;refine dm 13 rfl Zk Zk Zk Zk (bO Zrf Zv0) (du Zh (cQ hxr)) rfl ?_;refine cD 14 rfl Zk Zk Zk (cu (j:=j) (sz:=1) (r:=j) rfl Zrf (Zv rfl) (Zv rfl) Zrf Wq4 Wq1) rfl ?_;refine ce 15 Zk ?_;refine dp rfl rfl (fo Zrf rfl rfl rfl Za Wq1) ZJ ?_;rintro _ _ ⟨rfl,rfl⟩;rw[me];refine dr ?_;refine Z_4 ?_;refine ZcL (scF b6 ⟨some ⟨br,0,none⟩,cr,some ⟨bs,0,none⟩,c2,some ⟨bv,0,none⟩,cv⟩ N T ⟨pl.reg.set j (pl.reg.getD L 0),pl.slot,pl.JM⟩) (fun w hi hin=>ze b6 br cr bs c2 bv cv N T ⟨pl.reg.set j (pl.reg.getD L 0),pl.slot,pl.JM⟩ hTl (by simp[hrl]) hsl hm64 L Wq1 w hin) ?_;rintro _ _ ⟨_,rfl,rfl⟩;refine Z_4 ?_;refine Wq8 ?_;refine bY (j+1) ?_ ?_ ?_
   ·exact⟨by omega,by omega⟩
   ·exact Zwk
   exact(show xD _ _ from by(try dsimp only);rw[hstk];exact Zj)
  have hne:(L !=j)=false:=(by rw[bne_eq_false_iff_eq]at hc17⊢;omega);rw[hne,aa]at hstk;obtain rfl:L=j:=(by rw[bne_eq_false_iff_eq]at hne;exact hne);refine Z_5 ?_;refine ZcL (scF b6 ⟨some ⟨br,0,none⟩,cr,some ⟨bs,0,none⟩,c2,some ⟨bv,0,none⟩,cv⟩ N T pl) (fun w hi hin=>ze b6 br cr bs c2 bv cv N T pl hTl hrl hsl hm64 L Wq1 w hin) ?_;rintro _ _ ⟨_,rfl,rfl⟩;refine Z_4 ?_;refine Wq8 ?_;refine bY (L+1) ?_ ?_ ?_
  ·exact⟨by omega,by omega⟩
  ·exact Zwk
  exact(show xD _ _ from by(try dsimp only);rw[hstk];exact Zj)
 simp only[ah]at hc5;obtain rfl:k=N:=by omega
 refine dS ?_;refine dL (cn (vs:=[.slice X.Ar k X.cr,.slice X.As k X.cs,.int .i64 pl.JM]) Zrf Zrf Zv0) (cI Zh rfl) rfl ?_;refine ZM ?_;refine Z_4 ?_;refine kV (cs':=[sl .i64 3 X.Ar k X.cr pl.reg,sl .i64 3 X.As k X.cs pl.slot]) (.inl rfl) Zu rfl rfl rfl Zh Zrf Zrf ?_;rw[hplk];exact⟨_,_,_,_,rfl,rfl⟩
end Go.Proofs.YtakodpimdalajaaGreatDoor
