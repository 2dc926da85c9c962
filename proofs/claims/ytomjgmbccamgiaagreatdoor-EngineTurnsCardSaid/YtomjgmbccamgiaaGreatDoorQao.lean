/- Lemmas. -/
import Derived.Test.YtomjgmbccamgiaaGreatDoorQaa
import Derived.Test.YtomjgmbccamgiaaGreatDoorQab
import Derived.Test.YtomjgmbccamgiaaGreatDoorQam
set_option linter.unusedSimpArgs false
set_option linter.unusedVariables false
set_option maxRecDepth 100000
set_option maxHeartbeats 4000000
namespace Go.Ink
open Go.RowKit
theorem tP(p:Pg)(pl:Pl):(gE p pl).length≤4:=by
 have:=iZ pl p.flags 7;unfold gE;cases decide (0≤p.flags)<;>simp only[ac,aa,ae,ai,ao]<;>omega
theorem sy(p:Pg)(pos:Nat):(gh p pos).length≤5:=by
 unfold gh;cases p.branch !=0<;>simp
theorem qU(p:Pg)(pl:Pl):(iQ p pl).length≤2:=by
 have:=iZ pl p.target 7;unfold iQ;cases decide (0≤p.target)<;>simp only[ac,aa,ae,ai,ao]<;>omega
theorem my(pl:Pl)(b f w:Int)(o:List Int):(hH pl b f w o).length≤2*o.length+3:=by
 have:=uO pl b f o 0;unfold hH;simp only[ae,ai,ao];omega
theorem rD(a b:Int)(pl:Pl):∀(c:List II) (n:Nat),(jw a b pl c n).length≤30*c.length
 |[],_=>aQ _
 |x::c,n=>by
  have h:=rD a b pl c (n+1);have h1:=F5 a b pl n x;show(o9 a b pl n x++jw a b pl c (n+1)).length≤30*(c.length+1);rw[ae];omega
theorem tJ(a b:Int)(pl:Pl)(x:II):∀(c:List II) (n:Nat),jw a b pl (c++[x]) n=jw a b pl c n++o9 a b pl ((n+c.length:Nat):Int) x
 |[],n=>by simp[jw]
 |y::c,n=>by
  have h:=tJ a b pl x c (n+1);show o9 a b pl n y++jw a b pl (c++[x]) (n+1)=(o9 a b pl n y++jw a b pl c (n+1))++_;rw[h,aq,show n+1+c.length=n+(y::c).length by simp;omega]
theorem br_eq{p:Pg}{l11 l12 l13 l14 l15 l16:List HI}(h12:l12=l11++[⟨14,11,15,0,1⟩])(h13:l13=l12++[⟨1,12,0,0,fD p.branch⟩])(h14:l14=l13++[⟨5,11,11,12,0⟩])(h15:l15=l14++[⟨bif gY p.branch then 16 else 17,0,11,0,IntKind.u32.wrap ((l14.length:Int)+2)⟩])(h16:l16=l15++[⟨1,9,0,0,p.taken⟩])(hb:(p.branch !=0)=true):
  l16=l11++gh p l11.length:=by
 have hn:l14.length=l11.length+3:=by rw[h14,h13,h12];simp
 rw[hn]at h15;unfold gh;rw[h16,h15,h14,h13,h12,hb];simp only[ac,aq,aP,aR]
theorem end_eq{p:Pg}{pl:Pl}{l m1 l11 m2 m3 l31 l32 l33 l34:List HI}(h1:m1=l++gE p pl)(h11:l11=m1++[⟨1,9,0,0,p.next⟩])(h2:m2=l11++gh p l11.length)(h3:m3=m2++iQ p pl)(h31:l31=m3++[⟨15,0,15,9,0⟩])(h32:l32=l31++[⟨1,11,0,0,IntKind.u32.wrap p.count⟩])(h33:l33=l32++[⟨15,0,15,11,36⟩])(h34:l34=l33++[⟨19,0,0,0,1⟩]):
  l34=l++qF p pl l.length:=by
 have hn:l11.length=l.length+(gE p pl).length+1:=by rw[h11,h1];simp;omega
 rw[hn]at h2;unfold qF;rw[h34,h33,h32,h31,h3,h2,h11,h1];simp only[aq,aP,aR]
end Go.Ink
namespace Go.Proofs.YtomjgmbccamgiaaGreatDoor
open Go.RowKit Go.Ink Go.Proofs.Tryz
attribute [local irreducible] OpY bW
section
variable (S:CdS) (l:List HI) (fix:List Int) (X:CAd)
theorem zJ(hl:l.length≤20000)(j into:Int)(hj:∃n:Nat,j=n∧n<S.pl.reg.length∧n<S.pl.slot.length)(w:World)(hi:Inv w (bK (cdF S l fix X)) (cdF S l fix X) w)(hK:∀w',dQ (bK (cdF S l fix X)) w w'→EV S w'):
  Ctr prog 202 [.pointer (some ⟨S.b,0,none⟩),.int .i64 j,.int .i64 into] w (cdF S l fix X) (fun r9 cs=>r9= .int .i64 (dW S.pl j into)∧∃l' X',l'=l++jj S.pl j into∧cs=cdF S l' (fix) X'):=by
 obtain⟨n,rfl,h1,h2⟩:=hj;exact pF S l fix X hl n into h1 h2 w hi hK
theorem cend_ok(hl:l.length≤10000)(hfl:0≤S.p.flags→∃n:Nat,S.p.flags=n∧n<S.pl.reg.length∧n<S.pl.slot.length)(htg:0≤S.p.target→∃n:Nat,S.p.target=n∧n<S.pl.reg.length∧n<S.pl.slot.length)(w:World)(hi:Inv w (bK (cdF S l fix X)) (cdF S l fix X) w)(hK:∀w',dQ (bK (cdF S l fix X)) w w'→EV S w'):
  Ctr prog 152 [.pointer (some ⟨S.b,0,none⟩)] w (cdF S l fix X) (fun r9 cs=>∃l' X',l'=l++qF S.p S.pl l.length∧cs=cdF S l' (fix) X'):=by
 have gF:=tP S.p S.pl;have gG:=iZ S.pl S.p.flags 7;have gH:=iZ S.pl S.p.target 7;refine bL func152 rfl ntmps152 rfl hi ?_;refine de (fun q:List HI×CAd=>[(0,.pointer (some ⟨S.b,0,none⟩))]) (fun q=>cdF S q.1 fix q.2) (fun q=>q.1=l++gE S.p S.pl) ?_ ?_
 ·refine eK ?_;refine ZW ?_ ?_<;>intro hc0
  ·have hf:=hfl (by simpa using hc0);refine Z_3 ?_;refine ZcL (cdF S l fix X) (fun w hi hin=>kb S l fix X (by first|omega|(simp only[ae,ai,ao];omega)) 11 15 w hin) ?_;rintro _ _ ⟨_,⟨l1,X1,hl1,rfl⟩,rfl⟩;refine eo ?_;refine ZcL (cdF S l1 fix X1) (fun w hi hin=>zJ S l1 fix X1 (by first|omega|(simp only[hl1,ae,ai,ao];omega)) S.p.flags 7 hf w hin (fun w' hk=>hK w' (hi.Jc Zi hk))) ?_;rintro _ _ ⟨_,⟨rfl,l2,X2,hl2,rfl⟩,rfl⟩;refine ZcL (cdF S l2 fix X2) (fun w hi hin=>gU S l2 fix X2 (by first|omega|(simp only[hl1,hl2,ae,ai,ao];omega)) 5 11 11 (dW S.pl S.p.flags 7) w hin) ?_;rintro _ _ ⟨_,⟨l3,X3,hl3,rfl⟩,rfl⟩;refine Z_4 ?_;refine ZcL (cdF S l3 fix X3) (fun w hi hin=>tW S l3 fix X3 (by first|omega|(simp only[hl1,hl2,hl3,ae,ai,ao];omega)) 15 1 11 w hin) ?_;rintro _ _ ⟨_,⟨l4,X4,hl4,rfl⟩,rfl⟩;refine Zn ?_;refine eh (((l4,X4):List HI×CAd)) ?_ ?_ ?_
   ·(simp only[hl1,hl2,hl3,hl4,gE,hc0,ac,aa,aq,aP,aR,ay])
   ·exact Zwk
   exact Zu
  refine Zc ?_;refine eh (((l,X):List HI×CAd)) ?_ ?_ ?_
  ·(simp only[gE,hc0,ac,aa,aq,aP,aR,ay])
  ·exact Zwk
  exact Zu
 rintro⟨m1,s1⟩ hm1;dsimp only at hm1⊢;have bm1:m1.length≤l.length+4:=(by rw[hm1,ae];omega);refine Z_8 ?_;refine ZcL (cdF S m1 fix s1) (fun w hi hin=>kb S m1 fix s1 (by first|omega|(simp only[ae,ai,ao];omega)) 9 S.p.next w hin) ?_;rintro _ _ ⟨_,⟨l11,X11,hl11,rfl⟩,rfl⟩;refine Z_2 ?_;refine de (fun q:List HI×CAd=>[(0,.pointer (some ⟨S.b,0,none⟩))]) (fun q=>cdF S q.1 fix q.2) (fun q=>q.1=l11++gh S.p l11.length) ?_ ?_
 ·refine eK ?_;refine ZW ?_ ?_<;>intro hc5
  ·refine Z_7 ?_;refine ZSe (fun w hi=>Gu S.p.branch w) ?_;refine eK ?_;refine ZcL (cdF S l11 fix X11) (fun w hi hin=>wZ S l11 fix X11 (by first|omega|(simp only[hl11,ae,ai,ao];omega)) 11 15 1 w hin) ?_;rintro _ _ ⟨_,⟨l12,X12,hl12,rfl⟩,rfl⟩;refine Z_6 ?_;refine ZcL (cdF S l12 fix X12) (fun w hi hin=>kb S l12 fix X12 (by first|omega|(simp only[hl11,hl12,ae,ai,ao];omega)) 12 (fD S.p.branch) w hin) ?_;rintro _ _ ⟨_,⟨l13,X13,hl13,rfl⟩,rfl⟩;refine Z_5 ?_;refine ZcL (cdF S l13 fix X13) (fun w hi hin=>gU S l13 fix X13 (by first|omega|(simp only[hl11,hl12,hl13,ae,ai,ao];omega)) 5 11 11 12 w hin) ?_;rintro _ _ ⟨_,⟨l14,X14,hl14,rfl⟩,rfl⟩;refine Z_4 ?_;have b14:l14.length≤20000:=(by simp only[hl14,hl13,hl12,hl11,ae,ai,ao];omega);refine Z_5 ?_;refine Zy (cF Zv0 Zv0 Zl) ?_;refine Zy (cu rfl rfl Zv0 rfl) ?_;refine ZA ?_;refine ZN fun b4=>?_
   refine ZM ?_;refine Z_2 ?_;refine de (fun _:Unit=>[(0,.pointer (some ⟨S.b,0,none⟩)),(4,.pointer (some ⟨b4,0,none⟩))]) (fun _=>[row S.b (nq S l14.length fix.length X14) 277,hiC X14.Al X14.cl l14,sl .i64 3 X14.Af fix.length X14.cf fix,row b4 [.int .i64 (bif gY S.p.branch then 16 else 17),.int .i64 0,.int .i64 11,.int .i64 0,.int .u32 (IntKind.u32.wrap ((l14.length:Int)+2))] 285]) (fun _=>True) ?_ ?_
   ·refine Z_6 ?_;refine ZW ?_ ?_<;>intro hc11
    ·have hjs:gY S.p.branch=false:=(by simpa using hc11);rw[hjs,aa];refine Z_2 ?_;refine ZL ?_;refine Zn ?_;refine cz (()) ?_ ?_ ?_
     ·trivial
     ·exact Zwk
     exact Zj
    have hjs:gY S.p.branch=true:=(by simpa using hc11);rw[hjs,ac];refine Zc ?_;refine cz (()) ?_ ?_ ?_
    ·trivial
    ·exact Zwk
    exact Zj
   intro s hs;refine Z_4 ?_;refine dM (di rfl rfl Zrf Zrf rfl rfl rfl) rfl ?_;rintro _ _ ⟨b66,rfl,rfl⟩;refine ZcL (cdF S l14 fix X14) (fun w hi hin=>jT S l14 fix X14 (by first|omega|(simp only[hl11,hl12,hl13,hl14,ae,ai,ao];omega)) [⟨bif gY S.p.branch then 16 else 17,0,11,0,IntKind.u32.wrap ((l14.length:Int)+2)⟩] (some ⟨b66,0,none⟩) 1 (by simp) w hin (fun w' hk=>dq (hi.IY Zi (show Has _ (slv 285 5 (some ⟨b66,0,none⟩) 1 1 ([⟨bif gY S.p.branch then 16 else 17,0,11,0,IntKind.u32.wrap ((l14.length:Int)+2)⟩].flatMap HI.cells))from Zh) hk))) ?_;rintro _ _ ⟨_,⟨l15,X15,hl15,rfl⟩,rfl⟩;refine Z_9 ?_;refine ZcL (cdF S l15 fix X15) (fun w hi hin=>kb S l15 fix X15 (by first|omega|(simp only[hl11,hl12,hl13,hl14,hl15,ae,ai,ao];omega)) 9 S.p.taken w hin) ?_;rintro _ _ ⟨_,⟨l16,X16,hl16,rfl⟩,rfl⟩;refine Zn ?_;refine eh (((l16,X16):List HI×CAd)) ?_ ?_ ?_
   ·exact br_eq hl12 hl13 hl14 hl15 hl16 hc5
   ·exact Zwk
   exact Zu
  refine Zc ?_;refine eh (((l11,X11):List HI×CAd)) ?_ ?_ ?_
  ·(simp only[hl11,gh,hc5,ac,aa,aq,aP,aR,ay])
  ·exact Zwk
  exact Zu
 rintro⟨m2,s2⟩ hm2;dsimp only at hm2⊢;have gB:=sy S.p l11.length;have bm2:m2.length≤l.length+20:=(by have e2:m2.length=l11.length+(gh S.p l11.length).length:=(by rw[hm2,ae]);have e1:l11.length=m1.length+1:=(by rw[hl11];simp);omega);refine de (fun q:List HI×CAd=>[(0,.pointer (some ⟨S.b,0,none⟩))]) (fun q=>cdF S q.1 fix q.2) (fun q=>q.1=m2++iQ S.p S.pl) ?_ ?_
 ·refine eK ?_;refine ZW ?_ ?_<;>intro hc15
  ·have ht:=htg (by simpa using hc15);refine Z_8 ?_;refine ZcL (cdF S m2 fix s2) (fun w hi hin=>zJ S m2 fix s2 (by first|omega|(simp only[ae,ai,ao];omega)) S.p.target 7 ht w hin (fun w' hk=>hK w' (hi.Jc Zi hk))) ?_;rintro _ _ ⟨_,⟨rfl,l21,X21,hl21,rfl⟩,rfl⟩;refine ZA ?_;refine dM (di rfl rfl Zrf Zrf rfl rfl rfl) rfl ?_;rintro _ _ ⟨b90,rfl,rfl⟩;refine ZcL (cdF S l21 fix X21) (fun w hi hin=>jT S l21 fix X21 (by first|omega|(simp only[hl21,ae,ai,ao];omega)) [⟨2,9,dW S.pl S.p.target 7,0,0⟩] (some ⟨b90,0,none⟩) 1 (by simp) w hin (fun w' hk=>dq (hi.IY Zi (show Has _ (slv 285 5 (some ⟨b90,0,none⟩) 1 1 ([⟨2,9,dW S.pl S.p.target 7,0,0⟩].flatMap HI.cells))from Zh) hk))) ?_;rintro _ _ ⟨_,⟨l22,X22,hl22,rfl⟩,rfl⟩;refine Zn ?_;refine eh (((l22,X22):List HI×CAd)) ?_ ?_ ?_
   ·(simp only[hl21,hl22,iQ,hc15,ac,aa,aq,aP,aR,ay])
   ·exact Zwk
   exact Zu
  refine Zc ?_;refine eh (((m2,s2):List HI×CAd)) ?_ ?_ ?_
  ·(simp only[iQ,hc15,ac,aa,aq,aP,aR,ay])
  ·exact Zwk
  exact Zu
 rintro⟨m3,s3⟩ hm3;dsimp only at hm3⊢;have gT:=qU S.p S.pl;have bm3:m3.length≤l.length+30:=(by rw[hm3,ae];omega);refine Z_3 ?_;refine ZcL (cdF S m3 fix s3) (fun w hi hin=>tW S m3 fix s3 (by first|omega|(simp only[ae,ai,ao];omega)) 15 0 9 w hin) ?_;rintro _ _ ⟨_,⟨l31,X31,hl31,rfl⟩,rfl⟩;refine eK ?_;refine Zy (cu rfl rfl Zv0 rfl) ?_;refine ZcL (cdF S l31 fix X31) (fun w hi hin=>kb S l31 fix X31 (by first|omega|(simp only[hl31,ae,ai,ao];omega)) 11 (IntKind.u32.wrap S.p.count) w hin) ?_;rintro _ _ ⟨_,⟨l32,X32,hl32,rfl⟩,rfl⟩;refine Z_5 ?_;refine ZcL (cdF S l32 fix X32) (fun w hi hin=>tW S l32 fix X32 (by first|omega|(simp only[hl31,hl32,ae,ai,ao];omega)) 15 36 11 w hin) ?_;rintro _ _ ⟨_,⟨l33,X33,hl33,rfl⟩,rfl⟩;refine Z_5 ?_;refine dM (di rfl rfl Zrf Zrf rfl rfl rfl) rfl ?_;rintro _ _ ⟨b106,rfl,rfl⟩;refine ZcL (cdF S l33 fix X33) (fun w hi hin=>jT S l33 fix X33 (by first|omega|(simp only[hl31,hl32,hl33,ae,ai,ao];omega)) [⟨19,0,0,0,1⟩] (some ⟨b106,0,none⟩) 1 (by simp) w hin (fun w' hk=>dq (hi.IY Zi (show Has _ (slv 285 5 (some ⟨b106,0,none⟩) 1 1 ([⟨19,0,0,0,1⟩].flatMap HI.cells))from Zh) hk))) ?_;rintro _ _ ⟨_,⟨l34,X34,hl34,rfl⟩,rfl⟩;refine Zn (fL (cs':=cdF S l34 fix X34) (.inr rfl) Zu rfl ?_);exact⟨l34,X34,(end_eq hm1 hl11 hm2 hm3 hl31 hl32 hl33 hl34),rfl⟩
end
end Go.Proofs.YtomjgmbccamgiaaGreatDoor
namespace Go.Ink
open Go.RowKit
theorem vk{α:Type}{f:α→Bool}{l:List α}{k:Nat}{x:α}(hx:l[k]? =some x)(h:(l.take k).all f=true)(hf:f x=true):(l.take (k+1)).all f=true:=by
 rw[List.take_add_one,hx,List.all_append,h,show((some x).toList).all f=f x by simp,hf];rfl
theorem EN{α:Type}{f:α→Bool}{l:List α}{k:Nat}{x:α}(hx:l[k]? =some x)(hf:f x=false):l.all f=false:=by
 cases h:l.all f with
 |false=>rfl
 |true=>rw[bD]at h;have:=h x (aK hx);rw[hf]at this;cases this
theorem pZ{a b:Int}:∀(c:List II) (i k:Nat) {x:II},c[k]? =some x→iJ a b (c.take k) i=true→jg a b (i+k) x=true→iJ a b (c.take (k+1)) i=true
 |[],_,_,_,h,_,_=>by simp at h
 |y::c,i,0,x,h,_,h2=>by
  obtain rfl:y=x:=by simpa using h
  show(jg a b i y&&iJ a b (c.take 0) (i+1))=true;rw[show jg a b i y=true from h2];rfl
 |y::c,i,k+1,x,h,h1,h2=>by
  have h1:(jg a b i y&&iJ a b (c.take k) (i+1))=true:=h1;rw[aB]at h1;have:=pZ c (i+1) k (x:=x) (by simpa using h) h1.2 (by rw[show i+1+k=i+(k+1) by omega];exact h2);show(jg a b i y&&iJ a b (c.take (k+1)) (i+1))=true;rw[h1.1,this];rfl
theorem JJ{a b:Int}:∀(c:List II) (i k:Nat) {x:II},c[k]? =some x→jg a b (i+k) x=false→iJ a b c i=false
 |[],_,_,_,h,_=>by simp at h
 |y::c,i,0,x,h,h2=>by
  obtain rfl:y=x:=by simpa using h
  show(jg a b i y&&iJ a b c (i+1))=false;rw[show jg a b i y=false from h2];rfl
 |y::c,i,k+1,x,h,h2=>by
  have:=JJ c (i+1) k (x:=x) (by simpa using h) (by rw[show i+1+k=i+(k+1) by omega];exact h2);show(jg a b i y&&iJ a b c (i+1))=false;rw[this,Bool.and_false]
structure zT(p:Pg)(Q:PAd)(w:World):Prop where
 code:RdV w 5 Q.Ac p.code.length Q.cc (p.code.flatMap II.cells)
 Iq:Rd w .i64 Q.Ad p.Iq.length Q.cd p.Iq
 Ir:Rd w .i64 Q.Ar p.Ir.length Q.cr p.Ir
structure qr(p:Pg):Prop where
 IQ:p.values=p.code.length
 IE:p.code.length≤64
 Iq:p.Iq.length≤100
 Ir:p.Ir.length≤100
 imm:∀x,x∈p.code→0≤x.imm∧x.imm≤4294967295
end Go.Ink
namespace Go.Proofs.YtomjgmbccamgiaaGreatDoor
open Go.RowKit Go.Ink Go.Proofs.Tryz
attribute [local irreducible] OpY bW
theorem nC(a b:Int)(w:World):Ctr prog 229 [.int .i64 a,.int .i64 b] w [] (fun r cs=>r= .bool (nD a b)∧cs=[]):=by
 refine bL func229 rfl ntmps229 rfl (Inv.start w) ?_;refine xk ?_;refine Zra ?_;exact⟨by unfold nD;cases decide (0≤a)<;>cases decide (a<b)<;>rfl,rfl⟩
theorem vT(w:World):Ctr prog 192 [.int .i64 7] w [] (fun r cs=>r= .bool true∧cs=[]):=by
 refine bL func192 rfl ntmps192 rfl (Inv.start w) ?_;refine vo ?_;refine Zra ?_;exact⟨rfl,rfl⟩
theorem GW(A:Option Addr)(c:Nat)(l:List Int)(hl:l.length≤100)(w:World)(h:Rd w .i64 A l.length c l):Ctr prog 227 [.slice A l.length c] w [] (fun r cs=>r= .bool (oH l)∧cs=[]):=by
 refine bL func227 rfl ntmps227 rfl (Inv.start w) ?_;refine ic ?_;refine cJ (fun k:Nat=>[(5,.slice A l.length c),(6,.int .i64 l.length),(7,.int .i64 (k:Int))]) (fun _=>[]) (fun k=>k≤l.length∧(l.take k).all (fun n=>decide (0≤n)&&decide (n≤16))=true) (fun k=>l.length - k) (0) ?_ ?_ ?_ ?_
 ·exact⟨aw _,rfl⟩
 ·exact Zwk
 ·exact Zu
 rintro k ⟨hk,ha⟩;refine Z_6 ?_;refine ZW ?_ ?_<;>intro hc2
 ·simp only[ap]at hc2;obtain⟨ad,rfl⟩:=h.some_ (by omega);obtain⟨x,hx⟩:∃x,l[k]? =some x:=⟨_,ak (show k<l.length by omega)⟩;refine Z_6 ?_;refine Zy (dk (j:=k) rfl Zrf (Zv rfl) (Zv rfl) (fun _=>by omega) (fun _=>by omega)) ?_;refine dU (bM Zrf Zv0) (fe h (df hx)) rfl ?_;refine jW ?_;refine ZW ?_ ?_<;>intro hc4
  ·have hf:(fun n:Int=>decide (0≤n)&&decide (n≤16)) x=false:=(by have:=hc4;simp only[Bool.or_eq_true,ap]at this;simp only[Bool.and_eq_false_iff,aj];omega);refine eo ?_;refine Zra ?_;exact⟨by unfold oH;rw[EN hx hf],rfl⟩
  have hf:(fun n:Int=>decide (0≤n)&&decide (n≤16)) x=true:=(by have:=hc4;simp only[bl,aj]at this;simp only[aB,ap];omega);refine Z_4 ?_;refine Zy (cF Zv0 Zv0 Zl) ?_;refine Z_2 ?_;refine eh (k+1) ?_ ?_ ?_
  ·exact⟨⟨by omega,vk hx ha hf⟩,by omega⟩
  ·exact Zwk
  exact Zu
 simp only[aj]at hc2;obtain rfl:k=l.length:=by omega
 rw[bA]at ha;refine eo ?_;refine Zra ?_;exact⟨by unfold oH;rw[ha],rfl⟩
theorem x9(p:Pg)(Q:PAd)(i:Nat)(x:II)(hx:p.code[i]? =some x)(him:0≤x.imm∧x.imm≤4294967295)(hd:0≤p.Ii∧p.Ii≤16)(hr:0≤p.Ij∧p.Ij≤16)(w:World)(h:RdV w 5 Q.Ac p.code.length Q.cc (p.code.flatMap II.cells)):
  Ctr prog 228 [pgv p Q,.int .i64 i] w [] (fun r cs=>r= .bool (jg p.Ii p.Ij i x)∧cs=[]):=by
 have hil:i<p.code.length:=by
  rcases Nat.lt_or_ge i p.code.length with h9|h9
  ·exact h9
  rw[List.getElem?_eq_none h9]at hx;cases hx
 obtain⟨ad,had⟩:=h.some_ (by omega);rw[had]at h;obtain⟨op,dst,xa,xb,imm⟩:=x;obtain⟨hi1,hi2⟩:=him;obtain⟨hd1,hd2⟩:=hd;obtain⟨hr1,hr2⟩:=hr;dsimp only at hi1 hi2;refine bL func228 rfl ntmps228 rfl (Inv.start w) ?_;refine Z_2 ?_;refine ZO fun b2=>?_;refine Z_8 ?_;refine Zy (eV (j:=i) had rfl Zrf Zv0 Zv0 Zrf (fun _=>hil)) ?_;refine dU (cC (vs:=[.int .i64 op,.int .i64 dst,.int .i64 xa,.int .i64 xb,.int .u32 imm]) Zrf Zrf Zv0) (fC h (fun j v hj=>fF (f:=II.cells) Zrf (i:=j) hx hj)) rfl ?_;refine ZN fun b5=>?_
 refine ZM ?_;refine eo ?_;refine ZW ?_ ?_<;>intro hc2
 ·refine Z_7 ?_;refine Zra ?_;exact⟨by simp only[jg,hc2,ac],rfl⟩
 refine Z_7 ?_;refine dX ga (.cons Zv0 (.cons Zv0 .nil)) (fun _ _=>rfl) (fun hg w hi=>nC xa i w) rfl ?_;refine Z_4 ?_;refine dX (bP rfl rfl) (.cons (dc rfl) (.cons (dc rfl) .nil)) (fun _ _=>rfl) (fun hg w hi=>nC xb i w) rfl ?_;refine ln ?_;refine eo ?_;refine ZW ?_ ?_<;>intro hc7
 ·refine Z_9 ?_;refine Zra ?_;exact⟨by simp only[jg,hc2,hc7,ac,aa]<;>cases xa==0<;>cases xb==0<;>rfl,rfl⟩
 refine Z_6 ?_;refine ZW ?_ ?_<;>intro hc9
 ·refine Z_6 ?_;refine Zyy rfl rfl (cu rfl rfl (dc rfl) (by first|exact IntWalk.u64_in _ ⟨by omega,by omega⟩|exact rfl)) ?_;refine Z_2 ?_;refine Zyy rfl rfl (cu rfl rfl (dc rfl) (by first|exact IntWalk.u64_in _ ⟨by omega,by omega⟩|exact rfl)) ?_;refine Z_8 ?_;refine Zra ?_;exact⟨by simp only[jg,hc2,hc7,hc9,ac,aa]<;>cases xa==0<;>cases xb==0<;>cases decide (imm<p.Ii)<;>rfl,rfl⟩
 refine Z_6 ?_;refine ZW ?_ ?_<;>intro hc11
 ·refine Z_6 ?_;refine Zyy rfl rfl (cu rfl rfl (dc rfl) (by first|exact IntWalk.u64_in _ ⟨by omega,by omega⟩|exact rfl)) ?_;refine Z_2 ?_;refine Zyy rfl rfl (cu rfl rfl (dc rfl) (by first|exact IntWalk.u64_in _ ⟨by omega,by omega⟩|exact rfl)) ?_;refine Z_8 ?_;refine Zra ?_;exact⟨by simp only[jg,hc2,hc7,hc9,hc11,ac,aa]<;>cases xa==0<;>cases xb==0<;>cases decide (imm<p.Ij)<;>rfl,rfl⟩
 refine Z_6 ?_;refine ZW ?_ ?_<;>intro hc13
 ·refine He ?_;refine Zra ?_;exact⟨by simp only[jg,hc2,hc7,hc9,hc11,hc13,ac,aa]<;>cases nD xa i<;>cases nD xb i<;>cases decide (16≤imm)<;>cases decide (imm≤23)<;>rfl,rfl⟩
 refine Z_6 ?_;refine ZW ?_ ?_<;>intro hc15
 ·refine ln ?_;refine Z_4 ?_;refine Zra ?_;exact⟨by simp only[jg,hc2,hc7,hc9,hc11,hc13,hc15,ac,aa]<;>cases nD xa i<;>cases nD xb i<;>cases decide (16≤imm)<;>cases decide (imm≤23)<;>cases imm==25<;>rfl,rfl⟩
 refine Z_9 ?_;refine Zra ?_;exact⟨by simp only[jg,hc2,hc7,hc9,hc11,hc13,hc15,ac,aa],rfl⟩
theorem rO(p:Pg)(Q:PAd)(hf:qr p)(w:World)(h:zT p Q w):Ctr prog 191 [pgv p Q] w [] (fun r cs=>r= .bool p.Iw∧cs=[]):=by
 have hv1:(p.values !=(p.code.length:Int))=false:=by rw[hf.IQ];simp
 have hv2:decide (64<p.values)=false:=by rw[hf.IQ];have:=hf.IE;simp;omega
 have hv3:p.values=p.code.length:=hf.IQ;have hm64:=hf.IE;have hoD:=hf.Iq;have hoR:=hf.Ir;have himm:=hf.imm;have hrc:=h.code;have hrD:=h.Iq;have hrR:=h.Ir;refine bL func191 rfl ntmps191 rfl (Inv.start w) ?_;refine Z_2 ?_;refine ZO fun b1=>?_;refine xk ?_;rw[hv1,hv2];refine Z_8 ?_;refine ku (bS rfl rfl) rfl (cm rfl rfl Zrf Zrf rfl rfl) rfl ?_;rintro _ _ ⟨b28,rfl,rfl⟩;refine dX (bS rfl rfl) (.cons (dc rfl) .nil) (fun _ _=>rfl) (fun hg w hi=>GW (some ⟨b28,0,none⟩) 4 [p.Ii,p.Ij,p.IK,p.IN] (by simp) w (hi.rd (show Has _ (slv 3 1 (some ⟨b28,0,none⟩) 4 4 (ints .i64 [p.Ii,p.Ij,p.IK,p.IN]))from Zh))) rfl ?_;refine ic ?_;refine ZW ?_ ?_<;>intro hc1
 ·have hok:p.I2=false:=(by unfold Pg.I2;have:=hc1;cases h1:oH [p.Ii,p.Ij,p.IK,p.IN]<;>cases h2:decide (p.count<1)<;>cases h3:decide (8<p.count)<;>simp_all);refine Z_7 ?_;refine Zra ?_;exact⟨by unfold Pg.Iw;rw[hok];rfl,rfl⟩
 have hok:p.I2=true:=(by unfold Pg.I2;have:=hc1;cases h1:oH [p.Ii,p.Ij,p.IK,p.IN]<;>cases h2:decide (p.count<1)<;>cases h3:decide (8<p.count)<;>simp_all);have hnn:(0≤p.Ii∧p.Ii≤16)∧(0≤p.Ij∧p.Ij≤16):=(by have:=hok;unfold Pg.I2 oH at this;simp only[List.all_cons,aB,ap]at this;omega);refine gK ?_;refine cJ (fun k:Nat=>[(1,.pointer (some ⟨b1,0,none⟩)),(43,.slice Q.Ac p.code.length Q.cc),(44,.int .i64 p.code.length),(45,.int .i64 (k:Int))]) (fun _=>[row b1 (jm p Q) 232]) (fun k=>k≤p.code.length∧iJ p.Ii p.Ij (p.code.take k) 0=true) (fun k=>p.code.length - k) (0) ?_ ?_ ?_ ?_
 ·exact⟨aw _,rfl⟩
 ·exact Zwk
 ·exact Zu
 rintro k ⟨hk,ha⟩;refine Z_6 ?_;refine ZW ?_ ?_<;>intro hc4
 ·simp only[ap]at hc4;obtain⟨x,hx⟩:∃x,p.code[k]? =some x:=⟨_,ak (show k<p.code.length by omega)⟩;refine ic ?_;refine ZSe (fun w hi=>x9 p Q k x hx (himm x (aK hx)) hnn.1 hnn.2 w (hrc.IB hi)) ?_;refine Z_3 ?_;refine ZW ?_ ?_<;>intro hc6
  ·have hm:jg p.Ii p.Ij (0+k) x=false:=(by rw[bo];simpa using hc6);refine eo ?_;refine Zra ?_;exact⟨by unfold Pg.Iw;rw[JJ _ 0 _ hx hm,Bool.false_and,Bool.and_false],rfl⟩
  have hm:jg p.Ii p.Ij (0+k) x=true:=(by rw[bo];simpa using hc6);refine Z_4 ?_;refine Zy (cF Zv0 Zv0 Zl) ?_;refine Z_2 ?_;refine eh (k+1) ?_ ?_ ?_
  ·exact⟨⟨by omega,pZ _ 0 k hx ha hm⟩,by omega⟩
  ·exact Zwk
  exact Zu
 simp only[aj]at hc4;obtain rfl:k=p.code.length:=by omega
 rw[bA]at ha;refine gK ?_;refine dM (cm rfl rfl Zrf Zrf rfl rfl) rfl ?_;rintro _ _ ⟨b57,rfl,rfl⟩;refine Z_5 ?_;refine cJ (fun k:Nat=>[(1,.pointer (some ⟨b1,0,none⟩)),(57,.slice (some ⟨b57,0,none⟩) 2 2),(58,.int .i64 2),(59,.int .i64 (k:Int))]) (fun _=>[row b1 (jm p Q) 232,slv 64 1 (some ⟨b57,0,none⟩) 2 2 [.slice Q.Ad p.Iq.length Q.cd,.slice Q.Ar p.Ir.length Q.cr]]) (fun k=>k≤2∧([p.Iq,p.Ir].take k).all (fun l=>l.all fun n=>nD n p.code.length)=true) (fun k=>2 - k) (0) ?_ ?_ ?_ ?_
 ·exact⟨aw _,rfl⟩
 ·exact Zwk
 ·exact Zu
 rintro k2 ⟨hk2,ha2⟩;refine Z_6 ?_;refine ZW ?_ ?_<;>intro hc10
 ·simp only[ap]at hc10;obtain⟨A1,c1,l1,hx1,hx2,hR1,hb1⟩:∃(A1:Option Addr) (c1:Nat) (l1:List Int),[Value.slice Q.Ad p.Iq.length Q.cd,.slice Q.Ar p.Ir.length Q.cr][k2]? =some (.slice A1 l1.length c1)∧[p.Iq,p.Ir][k2]? =some l1∧Rd w .i64 A1 l1.length c1 l1∧l1.length≤100:=(by have h9:k2=0∨k2=1:=(by omega);rcases h9 with rfl|rfl;exact⟨_,_,p.Iq,rfl,rfl,hrD,hoD⟩;exact⟨_,_,p.Ir,rfl,rfl,hrR,hoR⟩);refine Z_6 ?_;refine Zy (dk (j:=k2) rfl Zrf (Zv rfl) (Zv rfl) (fun _=>by omega) (fun _=>by omega)) ?_;refine dU (bM Zrf Zv0) (oU Zh hx1) rfl ?_;refine eo ?_;refine cJ (fun k:Nat=>[(1,.pointer (some ⟨b1,0,none⟩)),(57,.slice (some ⟨b57,0,none⟩) 2 2),(58,.int .i64 2),(59,.int .i64 (k2:Int)),(63,.slice A1 l1.length c1),(64,.int .i64 l1.length),(65,.int .i64 (k:Int))]) (fun _=>[row b1 (jm p Q) 232,slv 64 1 (some ⟨b57,0,none⟩) 2 2 [.slice Q.Ad p.Iq.length Q.cd,.slice Q.Ar p.Ir.length Q.cr]]) (fun k=>k≤l1.length∧(l1.take k).all (fun n=>nD n p.code.length)=true) (fun k=>l1.length - k) (0) ?_ ?_ ?_ ?_
  ·exact⟨aw _,rfl⟩
  ·exact Zwk
  ·exact Zu
  rintro k3 ⟨hk3,ha3⟩;refine Z_6 ?_;refine ZW ?_ ?_<;>intro hc13
  ·simp only[ap]at hc13;obtain⟨ad,rfl⟩:=hR1.some_ (by omega);obtain⟨x,hx⟩:∃x,l1[k3]? =some x:=⟨_,ak (show k3<l1.length by omega)⟩;refine Z_6 ?_;refine Zy (dk (j:=k3) rfl Zrf (Zv rfl) (Zv rfl) (fun _=>by omega) (fun _=>by omega)) ?_;refine dU (bM Zrf Zv0) (fe hR1 (df hx)) rfl ?_;refine Z_8 ?_;refine ZSe (fun w hi=>nC x p.values w) ?_;refine Z_3 ?_;refine ZW ?_ ?_<;>intro hc15
   ·have hm:nD x p.code.length=false:=(by rw[←hv3];simpa using hc15);refine qp ?_;refine Zra ?_;exact⟨by have h9:=EN (f:=fun l:List Int=>l.all fun n=>nD n p.code.length) hx2 (EN hx hm);unfold Pg.Iw;simp only[List.all_cons,List.all_nil,Bool.and_true,Bool.and_eq_false_iff]at h9;rcases h9 with h9|h9<;>rw[h9]<;>simp,rfl⟩
   have hm:nD x p.code.length=true:=(by rw[←hv3];simpa using hc15);refine Z_4 ?_;refine Zy (cF Zv0 Zv0 Zl) ?_;refine Z_2 ?_;refine eh (k3+1) ?_ ?_ ?_
   ·exact⟨⟨by omega,vk hx ha3 hm⟩,by omega⟩
   ·exact Zwk
   exact Zu
  simp only[aj]at hc13;obtain rfl:k3=l1.length:=by omega
  rw[bA]at ha3;refine Z_7 ?_;refine Zy (cF Zv0 Zv0 Zl) ?_;refine Z_2 ?_;refine eh (k2+1) ?_ ?_ ?_
  ·exact⟨⟨by omega,vk hx2 ha2 ha3⟩,by omega⟩
  ·exact Zwk
  exact Zu
 simp only[aj]at hc10;obtain rfl:k2=2:=by omega
 refine p5 ?_;refine dX (bP rfl rfl) (.cons (dc rfl) (.cons (dc rfl) .nil)) (fun _ _=>rfl) (fun hg w hi=>nC p.flags p.values w) rfl ?_;refine eo ?_;refine dX (fE rfl rfl) (.cons (dc rfl) (.cons (dc rfl) .nil)) (fun _ _=>rfl) (fun hg w hi=>nC p.target p.values w) rfl ?_;refine Z_5 ?_;refine ZW ?_ ?_<;>intro hc19
 ·refine Z_7 ?_;refine Zra ?_;exact⟨by have h9:p.I1=false:=(by unfold Pg.I1;rw[←hv3];have:=hc19;cases h1:p.flags != -1<;>cases h2:nD p.flags p.values<;>cases h3:p.target != -1<;>cases h4:nD p.target p.values<;>simp_all);unfold Pg.Iw;rw[h9];simp,rfl⟩
 refine ln ?_;refine Z_6 ?_;refine Zra ?_;exact⟨by have h9:p.I1=(p.branch==0||((decide (33≤p.branch)&&decide (p.branch≤37))&&p.target== -1)):=(by unfold Pg.I1;rw[←hv3];have:=hc19;cases h1:p.flags != -1<;>cases h2:nD p.flags p.values<;>cases h3:p.target != -1<;>cases h4:nD p.target p.values<;>simp_all);simp only[List.take,List.all_cons,List.all_nil,Bool.and_true,aB]at ha2;unfold Pg.Iw;rw[hok,ha,ha2.1,ha2.2,h9];cases p.branch==0<;>cases decide (33≤p.branch)<;>cases decide (p.branch≤37)<;>cases p.target== -1<;>rfl,rfl⟩
end Go.Proofs.YtomjgmbccamgiaaGreatDoor
namespace Go.Ink
open Go.RowKit
abbrev span(i:Nat)(t:Int):List Value:=[.int .i64 i,.int .i64 i,.int .i64 t]
def fB:Nat→List Int→List Value
 |_,[]=>[]
 |k,t::T=> .int .i64 k:: .int .i64 k:: .int .i64 t::fB (k+1) T
theorem tp:∀(T:List Int) (k:Nat) (t:Int),fB k (T++[t])=fB k T++[.int .i64 ((k+T.length:Nat):Int),.int .i64 ((k+T.length:Nat):Int),.int .i64 t]
 |[],k,t=>rfl
 |x::T,k,t=>by
  have h:=tp T (k+1) t;show _::_::_::fB (k+1) (T++[t])=_;rw[h,show k+1+T.length=k+(x::T).length by simp;omega]
  rfl
theorem jH:∀(T:List Int) (k i:Nat) {t:Int} {j:Nat} {v:Value},T[i]? =some t→(span (k+i) t)[j]? =some v→(fB k T)[i*3+j]? =some v
 |[],_,_,_,_,_,h,_=>by simp at h
 |x::T,k,0,t,j,v,h,hj=>by
  obtain rfl:x=t:=by simpa using h
  rw[Nat.zero_mul,bo]
  match j,hj with
  |0,hj=>exact hj
  |1,hj=>exact hj
  |2,hj=>exact hj
  |j+3,hj=>simp at hj
 |x::T,k,i+1,t,j,v,h,hj=>by
  have:=jH T (k+1) i (t:=t) (j:=j) (v:=v) (by simpa using h) (by rw[show k+1+i=k+(i+1) by omega];exact hj);rw[show(i+1)*3+j=(i*3+j)+3 by omega];exact this
theorem tn:∀(T:List Int) (k i:Nat) (t:Int),(fB k T).set (i*3+2) (.int .i64 t)=fB k (T.set i t)
 |[],_,_,_=>rfl
 |x::T,k,0,t=>rfl
 |x::T,k,i+1,t=>by
  have:=tn T (k+1) i t;rw[show(i+1)*3+2=(i*3+2)+3 by omega];show _::_::_::(fB (k+1) T).set (i*3+2) _=_;rw[this];rfl
theorem AA:∀(T:List Int) (k:Nat),∀u∈fB k T,u.oneCell'=true
 |[],_,u,h=>by cases h
 |x::T,k,u,h=>by
  have h:u∈(.int .i64 k:: .int .i64 k:: .int .i64 x::fB (k+1) T:List Value):=h;simp only[aM]at h;rcases h with rfl|rfl|rfl|h
  ·rfl
  ·rfl
  ·rfl
  exact AA T (k+1) u h
theorem nE(T:List Int)(n a:Int):(gc T n a).length=T.length:=(jt T n a).1
theorem DB(n:Nat):iota (n+1)=iota n++[(n:Int)]:=by unfold iota;rw[List.range_succ,List.map_append];rfl
theorem ji{α:Type}{l:List α}{k:Nat}{x:α}(h:l[k]? =some x):l.drop k=x::l.drop (k+1):=by
 rcases Nat.lt_or_ge k l.length with h9|h9
 ·rw[List.drop_eq_getElem_cons h9];rw[ak h9]at h;rw[aJ h]
 rw[List.getElem?_eq_none h9]at h;cases h
theorem FO{w0:World}{S:List Nat}{cs:List bJ}{n c j:Nat}{ad:Addr}{xs:List Value}{v:Value}(h:∀w,Inv w0 S cs w→RdV w 1 (some ad) n c xs)(hv:xs[j]? =some v):∀w,Inv w0 S cs w→cells [(ad.add (j*1),v)] w:=fun w hi z hz=>by
 rw[aN]at hz;subst hz;rw[Nat.mul_one];exact(h w hi).at_ ad rfl j v hv
theorem one3(a b c:Int):∀u∈([.int .i64 a,.int .i64 b,.int .i64 c]:List Value),u.oneCell'=true:=fun u h=>by
 simp only[aM,a9,or_false]at h;rcases h with rfl|rfl|rfl<;>rfl
theorem zT.IB{p:Pg}{Q:PAd}{w0 w:World}{cs:List bJ}(h:zT p Q w0)(hi:Inv w0 [] cs w):zT p Q w:=⟨h.code.IB hi,h.Iq.IB hi,h.Ir.IB hi⟩
theorem oY{p:Pg}(h:p.Iw=true):(∀(k:Nat) (x:II),p.code[k]? =some x→kp x=true→(0≤x.a∧x.a<k)∧(0≤x.b∧x.b<k))∧(∀n,n∈p.Iq∨n∈p.Ir→0≤n∧n<p.code.length)∧(0≤p.flags→p.flags<p.code.length)∧(0≤p.target→p.target<p.code.length):=by
 unfold Pg.Iw at h;simp only[aB]at h;obtain⟨-,h1,h2,h3,h4⟩:=h;have hv:∀a b,nD a b=true→0≤a∧a<b:=fun a b h=>by unfold nD at h;simpa using h
 refine⟨fun k x hx hab=>?_,fun n hn=>?_,fun h0=>?_,fun h0=>?_⟩
 ·have hm:=pG p.code 0 h1 k x hx;rw[bo]at hm;unfold kp at hab;unfold jg at hm;have ho:x.op=3∨x.op=4:=by simpa using hab
  rcases ho with ho|ho<;>rw[ho]at hm<;>cases hd:(x.dst !=(k:Int))<;>rw[hd]at hm<;>simp[nD]at hm
  ·exact⟨hm.1.1.1,hm.1.1.2⟩
  exact⟨hm.1.1,hm.1.2⟩
 ·rcases hn with hn|hn
  ·exact hv _ _ (bD.1 h2 n hn)
  exact hv _ _ (bD.1 h3 n hn)
 ·unfold Pg.I1 at h4;simp only[aB,Bool.not_eq_true',bl]at h4;obtain⟨⟨h5, -⟩, -⟩:=h4;have h6:(p.flags != -1)=true:=by rw[bne_iff_ne];omega
  rw[h6,Bool.true_and]at h5;exact(hv _ _ (by simpa using h5)).2
 unfold Pg.I1 at h4;simp only[aB,Bool.not_eq_true',bl]at h4;obtain⟨⟨-,h5⟩, -⟩:=h4;have h6:(p.target != -1)=true:=by rw[bne_iff_ne];omega
 rw[h6,Bool.true_and]at h5;exact(hv _ _ (by simpa using h5)).2
end Go.Ink
namespace Go.Proofs.YtomjgmbccamgiaaGreatDoor
open Go.RowKit Go.Ink Go.Proofs.Tryz
attribute [local irreducible] OpY bW
abbrev lvC(A:Option Addr)(c:Nat)(T:List Int):bJ:=slv 327 3 A T.length c (fB 0 T)
abbrev lvF(b:Nat)(A:Option Addr)(c:Nat)(T:List Int):List bJ:=[row b [.slice A T.length c] 322,lvC A c T]
theorem Db(T:List Int)(i j:Nat)(w:World):Ctr prog 196 [.agg #[.int .i64 i,.int .i64 i,.int .i64 (T.getD i 0)],.agg #[.int .i64 j,.int .i64 j,.int .i64 (T.getD j 0)]] w [] (fun r cs=>r= .bool (lS T i j)∧cs=[]):=by
 obtain⟨ti,hti⟩:=Zgn (T.getD i 0);obtain⟨tj,htj⟩:=Zgn (T.getD j 0);unfold lS;rw[hti,htj];refine bL func196 rfl ntmps196 rfl (Inv.start w) ?_;refine Z_2 ?_;refine ZO fun b2=>?_;refine ZO fun b3=>?_
 refine ln ?_;refine Z_8 ?_;refine Zra ?_;exact⟨by cases decide ((i:Int)<tj)<;>cases decide ((j:Int)<ti)<;>cases(i:Int)==(j:Int)<;>rfl,rfl⟩
theorem BZ(b:Nat)(A:Option Addr)(c:Nat)(T:List Int)(n at_:Int)(hn:0≤n→n.toNat<T.length)(w:World)(hi:Inv w (bK (lvF b A c T)) (lvF b A c T) w):
  Ctr prog 231 [.int .i64 n,.int .i64 at_,.pointer (some ⟨b,0,none⟩)] w (lvF b A c T) (fun _ cs=>cs=lvF b A c (gc T n at_)):=by
 refine bL func231 rfl ntmps231 rfl hi ?_;refine Z_6 ?_;refine ZW ?_ ?_<;>intro hc0
 ·simp only[ap]at hc0;have hlt:=hn hc0;obtain⟨m,rfl⟩:∃m:Nat,n=m:=ar hc0;rw[aS]at hlt;obtain⟨bs,rfl⟩:=hI (hi.get (show Has _ (lvC A c T)from Zh)) (by omega);have hx:T[m]? =some (T.getD m 0):=(by simp[ak hlt]);have hu:gc T m at_=T.set m (if at_>T.getD m 0 then at_ else T.getD m 0):=(by unfold gc;rw[aG hc0,ac,aS]);obtain⟨t,ht⟩:=Zgn (T.getD m 0);rw[ht]at hx hu;obtain⟨t2,ht2⟩:=Zgn ((if at_>t then at_ else t));rw[ht2]at hu;refine cj ⟨fun j=>List.elem j [11],rh b [.slice (some ⟨bs,0,none⟩) T.length c]⟩ Zk ?_;refine iA 0 rfl Zk Zk Zk (bM Zrf (Zv rfl)) (by first|exact bZ rfl|exact aC _ (bZ rfl)|exact ah _ (bZ rfl)|exact ah _ (ah _ (aC _ (bZ rfl)))|exact ah _ (ah _ (ah _ (bZ rfl)))) (bX (t:=322) Zh) rfl ?_;refine ZE 1 ?_;refine iA 2 rfl Zk Zk Zk (bM Zrf (Zv rfl)) (by first|exact bZ rfl|exact aC _ (bZ rfl)|exact ah _ (bZ rfl)|exact ah _ (ah _ (aC _ (bZ rfl)))|exact ah _ (ah _ (ah _ (bZ rfl)))) (bX (t:=322) Zh) rfl ?_;refine ZE 3 ?_;refine cR 4 rfl Zk Zk Zk (cI (j:=m) (sz:=3) (r:=m*3) rfl Zrf (Zv rfl) (Zv rfl) Zrf (fun _=>hlt) (by omega)) rfl ?_;refine ZFe 5 2 ?_;refine eQ 6 rfl Zk Zk Zk Zk (bM Zrf Zv0) (yS Zh (jH T 0 m (j:=2) hx rfl)) rfl ?_;refine ZE 7 ?_;refine cR 8 rfl Zk Zk Zk (zX Zv0 Zv0 ht2) rfl ?_;refine cR 9 rfl Zk Zk Zk (cI (j:=m) (sz:=3) (r:=m*3) rfl Zrf (Zv rfl) (Zv rfl) Zrf (fun _=>hlt) (by omega)) rfl ?_;refine ZFe 10 2 ?_;refine cE 11 Zk ?_;refine dC rfl rfl (uk Zrf rfl rfl rfl Za (by omega)) (fun _=>by rintro _ _ ⟨rfl,rfl⟩;exact bX (t:=322) Zh) ?_;rintro _ _ ⟨rfl,rfl⟩;refine bO Zk ?_;refine fL (cs':=[row b [.slice (some ⟨bs,0,none⟩) T.length c] 322,slv 327 3 (some ⟨bs,0,none⟩) T.length c ((fB 0 T).set (m*3+2) (.int .i64 t2))]) (.inr rfl) Zu rfl ?_;rw[hu,tn,show T.length=(T.set m t2).length by simp]
 simp only[aj]at hc0;have hu:gc T n at_=T:=(by unfold gc;rw[aF hc0];rfl);refine Zc (fL (cs':=lvF b A c T) (.inr rfl) Zu rfl ?_);rw[hu]
theorem lof_ok(p:Pg)(Q:PAd)(hf:qr p)(hr:p.Iw=true)(w:World)(h:zT p Q w):
  Ctr prog 194 [pgv p Q] w [] (fun r cs=>∃A c,r= .slice A (gn p).length c∧cs=[lvC A c (gn p)]):=by
 have hv3:p.values=p.code.length:=hf.IQ;have hm64:=hf.IE;have hrc:=h.code;have hrD:=h.Iq;have hrR:=h.Ir;obtain⟨u1,u2,u3,u4⟩:=oY hr;obtain⟨N,hN⟩:=Zgn (p.code.length);rw[hN]at hv3 hm64 u2 u3 u4;have hlv:[p.Iq,p.Ir,[p.flags,p.target]].foldl (fun T l=>jq T l N) (fm p.code 0 (iota N))=gn p:=by unfold gn;rw[hN];rfl
 obtain⟨L0,hL0⟩:=Zgn (fm p.code 0 (iota N));rw[hL0]at hlv;refine bL func194 rfl ntmps194 rfl (Inv.start w) ?_;refine Z_2 ?_;refine ZO fun b1=>?_;refine Z_7 ?_;refine ZSe (fun w hi=>rO p Q hf w (h.IB hi)) ?_;rw[hr];refine Z_3 ?_;refine bY rfl (rfl) ?_;refine Z_4 ?_;refine ZN fun b3=>?_;refine Z_5 ?_;refine dB 327 3 ?_
 try rw[hv3]
 refine Z_6 ?_;refine cJ (fun q:Nat×List Int×Option Addr×Nat=>[(1,.pointer (some ⟨b1,0,none⟩)),(3,.pointer (some ⟨b3,0,none⟩)),(16,.int .i64 p.values),(17,.int .i64 (q.1:Int))]) (fun q=>[row b1 (jm p Q) 232,row b3 [.slice q.2.2.1 q.2.1.length q.2.2.2] 322,slv 327 3 q.2.2.1 q.2.1.length q.2.2.2 (fB 0 q.2.1)]) (fun q=>q.1≤N∧q.2.1=iota q.1) (fun q=>N - q.1) (⟨0,[],none,0⟩) ?_ ?_ ?_ ?_
 ·exact⟨aw _,rfl⟩
 ·exact Zwk
 ·exact Zu
 rintro⟨k,T,A1,c1⟩ ⟨hk,hT⟩;dsimp only at hk hT⊢;have hTl:T.length=k:=(by rw[hT,od]);refine Z_6 ?_;refine ZW ?_ ?_<;>intro hc5
 ·simp only[ap]at hc5;rw[hv3]at hc5;have hsp:fB 0 T++[.int .i64 (k:Int),.int .i64 (k:Int),.int .i64 (k:Int)]=fB 0 (T++[(k:Int)]):=(by rw[tp,hTl,bo]);refine p5 ?_;refine dM (di rfl rfl Zrf Zrf rfl rfl rfl) rfl ?_;rintro _ _ ⟨b25,rfl,rfl⟩;refine dM (cM (e:=327) (sz:=3) (bytes:=24) rfl rfl Za rfl rfl (fun w hi=>hi.rd (show Has _ (slv 327 3 (some ⟨b25,0,none⟩) 1 1 [.int .i64 (k:Int),.int .i64 (k:Int),.int .i64 (k:Int)])from Zh)) (one3 _ _ _) (by simp only[maxLen];omega) (by omega)) rfl ?_;rintro _ _ ⟨A2,c2,rfl,rfl⟩;rw[hsp,show T.length+1=(T++[(k:Int)]).length by simp];refine ZL ?_;refine Z_4 ?_;refine Zy (cF Zv0 Zv0 Zl) ?_;refine Z_2 ?_;refine cz ((⟨k+1,T++[(k:Int)],A2,c2⟩:Nat×List Int×Option Addr×Nat)) ?_ ?_ ?_
  ·exact⟨⟨by omega,by dsimp only;rw[DB,hT]⟩,by dsimp only;omega⟩
  ·exact Zwk
  exact Zj
 simp only[aj]at hc5;rw[hv3]at hc5;obtain rfl:k=N:=by omega
 refine Z_7 ?_;refine Zy (kP rfl) ?_;refine jW ?_;refine cJ (fun q:Nat×List Int=>[(1,.pointer (some ⟨b1,0,none⟩)),(3,.pointer (some ⟨b3,0,none⟩)),(5,.func (.func 231) #[] #[.pointer (some ⟨b3,0,none⟩)]),(30,.slice Q.Ac p.code.length Q.cc),(31,.int .i64 p.code.length),(32,.int .i64 (q.1:Int))]) (fun q=>[row b1 (jm p Q) 232,row b3 [.slice A1 q.2.length c1] 322,slv 327 3 A1 q.2.length c1 (fB 0 q.2)]) (fun q=>q.1≤k∧q.2.length=k∧fm (p.code.drop q.1) q.1 q.2=L0) (fun q=>k - q.1) (⟨0,T⟩) ?_ ?_ ?_ ?_
 ·exact⟨aw _,hTl,by rw[hT];exact hL0⟩
 ·exact Zwk
 ·exact Zu
 rintro⟨i,T⟩ ⟨hi2,hTl,hL⟩;dsimp only at hi2 hTl hL⊢;refine Z_6 ?_;refine ZW ?_ ?_<;>intro hc11
 ·simp only[ap]at hc11;rw[hN]at hc11;have hil:i<p.code.length:=(by omega);obtain⟨ad,had⟩:=hrc.some_ (by omega);have hrc2:=hrc;rw[had]at hrc2;obtain⟨x,hx⟩:∃x,p.code[i]? =some x:=⟨_,ak hil⟩;have hu:=u1 i x hx;rw[ji hx]at hL;have hL:fm (p.code.drop (i+1)) (i+1) (bif kp x then gc (gc T x.a i) x.b i else T)=L0:=hL;obtain⟨op,dst,xa,xb,imm⟩:=x;dsimp only at hL hu;refine Z_7 ?_;refine Zy (eV (j:=i) had rfl Zrf Zv0 Zv0 Zrf (fun _=>hil)) ?_;refine dU (cC (vs:=[.int .i64 op,.int .i64 dst,.int .i64 xa,.int .i64 xb,.int .u32 imm]) Zrf Zrf Zv0) (fC hrc2 (fun j v hj=>fF (f:=II.cells) Zrf (i:=j) hx hj)) rfl ?_;refine ZN fun b7=>?_
  refine ZA ?_;refine ZM ?_;refine ic ?_;refine ZW ?_ ?_<;>intro hc13
  ·have hab:kp ⟨op,dst,xa,xb,imm⟩=true:=hc13;obtain⟨⟨ha1,ha2⟩,hb1,hb2⟩:=hu hab;rw[hab,ac]at hL;refine Z_6 ?_;refine dM (fx (lvF b3 A1 c1 T) rfl rfl (fun _ _=>rfl) Zi (fun w hi hin=>BZ b3 A1 c1 T xa i (fun _=>by omega) w hin)) rfl ?_;rintro _ _ ⟨_,rfl,rfl⟩;refine Z_7 ?_;refine dM (fx (lvF b3 A1 c1 (gc T xa i)) rfl rfl (fun _ _=>rfl) Zi (fun w hi hin=>BZ b3 A1 c1 (gc T xa i) xb i (fun _=>by rw[nE];omega) w hin)) rfl ?_;rintro _ _ ⟨_,rfl,rfl⟩;refine Z_4 ?_;refine Zy (cF Zv0 Zv0 Zl) ?_;refine Z_2 ?_;refine cz ((⟨i+1,gc (gc T xa i) xb i⟩:Nat×List Int)) ?_ ?_ ?_
   ·exact⟨⟨by omega,by dsimp only;rw[nE,nE,hTl],hL⟩,by dsimp only;omega⟩
   ·exact Zwk
   exact Zj
  have hab:kp ⟨op,dst,xa,xb,imm⟩=false:=hc13;rw[hab,aa]at hL;refine Z_4 ?_;refine Zy (cF Zv0 Zv0 Zl) ?_;refine Z_2 ?_;refine cz ((⟨i+1,T⟩:Nat×List Int)) ?_ ?_ ?_
  ·exact⟨⟨by omega,hTl,hL⟩,by dsimp only;omega⟩
  ·exact Zwk
  exact Zj
 simp only[aj]at hc11;rw[hN]at hc11;obtain rfl:i=k:=by omega
 rw[List.drop_of_length_le (by omega)]at hL;obtain rfl:T=L0:=hL;refine p5 ?_;refine dM (cm rfl rfl Zrf Zrf rfl rfl) rfl ?_;rintro _ _ ⟨b64,rfl,rfl⟩;refine dM (cm rfl rfl Zrf Zrf rfl rfl) rfl ?_;rintro _ _ ⟨b65,rfl,rfl⟩;refine Z_5 ?_;refine cJ (fun q:Nat×List Int=>[(1,.pointer (some ⟨b1,0,none⟩)),(3,.pointer (some ⟨b3,0,none⟩)),(5,.func (.func 231) #[] #[.pointer (some ⟨b3,0,none⟩)]),(65,.slice (some ⟨b65,0,none⟩) 3 3),(66,.int .i64 3),(67,.int .i64 (q.1:Int))]) (fun q=>[row b1 (jm p Q) 232,row b3 [.slice A1 q.2.length c1] 322,slv 327 3 A1 q.2.length c1 (fB 0 q.2),slv 3 1 (some ⟨b64,0,none⟩) 2 2 (ints .i64 [p.flags,p.target]),slv 64 1 (some ⟨b65,0,none⟩) 3 3 [.slice Q.Ad p.Iq.length Q.cd,.slice Q.Ar p.Ir.length Q.cr,.slice (some ⟨b64,0,none⟩) 2 2]]) (fun q=>q.1≤3∧q.2.length=i∧([p.Iq,p.Ir,[p.flags,p.target]].drop q.1).foldl (fun T l=>jq T l i) q.2=gn p) (fun q=>3 - q.1) (⟨0,T⟩) ?_ ?_ ?_ ?_
 ·exact⟨aw _,hTl,hlv⟩
 ·exact Zwk
 ·exact Zu
 rintro⟨k2,T2⟩ ⟨hk2,hTl2,hF⟩;dsimp only at hk2 hTl2 hF⊢;refine Z_6 ?_;refine ZW ?_ ?_<;>intro hc18
 ·simp only[ap]at hc18;obtain⟨A9,c9,l9,hx1,hx2,had9,hR9,hb9,hlen9⟩:∃(A9:Option Addr) (c9:Nat) (l9:List Int),[Value.slice Q.Ad p.Iq.length Q.cd,.slice Q.Ar p.Ir.length Q.cr,.slice (some ⟨b64,0,none⟩) 2 2][k2]? =some (.slice A9 l9.length c9)∧[p.Iq,p.Ir,[p.flags,p.target]][k2]? =some l9∧(0<l9.length→∃ad,A9=some ad)∧(∀(cs:List bJ) (w':World),Inv w [] cs w'→Has cs (slv 3 1 (some ⟨b64,0,none⟩) 2 2 (ints .i64 [p.flags,p.target]))→RdV w' 1 A9 l9.length c9 (ints .i64 l9))∧(∀x,x∈l9→0≤x→x<i)∧l9.length≤100:=(by have h9:k2=0∨k2=1∨k2=2:=(by omega);rcases h9 with rfl|rfl|rfl;exact⟨_,_,p.Iq,rfl,rfl,fun h=>hrD.some_ h,fun _ _ hi _=>hrD.IB hi,fun x hx _=>(u2 x (Or.inl hx)).2,hf.Iq⟩;exact⟨_,_,p.Ir,rfl,rfl,fun h=>hrR.some_ h,fun _ _ hi _=>hrR.IB hi,fun x hx _=>(u2 x (Or.inr hx)).2,hf.Ir⟩;exact⟨_,_,[p.flags,p.target],rfl,rfl,fun _=>⟨_,rfl⟩,fun _ _ hi hh=>hi.rd hh,fun x hx h0=>(by simp only[aM,a9,or_false]at hx;rcases hx with rfl|rfl;exact u3 h0;exact u4 h0),by show 2≤100;omega⟩);rw[ji hx2]at hF;have hF:([p.Iq,p.Ir,[p.flags,p.target]].drop (k2+1)).foldl (fun T l=>jq T l i) (jq T2 l9 i)=gn p:=hF;obtain⟨R9,hR9e⟩:=Zgn (jq T2 l9 i);rw[hR9e]at hF;refine Z_6 ?_;refine Zy (dk (j:=k2) rfl Zrf (Zv rfl) (Zv rfl) (fun _=>by omega) (fun _=>by omega)) ?_;refine dU (bM Zrf Zv0) (oU Zh hx1) rfl ?_;refine eo ?_;refine cJ (fun q:Nat×List Int=>[(1,.pointer (some ⟨b1,0,none⟩)),(3,.pointer (some ⟨b3,0,none⟩)),(5,.func (.func 231) #[] #[.pointer (some ⟨b3,0,none⟩)]),(65,.slice (some ⟨b65,0,none⟩) 3 3),(66,.int .i64 3),(67,.int .i64 (k2:Int)),(71,.slice A9 l9.length c9),(72,.int .i64 l9.length),(73,.int .i64 (q.1:Int))]) (fun q=>[row b1 (jm p Q) 232,row b3 [.slice A1 q.2.length c1] 322,slv 327 3 A1 q.2.length c1 (fB 0 q.2),slv 3 1 (some ⟨b64,0,none⟩) 2 2 (ints .i64 [p.flags,p.target]),slv 64 1 (some ⟨b65,0,none⟩) 3 3 [.slice Q.Ad p.Iq.length Q.cd,.slice Q.Ar p.Ir.length Q.cr,.slice (some ⟨b64,0,none⟩) 2 2]]) (fun q=>q.1≤l9.length∧q.2.length=i∧jq q.2 (l9.drop q.1) i=R9) (fun q=>l9.length - q.1) (⟨0,T2⟩) ?_ ?_ ?_ ?_
  ·exact⟨aw _,hTl2,hR9e⟩
  ·exact Zwk
  ·exact Zu
  rintro⟨k3,T3⟩ ⟨hk3,hTl3,hF3⟩;dsimp only at hk3 hTl3 hF3⊢;refine Z_6 ?_;refine ZW ?_ ?_<;>intro hc21
  ·simp only[ap]at hc21;have hkl:k3<l9.length:=(by omega);obtain⟨ad9,rfl⟩:=had9 (by omega);obtain⟨x,hx⟩:∃x,l9[k3]? =some x:=⟨_,ak hkl⟩;have hxb:=hb9 x (aK hx);rw[ji hx]at hF3;have hF3:jq (gc T3 x i) (l9.drop (k3+1)) i=R9:=hF3;refine Z_6 ?_;refine Zy (dk (j:=k3) rfl Zrf (Zv rfl) (Zv rfl) (fun _=>by omega) (fun _=>by omega)) ?_;refine dU (bM Zrf Zv0) (FO (fun w hi=>hR9 _ w hi Zh) (df hx)) rfl ?_;refine Z_9 ?_;refine dM (fx (lvF b3 A1 c1 T3) rfl rfl (fun _ _=>rfl) Zi (fun w hi hin=>BZ b3 A1 c1 T3 x p.code.length (fun h0=>by have:=hxb h0;omega) w hin)) rfl ?_;rintro _ _ ⟨_,rfl,rfl⟩;rw[show gc T3 x (p.code.length:Int)=gc T3 x i by rw[hN]];refine Z_4 ?_;refine Zy (cF Zv0 Zv0 Zl) ?_;refine Z_2 ?_;refine cz ((⟨k3+1,gc T3 x i⟩:Nat×List Int)) ?_ ?_ ?_
   ·exact⟨⟨by omega,by dsimp only;rw[nE,hTl3],hF3⟩,by dsimp only;omega⟩
   ·exact Zwk
   exact Zj
  simp only[aj]at hc21;obtain rfl:k3=l9.length:=by omega
  rw[List.drop_length]at hF3;obtain rfl:T3=R9:=hF3;refine Z_7 ?_;refine Zy (cF Zv0 Zv0 Zl) ?_;refine Z_2 ?_;refine cz ((⟨k2+1,T3⟩:Nat×List Int)) ?_ ?_ ?_
  ·exact⟨⟨by omega,hTl3,hF⟩,by dsimp only;omega⟩
  ·exact Zwk
  exact Zj
 simp only[aj]at hc18;obtain rfl:k2=3:=by omega
 obtain rfl:T2=gn p:=hF;refine gK ?_;refine Zrb ([lvC A1 c1 (gn p)]) ?_;exact⟨A1,c1,rfl,rfl⟩
end Go.Proofs.YtomjgmbccamgiaaGreatDoor
namespace Go.Ink
open Go.RowKit
theorem and64r(n:Nat)(hn:n≤64):bits .and .u64 (n:Int) 4294967295=n:=by
 have h:∀k:Fin 65,bits .and .u64 ((k.val:Nat):Int) 4294967295=((k.val:Nat):Int):=by decide+kernel
 exact h ⟨n,by omega⟩
theorem Hq(n:Nat)(hn:n≤64):(n:Int).fdiv (2^(min (32:Int).toNat IntKind.u64.bits))=0:=by
 show(n:Int).fdiv 4294967296=0;rw[Int.fdiv_eq_ediv_of_nonneg _ (by decide)];omega
theorem mul1r(n:Nat)(hn:n≤64):IntKind.u64.wrap (1*(n:Int))=n:=by rw[aW];omega
theorem mul0r(n:Nat):IntKind.u64.wrap (0*(n:Int))=0:=by rw[Int.zero_mul];rfl
def AJ(m n:Nat):List Value:=List.replicate m (.int .i64 (-1))++List.replicate (n - m) (.int .i64 0)
theorem vS{m n:Nat}:(AJ m n).take m=List.replicate m (.int .i64 (-1)):=by unfold AJ;rw[List.take_append_of_le_length (by simp),List.take_of_length_le (by simp)]
theorem rep0(n:Nat):(List.replicate n (.int .i64 0:Value)).take 0++(ints .i64 [-1]).take (min 1 n)++(List.replicate n (.int .i64 0)).drop (0+min 1 n)=AJ (min 1 n) n:=by
 unfold AJ;rw[List.take_zero,aR,List.drop_replicate,bo];cases n with
 |zero=>rfl
 |succ n=>rw[show min 1 (n+1)=1 by omega];rfl
theorem FH{m n:Nat}(h:m≤n):(AJ m n).take m++(List.replicate m (.int .i64 (-1):Value)).take (min m (n - m))++(AJ m n).drop (m+min m (n - m))=AJ (m+min m (n - m)) n:=by
 rw[vS,List.take_replicate,show min (min m (n - m)) m=min m (n - m) by omega];unfold AJ;rw[List.drop_append,aO,List.drop_of_length_le (by simp),aR,List.drop_replicate,List.replicate_append_replicate,show m+min m (n - m) - m=min m (n - m) by omega,show n - m - min m (n - m)=n - (m+min m (n - m)) by omega]
theorem FJ(n:Nat):AJ n n=ints .i64 (List.replicate n (-1)):=by unfold AJ;simp[ints]
theorem FI{m:Nat}:∀u∈List.replicate m (.int .i64 (-1):Value),u.oneCell'=true:=fun u h=>by
 obtain rfl:=List.eq_of_mem_replicate h;rfl
theorem RdV.head{w:World}{A:Option Addr}{n c m:Nat}{xs:List Value}(h:RdV w 1 A n c xs)(hm:m≤n):RdV w 1 A m c (xs.take m):=
 ⟨by rw[az,h.len];omega,by have:=h.cap;omega,h.max,fun e=>by have:=h.nil e;omega,fun ad e j u hu=>h.at_ ad e j u (by rw[List.getElem?_take]at hu;split at hu;exact hu;cases hu)⟩
end Go.Ink
namespace Go.Proofs.YtomjgmbccamgiaaGreatDoor
open Go.RowKit Go.Ink Go.Proofs.Tryz
attribute [local irreducible] OpY bW
theorem F9(n:Nat)(hn:n≤64)(w:World):Ctr prog 251 [.int .u64 1,.int .u64 n] w [] (fun r cs=>r= .tuple #[.int .u64 0,.int .u64 n]∧cs=[]):=by
 refine bL func251 rfl ntmps251 rfl (Inv.start w) ?_;refine Z_9 ?_;refine Zy (nw (Zv rfl) (Zv rfl) (show _=(1:Int)from rfl)) ?_;refine Z_6 ?_;refine Zy (jY (Zv rfl) (Zv rfl) (by omega) (show _=(0:Int)from rfl)) ?_;refine Z_6 ?_;refine Zy (nw Zv0 Zv0 (and64r n hn)) ?_;refine Z_6 ?_;refine Zy (jY (Zv rfl) (Zv rfl) (by omega) (Hq n hn)) ?_;refine Z_7 ?_;refine Zy (i3 Zv0 Zv0 (mul1r n hn)) ?_;refine Z_7 ?_;refine Zy (i3 Zv0 Zv0 (mul0r n)) ?_;refine ZA ?_;refine Zy (jY (Zv rfl) (Zv rfl) (by omega) (Hq n hn)) ?_;refine Zy (cF (Zv rfl) (Zv rfl) (show _=(0:Int)from rfl)) ?_;refine Z_6 ?_;refine Zy (nw (Zv rfl) (Zv rfl) (show _=(0:Int)from rfl)) ?_;refine Z_6 ?_;refine Zy (jY (Zv rfl) (Zv rfl) (by omega) (show _=(0:Int)from rfl)) ?_;refine Z_8 ?_;refine Zy (i3 (Zv rfl) (Zv rfl) (show _=(0:Int)from rfl)) ?_;refine Zy (cF (Zv rfl) (Zv rfl) (show _=(0:Int)from rfl)) ?_;refine Z_7 ?_;refine Zy (i3 (Zv rfl) (Zv rfl) (show _=(0:Int)from rfl)) ?_;refine ZA ?_;refine Zy (cF (Zv rfl) (Zv rfl) (show _=(0:Int)from rfl)) ?_;refine ZA ?_;refine Zy (jY (Zv rfl) (Zv rfl) (by omega) (show _=(0:Int)from rfl)) ?_;refine Zy (cF (Zv rfl) (Zv rfl) (show _=(0:Int)from rfl)) ?_;refine Z_7 ?_;refine Zy (i3 Zv0 Zv0 (mul1r n hn)) ?_;refine Z_4 ?_;refine fw (cs':=[]) (.inl rfl) Zu rfl rfl rfl ?_;exact⟨rfl,rfl⟩
theorem mul_ok(n:Nat)(hn:n≤64)(w:World):Ctr prog 230 [.int .u64 1,.int .u64 n] w [] (fun r cs=>r= .tuple #[.int .u64 0,.int .u64 n]∧cs=[]):=by
 refine bL func230 rfl ntmps230 rfl (Inv.start w) ?_;refine Z_7 ?_;refine bY rfl (rfl) ?_;refine Z_6 ?_;refine ZSe (fun w hi=>F9 n hn w) ?_;refine p5 ?_;refine fw (cs':=[]) (.inl rfl) Zu rfl rfl rfl ?_;exact⟨rfl,rfl⟩
theorem CD(n:Nat)(hn:n≤64)(A:Option Addr)(c:Nat)(w:World)(h:Rd w .i64 A 1 c [-1]):
  Ctr prog 193 [.slice A 1 c,.int .i64 n] w [] (fun r cs=>∃A',r= .slice A' n n∧cs=[sl .i64 3 A' n n (List.replicate n (-1))]):=by
 refine bL func193 rfl ntmps193 rfl (Inv.start w) ?_;refine gK ?_;refine bY rfl (aF (by omega)) ?_;refine Z_6 ?_;refine Zy (cu rfl rfl (Zv rfl) (show _=(1:Int)from rfl)) ?_;refine ZA ?_;refine Zy (cu rfl rfl (Zv rfl) (by first|exact IntWalk.u64_in _ ⟨by omega,by omega⟩|exact rfl)) ?_;refine ZSe (fun w hi=>mul_ok n hn w) ?_;refine xk ?_;refine bY rfl ((by simp;omega)) ?_;refine Z_5 ?_;refine Zy (cu rfl rfl Zv0 Zl) ?_;refine dM (jr (bytes:=8) (n:=n) rfl rfl rfl rfl rfl rfl rfl (by omega) (by simp only[maxLen];omega)) rfl ?_;rintro _ _ ⟨b30,rfl,rfl⟩;refine Z_7 ?_;refine dM (tf rfl rfl Za rfl rfl (fun w hi=>h.IB hi) cY (by omega)) rfl ?_;rintro _ _ ⟨rfl,rfl⟩;rw[rep0 n];refine Z_5 ?_;refine cJ (fun m:Nat=>[(7,.slice (some ⟨b30,0,none⟩) n n),(8,.int .i64 (m:Int))]) (fun m=>[slv 3 1 (some ⟨b30,0,none⟩) n n (AJ m n)]) (fun m=>m≤n∧(0<n→0<m)) (fun m=>n - m) ((min 1 n)) ?_ ?_ ?_ ?_
 ·exact⟨by omega,by omega⟩
 ·exact Zwk
 ·exact Zu
 rintro m ⟨hm,hm0⟩;refine Z_9 ?_;refine ZW ?_ ?_<;>intro hc8
 ·simp only[ap]at hc8;refine Z_3 ?_;refine cj ⟨fun j=>List.elem j [7],[]⟩ Zk ?_;refine ZE 0 ?_;refine ZE 1 ?_;refine ZE 2 ?_;refine cR 3 rfl Zk Zk Zk (kO (sz:=1) (lo:=m) (hi:=n) (r:=m) rfl Zrf (Zv rfl) (.inr ⟨_,_,rfl,(Zv rfl)⟩) (.inl ⟨rfl,rfl⟩) (by omega) (by omega) (by omega) (by omega)) rfl ?_;refine ZE 4 ?_;refine ZE 5 ?_;refine cR 6 rfl Zk Zk Zk (gL m rfl Zrf (Zv rfl) (Zv rfl) (fun _=>by first|rfl|omega) (fun _=>by omega)) rfl ?_;refine cE 7 Zk ?_;refine gu rfl rfl (tf rfl rfl Za rfl rfl (fun w hi=>vS▸(hi.rd (show Has _ (slv 3 1 (some ⟨b30,0,none⟩) n n (AJ m n))from Zh)).head hm) FI (by omega)) ZJ rfl ?_;rintro _ _ ⟨rfl,rfl⟩;rw[FH hm];refine cR 8 rfl Zk Zk Zk (cF Zv0 Zv0 Zl) rfl ?_;refine ZE 9 ?_;refine bO Zk ?_;refine Zo ?_;refine eh (m+min m (n - m)) ?_ ?_ ?_
  ·exact⟨⟨by omega,by omega⟩,by omega⟩
  ·exact Zwk
  exact Zu
 simp only[aj]at hc8;obtain rfl:m=n:=by omega
 refine gK ?_;refine Zrb ([slv 3 1 (some ⟨b30,0,none⟩) m m (AJ m m)]) ?_;exact⟨_,rfl,by rw[FJ]⟩
end Go.Proofs.YtomjgmbccamgiaaGreatDoor
namespace Go.Ink
open Go.RowKit
theorem mc{l:List Int}{i:Nat}(h:i<l.length):l[i]? =some (l.getD i 0):=by simp[ak h]
theorem DX{T l:List Int}{n k:Nat}(h:jO T l n (l.length - k) k=fM T l n)(hk:k≤l.length)(ht:fb T l n k l.length=true):k<l.length∧jO T l n (l.length - (k+1)) (k+1)=fM T l n:=by
 rcases Nat.lt_or_ge k l.length with h9|h9
 ·refine⟨h9,?_⟩;rw[show l.length - k=(l.length - (k+1))+1 by omega]at h;have h:(bif fb T l n k l.length then jO T l n (l.length - (k+1)) (k+1)else k)=fM T l n:=h;rwa[ht,ac]at h
 obtain rfl:k=l.length:=by omega
 rw[Nat.sub_self]at h;have h:l.length=fM T l n:=h;have:=(JG T l n).1;rw[←h,ht]at this;cases this
theorem GH{T l:List Int}{n k:Nat}(h:jO T l n (l.length - k) k=fM T l n)(hk:k≤l.length)(ht:fb T l n k l.length=false):fM T l n=k:=by
 rcases Nat.lt_or_ge k l.length with h9|h9
 ·rw[show l.length - k=(l.length - (k+1))+1 by omega]at h;have h:(bif fb T l n k l.length then jO T l n (l.length - (k+1)) (k+1)else k)=fM T l n:=h;rw[ht,aa]at h;exact h.symm
 obtain rfl:k=l.length:=by omega
 rw[Nat.sub_self]at h;exact h.symm
end Go.Ink
namespace Go.Proofs.YtomjgmbccamgiaaGreatDoor
open Go.RowKit Go.Ink Go.Proofs.Tryz
attribute [local irreducible] OpY bW
structure SAd where
 Ar:Option Addr
 cr:Nat
 As:Option Addr
 cs:Nat
 Av:Option Addr
 cv:Nat
abbrev scR(b:Nat)(X:SAd)(N:Nat)(IM:Int):bJ:=row b [.slice X.Ar N X.cr,.slice X.As N X.cs,.int .i64 IM,.slice X.Av N X.cv] 325
theorem zt(b:Nat)(X:SAd)(N:Nat)(IM:Int)(T l:List Int)(hT:T.length=N)(hl:l.length=N)(hN:N≤64)(A:Option Addr)(c:Nat)(n:Nat)(hn:n<N)(w:World)(h:(scR b X N IM).ok w)(h2:Rd w .i64 A N c l)(h3:RdV w 3 X.Av N X.cv (fB 0 T)):
  Ctr prog 195 [.pointer (some ⟨b,0,none⟩),.slice A N c,.int .i64 n] w [] (fun r cs=>r= .int .i64 (fM T l n)∧cs=[]):=by
 obtain⟨av,hav⟩:=h3.some_ (by omega);rw[hav]at h3;have hxn:T[n]? =some (T.getD n 0):=mc (by omega);refine bL func195 rfl ntmps195 rfl (Inv.start w) ?_;refine eo ?_;refine cJ (fun k:Nat=>[(0,.pointer (some ⟨b,0,none⟩)),(1,.slice A N c),(2,.int .i64 n),(7,.int .i64 (k:Int))]) (fun _=>[]) (fun k=>k≤N∧jO T l n (l.length - k) k=fM T l n) (fun k=>N+1 - k) (0) ?_ ?_ ?_ ?_
 ·exact⟨aw _,rfl⟩
 ·exact Zwk
 ·exact Zu
 rintro k ⟨hk,hF⟩;refine p5 ?_;refine cJ (fun j:Nat=>[(0,.pointer (some ⟨b,0,none⟩)),(1,.slice A N c),(2,.int .i64 n),(7,.int .i64 (k:Int)),(8,.bool (fb T l n k j)),(13,.slice A N c),(14,.int .i64 N),(15,.int .i64 (j:Int))]) (fun _=>[]) (fun j=>j≤N) (fun j=>N - j) (0) ?_ ?_ ?_ ?_
 ·exact aw _
 ·exact Zwk
 ·exact Zu
 rintro j hj;refine Z_6 ?_;refine ZW ?_ ?_<;>intro hc5
 ·simp only[ap]at hc5;have hjN:j<N:=(by omega);obtain⟨ad,rfl⟩:=h2.some_ (by omega);have hx:l[j]? =some (l.getD j 0):=mc (by omega);have hxj:T[j]? =some (T.getD j 0):=mc (by omega);refine Z_7 ?_;refine Zy (dk (j:=j) rfl Zrf (Zv rfl) (Zv rfl) (fun _=>by omega) (fun _=>by omega)) ?_;refine dU (bM Zrf Zv0) (fe h2 (df hx)) rfl ?_;refine Z_4 ?_;refine cj ⟨fun j=>List.elem j [],[]⟩ Zk ?_;refine ZE 0 ?_;refine ZE 1 ?_;refine ZF 2 ?_;refine ZF 3 ?_;refine ZF 4 ?_;refine ZF 5 ?_;refine ZF 6 ?_;refine ZF 7 ?_;refine ZFf 8 3 ?_;refine BV 9 rfl Zk Zk Zk Zk (fE rfl rfl) (bM Zrf (dc rfl)) (dL h rfl) rfl ?_;refine ZF 10 ?_;refine wa_y 11 rfl Zk Zk Zk (fE rfl rfl) (eV (j:=j) hav rfl Zrf (dc rfl) (dc rfl) Zrf (fun _=>hjN)) rfl ?_;refine BV 12 rfl Zk Zk Zk Zk (fE rfl rfl) (cC (vs:=[.int .i64 j,.int .i64 j,.int .i64 (T.getD j 0)]) Zrf Zrf (dc rfl)) (fC h3 (fun i v hv=>jH T 0 j hxj (by rw[bo];exact hv))) rfl ?_;refine ZF 13 ?_;refine ZF 14 ?_;refine ZFf 15 3 ?_;refine BV 16 rfl Zk Zk Zk Zk (fE rfl rfl) (bM Zrf (dc rfl)) (dL h rfl) rfl ?_;refine ZF 17 ?_;refine wa_y 18 rfl Zk Zk Zk (fE rfl rfl) (eV (j:=n) hav rfl Zrf (dc rfl) (dc rfl) Zrf (fun _=>hn)) rfl ?_;refine BV 19 rfl Zk Zk Zk Zk (fE rfl rfl) (cC (vs:=[.int .i64 n,.int .i64 n,.int .i64 (T.getD n 0)]) Zrf Zrf (dc rfl)) (fC h3 (fun i v hv=>jH T 0 n hxn (by rw[bo];exact hv))) rfl ?_;refine cE 20 Zk ?_;refine yE rfl (fE rfl rfl) (.cons (dc rfl) (.cons (dc rfl) .nil)) (fun _ _=>rfl) (fun hg w hi=>Db T j n w) rfl ?_;refine ZF 21 ?_;refine ZE 22 ?_;refine ZE 23 ?_;refine bO Zk ?_;refine Z_3 ?_;refine Zy (cF Zv0 Zv0 Zl) ?_;refine Z_2 ?_;refine eh (j+1) ?_ ?_ ?_
  ·exact⟨hjN,by omega⟩
  ·exact Zwk
  exact Zu
 simp only[aj]at hc5;obtain rfl:j=N:=by omega
 refine eo ?_;refine ZW ?_ ?_<;>intro hc9
 ·have htk:fb T l n k l.length=false:=(by rw[hl];simpa using hc9);refine eo ?_;refine Zra ?_;exact⟨by rw[GH hF (by omega) htk],rfl⟩
 have htk:fb T l n k l.length=true:=(by rw[hl];simpa using hc9);obtain⟨hk2,hF2⟩:=DX hF (by omega) htk;refine Z_5 ?_;refine Zy (cF Zv0 Zv0 Zl) ?_;refine Z_2 ?_;refine eh (k+1) ?_ ?_ ?_
 ·exact⟨⟨by omega,hF2⟩,by omega⟩
 ·exact Zwk
 exact Zu
end Go.Proofs.YtomjgmbccamgiaaGreatDoor
namespace Go.Ink
open Go.RowKit
theorem lZ{k:IntKind}(l:List Int)(n:Nat)(v:Int):(ints k l).set n (.int k v)=ints k (l.set n v):=by unfold ints;rw[List.map_set]
end Go.Ink
namespace Go.Proofs.YtomjgmbccamgiaaGreatDoor
open Go.RowKit Go.Ink Go.Proofs.Tryz
attribute [local irreducible] OpY bW
structure SBk where
 br:Nat
 cr:Nat
 bs:Nat
 cs:Nat
 bv:Nat
 cv:Nat
abbrev SBk.X(Y:SBk):SAd:=⟨some ⟨Y.br,0,none⟩,Y.cr,some ⟨Y.bs,0,none⟩,Y.cs,some ⟨Y.bv,0,none⟩,Y.cv⟩
abbrev scF(b:Nat)(X:SAd)(N:Nat)(T:List Int)(pl:Pl):List bJ:=[scR b X N pl.IM,sl .i64 3 X.Ar N X.cr pl.reg,sl .i64 3 X.As N X.cs pl.slot,slv 327 3 X.Av N X.cv (fB 0 T)]
theorem yM(b br cr bs cs bv cv:Nat)(N:Nat)(T:List Int)(pl:Pl)(hT:T.length=N)(hrl:pl.reg.length=N)(hsl:pl.slot.length=N)(hN:N≤64)(n:Nat)(hn:n<N)(w:World)(hi:Inv w (bK (scF b ⟨some ⟨br,0,none⟩,cr,some ⟨bs,0,none⟩,cs,some ⟨bv,0,none⟩,cv⟩ N T pl)) (scF b ⟨some ⟨br,0,none⟩,cr,some ⟨bs,0,none⟩,cs,some ⟨bv,0,none⟩,cv⟩ N T pl) w):
  Ctr prog 197 [.pointer (some ⟨b,0,none⟩),.int .i64 n] w (scF b ⟨some ⟨br,0,none⟩,cr,some ⟨bs,0,none⟩,cs,some ⟨bv,0,none⟩,cv⟩ N T pl) (fun _ c=>c=scF b ⟨some ⟨br,0,none⟩,cr,some ⟨bs,0,none⟩,cs,some ⟨bv,0,none⟩,cv⟩ N T (kj T pl n)):=by
 obtain⟨reg,slot,IM⟩:=pl;dsimp only at hrl hsl;have hfl:=(JG T slot n).2.1;obtain⟨f,hf⟩:=Zgn (fM T slot n);have hsp:kj T ⟨reg,slot,IM⟩ n=⟨reg.set n (-1),slot.set n f,if(f:Int)+1>IM then(f:Int)+1 else IM⟩:=by unfold kj;rw[hf]
 have hFr:=zt b ⟨some ⟨br,0,none⟩,cr,some ⟨bs,0,none⟩,cs,some ⟨bv,0,none⟩,cv⟩ N IM T slot hT hsl hN (some ⟨bs,0,none⟩) cs n hn;rw[hf]at hFr hfl;rw[hsp];have hx:(slot.set n (f:Int))[n]? =some (f:Int):=by rw[List.getElem?_set_self (by omega)]
 refine bL func197 rfl ntmps197 rfl hi ?_;refine Z_8 ?_;refine Zy (cI (j:=n) (sz:=1) (r:=n) rfl Zrf (Zv rfl) (Zv rfl) (fun _=>by omega) (fun _=>by omega) (by omega)) ?_;refine dz (gi Zrf rfl rfl rfl Za (by omega)) ?_;rintro _ _ ⟨rfl,rfl⟩;rw[lZ];refine Z_3 ?_;refine cj ⟨fun j=>List.elem j [15],[]⟩ Zk ?_;refine ZE 0 ?_;refine ZE 1 ?_;refine ZFe 2 0 ?_;refine ZFe 3 1 ?_;refine ZG 4 ?_;refine ZE 5 ?_;refine ZE 6 ?_;refine ZE 7 ?_;refine ZE 8 ?_;refine ZFe 9 0 ?_;refine ZFe 10 1 ?_;refine ZG 11 ?_;refine ZE 12 ?_;refine cE 13 Zk ?_;refine ZT (fun w hi=>hFr w (hi.get Zh) (dq (hi.get (show Has _ (sl .i64 3 (some ⟨bs,0,none⟩) N cs slot)from Zh))) (dq (hi.get (show Has _ (slv 327 3 (some ⟨bv,0,none⟩) N cv (fB 0 T))from Zh)))) ?_;rintro _ _ ⟨_,⟨rfl,rfl⟩,rfl⟩;refine cR 14 rfl Zk Zk Zk (cI (j:=n) (sz:=1) (r:=n) rfl Zrf (Zv rfl) (Zv rfl) Zrf (fun _=>hn) (by omega)) rfl ?_;refine cE 15 Zk ?_;refine dC rfl rfl (gi Zrf rfl rfl rfl Za (by omega)) ZJ ?_;rintro _ _ ⟨rfl,rfl⟩;rw[lZ];refine bO Zk ?_;refine Zt (cj ⟨fun j=>List.elem j [19],[]⟩ Zk ?_);refine ZE 0 ?_;refine ZE 1 ?_;refine ZE 2 ?_;refine ZFe 3 0 ?_;refine ZFe 4 2 ?_;refine ZG 5 ?_;refine ZE 6 ?_;refine ZE 7 ?_;refine ZFe 8 0 ?_;refine ZFe 9 1 ?_;refine ZG 10 ?_;refine ZE 11 ?_;refine cR 12 rfl Zk Zk Zk (cI (j:=n) (sz:=1) (r:=n) rfl Zrf (Zv rfl) (Zv rfl) Zrf (fun _=>hn) (by omega)) rfl ?_;refine eQ 13 rfl Zk Zk Zk Zk (bM Zrf Zv0) (dE Zh (df hx)) rfl ?_;refine cR 14 rfl Zk Zk Zk (cF Zv0 Zv0 Zl) rfl ?_;refine cR 15 rfl Zk Zk Zk (zX Zv0 Zv0 rfl) rfl ?_;refine ZE 16 ?_;refine ZFe 17 0 ?_;refine ZFe 18 2 ?_;refine cE 19 Zk ?_;refine ZQ ?_;refine bO Zk ?_;refine fL (cs':=[row _ _ _,slv _ _ _ _ _ _,slv _ _ _ _ _ _,slv _ _ _ _ _ _]) (.inr rfl) Zu rfl ?_
 rfl
end Go.Proofs.YtomjgmbccamgiaaGreatDoor
namespace Go.Ink
open Go.RowKit
theorem lO(T:List Int)(IF:Int)(N:Nat):∀n,(gS T IF N n).reg.length=N∧(gS T IF N n).slot.length=N
 |0=>⟨by simp[gS],by simp[gS]⟩
 |n+1=>by
  obtain⟨h1,h2⟩:=lO T IF N n;show(lK T IF (gS T IF N n) n).reg.length=N∧(lK T IF (gS T IF N n) n).slot.length=N;unfold lK kj;cases decide (((fM T (gS T IF N n).reg n:Nat):Int)<IF)<;>cases(gm T (gS T IF N n).reg n n !=n)<;>simp[h1,h2]
end Go.Ink
namespace Go.Proofs.YtomjgmbccamgiaaGreatDoor
open Go.RowKit Go.Ink Go.Proofs.Tryz
attribute [local irreducible] OpY bW
theorem AI(v:Int)(n:Nat)(hv:v=n)(hn:n≤64)(A:Option Addr)(c:Nat)(w:World)(h:Rd w .i64 A 1 c [-1]):
  Ctr prog 193 [.slice A 1 c,.int .i64 v] w [] (fun r cs=>∃A',r= .slice A' n n∧cs=[sl .i64 3 A' n n (List.replicate n (-1))]):=by
 subst hv;exact CD n hn A c w h
theorem lofN_ok(p:Pg)(Q:PAd)(hf:qr p)(hr:p.Iw=true)(T:List Int)(N:Nat)(hT:gn p=T)(hN:T.length=N)(w:World)(h:zT p Q w):
  Ctr prog 194 [pgv p Q] w [] (fun r cs=>∃A c,r= .slice A N c∧cs=[slv 327 3 A N c (fB 0 T)]):=by
 subst hT hN;exact lof_ok p Q hf hr w h
abbrev Ic(b:Nat):bJ:=row b [.slice none 0 0,.slice none 0 0,.int .i64 0] 271
theorem Hd(p:Pg)(Q:PAd)(hf:qr p)(hr:p.Iw=true)(w:World)(h:zT p Q w):
  Ctr prog 147 [pgv p Q,.int .i64 7] w [] (fun r cs=>∃Ar cr As c2,r= .tuple #[.agg #[.slice Ar p.code.length cr,.slice As p.code.length c2,.int .i64 (dP p).IM],.int .i64 0]∧cs=[sl .i64 3 Ar p.code.length cr (dP p).reg,sl .i64 3 As p.code.length c2 (dP p).slot]):=by
 have hv3:p.values=p.code.length:=hf.IQ;have hm64:=hf.IE;have hpl:dP p=gS (gn p) 7 p.code.length p.code.length:=rfl;have hTl:=Gm p;obtain⟨T,hT⟩:=Zgn (gn p);rw[hT]at hpl hTl;have hlo:=lofN_ok p Q hf hr T _ hT hTl;have hrp:=AI p.values p.code.length hv3 hm64;have hpl0:gS T 7 p.code.length 0=⟨List.replicate p.code.length (-1),List.replicate p.code.length (-1),0⟩:=rfl;rw[hpl];obtain⟨N,hN⟩:=Zgn (p.code.length);rw[hN]at hlo hTl hrp hpl0 hm64⊢;have hlens:=lO T 7 N;have hst:∀k,gS T 7 N (k+1)=lK T 7 (gS T 7 N k) k:=fun _=>rfl
 refine bL func147 rfl ntmps147 rfl (Inv.start w) ?_;refine Z_2 ?_;refine ZO fun b2=>?_;refine ZN fun b4=>?_
 refine Z_7 ?_;refine ZSe (fun w hi=>rO p Q hf w (h.IB hi)) ?_;rw[hr];refine Z_3 ?_;refine dX (bS rfl rfl) (.cons (dc rfl) .nil) (fun _ _=>rfl) (fun hg w hi=>vT w) rfl ?_;refine Z_4 ?_;refine bY rfl (rfl) ?_;refine Z_2 ?_;refine de (fun q:Nat×SAd=>[(1,.int .i64 7),(2,.pointer (some ⟨b2,0,none⟩)),(4,.pointer (some ⟨b4,0,none⟩)),(5,.int .i64 0),(6,.pointer (some ⟨q.1,0,none⟩))]) (fun q=>[row b4 [.slice none 0 0,.slice none 0 0,.int .i64 0] 271,scR q.1 q.2 N 0,sl .i64 3 q.2.Ar N q.2.cr (List.replicate N (-1)),sl .i64 3 q.2.As N q.2.cs (List.replicate N (-1)),slv 327 3 q.2.Av N q.2.cv (fB 0 T)]) (fun _=>True) ?_ ?_
 ·refine cj ⟨fun j=>List.elem j [],[]⟩ Zk ?_;refine ZFe 1 13 ?_;refine ZG 2 ?_;refine ZFe 5 13 ?_;refine ZG 6 ?_;refine ZI 9 ?_;refine j4 0 4 Zk ?_ ?_
  ·refine gu rfl rfl (cm rfl rfl Zrf Zrf rfl rfl) ZJ rfl ?_;rintro _ _ ⟨b22,rfl,rfl⟩;refine j4 3 4 Zk ?_ ?_
   ·refine ZT (fun w hi=>hrp (some ⟨b22,0,none⟩) 1 w (hi.rd (show Has _ (slv 3 1 (some ⟨b22,0,none⟩) 1 1 (ints .i64 [-1]))from Zh))) ?_;rintro _ _ ⟨_,⟨Ar,rfl,rfl⟩,rfl⟩;refine cE 4 Zk ?_;refine gu rfl rfl (cm rfl rfl Zrf Zrf rfl rfl) ZJ rfl ?_;rintro _ _ ⟨b26,rfl,rfl⟩;refine cE 7 Zk ?_;refine ZT (fun w hi=>hrp (some ⟨b26,0,none⟩) 1 w (hi.rd (show Has _ (slv 3 1 (some ⟨b26,0,none⟩) 1 1 (ints .i64 [-1]))from Zh))) ?_;rintro _ _ ⟨_,⟨As,rfl,rfl⟩,rfl⟩;refine ZE 8 ?_;refine cE 10 Zk ?_;refine ZT (fun w hi=>hlo w (h.IB hi)) ?_;rintro _ _ ⟨_,⟨Av,cv,rfl,rfl⟩,rfl⟩;refine ZE 11 ?_;refine cE 12 Zk ?_;refine gu rfl rfl (qX rfl rfl) ZJ rfl ?_;rintro _ _ ⟨b34,rfl,rfl⟩;refine ZE 13 ?_;refine bO Zk ?_;refine cz (((b34,⟨Ar,N,As,N,Av,cv⟩):Nat×SAd)) ?_ ?_ ?_
    ·trivial
    ·exact Zwk
    exact Zj
   refine gu rfl rfl (cm rfl rfl Zrf Zrf rfl rfl) ZJ rfl ?_;rintro _ _ ⟨b26,rfl,rfl⟩;refine cE 3 Zk ?_;refine ZT (fun w hi=>hrp (some ⟨b22,0,none⟩) 1 w (hi.rd (show Has _ (slv 3 1 (some ⟨b22,0,none⟩) 1 1 (ints .i64 [-1]))from Zh))) ?_;rintro _ _ ⟨_,⟨Ar,rfl,rfl⟩,rfl⟩;refine cE 7 Zk ?_;refine ZT (fun w hi=>hrp (some ⟨b26,0,none⟩) 1 w (hi.rd (show Has _ (slv 3 1 (some ⟨b26,0,none⟩) 1 1 (ints .i64 [-1]))from Zh))) ?_;rintro _ _ ⟨_,⟨As,rfl,rfl⟩,rfl⟩;refine ZE 8 ?_;refine cE 10 Zk ?_;refine ZT (fun w hi=>hlo w (h.IB hi)) ?_;rintro _ _ ⟨_,⟨Av,cv,rfl,rfl⟩,rfl⟩;refine ZE 11 ?_;refine cE 12 Zk ?_;refine gu rfl rfl (qX rfl rfl) ZJ rfl ?_;rintro _ _ ⟨b34,rfl,rfl⟩;refine ZE 13 ?_;refine bO Zk ?_;refine cz (((b34,⟨Ar,N,As,N,Av,cv⟩):Nat×SAd)) ?_ ?_ ?_
   ·trivial
   ·exact Zwk
   exact Zj
  refine gu rfl rfl (cm rfl rfl Zrf Zrf rfl rfl) ZJ rfl ?_;rintro _ _ ⟨b26,rfl,rfl⟩;refine cE 0 Zk ?_;refine gu rfl rfl (cm rfl rfl Zrf Zrf rfl rfl) ZJ rfl ?_;rintro _ _ ⟨b22,rfl,rfl⟩;refine cE 3 Zk ?_;refine ZT (fun w hi=>hrp (some ⟨b22,0,none⟩) 1 w (hi.rd (show Has _ (slv 3 1 (some ⟨b22,0,none⟩) 1 1 (ints .i64 [-1]))from Zh))) ?_;rintro _ _ ⟨_,⟨Ar,rfl,rfl⟩,rfl⟩;refine cE 7 Zk ?_;refine ZT (fun w hi=>hrp (some ⟨b26,0,none⟩) 1 w (hi.rd (show Has _ (slv 3 1 (some ⟨b26,0,none⟩) 1 1 (ints .i64 [-1]))from Zh))) ?_;rintro _ _ ⟨_,⟨As,rfl,rfl⟩,rfl⟩;refine ZE 8 ?_;refine cE 10 Zk ?_;refine ZT (fun w hi=>hlo w (h.IB hi)) ?_;rintro _ _ ⟨_,⟨Av,cv,rfl,rfl⟩,rfl⟩;refine ZE 11 ?_;refine cE 12 Zk ?_;refine gu rfl rfl (qX rfl rfl) ZJ rfl ?_;rintro _ _ ⟨b34,rfl,rfl⟩;refine ZE 13 ?_;refine bO Zk ?_;refine cz (((b34,⟨Ar,N,As,N,Av,cv⟩):Nat×SAd)) ?_ ?_ ?_
  ·trivial
  ·exact Zwk
  exact Zj
 rintro⟨b6,X⟩ -;dsimp only;refine gK ?_;refine cJ (fun k:Nat=>[(1,.int .i64 7),(2,.pointer (some ⟨b2,0,none⟩)),(4,.pointer (some ⟨b4,0,none⟩)),(5,.int .i64 0),(6,.pointer (some ⟨b6,0,none⟩)),(38,.slice X.Av N X.cv),(39,.int .i64 N),(40,.int .i64 (k:Int))]) (fun k=>Ic b4::scF b6 X N T (gS T 7 N k)) (fun k=>k≤N) (fun k=>N - k) (0) ?_ ?_ ?_ ?_
 ·exact aw _
 ·exact Zwk
 ·exact Zu
 rintro k hk;obtain⟨hrl,hsl⟩:=hlens k;have hstk:=hst k;obtain⟨pl,hplk⟩:=Zgn (gS T 7 N k);rw[hplk]at hrl hsl hstk;dsimp only;rw[hplk];refine Z_6 ?_;refine ZW ?_ ?_<;>intro hc5
 ·simp only[ap]at hc5;have hkN:k<N:=(by omega);have hxk:T[k]? =some (T.getD k 0):=mc (by omega);have hfl:=(JG T pl.reg k).2.1;obtain⟨f,hfe⟩:=Zgn (fM T pl.reg k);rw[hfe]at hfl;refine Z_6 ?_;refine jC (fun w hi=>gj (hi.get (show Has _ (sl .i64 3 X.Ar N X.cr pl.reg)from Zh)) (by omega)) (fun h1=>?_);refine jC (fun w hi=>gj (hi.get (show Has _ (sl .i64 3 X.As N X.cs pl.slot)from Zh)) (by omega)) (fun h2=>?_);refine jC (fun w hi=>hI (hi.get (show Has _ (slv 327 3 X.Av N X.cv (fB 0 T))from Zh)) (by omega)) (fun h3=>?_);refine jC (fun w hi=>(dq (hi.get (show Has _ (slv 327 3 X.Av N X.cv (fB 0 T))from Zh))).cap) (fun h4=>?_);obtain⟨Ar,cr,As,c2,Av,cv⟩:=X;dsimp only at h1 h2 h3 h4⊢;obtain⟨br,rfl⟩:=h1;obtain⟨bs,rfl⟩:=h2;obtain⟨bv,rfl⟩:=h3;have hFr:=zt b6 ⟨some ⟨br,0,none⟩,cr,some ⟨bs,0,none⟩,c2,some ⟨bv,0,none⟩,cv⟩ N pl.IM T pl.reg hTl hrl hm64 (some ⟨br,0,none⟩) cr k hkN;rw[hfe]at hFr;refine ZA ?_;refine Zy (dk (j:=k) rfl Zrf (Zv rfl) (Zv rfl) (fun _=>by omega) (fun _=>by omega)) ?_;refine dU (cC (vs:=[.int .i64 k,.int .i64 k,.int .i64 (T.getD k 0)]) Zrf Zrf (Zv rfl)) (vL Zh (fun i v hv=>jH T 0 k hxk (by rw[bo];exact hv))) rfl ?_;refine ZN fun b8=>?_
  refine ZA ?_;refine ZM ?_;refine eo ?_;refine ZSe (fun w hi=>hFr w (hi.get Zh) (dq (hi.get (show Has _ (sl .i64 3 (some ⟨br,0,none⟩) N cr pl.reg)from Zh))) (dq (hi.get (show Has _ (slv 327 3 (some ⟨bv,0,none⟩) N cv (fB 0 T))from Zh)))) ?_;refine eo ?_;refine ZW ?_ ?_<;>intro hc8
  ·have hsc:lK T 7 pl k=⟨pl.reg.set k f,pl.slot,pl.IM⟩:=(by unfold lK;rw[hfe,hc8,ac]);rw[hsc]at hstk;refine Z_9 ?_;refine Zy (cI (j:=k) (sz:=1) (r:=k) rfl Zrf (Zv rfl) (Zv rfl) (fun _=>by omega) (fun _=>by omega) (by omega)) ?_;refine dz (gi Zrf rfl rfl rfl Za (by omega)) ?_;rintro _ _ ⟨rfl,rfl⟩;rw[lZ];refine Z_7 ?_;refine Zy (cF Zv0 Zv0 Zl) ?_;refine Z_2 ?_;refine cz (k+1) ?_ ?_ ?_
   ·exact⟨hkN,by omega⟩
   ·exact Zwk
   exact(show xe _ _ from by(try dsimp only);rw[hstk];exact Zj)
  have hsc:lK T 7 pl k=(bif(gm T pl.reg k k !=k)then kj T ⟨pl.reg.set k (pl.reg.getD (gm T pl.reg k k) 0),pl.slot,pl.IM⟩ (gm T pl.reg k k)else kj T pl k):=(by unfold lK;rw[hfe,hc8,aa]);rw[hsc]at hstk;refine p5 ?_;refine Zy (gL (A:=some ⟨bv,0,none⟩) (n:=N) (c:=cv) k rfl Zrf (Zv rfl) (Zv rfl) Zrf (fun _=>by omega)) ?_;refine Z_5 ?_;refine cJ (fun j:Nat=>[(1,.int .i64 7),(2,.pointer (some ⟨b2,0,none⟩)),(4,.pointer (some ⟨b4,0,none⟩)),(5,.int .i64 0),(6,.pointer (some ⟨b6,0,none⟩)),(7,.int .i64 k),(8,.pointer (some ⟨b8,0,none⟩)),(10,.int .i64 (gm T pl.reg k j:Nat)),(38,.slice (some ⟨bv,0,none⟩) N cv),(39,.int .i64 N),(40,.int .i64 (k:Int)),(70,.slice (some ⟨bv,0,none⟩) k cv),(71,.int .i64 k),(72,.int .i64 (j:Int))]) (fun j=>[Ic b4,scR b6 ⟨some ⟨br,0,none⟩,cr,some ⟨bs,0,none⟩,c2,some ⟨bv,0,none⟩,cv⟩ N pl.IM,sl .i64 3 (some ⟨br,0,none⟩) N cr pl.reg,sl .i64 3 (some ⟨bs,0,none⟩) N c2 pl.slot,slv 327 3 (some ⟨bv,0,none⟩) N cv (fB 0 T),row b8 [.int .i64 k,.int .i64 k,.int .i64 (T.getD k 0)] 327]) (fun j=>j≤k) (fun j=>k - j) (0) ?_ ?_ ?_ ?_
  ·exact aw _
  ·exact Zwk
  ·exact Zu
  rintro j hj;have hL:gm T pl.reg k j≤k:=(by rcases rI T pl.reg k j with h|⟨h, -⟩<;>omega);have hLs:gm T pl.reg k (j+1)=bif((pl.reg.getD j 0 != -1)&&lS T k j)&&decide (T.getD (gm T pl.reg k j) 0<T.getD j 0)then j else gm T pl.reg k j:=rfl
  obtain⟨L,hLe⟩:=Zgn (gm T pl.reg k j);rw[hLe]at hL hLs;dsimp only;rw[hLe];refine Z_6 ?_;refine ZW ?_ ?_<;>intro hc12
  ·simp only[ap]at hc12;have hjk:j<k:=(by omega);have hxj:T[j]? =some (T.getD j 0):=mc (by omega);have hxL:T[L]? =some (T.getD L 0):=mc (by omega);have hxr:pl.reg[j]? =some (pl.reg.getD j 0):=mc (by omega);refine Z_7 ?_;refine Zy (dk (j:=j) rfl Zrf (Zv rfl) (Zv rfl) (fun _=>by omega) (fun _=>by omega)) ?_;refine dU (cC (vs:=[.int .i64 j,.int .i64 j,.int .i64 (T.getD j 0)]) Zrf Zrf (Zv rfl)) (vL Zh (fun i v hv=>jH T 0 j hxj (by rw[bo];exact hv))) rfl ?_;refine ZN fun b12=>?_
   refine ZA ?_;refine ZM ?_;refine Z_3 ?_;refine cj ⟨fun j=>List.elem j [],[]⟩ Zk ?_;refine ZE 0 ?_;refine ZE 1 ?_;refine ZFe 2 0 ?_;refine ZFe 3 0 ?_;refine ZG 4 ?_;refine ZE 5 ?_;refine cR 6 rfl Zk Zk Zk (cI (j:=j) (sz:=1) (r:=j) rfl Zrf (Zv rfl) (Zv rfl) Zrf (fun _=>by omega) (by omega)) rfl ?_;refine eQ 7 rfl Zk Zk Zk Zk (bM Zrf Zv0) (dE Zh (df hxr)) rfl ?_;refine ZE 8 ?_;refine ZE 9 ?_;refine qS 10 rfl Zk Zk Zk Zk (bP rfl rfl) Zh Zrf Zrf (Zv rfl) rfl ?_;refine qS 11 rfl Zk Zk Zk Zk (bP rfl rfl) Zh Zrf Zrf (Zv rfl) rfl ?_;refine cE 12 Zk ?_;refine yE rfl (bP rfl rfl) (.cons (dc rfl) (.cons (dc rfl) .nil)) (fun _ _=>rfl) (fun hg w hi=>Db T k j w) rfl ?_;refine ZE 13 ?_;refine ZE 14 ?_;refine ZFf 15 2 ?_;refine BV 16 rfl Zk Zk Zk Zk (bP rfl rfl) (bM Zrf (dc rfl)) (bR Zh rfl) rfl ?_;refine ZF 17 ?_;refine ZF 18 ?_;refine ZFf 19 3 ?_;refine BV 20 rfl Zk Zk Zk Zk (bP rfl rfl) (bM Zrf (dc rfl)) (bR Zh rfl) rfl ?_;refine ZF 21 ?_;refine wa_y 22 rfl Zk Zk Zk (bP rfl rfl) (cI (bb:=bv) (o:=0) (n:=N) (c:=cv) (j:=L) (sz:=3) (r:=L*3) rfl Zrf (dc rfl) (dc rfl) Zrf (fun _=>by omega) (by omega)) rfl ?_;refine ZFf 23 2 ?_;refine BV 24 rfl Zk Zk Zk Zk (bP rfl rfl) (bM Zrf (dc rfl)) (yS Zh (jH T 0 L (j:=2) hxL rfl)) rfl ?_;refine ZF 25 ?_;refine ZE 26 ?_;refine bO Zk ?_;refine Zt ?_;refine ZW ?_ ?_<;>intro hc14
   ·rw[hc14,ac]at hLs;refine Z_7 ?_;refine Zy (cF Zv0 Zv0 Zl) ?_;refine Z_2 ?_;refine cz (j+1) ?_ ?_ ?_
    ·exact⟨hjk,by omega⟩
    ·exact Zwk
    exact Zj
   rw[hc14,aa]at hLs;refine Z_4 ?_;refine Zy (cF Zv0 Zv0 Zl) ?_;refine Z_2 ?_;refine cz (j+1) ?_ ?_ ?_
   ·exact⟨hjk,by omega⟩
   ·exact Zwk
   exact Zj
  simp only[aj]at hc12;obtain rfl:j=k:=by omega
  rw[hLe]at hstk;refine jW ?_;refine ZW ?_ ?_<;>intro hc17
  ·have hne:(L !=j)=true:=(by rw[bne_iff_ne]at hc17⊢;omega);rw[hne,ac]at hstk;have hxr:pl.reg[L]? =some (pl.reg.getD L 0):=mc (by omega);refine cj ⟨fun j=>List.elem j [15],[]⟩ Zk ?_;refine ZE 0 ?_;refine ZE 1 ?_;refine ZFe 2 0 ?_;refine ZFe 3 0 ?_;refine ZG 4 ?_;refine ZE 5 ?_;refine ZE 6 ?_;refine ZE 7 ?_;refine ZFe 8 0 ?_;refine ZFe 9 0 ?_;refine ZG 10 ?_;refine ZE 11 ?_;refine cR 12 rfl Zk Zk Zk (cI (j:=L) (sz:=1) (r:=L) rfl Zrf (Zv rfl) (Zv rfl) Zrf (fun _=>by omega) (by omega)) rfl ?_;refine eQ 13 rfl Zk Zk Zk Zk (bM Zrf Zv0) (dE Zh (df hxr)) rfl ?_;refine cR 14 rfl Zk Zk Zk (cI (j:=j) (sz:=1) (r:=j) rfl Zrf (Zv rfl) (Zv rfl) Zrf (fun _=>by omega) (by omega)) rfl ?_;refine cE 15 Zk ?_;refine dC rfl rfl (gi Zrf rfl rfl rfl Za (by omega)) ZJ ?_;rintro _ _ ⟨rfl,rfl⟩;rw[lZ];refine bO Zk ?_;refine Z_4 ?_;refine ZcL (scF b6 ⟨some ⟨br,0,none⟩,cr,some ⟨bs,0,none⟩,c2,some ⟨bv,0,none⟩,cv⟩ N T ⟨pl.reg.set j (pl.reg.getD L 0),pl.slot,pl.IM⟩) (fun w hi hin=>yM b6 br cr bs c2 bv cv N T ⟨pl.reg.set j (pl.reg.getD L 0),pl.slot,pl.IM⟩ hTl (by simp[hrl]) hsl hm64 L (by omega) w hin) ?_;rintro _ _ ⟨_,rfl,rfl⟩;refine Z_4 ?_;refine Zy (cF Zv0 Zv0 Zl) ?_;refine Z_2 ?_;refine cz (j+1) ?_ ?_ ?_
   ·exact⟨by omega,by omega⟩
   ·exact Zwk
   exact(show xe _ _ from by(try dsimp only);rw[hstk];exact Zj)
  have hne:(L !=j)=false:=(by rw[bne_eq_false_iff_eq]at hc17⊢;omega);rw[hne,aa]at hstk;obtain rfl:L=j:=(by rw[bne_eq_false_iff_eq]at hne;exact hne);refine Z_5 ?_;refine ZcL (scF b6 ⟨some ⟨br,0,none⟩,cr,some ⟨bs,0,none⟩,c2,some ⟨bv,0,none⟩,cv⟩ N T pl) (fun w hi hin=>yM b6 br cr bs c2 bv cv N T pl hTl hrl hsl hm64 L (by omega) w hin) ?_;rintro _ _ ⟨_,rfl,rfl⟩;refine Z_4 ?_;refine Zy (cF Zv0 Zv0 Zl) ?_;refine Z_2 ?_;refine cz (L+1) ?_ ?_ ?_
  ·exact⟨by omega,by omega⟩
  ·exact Zwk
  exact(show xe _ _ from by(try dsimp only);rw[hstk];exact Zj)
 simp only[aj]at hc5;obtain rfl:k=N:=by omega
 refine eK ?_;refine dU (cC (vs:=[.slice X.Ar k X.cr,.slice X.As k X.cs,.int .i64 pl.IM]) Zrf Zrf Zv0) (cL Zh rfl) rfl ?_;refine ZM ?_;refine Z_4 ?_;refine ee (cs':=[sl .i64 3 X.Ar k X.cr pl.reg,sl .i64 3 X.As k X.cs pl.slot]) (.inl rfl) Zu rfl rfl rfl Zh Zrf Zrf ?_;rw[hplk];exact⟨_,_,_,_,rfl,rfl⟩
end Go.Proofs.YtomjgmbccamgiaaGreatDoor
