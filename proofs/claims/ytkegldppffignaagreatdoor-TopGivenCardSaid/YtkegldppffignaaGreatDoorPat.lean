/- Lemmas. -/
import Derived.Test.YtkegldppffignaaGreatDoorPaa
import Derived.Test.YtkegldppffignaaGreatDoorPab
import Derived.Test.YtkegldppffignaaGreatDoorPap
set_option linter.unusedSimpArgs false
set_option linter.unusedVariables false
set_option maxRecDepth 100000
set_option maxHeartbeats 4000000
namespace Go.Ink
open Go.RowKit
theorem vF(p:Pg)(pl:Pl):(gX p pl).length<=4:=by
 have:=jz pl p.flags 7;unfold gX;cases decide (0<=p.flags)<;>simp only[ac,aa,ae,ak,ao]<;>omega
theorem ug(p:Pg)(pos:Nat):(gI p pos).length<=5:=by
 unfold gI;cases p.branch !=0<;>simp
theorem sA(p:Pg)(pl:Pl):(jm p pl).length<=2:=by
 have:=jz pl p.target 7;unfold jm;cases decide (0<=p.target)<;>simp only[ac,aa,ae,ak,ao]<;>omega
theorem nB(pl:Pl)(b f w:Int)(o:List Int):(ix pl b f w o).length<=2*o.length+3:=by
 have:=w9 pl b f o 0;unfold ix;simp only[ae,ak,ao];omega
theorem s7(a b:Int)(pl:Pl):∀(c:List II) (n:Nat),(j9 a b pl c n).length<=30*c.length
 |[],_=>aM _
 |x::c,n=>by
  have h:=s7 a b pl c (n+1);have h1:=Kw a b pl n x;show(qu a b pl n x++j9 a b pl c (n+1)).length<=30*(c.length+1);rw[ae];omega
theorem vu(a b:Int)(pl:Pl)(x:II):∀(c:List II) (n:Nat),j9 a b pl (c++[x]) n=j9 a b pl c n++qu a b pl ((n+c.length:Nat):Int) x
 |[],n=>by simp[j9]
 |y::c,n=>by
  have h:=vu a b pl x c (n+1);show qu a b pl n y++j9 a b pl (c++[x]) (n+1)=(qu a b pl n y++j9 a b pl c (n+1))++_;rw[h,ap,show n+1+c.length=n+(y::c).length by simp;omega]
theorem br_eq{p:Pg}{l11 l12 l13 l14 l15 l16:List HI}(h12:l12=l11++[⟨14,11,15,0,1⟩])(h13:l13=l12++[⟨1,12,0,0,fU p.branch⟩])(h14:l14=l13++[⟨5,11,11,12,0⟩])(h15:l15=l14++[⟨bif ip p.branch then 16 else 17,0,11,0,IntKind.u32.wrap ((l14.length:Int)+2)⟩])(h16:l16=l15++[⟨1,9,0,0,p.taken⟩])(hb:(p.branch !=0)=true):
  l16=l11++gI p l11.length:=by
 have hn:l14.length=l11.length+3:=by rw[h14,h13,h12];simp
 rw[hn]at h15;unfold gI;rw[h16,h15,h14,h13,h12,hb];simp only[ac,ap,aN,aO]
theorem end_eq{p:Pg}{pl:Pl}{l m1 l11 m2 m3 l31 l32 l33 l34:List HI}(h1:m1=l++gX p pl)(h11:l11=m1++[⟨1,9,0,0,p.next⟩])(h2:m2=l11++gI p l11.length)(h3:m3=m2++jm p pl)(h31:l31=m3++[⟨15,0,15,9,0⟩])(h32:l32=l31++[⟨1,11,0,0,IntKind.u32.wrap p.count⟩])(h33:l33=l32++[⟨15,0,15,11,36⟩])(h34:l34=l33++[⟨19,0,0,0,1⟩]):
  l34=l++rY p pl l.length:=by
 have hn:l11.length=l.length+(gX p pl).length+1:=by rw[h11,h1];simp;omega
 rw[hn]at h2;unfold rY;rw[h34,h33,h32,h31,h3,h2,h11,h1];simp only[ap,aN,aO]
end Go.Ink
namespace Go.Proofs.YtkegldppffignaaGreatDoor
open Go.RowKit Go.Ink Go.Proofs.Tryz
attribute [local irreducible] OpY bS
section
variable (S:CdS) (l:List HI) (fix:List Int) (X:CAd)
theorem CK(hl:l.length<=20000)(j into:Int)(hj:∃n:Nat,j=n/\n<S.pl.reg.length/\n<S.pl.slot.length)(w:World)(hi:Inv w (bM (cdF S l fix X)) (cdF S l fix X) w)(hK:∀w',dG (bM (cdF S l fix X)) w w'->Jc S w'):
  Ctr prog 228 [.pointer (some ⟨S.b,0,none⟩),.int .i64 j,.int .i64 into] w (cdF S l fix X) (λr9 cs=>r9= .int .i64 (et S.pl j into)/\∃l' X',l'=l++jN S.pl j into/\cs=cdF S l' (fix) X'):=by
 obtain⟨n,rfl,h1,h2⟩:=hj;exact qH S l fix X hl n into h1 h2 w hi hK
theorem cend_ok(hl:l.length<=10000)(hfl:0<=S.p.flags->∃n:Nat,S.p.flags=n/\n<S.pl.reg.length/\n<S.pl.slot.length)(htg:0<=S.p.target->∃n:Nat,S.p.target=n/\n<S.pl.reg.length/\n<S.pl.slot.length)(w:World)(hi:Inv w (bM (cdF S l fix X)) (cdF S l fix X) w)(hK:∀w',dG (bM (cdF S l fix X)) w w'->Jc S w'):
  Ctr prog 178 [.pointer (some ⟨S.b,0,none⟩)] w (cdF S l fix X) (λr9 cs=>∃l' X',l'=l++rY S.p S.pl l.length/\cs=cdF S l' (fix) X'):=by
 have gF:=vF S.p S.pl;have gG:=jz S.pl S.p.flags 7;have gH:=jz S.pl S.p.target 7;refine bN func178 rfl ntmps178 rfl hi ?_;refine da (λq:List HI×CAd=>[(0,.pointer (some ⟨S.b,0,none⟩))]) (λq=>cdF S q.1 fix q.2) (λq=>q.1=l++gX S.p S.pl) ?_ ?_
 .refine dS ?_;refine ZW ?_ ?_<;>intro hc0
  .have hf:=hfl (by simpa using hc0);refine Z_3 ?_;refine ZcL (cdF S l fix X) (λw hi hin=>kW S l fix X zC 11 15 w hin) ?_;rintro _ _ ⟨_,⟨l1,X1,hl1,rfl⟩,rfl⟩;refine fE ?_;refine ZcL (cdF S l1 fix X1) (λw hi hin=>CK S l1 fix X1 ER S.p.flags 7 hf w hin (λw' hk=>hK w' (hi.Ns Zi hk))) ?_;rintro _ _ ⟨_,⟨rfl,l2,X2,hl2,rfl⟩,rfl⟩;refine ZcL (cdF S l2 fix X2) (λw hi hin=>ii S l2 fix X2 (by first|omega|(simp only[hl1,hl2,ae,ak,ao];omega)) 5 11 11 (et S.pl S.p.flags 7) w hin) ?_;rintro _ _ ⟨_,⟨l3,X3,hl3,rfl⟩,rfl⟩;refine Z_4 ?_;refine ZcL (cdF S l3 fix X3) (λw hi hin=>vN S l3 fix X3 (by first|omega|(simp only[hl1,hl2,hl3,ae,ak,ao];omega)) 15 1 11 w hin) ?_;rintro _ _ ⟨_,⟨l4,X4,hl4,rfl⟩,rfl⟩;refine Zn ?_;refine dW (((l4,X4):List HI×CAd)) ?_ ?_ ?_
   ·(simp only[hl1,hl2,hl3,hl4,gX,hc0,ac,aa,ap,aN,aO,az])
   .exact Zwk
   exact Zu
  refine Zc ?_;refine dW (((l,X):List HI×CAd)) ?_ ?_ ?_
  ·(simp only[gX,hc0,ac,aa,ap,aN,aO,az])
  .exact Zwk
  exact Zu
 rintro⟨m1,s1⟩ hm1;dsimp only at hm1|-;have bm1:m1.length<=l.length+4:=(by rw[hm1,ae];omega);refine Z_8 ?_;refine ZcL (cdF S m1 fix s1) (λw hi hin=>kW S m1 fix s1 zC 9 S.p.next w hin) ?_;rintro _ _ ⟨_,⟨l11,X11,hl11,rfl⟩,rfl⟩;refine Z_2 ?_;refine da (λq:List HI×CAd=>[(0,.pointer (some ⟨S.b,0,none⟩))]) (λq=>cdF S q.1 fix q.2) (λq=>q.1=l11++gI S.p l11.length) ?_ ?_
 .refine dS ?_;refine ZW ?_ ?_<;>intro hc5
  .refine Z_7 ?_;refine ZSe (λw hi=>KW S.p.branch w) ?_;refine dS ?_;refine ZcL (cdF S l11 fix X11) (λw hi hin=>zr S l11 fix X11 (by first|omega|(simp only[hl11,ae,ak,ao];omega)) 11 15 1 w hin) ?_;rintro _ _ ⟨_,⟨l12,X12,hl12,rfl⟩,rfl⟩;refine Z_6 ?_;refine ZcL (cdF S l12 fix X12) (λw hi hin=>kW S l12 fix X12 (by first|omega|(simp only[hl11,hl12,ae,ak,ao];omega)) 12 (fU S.p.branch) w hin) ?_;rintro _ _ ⟨_,⟨l13,X13,hl13,rfl⟩,rfl⟩;refine Z_5 ?_;refine ZcL (cdF S l13 fix X13) (λw hi hin=>ii S l13 fix X13 (by first|omega|(simp only[hl11,hl12,hl13,ae,ak,ao];omega)) 5 11 11 12 w hin) ?_;rintro _ _ ⟨_,⟨l14,X14,hl14,rfl⟩,rfl⟩;refine Z_4 ?_;have b14:l14.length<=20000:=(by simp only[hl14,hl13,hl12,hl11,ae,ak,ao];omega);refine Z_5 ?_;refine Zy (df Zv0 Zv0 Zl) ?_;refine Zy (ce rfl rfl Zv0 rfl) ?_;refine ZA ?_;refine ZN λb4=>?_
   refine ZM ?_;refine Z_2 ?_;refine da (λ_:Unit=>[(0,.pointer (some ⟨S.b,0,none⟩)),(4,.pointer (some ⟨b4,0,none⟩))]) (λ_=>[row S.b (oC S l14.length fix.length X14) 282,hiC X14.Al X14.cl l14,sl .i64 3 X14.Af fix.length X14.cf fix,row b4 [.int .i64 (bif ip S.p.branch then 16 else 17),.int .i64 0,.int .i64 11,.int .i64 0,.int .u32 (IntKind.u32.wrap ((l14.length:Int)+2))] 290]) (λ_=>True) ?_ ?_
   .refine Z_6 ?_;refine ZW ?_ ?_<;>intro hc11
    .have hjs:ip S.p.branch=false:=(by simpa using hc11);rw[hjs,aa];refine Z_2 ?_;refine ZL ?_;refine Zn ?_;refine bX (()) ?_ ?_ ?_
     .trivial
     .exact Zwk
     exact Zj
    have hjs:ip S.p.branch=true:=(by simpa using hc11);rw[hjs,ac];refine Zc ?_;refine bX (()) ?_ ?_ ?_
    .trivial
    .exact Zwk
    exact Zj
   intro s hs;refine Z_4 ?_;refine ro ?_;rintro _ _ ⟨b66,rfl,rfl⟩;refine ZcL (cdF S l14 fix X14) (λw hi hin=>kI S l14 fix X14 (by first|omega|(simp only[hl11,hl12,hl13,hl14,ae,ak,ao];omega)) [⟨bif ip S.p.branch then 16 else 17,0,11,0,IntKind.u32.wrap ((l14.length:Int)+2)⟩] (some ⟨b66,0,none⟩) 1 cE w hin (λw' hk=>dk (hi.Nv Zi (show Has _ (slv 290 5 (some ⟨b66,0,none⟩) 1 1 ([⟨bif ip S.p.branch then 16 else 17,0,11,0,IntKind.u32.wrap ((l14.length:Int)+2)⟩].flatMap HI.cells))from Zh) hk))) ?_;rintro _ _ ⟨_,⟨l15,X15,hl15,rfl⟩,rfl⟩;refine Z_9 ?_;refine ZcL (cdF S l15 fix X15) (λw hi hin=>kW S l15 fix X15 (by first|omega|(simp only[hl11,hl12,hl13,hl14,hl15,ae,ak,ao];omega)) 9 S.p.taken w hin) ?_;rintro _ _ ⟨_,⟨l16,X16,hl16,rfl⟩,rfl⟩;refine Zn ?_;refine dW (((l16,X16):List HI×CAd)) ?_ ?_ ?_
   .exact br_eq hl12 hl13 hl14 hl15 hl16 hc5
   .exact Zwk
   exact Zu
  refine Zc ?_;refine dW (((l11,X11):List HI×CAd)) ?_ ?_ ?_
  ·(simp only[hl11,gI,hc5,ac,aa,ap,aN,aO,az])
  .exact Zwk
  exact Zu
 rintro⟨m2,s2⟩ hm2;dsimp only at hm2|-;have gB:=ug S.p l11.length;have bm2:m2.length<=l.length+20:=(by have e2:m2.length=l11.length+(gI S.p l11.length).length:=(by rw[hm2,ae]);have e1:l11.length=m1.length+1:=(by rw[hl11];simp);omega);refine da (λq:List HI×CAd=>[(0,.pointer (some ⟨S.b,0,none⟩))]) (λq=>cdF S q.1 fix q.2) (λq=>q.1=m2++jm S.p S.pl) ?_ ?_
 .refine dS ?_;refine ZW ?_ ?_<;>intro hc15
  .have ht:=htg (by simpa using hc15);refine Z_8 ?_;refine ZcL (cdF S m2 fix s2) (λw hi hin=>CK S m2 fix s2 zC S.p.target 7 ht w hin (λw' hk=>hK w' (hi.Ns Zi hk))) ?_;rintro _ _ ⟨_,⟨rfl,l21,X21,hl21,rfl⟩,rfl⟩;refine ZA ?_;refine ro ?_;rintro _ _ ⟨b90,rfl,rfl⟩;refine ZcL (cdF S l21 fix X21) (λw hi hin=>kI S l21 fix X21 (by first|omega|(simp only[hl21,ae,ak,ao];omega)) [⟨2,9,et S.pl S.p.target 7,0,0⟩] (some ⟨b90,0,none⟩) 1 cE w hin (λw' hk=>dk (hi.Nv Zi (show Has _ (slv 290 5 (some ⟨b90,0,none⟩) 1 1 ([⟨2,9,et S.pl S.p.target 7,0,0⟩].flatMap HI.cells))from Zh) hk))) ?_;rintro _ _ ⟨_,⟨l22,X22,hl22,rfl⟩,rfl⟩;refine Zn ?_;refine dW (((l22,X22):List HI×CAd)) ?_ ?_ ?_
   ·(simp only[hl21,hl22,jm,hc15,ac,aa,ap,aN,aO,az])
   .exact Zwk
   exact Zu
  refine Zc ?_;refine dW (((m2,s2):List HI×CAd)) ?_ ?_ ?_
  ·(simp only[jm,hc15,ac,aa,ap,aN,aO,az])
  .exact Zwk
  exact Zu
 rintro⟨m3,s3⟩ hm3;dsimp only at hm3|-;have gT:=sA S.p S.pl;have bm3:m3.length<=l.length+30:=(by rw[hm3,ae];omega);refine Z_3 ?_;refine ZcL (cdF S m3 fix s3) (λw hi hin=>vN S m3 fix s3 zC 15 0 9 w hin) ?_;rintro _ _ ⟨_,⟨l31,X31,hl31,rfl⟩,rfl⟩;refine dS ?_;refine Zy (ce rfl rfl Zv0 rfl) ?_;refine ZcL (cdF S l31 fix X31) (λw hi hin=>kW S l31 fix X31 (by first|omega|(simp only[hl31,ae,ak,ao];omega)) 11 (IntKind.u32.wrap S.p.count) w hin) ?_;rintro _ _ ⟨_,⟨l32,X32,hl32,rfl⟩,rfl⟩;refine Z_5 ?_;refine ZcL (cdF S l32 fix X32) (λw hi hin=>vN S l32 fix X32 (by first|omega|(simp only[hl31,hl32,ae,ak,ao];omega)) 15 36 11 w hin) ?_;rintro _ _ ⟨_,⟨l33,X33,hl33,rfl⟩,rfl⟩;refine Z_5 ?_;refine ro ?_;rintro _ _ ⟨b106,rfl,rfl⟩;refine ZcL (cdF S l33 fix X33) (λw hi hin=>kI S l33 fix X33 (by first|omega|(simp only[hl31,hl32,hl33,ae,ak,ao];omega)) [⟨19,0,0,0,1⟩] (some ⟨b106,0,none⟩) 1 cE w hin (λw' hk=>dk (hi.Nv Zi (show Has _ (slv 290 5 (some ⟨b106,0,none⟩) 1 1 ([⟨19,0,0,0,1⟩].flatMap HI.cells))from Zh) hk))) ?_;rintro _ _ ⟨_,⟨l34,X34,hl34,rfl⟩,rfl⟩;refine Zn (jb (cs':=cdF S l34 fix X34) (.inr rfl) Zu rfl ?_);exact⟨l34,X34,(end_eq hm1 hl11 hm2 hm3 hl31 hl32 hl33 hl34),rfl⟩
end
end Go.Proofs.YtkegldppffignaaGreatDoor
namespace Go.Ink
open Go.RowKit
theorem xE{α:Type}{f:α->Bool}{l:List α}{k:Nat}{x:α}(hx:l[k]? =some x)(h:(l.take k).all f=true)(hf:f x=true):(l.take (k+1)).all f=true:=by
 rw[List.take_add_one,hx,List.all_append,h,show((some x).toList).all f=f x by simp,hf];rfl
theorem I3{α:Type}{f:α->Bool}{l:List α}{k:Nat}{x:α}(hx:l[k]? =some x)(hf:f x=false):l.all f=false:=by
 cases h:l.all f with
 |false=>rfl
 |true=>rw[bo]at h;have:=h x (aD hx);rw[hf]at this;cases this
theorem rh{a b:Int}:∀(c:List II) (i k:Nat) {x:II},c[k]? =some x->jx a b (c.take k) i=true->jT a b (i+k) x=true->jx a b (c.take (k+1)) i=true
 |[],_,_,_,h,_,_=>by simp at h
 |y::c,i,0,x,h,_,h2=>by
  obtain rfl:y=x:=by simpa using h
  show(jT a b i y&&jx a b (c.take 0) (i+1))=true;rw[show jT a b i y=true from h2];rfl
 |y::c,i,k+1,x,h,h1,h2=>by
  have h1:(jT a b i y&&jx a b (c.take k) (i+1))=true:=h1;rw[aL]at h1;have:=rh c (i+1) k (x:=x) (by simpa using h) h1.2 (by rw[show i+1+k=i+(k+1) by omega];exact h2);show(jT a b i y&&jx a b (c.take (k+1)) (i+1))=true;rw[h1.1,this];rfl
theorem vW{a b:Int}:∀(c:List II) (i k:Nat) {x:II},c[k]? =some x->jT a b (i+k) x=false->jx a b c i=false
 |[],_,_,_,h,_=>by simp at h
 |y::c,i,0,x,h,h2=>by
  obtain rfl:y=x:=by simpa using h
  show(jT a b i y&&jx a b c (i+1))=false;rw[show jT a b i y=false from h2];rfl
 |y::c,i,k+1,x,h,h2=>by
  have:=vW c (i+1) k (x:=x) (by simpa using h) (by rw[show i+1+k=i+(k+1) by omega];exact h2);show(jT a b i y&&jx a b c (i+1))=false;rw[this,Bool.and_false]
structure CU(p:Pg)(Q:PAd)(w:World):Prop where
 code:RdV w 5 Q.Ac p.code.length Q.cc (p.code.flatMap II.cells)
 MV:Rd w .i64 Q.Ad p.MV.length Q.cd p.MV
 MW:Rd w .i64 Q.Ar p.MW.length Q.cr p.MW
structure rE(p:Pg):Prop where
 Ni:p.values=p.code.length
 M9:p.code.length<=64
 MV:p.MV.length<=100
 MW:p.MW.length<=100
 imm:∀x,x∈p.code->0<=x.imm/\x.imm<=4294967295
end Go.Ink
namespace Go.Proofs.YtkegldppffignaaGreatDoor
open Go.RowKit Go.Ink Go.Proofs.Tryz
attribute [local irreducible] OpY bS
theorem oR(a b:Int)(w:World):Ctr prog 253 [.int .i64 a,.int .i64 b] w [] (λr cs=>r= .bool (oS a b)/\cs=[]):=by
 refine bN func253 rfl ntmps253 rfl (Inv.start w) ?_;refine Bn ?_;refine Zra ?_;exact⟨by unfold oS;cases decide (0<=a)<;>cases decide (a<b)<;>rfl,rfl⟩
theorem yt(w:World):Ctr prog 218 [.int .i64 7] w [] (λr cs=>r= .bool true/\cs=[]):=by
 refine bN func218 rfl ntmps218 rfl (Inv.start w) ?_;refine xF ?_;refine Zra ?_;exact de
theorem Ly(A:Option Addr)(c:Nat)(l:List Int)(hl:l.length<=100)(w:World)(h:Rd w .i64 A l.length c l):Ctr prog 251 [.slice A l.length c] w [] (λr cs=>r= .bool (pV l)/\cs=[]):=by
 refine bN func251 rfl ntmps251 rfl (Inv.start w) ?_;refine gy ?_;refine cq (λk:Nat=>[(5,.slice A l.length c),(6,.int .i64 l.length),(7,.int .i64 (k:Int))]) (λ_=>[]) (λk=>k<=l.length/\(l.take k).all (λn=>decide (0<=n)&&decide (n<=16))=true) (λk=>l.length - k) (0) ?_ ?_ ?_ ?_
 .exact⟨aq _,rfl⟩
 .exact Zwk
 .exact Zu
 rintro k ⟨hk,ha⟩;refine Z_6 ?_;refine ZW ?_ ?_<;>intro hc2
 .simp only[aj]at hc2;obtain⟨ad,rfl⟩:=h.some_ Wq1;obtain⟨x,hx⟩:∃x,l[k]? =some x:=⟨_,ai (show k<l.length by omega)⟩;refine Z_6 ?_;refine uR ?_;refine dN (bQ Zrf Zv0) (eo h (cR hx)) rfl ?_;refine jd ?_;refine ZW ?_ ?_<;>intro hc4
  .have hf:(λn:Int=>decide (0<=n)&&decide (n<=16)) x=false:=(by have:=hc4;simp only[Bool.or_eq_true,aj]at this;simp only[Bool.and_eq_false_iff,ah];omega);refine fE ?_;refine Zra ?_;exact⟨by unfold pV;rw[I3 hx hf],rfl⟩
  have hf:(λn:Int=>decide (0<=n)&&decide (n<=16)) x=true:=(by have:=hc4;simp only[bz,ah]at this;simp only[aL,aj];omega);refine Z_4 ?_;refine Wq8 ?_;refine dW (k+1) ?_ ?_ ?_
  .exact⟨⟨by omega,xE hx ha hf⟩,by omega⟩
  .exact Zwk
  exact Zu
 simp only[ah]at hc2;obtain rfl:k=l.length:=by omega
 rw[bn]at ha;refine fE ?_;refine Zra ?_;exact⟨by unfold pV;rw[ha],rfl⟩
theorem K1(p:Pg)(Q:PAd)(i:Nat)(x:II)(hx:p.code[i]? =some x)(him:0<=x.imm/\x.imm<=4294967295)(hd:0<=p.MM/\p.MM<=16)(hr:0<=p.MO/\p.MO<=16)(w:World)(h:RdV w 5 Q.Ac p.code.length Q.cc (p.code.flatMap II.cells)):
  Ctr prog 252 [pgv p Q,.int .i64 i] w [] (λr cs=>r= .bool (jT p.MM p.MO i x)/\cs=[]):=by
 have hil:i<p.code.length:=by
  rcases Nat.lt_or_ge i p.code.length with h9|h9
  .exact h9
  rw[List.getElem?_eq_none h9]at hx;cases hx
 obtain⟨ad,had⟩:=h.some_ Wq1;rw[had]at h;obtain⟨op,dst,xa,xb,imm⟩:=x;obtain⟨hi1,hi2⟩:=him;obtain⟨hd1,hd2⟩:=hd;obtain⟨hr1,hr2⟩:=hr;dsimp only at hi1 hi2;refine bN func252 rfl ntmps252 rfl (Inv.start w) ?_;refine Z_2 ?_;refine ZO λb2=>?_;refine Z_8 ?_;refine Zy (fg (j:=i) had rfl Zrf Zv0 Zv0 Zrf (λ_=>hil)) ?_;refine dN (cz (vs:=[.int .i64 op,.int .i64 dst,.int .i64 xa,.int .i64 xb,.int .u32 imm]) Zrf Zrf Zv0) (fv h (λj v hj=>fK (f:=II.cells) Zrf (i:=j) hx hj)) rfl ?_;refine ZN λb5=>?_
 refine ZM ?_;refine fE ?_;refine ZW ?_ ?_<;>intro hc2
 .refine Z_7 ?_;refine Zra ?_;exact⟨by simp only[jT,hc2,ac],rfl⟩
 refine Z_7 ?_;refine eu gv (.cons Zv0 (.cons Zv0 .nil)) (λ_ _=>rfl) (λhg w hi=>oR xa i w) rfl ?_;refine Z_4 ?_;refine eu (bR rfl rfl) (.cons (dh rfl) (.cons (dh rfl) .nil)) (λ_ _=>rfl) (λhg w hi=>oR xb i w) rfl ?_;refine mn ?_;refine fE ?_;refine ZW ?_ ?_<;>intro hc7
 .refine Z_9 ?_;refine Zra ?_;exact⟨by simp only[jT,hc2,hc7,ac,aa]<;>cases xa==0<;>cases xb==0<;>rfl,rfl⟩
 refine Z_6 ?_;refine ZW ?_ ?_<;>intro hc9
 .refine Z_6 ?_;refine Zyy rfl rfl (ce rfl rfl (dh rfl) uw) ?_;refine Z_2 ?_;refine Zyy rfl rfl (ce rfl rfl (dh rfl) uw) ?_;refine fX ?_;exact⟨by simp only[jT,hc2,hc7,hc9,ac,aa]<;>cases xa==0<;>cases xb==0<;>cases decide (imm<p.MM)<;>rfl,rfl⟩
 refine Z_6 ?_;refine ZW ?_ ?_<;>intro hc11
 .refine Z_6 ?_;refine Zyy rfl rfl (ce rfl rfl (dh rfl) uw) ?_;refine Z_2 ?_;refine Zyy rfl rfl (ce rfl rfl (dh rfl) uw) ?_;refine fX ?_;exact⟨by simp only[jT,hc2,hc7,hc9,hc11,ac,aa]<;>cases xa==0<;>cases xb==0<;>cases decide (imm<p.MO)<;>rfl,rfl⟩
 refine Z_6 ?_;refine ZW ?_ ?_<;>intro hc13
 .refine Je ?_;refine Zra ?_;exact⟨by simp only[jT,hc2,hc7,hc9,hc11,hc13,ac,aa]<;>cases oS xa i<;>cases oS xb i<;>cases decide (16<=imm)<;>cases decide (imm<=23)<;>rfl,rfl⟩
 refine Z_6 ?_;refine ZW ?_ ?_<;>intro hc15
 .refine mn ?_;refine Z_4 ?_;refine Zra ?_;exact⟨by simp only[jT,hc2,hc7,hc9,hc11,hc13,hc15,ac,aa]<;>cases oS xa i<;>cases oS xb i<;>cases decide (16<=imm)<;>cases decide (imm<=23)<;>cases imm==25<;>rfl,rfl⟩
 refine Z_9 ?_;refine Zra ?_;exact⟨by simp only[jT,hc2,hc7,hc9,hc11,hc13,hc15,ac,aa],rfl⟩
theorem tB(p:Pg)(Q:PAd)(hf:rE p)(w:World)(h:CU p Q w):Ctr prog 217 [pgv p Q] w [] (λr cs=>r= .bool p.M0/\cs=[]):=by
 have hv1:(p.values !=(p.code.length:Int))=false:=by rw[hf.Ni];simp
 have hv2:decide (64<p.values)=false:=by rw[hf.Ni];have:=hf.M9;simp;omega
 have hv3:p.values=p.code.length:=hf.Ni;have hm64:=hf.M9;have hoD:=hf.MV;have hoR:=hf.MW;have himm:=hf.imm;have hrc:=h.code;have hrD:=h.MV;have hrR:=h.MW;refine bN func217 rfl ntmps217 rfl (Inv.start w) ?_;refine Z_2 ?_;refine ZO λb1=>?_;refine Bn ?_;rw[hv1,hv2];refine Z_8 ?_;refine fF (cy rfl rfl) rfl (g9 rfl rfl Zrf Zrf rfl rfl) rfl ?_;rintro _ _ ⟨b28,rfl,rfl⟩;refine eu (cy rfl rfl) (.cons (dh rfl) .nil) (λ_ _=>rfl) (λhg w hi=>Ly (some ⟨b28,0,none⟩) 4 [p.MM,p.MO,p.Nc,p.Ng] cE w (hi.rd (show Has _ (slv 3 1 (some ⟨b28,0,none⟩) 4 4 (ints .i64 [p.MM,p.MO,p.Nc,p.Ng]))from Zh))) rfl ?_;refine gy ?_;refine ZW ?_ ?_<;>intro hc1
 .have hok:p.NA=false:=(by unfold Pg.NA;have:=hc1;cases h1:pV [p.MM,p.MO,p.Nc,p.Ng]<;>cases h2:decide (p.count<1)<;>cases h3:decide (8<p.count)<;>simp_all);refine Z_7 ?_;refine Zra ?_;exact⟨by unfold Pg.M0;rw[hok];rfl,rfl⟩
 have hok:p.NA=true:=(by unfold Pg.NA;have:=hc1;cases h1:pV [p.MM,p.MO,p.Nc,p.Ng]<;>cases h2:decide (p.count<1)<;>cases h3:decide (8<p.count)<;>simp_all);have hnn:(0<=p.MM/\p.MM<=16)/\(0<=p.MO/\p.MO<=16):=(by have:=hok;unfold Pg.NA pV at this;simp only[List.all_cons,aL,aj]at this;omega);refine gR ?_;refine cq (λk:Nat=>[(1,.pointer (some ⟨b1,0,none⟩)),(43,.slice Q.Ac p.code.length Q.cc),(44,.int .i64 p.code.length),(45,.int .i64 (k:Int))]) (λ_=>[row b1 (jR p Q) 242]) (λk=>k<=p.code.length/\jx p.MM p.MO (p.code.take k) 0=true) (λk=>p.code.length - k) (0) ?_ ?_ ?_ ?_
 .exact⟨aq _,rfl⟩
 .exact Zwk
 .exact Zu
 rintro k ⟨hk,ha⟩;refine Z_6 ?_;refine ZW ?_ ?_<;>intro hc4
 .simp only[aj]at hc4;obtain⟨x,hx⟩:∃x,p.code[k]? =some x:=⟨_,ai (show k<p.code.length by omega)⟩;refine gy ?_;refine ZSe (λw hi=>K1 p Q k x hx (himm x (aD hx)) hnn.1 hnn.2 w (hrc.MZ hi)) ?_;refine Z_3 ?_;refine ZW ?_ ?_<;>intro hc6
  .have hm:jT p.MM p.MO (0+k) x=false:=(by rw[bE];simpa using hc6);refine fE ?_;refine Zra ?_;exact⟨by unfold Pg.M0;rw[vW _ 0 _ hx hm,Bool.false_and,Bool.and_false],rfl⟩
  have hm:jT p.MM p.MO (0+k) x=true:=(by rw[bE];simpa using hc6);refine Z_4 ?_;refine Wq8 ?_;refine dW (k+1) ?_ ?_ ?_
  .exact⟨⟨by omega,rh _ 0 k hx ha hm⟩,by omega⟩
  .exact Zwk
  exact Zu
 simp only[ah]at hc4;obtain rfl:k=p.code.length:=by omega
 rw[bn]at ha;refine gR ?_;refine jO ?_;rintro _ _ ⟨b57,rfl,rfl⟩;refine Z_5 ?_;refine cq (λk:Nat=>[(1,.pointer (some ⟨b1,0,none⟩)),(57,.slice (some ⟨b57,0,none⟩) 2 2),(58,.int .i64 2),(59,.int .i64 (k:Int))]) (λ_=>[row b1 (jR p Q) 242,slv 60 1 (some ⟨b57,0,none⟩) 2 2 [.slice Q.Ad p.MV.length Q.cd,.slice Q.Ar p.MW.length Q.cr]]) (λk=>k<=2/\([p.MV,p.MW].take k).all (λl=>l.all λn=>oS n p.code.length)=true) (λk=>2 - k) (0) ?_ ?_ ?_ ?_
 .exact⟨aq _,rfl⟩
 .exact Zwk
 .exact Zu
 rintro k2 ⟨hk2,ha2⟩;refine Z_6 ?_;refine ZW ?_ ?_<;>intro hc10
 .simp only[aj]at hc10;obtain⟨A1,c1,l1,hx1,hx2,hR1,hb1⟩:∃(A1:Option Addr) (c1:Nat) (l1:List Int),[Value.slice Q.Ad p.MV.length Q.cd,.slice Q.Ar p.MW.length Q.cr][k2]? =some (.slice A1 l1.length c1)/\[p.MV,p.MW][k2]? =some l1/\Rd w .i64 A1 l1.length c1 l1/\l1.length<=100:=(by have h9:k2=0\/k2=1:=Wq1;rcases h9 with rfl|rfl;exact⟨_,_,p.MV,rfl,rfl,hrD,hoD⟩;exact⟨_,_,p.MW,rfl,rfl,hrR,hoR⟩);refine Z_6 ?_;refine Zy (dX (j:=k2) rfl Zrf (Zv rfl) (Zv rfl) Wq4 Wq4) ?_;refine dN (bQ Zrf Zv0) (qh Zh hx1) rfl ?_;refine fE ?_;refine cq (λk:Nat=>[(1,.pointer (some ⟨b1,0,none⟩)),(57,.slice (some ⟨b57,0,none⟩) 2 2),(58,.int .i64 2),(59,.int .i64 (k2:Int)),(63,.slice A1 l1.length c1),(64,.int .i64 l1.length),(65,.int .i64 (k:Int))]) (λ_=>[row b1 (jR p Q) 242,slv 60 1 (some ⟨b57,0,none⟩) 2 2 [.slice Q.Ad p.MV.length Q.cd,.slice Q.Ar p.MW.length Q.cr]]) (λk=>k<=l1.length/\(l1.take k).all (λn=>oS n p.code.length)=true) (λk=>l1.length - k) (0) ?_ ?_ ?_ ?_
  .exact⟨aq _,rfl⟩
  .exact Zwk
  .exact Zu
  rintro k3 ⟨hk3,ha3⟩;refine Z_6 ?_;refine ZW ?_ ?_<;>intro hc13
  .simp only[aj]at hc13;obtain⟨ad,rfl⟩:=hR1.some_ Wq1;obtain⟨x,hx⟩:∃x,l1[k3]? =some x:=⟨_,ai (show k3<l1.length by omega)⟩;refine Z_6 ?_;refine Zy (dX (j:=k3) rfl Zrf (Zv rfl) (Zv rfl) Wq4 Wq4) ?_;refine dN (bQ Zrf Zv0) (eo hR1 (cR hx)) rfl ?_;refine Z_8 ?_;refine ZSe (λw hi=>oR x p.values w) ?_;refine Z_3 ?_;refine ZW ?_ ?_<;>intro hc15
   .have hm:oS x p.code.length=false:=(by rw[<-hv3];simpa using hc15);refine rj ?_;refine Zra ?_;exact⟨by have h9:=I3 (f:=λl:List Int=>l.all λn=>oS n p.code.length) hx2 (I3 hx hm);unfold Pg.M0;simp only[List.all_cons,List.all_nil,Bool.and_true,Bool.and_eq_false_iff]at h9;rcases h9 with h9|h9<;>rw[h9]<;>simp,rfl⟩
   have hm:oS x p.code.length=true:=(by rw[<-hv3];simpa using hc15);refine Z_4 ?_;refine Wq8 ?_;refine dW (k3+1) ?_ ?_ ?_
   .exact⟨⟨by omega,xE hx ha3 hm⟩,by omega⟩
   .exact Zwk
   exact Zu
  simp only[ah]at hc13;obtain rfl:k3=l1.length:=by omega
  rw[bn]at ha3;refine Z_7 ?_;refine Wq8 ?_;refine dW (k2+1) ?_ ?_ ?_
  .exact⟨⟨by omega,xE hx2 ha2 ha3⟩,by omega⟩
  .exact Zwk
  exact Zu
 simp only[ah]at hc10;obtain rfl:k2=2:=by omega
 refine ri ?_;refine eu (bR rfl rfl) (.cons (dh rfl) (.cons (dh rfl) .nil)) (λ_ _=>rfl) (λhg w hi=>oR p.flags p.values w) rfl ?_;refine fE ?_;refine eu (fV rfl rfl) (.cons (dh rfl) (.cons (dh rfl) .nil)) (λ_ _=>rfl) (λhg w hi=>oR p.target p.values w) rfl ?_;refine Z_5 ?_;refine ZW ?_ ?_<;>intro hc19
 .refine Z_7 ?_;refine Zra ?_;exact⟨by have h9:p.Nz=false:=(by unfold Pg.Nz;rw[<-hv3];have:=hc19;cases h1:p.flags != -1<;>cases h2:oS p.flags p.values<;>cases h3:p.target != -1<;>cases h4:oS p.target p.values<;>simp_all);unfold Pg.M0;rw[h9];simp,rfl⟩
 refine mn ?_;refine Z_6 ?_;refine Zra ?_;exact⟨by have h9:p.Nz=(p.branch==0||((decide (33<=p.branch)&&decide (p.branch<=37))&&p.target== -1)):=(by unfold Pg.Nz;rw[<-hv3];have:=hc19;cases h1:p.flags != -1<;>cases h2:oS p.flags p.values<;>cases h3:p.target != -1<;>cases h4:oS p.target p.values<;>simp_all);simp only[List.take,List.all_cons,List.all_nil,Bool.and_true,aL]at ha2;unfold Pg.M0;rw[hok,ha,ha2.1,ha2.2,h9];cases p.branch==0<;>cases decide (33<=p.branch)<;>cases decide (p.branch<=37)<;>cases p.target== -1<;>rfl,rfl⟩
end Go.Proofs.YtkegldppffignaaGreatDoor
namespace Go.Ink
open Go.RowKit
abbrev span(i:Nat)(t:Int):List Value:=[.int .i64 i,.int .i64 i,.int .i64 t]
def fT:Nat->List Int->List Value
 |_,[]=>[]
 |k,t::T=> .int .i64 k:: .int .i64 k:: .int .i64 t::fT (k+1) T
theorem vf:∀(T:List Int) (k:Nat) (t:Int),fT k (T++[t])=fT k T++[.int .i64 ((k+T.length:Nat):Int),.int .i64 ((k+T.length:Nat):Int),.int .i64 t]
 |[],k,t=>rfl
 |x::T,k,t=>by
  have h:=vf T (k+1) t;show _::_::_::fT (k+1) (T++[t])=_;rw[h,show k+1+T.length=k+(x::T).length by simp;omega]
  rfl
theorem kw:∀(T:List Int) (k i:Nat) {t:Int} {j:Nat} {v:Value},T[i]? =some t->(span (k+i) t)[j]? =some v->(fT k T)[i*3+j]? =some v
 |[],_,_,_,_,_,h,_=>by simp at h
 |x::T,k,0,t,j,v,h,hj=>by
  obtain rfl:x=t:=by simpa using h
  rw[Nat.zero_mul,bE]
  match j,hj with
  |0,hj=>exact hj
  |1,hj=>exact hj
  |2,hj=>exact hj
  |j+3,hj=>simp at hj
 |x::T,k,i+1,t,j,v,h,hj=>by
  have:=kw T (k+1) i (t:=t) (j:=j) (v:=v) (by simpa using h) (by rw[show k+1+i=k+(i+1) by omega];exact hj);rw[show(i+1)*3+j=(i*3+j)+3 by omega];exact this
theorem vd:∀(T:List Int) (k i:Nat) (t:Int),(fT k T).set (i*3+2) (.int .i64 t)=fT k (T.set i t)
 |[],_,_,_=>rfl
 |x::T,k,0,t=>rfl
 |x::T,k,i+1,t=>by
  have:=vd T (k+1) i t;rw[show(i+1)*3+2=(i*3+2)+3 by omega];show _::_::_::(fT (k+1) T).set (i*3+2) _=_;rw[this];rfl
theorem Dz:∀(T:List Int) (k:Nat),∀u∈fT k T,u.oneCell'=true
 |[],_,u,h=>by cases h
 |x::T,k,u,h=>by
  have h:u∈(.int .i64 k:: .int .i64 k:: .int .i64 x::fT (k+1) T:List Value):=h;simp only[aJ]at h;rcases h with rfl|rfl|rfl|h
  .rfl
  .rfl
  .rfl
  exact Dz T (k+1) u h
theorem oT(T:List Int)(n a:Int):(gz T n a).length=T.length:=(j5 T n a).1
theorem Hk(n:Nat):iota (n+1)=iota n++[(n:Int)]:=by unfold iota;rw[List.range_succ,List.map_append];rfl
theorem jL{α:Type}{l:List α}{k:Nat}{x:α}(h:l[k]? =some x):l.drop k=x::l.drop (k+1):=by
 rcases Nat.lt_or_ge k l.length with h9|h9
 .rw[List.drop_eq_getElem_cons h9];rw[ai h9]at h;rw[ay h]
 rw[List.getElem?_eq_none h9]at h;cases h
theorem Ka{w0:World}{S:List Nat}{cs:List bL}{n c j:Nat}{ad:Addr}{xs:List Value}{v:Value}(h:∀w,Inv w0 S cs w->RdV w 1 (some ad) n c xs)(hv:xs[j]? =some v):∀w,Inv w0 S cs w->cells [(ad.add (j*1),v)] w:=λw hi z hz=>by
 rw[aK]at hz;subst hz;rw[Nat.mul_one];exact(h w hi).at_ ad rfl j v hv
theorem one3(a b c:Int):∀u∈([.int .i64 a,.int .i64 b,.int .i64 c]:List Value),u.oneCell'=true:=λu h=>by
 simp only[aJ,aY,or_false]at h;rcases h with rfl|rfl|rfl<;>rfl
theorem CU.MZ{p:Pg}{Q:PAd}{w0 w:World}{cs:List bL}(h:CU p Q w0)(hi:Inv w0 [] cs w):CU p Q w:=⟨h.code.MZ hi,h.MV.MZ hi,h.MW.MZ hi⟩
theorem qj{p:Pg}(h:p.M0=true):(∀(k:Nat) (x:II),p.code[k]? =some x->lr x=true->(0<=x.a/\x.a<k)/\(0<=x.b/\x.b<k))/\(∀n,n∈p.MV\/n∈p.MW->0<=n/\n<p.code.length)/\(0<=p.flags->p.flags<p.code.length)/\(0<=p.target->p.target<p.code.length):=by
 unfold Pg.M0 at h;simp only[aL]at h;obtain⟨-,h1,h2,h3,h4⟩:=h;have hv:∀a b,oS a b=true->0<=a/\a<b:=λa b h=>by unfold oS at h;simpa using h
 refine⟨λk x hx hab=>?_,λn hn=>?_,λh0=>?_,λh0=>?_⟩
 .have hm:=vX p.code 0 h1 k x hx;rw[bE]at hm;unfold lr at hab;unfold jT at hm;have ho:x.op=3\/x.op=4:=by simpa using hab
  rcases ho with ho|ho<;>rw[ho]at hm<;>cases hd:(x.dst !=(k:Int))<;>rw[hd]at hm<;>simp[oS]at hm
  .exact⟨hm.1.1.1,hm.1.1.2⟩
  exact⟨hm.1.1,hm.1.2⟩
 .rcases hn with hn|hn
  .exact hv _ _ (bo.1 h2 n hn)
  exact hv _ _ (bo.1 h3 n hn)
 .unfold Pg.Nz at h4;simp only[aL,Bool.not_eq_true',bz]at h4;obtain⟨⟨h5, -⟩, -⟩:=h4;have h6:(p.flags != -1)=true:=by rw[bne_iff_ne];omega
  rw[h6,Bool.true_and]at h5;exact(hv _ _ (by simpa using h5)).2
 unfold Pg.Nz at h4;simp only[aL,Bool.not_eq_true',bz]at h4;obtain⟨⟨-,h5⟩, -⟩:=h4;have h6:(p.target != -1)=true:=by rw[bne_iff_ne];omega
 rw[h6,Bool.true_and]at h5;exact(hv _ _ (by simpa using h5)).2
end Go.Ink
namespace Go.Proofs.YtkegldppffignaaGreatDoor
open Go.RowKit Go.Ink Go.Proofs.Tryz
attribute [local irreducible] OpY bS
abbrev lvC(A:Option Addr)(c:Nat)(T:List Int):bL:=slv 331 3 A T.length c (fT 0 T)
abbrev lvF(b:Nat)(A:Option Addr)(c:Nat)(T:List Int):List bL:=[row b [.slice A T.length c] 326,lvC A c T]
theorem GM(T:List Int)(i j:Nat)(w:World):Ctr prog 222 [.agg #[.int .i64 i,.int .i64 i,.int .i64 (T.getD i 0)],.agg #[.int .i64 j,.int .i64 j,.int .i64 (T.getD j 0)]] w [] (λr cs=>r= .bool (mQ T i j)/\cs=[]):=by
 obtain⟨ti,hti⟩:=Zgn (T.getD i 0);obtain⟨tj,htj⟩:=Zgn (T.getD j 0);unfold mQ;rw[hti,htj];refine bN func222 rfl ntmps222 rfl (Inv.start w) ?_;refine Z_2 ?_;refine ZO λb2=>?_;refine ZO λb3=>?_
 refine mn ?_;refine fX ?_;exact⟨by cases decide ((i:Int)<tj)<;>cases decide ((j:Int)<ti)<;>cases(i:Int)==(j:Int)<;>rfl,rfl⟩
theorem Fc(b:Nat)(A:Option Addr)(c:Nat)(T:List Int)(n at_:Int)(hn:0<=n->n.toNat<T.length)(w:World)(hi:Inv w (bM (lvF b A c T)) (lvF b A c T) w):
  Ctr prog 255 [.int .i64 n,.int .i64 at_,.pointer (some ⟨b,0,none⟩)] w (lvF b A c T) (λ_ cs=>cs=lvF b A c (gz T n at_)):=by
 refine bN func255 rfl ntmps255 rfl hi ?_;refine Z_6 ?_;refine ZW ?_ ?_<;>intro hc0
 .simp only[aj]at hc0;have hlt:=hn hc0;obtain⟨m,rfl⟩:∃m:Nat,n=m:=ar hc0;rw[aP]at hlt;obtain⟨bs,rfl⟩:=iy (hi.get (show Has _ (lvC A c T)from Zh)) Wq1;have hx:T[m]? =some (T.getD m 0):=(by simp[ai hlt]);have hu:gz T m at_=T.set m (if at_>T.getD m 0 then at_ else T.getD m 0):=(by unfold gz;rw[ax hc0,ac,aP]);obtain⟨t,ht⟩:=Zgn (T.getD m 0);rw[ht]at hx hu;obtain⟨t2,ht2⟩:=Zgn ((if at_>t then at_ else t));rw[ht2]at hu;refine bU ⟨λj=>List.elem j [11],sQ b [.slice (some ⟨bs,0,none⟩) T.length c]⟩ Zk ?_;refine iV 0 rfl Zk Zk Zk (bQ Zrf (Zv rfl)) Wq2 (bV (t:=326) Zh) rfl ?_;refine ZE 1 ?_;refine iV 2 rfl Zk Zk Zk (bQ Zrf (Zv rfl)) Wq2 (bV (t:=326) Zh) rfl ?_;refine ZE 3 ?_;refine cG 4 rfl Zk Zk Zk (cw (j:=m) (sz:=3) (r:=m*3) rfl Zrf (Zv rfl) (Zv rfl) Zrf (λ_=>hlt) Wq1) rfl ?_;refine ZFe 5 2 ?_;refine dD 6 rfl Zk Zk Zk Zk (bQ Zrf Zv0) (BL Zh (kw T 0 m (j:=2) hx rfl)) rfl ?_;refine ZE 7 ?_;refine cG 8 rfl Zk Zk Zk (sd Zv0 Zv0 ht2) rfl ?_;refine cG 9 rfl Zk Zk Zk (cw (j:=m) (sz:=3) (r:=m*3) rfl Zrf (Zv rfl) (Zv rfl) Zrf (λ_=>hlt) Wq1) rfl ?_;refine ZFe 10 2 ?_;refine cn 11 Zk ?_;refine du rfl rfl (wD Zrf rfl rfl rfl Za Wq1) (λ_=>by rintro _ _ ⟨rfl,rfl⟩;exact bV (t:=326) Zh) ?_;rintro _ _ ⟨rfl,rfl⟩;refine dx ?_;refine jb (cs':=[row b [.slice (some ⟨bs,0,none⟩) T.length c] 326,slv 331 3 (some ⟨bs,0,none⟩) T.length c ((fT 0 T).set (m*3+2) (.int .i64 t2))]) (.inr rfl) Zu rfl ?_;rw[hu,vd,show T.length=(T.set m t2).length by simp]
 simp only[ah]at hc0;have hu:gz T n at_=T:=(by unfold gz;rw[aw hc0];rfl);refine Zc (jb (cs':=lvF b A c T) (.inr rfl) Zu rfl ?_);rw[hu]
theorem lof_ok(p:Pg)(Q:PAd)(hf:rE p)(hr:p.M0=true)(w:World)(h:CU p Q w):
  Ctr prog 220 [pgv p Q] w [] (λr cs=>∃A c,r= .slice A (gM p).length c/\cs=[lvC A c (gM p)]):=by
 have hv3:p.values=p.code.length:=hf.Ni;have hm64:=hf.M9;have hrc:=h.code;have hrD:=h.MV;have hrR:=h.MW;obtain⟨u1,u2,u3,u4⟩:=qj hr;obtain⟨N,hN⟩:=Zgn (p.code.length);rw[hN]at hv3 hm64 u2 u3 u4;have hlv:[p.MV,p.MW,[p.flags,p.target]].foldl (λT l=>jW T l N) (fB p.code 0 (iota N))=gM p:=by unfold gM;rw[hN];rfl
 obtain⟨L0,hL0⟩:=Zgn (fB p.code 0 (iota N));rw[hL0]at hlv;refine bN func220 rfl ntmps220 rfl (Inv.start w) ?_;refine Z_2 ?_;refine ZO λb1=>?_;refine Z_7 ?_;refine ZSe (λw hi=>tB p Q hf w (h.MZ hi)) ?_;rw[hr];refine Z_3 ?_;refine fS ?_;refine Z_4 ?_;refine ZN λb3=>?_;refine Z_5 ?_;refine dC 331 3 ?_
 try rw[hv3]
 refine Z_6 ?_;refine cq (λq:Nat×List Int×Option Addr×Nat=>[(1,.pointer (some ⟨b1,0,none⟩)),(3,.pointer (some ⟨b3,0,none⟩)),(16,.int .i64 p.values),(17,.int .i64 (q.1:Int))]) (λq=>[row b1 (jR p Q) 242,row b3 [.slice q.2.2.1 q.2.1.length q.2.2.2] 326,slv 331 3 q.2.2.1 q.2.1.length q.2.2.2 (fT 0 q.2.1)]) (λq=>q.1<=N/\q.2.1=iota q.1) (λq=>N - q.1) (⟨0,[],none,0⟩) ?_ ?_ ?_ ?_
 .exact⟨aq _,rfl⟩
 .exact Zwk
 .exact Zu
 rintro⟨k,T,A1,c1⟩ ⟨hk,hT⟩;dsimp only at hk hT|-;have hTl:T.length=k:=(by rw[hT,pG]);refine Z_6 ?_;refine ZW ?_ ?_<;>intro hc5
 .simp only[aj]at hc5;rw[hv3]at hc5;have hsp:fT 0 T++[.int .i64 (k:Int),.int .i64 (k:Int),.int .i64 (k:Int)]=fT 0 (T++[(k:Int)]):=(by rw[vf,hTl,bE]);refine ri ?_;refine ro ?_;rintro _ _ ⟨b25,rfl,rfl⟩;refine gj (cD (e:=331) (sz:=3) (bytes:=24) rfl rfl Za rfl rfl (λw hi=>hi.rd (show Has _ (slv 331 3 (some ⟨b25,0,none⟩) 1 1 [.int .i64 (k:Int),.int .i64 (k:Int),.int .i64 (k:Int)])from Zh)) (one3 _ _ _) gS Wq1) rfl ?_;rintro _ _ ⟨A2,c2,rfl,rfl⟩;rw[hsp,show T.length+1=(T++[(k:Int)]).length by simp];refine ZL ?_;refine Z_4 ?_;refine Wq8 ?_;refine bX ((⟨k+1,T++[(k:Int)],A2,c2⟩:Nat×List Int×Option Addr×Nat)) ?_ ?_ ?_
  .exact⟨⟨by omega,by dsimp only;rw[Hk,hT]⟩,by dsimp only;omega⟩
  .exact Zwk
  exact Zj
 simp only[ah]at hc5;rw[hv3]at hc5;obtain rfl:k=N:=by omega
 refine Z_7 ?_;refine Zy (lL rfl) ?_;refine jd ?_;refine cq (λq:Nat×List Int=>[(1,.pointer (some ⟨b1,0,none⟩)),(3,.pointer (some ⟨b3,0,none⟩)),(5,.func (.func 255) #[] #[.pointer (some ⟨b3,0,none⟩)]),(30,.slice Q.Ac p.code.length Q.cc),(31,.int .i64 p.code.length),(32,.int .i64 (q.1:Int))]) (λq=>[row b1 (jR p Q) 242,row b3 [.slice A1 q.2.length c1] 326,slv 331 3 A1 q.2.length c1 (fT 0 q.2)]) (λq=>q.1<=k/\q.2.length=k/\fB (p.code.drop q.1) q.1 q.2=L0) (λq=>k - q.1) (⟨0,T⟩) ?_ ?_ ?_ ?_
 .exact⟨aq _,hTl,by rw[hT];exact hL0⟩
 .exact Zwk
 .exact Zu
 rintro⟨i,T⟩ ⟨hi2,hTl,hL⟩;dsimp only at hi2 hTl hL|-;refine Z_6 ?_;refine ZW ?_ ?_<;>intro hc11
 .simp only[aj]at hc11;rw[hN]at hc11;have hil:i<p.code.length:=Wq1;obtain⟨ad,had⟩:=hrc.some_ Wq1;have hrc2:=hrc;rw[had]at hrc2;obtain⟨x,hx⟩:∃x,p.code[i]? =some x:=⟨_,ai hil⟩;have hu:=u1 i x hx;rw[jL hx]at hL;have hL:fB (p.code.drop (i+1)) (i+1) (bif lr x then gz (gz T x.a i) x.b i else T)=L0:=hL;obtain⟨op,dst,xa,xb,imm⟩:=x;dsimp only at hL hu;refine Z_7 ?_;refine Zy (fg (j:=i) had rfl Zrf Zv0 Zv0 Zrf (λ_=>hil)) ?_;refine dN (cz (vs:=[.int .i64 op,.int .i64 dst,.int .i64 xa,.int .i64 xb,.int .u32 imm]) Zrf Zrf Zv0) (fv hrc2 (λj v hj=>fK (f:=II.cells) Zrf (i:=j) hx hj)) rfl ?_;refine ZN λb7=>?_
  refine ZA ?_;refine ZM ?_;refine gy ?_;refine ZW ?_ ?_<;>intro hc13
  .have hab:lr ⟨op,dst,xa,xb,imm⟩=true:=hc13;obtain⟨⟨ha1,ha2⟩,hb1,hb2⟩:=hu hab;rw[hab,ac]at hL;refine Z_6 ?_;refine gj (fR (lvF b3 A1 c1 T) rfl rfl (λ_ _=>rfl) Zi (λw hi hin=>Fc b3 A1 c1 T xa i Wq4 w hin)) rfl ?_;rintro _ _ ⟨_,rfl,rfl⟩;refine Z_7 ?_;refine gj (fR (lvF b3 A1 c1 (gz T xa i)) rfl rfl (λ_ _=>rfl) Zi (λw hi hin=>Fc b3 A1 c1 (gz T xa i) xb i (λ_=>by rw[oT];omega) w hin)) rfl ?_;rintro _ _ ⟨_,rfl,rfl⟩;refine Z_4 ?_;refine Wq8 ?_;refine bX ((⟨i+1,gz (gz T xa i) xb i⟩:Nat×List Int)) ?_ ?_ ?_
   .exact⟨⟨by omega,by dsimp only;rw[oT,oT,hTl],hL⟩,by dsimp only;omega⟩
   .exact Zwk
   exact Zj
  have hab:lr ⟨op,dst,xa,xb,imm⟩=false:=hc13;rw[hab,aa]at hL;refine Z_4 ?_;refine Wq8 ?_;refine bX ((⟨i+1,T⟩:Nat×List Int)) ?_ ?_ ?_
  .exact⟨⟨by omega,hTl,hL⟩,by dsimp only;omega⟩
  .exact Zwk
  exact Zj
 simp only[ah]at hc11;rw[hN]at hc11;obtain rfl:i=k:=by omega
 rw[List.drop_of_length_le Wq1]at hL;obtain rfl:T=L0:=hL;refine ri ?_;refine jO ?_;rintro _ _ ⟨b64,rfl,rfl⟩;refine jO ?_;rintro _ _ ⟨b65,rfl,rfl⟩;refine Z_5 ?_;refine cq (λq:Nat×List Int=>[(1,.pointer (some ⟨b1,0,none⟩)),(3,.pointer (some ⟨b3,0,none⟩)),(5,.func (.func 255) #[] #[.pointer (some ⟨b3,0,none⟩)]),(65,.slice (some ⟨b65,0,none⟩) 3 3),(66,.int .i64 3),(67,.int .i64 (q.1:Int))]) (λq=>[row b1 (jR p Q) 242,row b3 [.slice A1 q.2.length c1] 326,slv 331 3 A1 q.2.length c1 (fT 0 q.2),slv 3 1 (some ⟨b64,0,none⟩) 2 2 (ints .i64 [p.flags,p.target]),slv 60 1 (some ⟨b65,0,none⟩) 3 3 [.slice Q.Ad p.MV.length Q.cd,.slice Q.Ar p.MW.length Q.cr,.slice (some ⟨b64,0,none⟩) 2 2]]) (λq=>q.1<=3/\q.2.length=i/\([p.MV,p.MW,[p.flags,p.target]].drop q.1).foldl (λT l=>jW T l i) q.2=gM p) (λq=>3 - q.1) (⟨0,T⟩) ?_ ?_ ?_ ?_
 .exact⟨aq _,hTl,hlv⟩
 .exact Zwk
 .exact Zu
 rintro⟨k2,T2⟩ ⟨hk2,hTl2,hF⟩;dsimp only at hk2 hTl2 hF|-;refine Z_6 ?_;refine ZW ?_ ?_<;>intro hc18
 .simp only[aj]at hc18;obtain⟨A9,c9,l9,hx1,hx2,had9,hR9,hb9,hlen9⟩:∃(A9:Option Addr) (c9:Nat) (l9:List Int),[Value.slice Q.Ad p.MV.length Q.cd,.slice Q.Ar p.MW.length Q.cr,.slice (some ⟨b64,0,none⟩) 2 2][k2]? =some (.slice A9 l9.length c9)/\[p.MV,p.MW,[p.flags,p.target]][k2]? =some l9/\(0<l9.length->∃ad,A9=some ad)/\(∀(cs:List bL) (w':World),Inv w [] cs w'->Has cs (slv 3 1 (some ⟨b64,0,none⟩) 2 2 (ints .i64 [p.flags,p.target]))->RdV w' 1 A9 l9.length c9 (ints .i64 l9))/\(∀x,x∈l9->0<=x->x<i)/\l9.length<=100:=(by have h9:k2=0\/k2=1\/k2=2:=Wq1;rcases h9 with rfl|rfl|rfl;exact⟨_,_,p.MV,rfl,rfl,λh=>hrD.some_ h,λ_ _ hi _=>hrD.MZ hi,λx hx _=>(u2 x (Or.inl hx)).2,hf.MV⟩;exact⟨_,_,p.MW,rfl,rfl,λh=>hrR.some_ h,λ_ _ hi _=>hrR.MZ hi,λx hx _=>(u2 x (Or.inr hx)).2,hf.MW⟩;exact⟨_,_,[p.flags,p.target],rfl,rfl,λ_=>⟨_,rfl⟩,λ_ _ hi hh=>hi.rd hh,λx hx h0=>(by simp only[aJ,aY,or_false]at hx;rcases hx with rfl|rfl;exact u3 h0;exact u4 h0),by show 2<=100;omega⟩);rw[jL hx2]at hF;have hF:([p.MV,p.MW,[p.flags,p.target]].drop (k2+1)).foldl (λT l=>jW T l i) (jW T2 l9 i)=gM p:=hF;obtain⟨R9,hR9e⟩:=Zgn (jW T2 l9 i);rw[hR9e]at hF;refine Z_6 ?_;refine Zy (dX (j:=k2) rfl Zrf (Zv rfl) (Zv rfl) Wq4 Wq4) ?_;refine dN (bQ Zrf Zv0) (qh Zh hx1) rfl ?_;refine fE ?_;refine cq (λq:Nat×List Int=>[(1,.pointer (some ⟨b1,0,none⟩)),(3,.pointer (some ⟨b3,0,none⟩)),(5,.func (.func 255) #[] #[.pointer (some ⟨b3,0,none⟩)]),(65,.slice (some ⟨b65,0,none⟩) 3 3),(66,.int .i64 3),(67,.int .i64 (k2:Int)),(71,.slice A9 l9.length c9),(72,.int .i64 l9.length),(73,.int .i64 (q.1:Int))]) (λq=>[row b1 (jR p Q) 242,row b3 [.slice A1 q.2.length c1] 326,slv 331 3 A1 q.2.length c1 (fT 0 q.2),slv 3 1 (some ⟨b64,0,none⟩) 2 2 (ints .i64 [p.flags,p.target]),slv 60 1 (some ⟨b65,0,none⟩) 3 3 [.slice Q.Ad p.MV.length Q.cd,.slice Q.Ar p.MW.length Q.cr,.slice (some ⟨b64,0,none⟩) 2 2]]) (λq=>q.1<=l9.length/\q.2.length=i/\jW q.2 (l9.drop q.1) i=R9) (λq=>l9.length - q.1) (⟨0,T2⟩) ?_ ?_ ?_ ?_
  .exact⟨aq _,hTl2,hR9e⟩
  .exact Zwk
  .exact Zu
  rintro⟨k3,T3⟩ ⟨hk3,hTl3,hF3⟩;dsimp only at hk3 hTl3 hF3|-;refine Z_6 ?_;refine ZW ?_ ?_<;>intro hc21
  .simp only[aj]at hc21;have hkl:k3<l9.length:=Wq1;obtain⟨ad9,rfl⟩:=had9 Wq1;obtain⟨x,hx⟩:∃x,l9[k3]? =some x:=⟨_,ai hkl⟩;have hxb:=hb9 x (aD hx);rw[jL hx]at hF3;have hF3:jW (gz T3 x i) (l9.drop (k3+1)) i=R9:=hF3;refine Z_6 ?_;refine Zy (dX (j:=k3) rfl Zrf (Zv rfl) (Zv rfl) Wq4 Wq4) ?_;refine dN (bQ Zrf Zv0) (Ka (λw hi=>hR9 _ w hi Zh) (cR hx)) rfl ?_;refine Z_9 ?_;refine gj (fR (lvF b3 A1 c1 T3) rfl rfl (λ_ _=>rfl) Zi (λw hi hin=>Fc b3 A1 c1 T3 x p.code.length (λh0=>by have:=hxb h0;omega) w hin)) rfl ?_;rintro _ _ ⟨_,rfl,rfl⟩;rw[show gz T3 x (p.code.length:Int)=gz T3 x i by rw[hN]];refine Z_4 ?_;refine Wq8 ?_;refine bX ((⟨k3+1,gz T3 x i⟩:Nat×List Int)) ?_ ?_ ?_
   .exact⟨⟨by omega,by dsimp only;rw[oT,hTl3],hF3⟩,by dsimp only;omega⟩
   .exact Zwk
   exact Zj
  simp only[ah]at hc21;obtain rfl:k3=l9.length:=by omega
  rw[List.drop_length]at hF3;obtain rfl:T3=R9:=hF3;refine Z_7 ?_;refine Wq8 ?_;refine bX ((⟨k2+1,T3⟩:Nat×List Int)) ?_ ?_ ?_
  .exact⟨⟨by omega,hTl3,hF⟩,by dsimp only;omega⟩
  .exact Zwk
  exact Zj
 simp only[ah]at hc18;obtain rfl:k2=3:=by omega
 obtain rfl:T2=gM p:=hF;refine gR ?_;refine Zrb ([lvC A1 c1 (gM p)]) ?_;exact⟨A1,c1,rfl,rfl⟩
end Go.Proofs.YtkegldppffignaaGreatDoor
namespace Go.Ink
open Go.RowKit
theorem and64r(n:Nat)(hn:n<=64):bits .and .u64 (n:Int) 4294967295=n:=by
 have h:∀k:Fin 65,bits .and .u64 ((k.val:Nat):Int) 4294967295=((k.val:Nat):Int):=by decide+kernel
 exact h ⟨n,by omega⟩
theorem Mb(n:Nat)(hn:n<=64):(n:Int).fdiv (2^(min (32:Int).toNat IntKind.u64.bits))=0:=by
 show(n:Int).fdiv 4294967296=0;rw[bl _ Wq5];omega
theorem mul1r(n:Nat)(hn:n<=64):IntKind.u64.wrap (1*(n:Int))=n:=by rw[aQ];omega
theorem mul0r(n:Nat):IntKind.u64.wrap (0*(n:Int))=0:=by rw[Int.zero_mul];rfl
def DJ(m n:Nat):List Value:=List.replicate m (.int .i64 (-1))++List.replicate (n - m) (.int .i64 0)
theorem yr{m n:Nat}:(DJ m n).take m=List.replicate m (.int .i64 (-1)):=by unfold DJ;rw[List.take_append_of_le_length cE,List.take_of_length_le cE]
theorem rep0(n:Nat):(List.replicate n (.int .i64 0:Value)).take 0++(ints .i64 [-1]).take (min 1 n)++(List.replicate n (.int .i64 0)).drop (0+min 1 n)=DJ (min 1 n) n:=by
 unfold DJ;rw[List.take_zero,aO,List.drop_replicate,bE];cases n with
 |zero=>rfl
 |succ n=>rw[show min 1 (n+1)=1 by omega];rfl
theorem J5{m n:Nat}(h:m<=n):(DJ m n).take m++(List.replicate m (.int .i64 (-1):Value)).take (min m (n - m))++(DJ m n).drop (m+min m (n - m))=DJ (m+min m (n - m)) n:=by
 rw[yr,List.take_replicate,show min (min m (n - m)) m=min m (n - m) by omega];unfold DJ;rw[List.drop_append,aI,List.drop_of_length_le cE,aO,List.drop_replicate,List.replicate_append_replicate,show m+min m (n - m) - m=min m (n - m) by omega,show n - m - min m (n - m)=n - (m+min m (n - m)) by omega]
theorem J7(n:Nat):DJ n n=ints .i64 (List.replicate n (-1)):=by unfold DJ;simp[ints]
theorem J6{m:Nat}:∀u∈List.replicate m (.int .i64 (-1):Value),u.oneCell'=true:=λu h=>by
 obtain rfl:=List.eq_of_mem_replicate h;rfl
theorem RdV.head{w:World}{A:Option Addr}{n c m:Nat}{xs:List Value}(h:RdV w 1 A n c xs)(hm:m<=n):RdV w 1 A m c (xs.take m):=
 ⟨by rw[aB,h.len];omega,by have:=h.cap;omega,h.max,λe=>by have:=h.nil e;omega,λad e j u hu=>h.at_ ad e j u (by rw[List.getElem?_take]at hu;split at hu;exact hu;cases hu)⟩
end Go.Ink
namespace Go.Proofs.YtkegldppffignaaGreatDoor
open Go.RowKit Go.Ink Go.Proofs.Tryz
attribute [local irreducible] OpY bS
theorem KB(n:Nat)(hn:n<=64)(w:World):Ctr prog 273 [.int .u64 1,.int .u64 n] w [] (λr cs=>r= .tuple #[.int .u64 0,.int .u64 n]/\cs=[]):=by
 refine bN func273 rfl ntmps273 rfl (Inv.start w) ?_;refine Z_9 ?_;refine Zy (oL (Zv rfl) (Zv rfl) (show _=(1:Int)from rfl)) ?_;refine Z_6 ?_;refine Zy (ko (Zv rfl) (Zv rfl) Wq1 (show _=(0:Int)from rfl)) ?_;refine Z_6 ?_;refine Zy (oL Zv0 Zv0 (and64r n hn)) ?_;refine Z_6 ?_;refine Zy (ko (Zv rfl) (Zv rfl) Wq1 (Mb n hn)) ?_;refine Z_7 ?_;refine Zy (jk Zv0 Zv0 (mul1r n hn)) ?_;refine Z_7 ?_;refine Zy (jk Zv0 Zv0 (mul0r n)) ?_;refine ZA ?_;refine Zy (ko (Zv rfl) (Zv rfl) Wq1 (Mb n hn)) ?_;refine Zy (df (Zv rfl) (Zv rfl) (show _=(0:Int)from rfl)) ?_;refine Z_6 ?_;refine Zy (oL (Zv rfl) (Zv rfl) (show _=(0:Int)from rfl)) ?_;refine Z_6 ?_;refine Zy (ko (Zv rfl) (Zv rfl) Wq1 (show _=(0:Int)from rfl)) ?_;refine Z_8 ?_;refine Zy (jk (Zv rfl) (Zv rfl) (show _=(0:Int)from rfl)) ?_;refine Zy (df (Zv rfl) (Zv rfl) (show _=(0:Int)from rfl)) ?_;refine Z_7 ?_;refine Zy (jk (Zv rfl) (Zv rfl) (show _=(0:Int)from rfl)) ?_;refine ZA ?_;refine Zy (df (Zv rfl) (Zv rfl) (show _=(0:Int)from rfl)) ?_;refine ZA ?_;refine Zy (ko (Zv rfl) (Zv rfl) Wq1 (show _=(0:Int)from rfl)) ?_;refine Zy (df (Zv rfl) (Zv rfl) (show _=(0:Int)from rfl)) ?_;refine Z_7 ?_;refine Zy (jk Zv0 Zv0 (mul1r n hn)) ?_;refine Z_4 ?_;refine i9 ?_;exact de
theorem mul_ok(n:Nat)(hn:n<=64)(w:World):Ctr prog 254 [.int .u64 1,.int .u64 n] w [] (λr cs=>r= .tuple #[.int .u64 0,.int .u64 n]/\cs=[]):=by
 refine bN func254 rfl ntmps254 rfl (Inv.start w) ?_;refine Z_7 ?_;refine fS ?_;refine Z_6 ?_;refine ZSe (λw hi=>KB n hn w) ?_;refine ri ?_;refine i9 ?_;exact de
theorem Ge(n:Nat)(hn:n<=64)(A:Option Addr)(c:Nat)(w:World)(h:Rd w .i64 A 1 c [-1]):
  Ctr prog 219 [.slice A 1 c,.int .i64 n] w [] (λr cs=>∃A',r= .slice A' n n/\cs=[sl .i64 3 A' n n (List.replicate n (-1))]):=by
 refine bN func219 rfl ntmps219 rfl (Inv.start w) ?_;refine gR ?_;refine dc rfl (aw Wq1) ?_;refine Z_6 ?_;refine Zy (ce rfl rfl (Zv rfl) (show _=(1:Int)from rfl)) ?_;refine ZA ?_;refine Zy (ce rfl rfl (Zv rfl) uw) ?_;refine ZSe (λw hi=>mul_ok n hn w) ?_;refine Bn ?_;refine dc rfl ((by simp;omega)) ?_;refine Z_5 ?_;refine Zy (ce rfl rfl Zv0 Zl) ?_;refine gj (kO (bytes:=8) (n:=n) rfl rfl rfl rfl rfl rfl rfl Wq1 gS) rfl ?_;rintro _ _ ⟨b30,rfl,rfl⟩;refine Z_7 ?_;refine gj (u9 rfl rfl Za rfl rfl (λw hi=>h.MZ hi) cN Wq1) rfl ?_;rintro _ _ ⟨rfl,rfl⟩;rw[rep0 n];refine Z_5 ?_;refine cq (λm:Nat=>[(7,.slice (some ⟨b30,0,none⟩) n n),(8,.int .i64 (m:Int))]) (λm=>[slv 3 1 (some ⟨b30,0,none⟩) n n (DJ m n)]) (λm=>m<=n/\(0<n->0<m)) (λm=>n - m) ((min 1 n)) ?_ ?_ ?_ ?_
 .exact⟨by omega,by omega⟩
 .exact Zwk
 .exact Zu
 rintro m ⟨hm,hm0⟩;refine Z_9 ?_;refine ZW ?_ ?_<;>intro hc8
 .simp only[aj]at hc8;refine Z_3 ?_;refine bU ⟨λj=>List.elem j [7],[]⟩ Zk ?_;refine gO ?_;refine ZE 2 ?_;refine cG 3 rfl Zk Zk Zk (kL (sz:=1) (lo:=m) (hi:=n) (r:=m) rfl Zrf (Zv rfl) (.inr ⟨_,_,rfl,(Zv rfl)⟩) (.inl ⟨rfl,rfl⟩) Wq1 Wq1 Wq1 Wq1) rfl ?_;refine ZE 4 ?_;refine ZE 5 ?_;refine cG 6 rfl Zk Zk Zk (ge m rfl Zrf (Zv rfl) (Zv rfl) (λ_=>by first|rfl|omega) Wq4) rfl ?_;refine cn 7 Zk ?_;refine kf rfl rfl (u9 rfl rfl Za rfl rfl (λw hi=>yr▸(hi.rd (show Has _ (slv 3 1 (some ⟨b30,0,none⟩) n n (DJ m n))from Zh)).head hm) J6 Wq1) ZJ rfl ?_;rintro _ _ ⟨rfl,rfl⟩;rw[J5 hm];refine cG 8 rfl Zk Zk Zk (df Zv0 Zv0 Zl) rfl ?_;refine ZE 9 ?_;refine dx ?_;refine Zo ?_;refine dW (m+min m (n - m)) ?_ ?_ ?_
  .exact⟨⟨by omega,by omega⟩,by omega⟩
  .exact Zwk
  exact Zu
 simp only[ah]at hc8;obtain rfl:m=n:=by omega
 refine gR ?_;refine Zrb ([slv 3 1 (some ⟨b30,0,none⟩) m m (DJ m m)]) ?_;exact⟨_,rfl,by rw[J7]⟩
end Go.Proofs.YtkegldppffignaaGreatDoor
namespace Go.Ink
open Go.RowKit
theorem m7{l:List Int}{i:Nat}(h:i<l.length):l[i]? =some (l.getD i 0):=by simp[ai h]
theorem Ic{T l:List Int}{n k:Nat}(h:kD T l n (l.length - k) k=ga T l n)(hk:k<=l.length)(ht:fp T l n k l.length=true):k<l.length/\kD T l n (l.length - (k+1)) (k+1)=ga T l n:=by
 rcases Nat.lt_or_ge k l.length with h9|h9
 .refine⟨h9,?_⟩;rw[show l.length - k=(l.length - (k+1))+1 by omega]at h;have h:(bif fp T l n k l.length then kD T l n (l.length - (k+1)) (k+1)else k)=ga T l n:=h;rwa[ht,ac]at h
 obtain rfl:k=l.length:=by omega
 rw[Nat.sub_self]at h;have h:l.length=ga T l n:=h;have:=(qC T l n).1;rw[<-h,ht]at this;cases this
theorem Lc{T l:List Int}{n k:Nat}(h:kD T l n (l.length - k) k=ga T l n)(hk:k<=l.length)(ht:fp T l n k l.length=false):ga T l n=k:=by
 rcases Nat.lt_or_ge k l.length with h9|h9
 .rw[show l.length - k=(l.length - (k+1))+1 by omega]at h;have h:(bif fp T l n k l.length then kD T l n (l.length - (k+1)) (k+1)else k)=ga T l n:=h;rw[ht,aa]at h;exact h.symm
 obtain rfl:k=l.length:=by omega
 rw[Nat.sub_self]at h;exact h.symm
end Go.Ink
namespace Go.Proofs.YtkegldppffignaaGreatDoor
open Go.RowKit Go.Ink Go.Proofs.Tryz
attribute [local irreducible] OpY bS
structure SAd where
 Ar:Option Addr
 cr:Nat
 As:Option Addr
 cs:Nat
 Av:Option Addr
 cv:Nat
abbrev scR(b:Nat)(X:SAd)(N:Nat)(Nf:Int):bL:=row b [.slice X.Ar N X.cr,.slice X.As N X.cs,.int .i64 Nf,.slice X.Av N X.cv] 329
theorem Ct(b:Nat)(X:SAd)(N:Nat)(Nf:Int)(T l:List Int)(hT:T.length=N)(hl:l.length=N)(hN:N<=64)(A:Option Addr)(c:Nat)(n:Nat)(hn:n<N)(w:World)(h:(scR b X N Nf).ok w)(h2:Rd w .i64 A N c l)(h3:RdV w 3 X.Av N X.cv (fT 0 T)):
  Ctr prog 221 [.pointer (some ⟨b,0,none⟩),.slice A N c,.int .i64 n] w [] (λr cs=>r= .int .i64 (ga T l n)/\cs=[]):=by
 obtain⟨av,hav⟩:=h3.some_ Wq1;rw[hav]at h3;have hxn:T[n]? =some (T.getD n 0):=m7 Wq1;refine bN func221 rfl ntmps221 rfl (Inv.start w) ?_;refine fE ?_;refine cq (λk:Nat=>[(0,.pointer (some ⟨b,0,none⟩)),(1,.slice A N c),(2,.int .i64 n),(7,.int .i64 (k:Int))]) (λ_=>[]) (λk=>k<=N/\kD T l n (l.length - k) k=ga T l n) (λk=>N+1 - k) (0) ?_ ?_ ?_ ?_
 .exact⟨aq _,rfl⟩
 .exact Zwk
 .exact Zu
 rintro k ⟨hk,hF⟩;refine ri ?_;refine cq (λj:Nat=>[(0,.pointer (some ⟨b,0,none⟩)),(1,.slice A N c),(2,.int .i64 n),(7,.int .i64 (k:Int)),(8,.bool (fp T l n k j)),(13,.slice A N c),(14,.int .i64 N),(15,.int .i64 (j:Int))]) (λ_=>[]) (λj=>j<=N) (λj=>N - j) (0) ?_ ?_ ?_ ?_
 .exact aq _
 .exact Zwk
 .exact Zu
 rintro j hj;refine Z_6 ?_;refine ZW ?_ ?_<;>intro hc5
 .simp only[aj]at hc5;have hjN:j<N:=Wq1;obtain⟨ad,rfl⟩:=h2.some_ Wq1;have hx:l[j]? =some (l.getD j 0):=m7 Wq1;have hxj:T[j]? =some (T.getD j 0):=m7 Wq1;refine Z_7 ?_;refine Zy (dX (j:=j) rfl Zrf (Zv rfl) (Zv rfl) Wq4 Wq4) ?_;refine dN (bQ Zrf Zv0) (eo h2 (cR hx)) rfl ?_;refine Z_4 ?_;refine bU ⟨λj=>List.elem j [],[]⟩ Zk ?_;refine gO ?_;refine ZF 2 ?_;refine ZF 3 ?_;refine ZF 4 ?_;refine ZF 5 ?_;refine ZF 6 ?_;refine ZF 7 ?_;refine ZFf 8 3 ?_;refine qO 9 rfl Zk Zk Zk Zk (fV rfl rfl) (bQ Zrf (dh rfl)) (dy h rfl) rfl ?_;refine ZF 10 ?_;refine Df 11 rfl Zk Zk Zk (fV rfl rfl) (fg (j:=j) hav rfl Zrf (dh rfl) (dh rfl) Zrf (λ_=>hjN)) rfl ?_;refine qO 12 rfl Zk Zk Zk Zk (fV rfl rfl) (cz (vs:=[.int .i64 j,.int .i64 j,.int .i64 (T.getD j 0)]) Zrf Zrf (dh rfl)) (fv h3 (λi v hv=>kw T 0 j hxj (by rw[bE];exact hv))) rfl ?_;refine ZF 13 ?_;refine ZF 14 ?_;refine ZFf 15 3 ?_;refine qO 16 rfl Zk Zk Zk Zk (fV rfl rfl) (bQ Zrf (dh rfl)) (dy h rfl) rfl ?_;refine ZF 17 ?_;refine Df 18 rfl Zk Zk Zk (fV rfl rfl) (fg (j:=n) hav rfl Zrf (dh rfl) (dh rfl) Zrf (λ_=>hn)) rfl ?_;refine qO 19 rfl Zk Zk Zk Zk (fV rfl rfl) (cz (vs:=[.int .i64 n,.int .i64 n,.int .i64 (T.getD n 0)]) Zrf Zrf (dh rfl)) (fv h3 (λi v hv=>kw T 0 n hxn (by rw[bE];exact hv))) rfl ?_;refine cn 20 Zk ?_;refine Bx rfl (fV rfl rfl) (.cons (dh rfl) (.cons (dh rfl) .nil)) (λ_ _=>rfl) (λhg w hi=>GM T j n w) rfl ?_;refine ZF 21 ?_;refine ZE 22 ?_;refine ZE 23 ?_;refine dx ?_;refine Z_3 ?_;refine Wq8 ?_;refine dW (j+1) ?_ ?_ ?_
  .exact⟨hjN,by omega⟩
  .exact Zwk
  exact Zu
 simp only[ah]at hc5;obtain rfl:j=N:=by omega
 refine fE ?_;refine ZW ?_ ?_<;>intro hc9
 .have htk:fp T l n k l.length=false:=(by rw[hl];simpa using hc9);refine fE ?_;refine Zra ?_;exact⟨by rw[Lc hF Wq1 htk],rfl⟩
 have htk:fp T l n k l.length=true:=(by rw[hl];simpa using hc9);obtain⟨hk2,hF2⟩:=Ic hF Wq1 htk;refine Z_5 ?_;refine Wq8 ?_;refine dW (k+1) ?_ ?_ ?_
 .exact⟨⟨by omega,hF2⟩,by omega⟩
 .exact Zwk
 exact Zu
end Go.Proofs.YtkegldppffignaaGreatDoor
namespace Go.Ink
open Go.RowKit
theorem mY{k:IntKind}(l:List Int)(n:Nat)(v:Int):(ints k l).set n (.int k v)=ints k (l.set n v):=by unfold ints;rw[List.map_set]
end Go.Ink
namespace Go.Proofs.YtkegldppffignaaGreatDoor
open Go.RowKit Go.Ink Go.Proofs.Tryz
attribute [local irreducible] OpY bS
structure SBk where
 br:Nat
 cr:Nat
 bs:Nat
 cs:Nat
 bv:Nat
 cv:Nat
abbrev SBk.X(Y:SBk):SAd:=⟨some ⟨Y.br,0,none⟩,Y.cr,some ⟨Y.bs,0,none⟩,Y.cs,some ⟨Y.bv,0,none⟩,Y.cv⟩
abbrev scF(b:Nat)(X:SAd)(N:Nat)(T:List Int)(pl:Pl):List bL:=[scR b X N pl.Nf,sl .i64 3 X.Ar N X.cr pl.reg,sl .i64 3 X.As N X.cs pl.slot,slv 331 3 X.Av N X.cv (fT 0 T)]
theorem BF(b br cr bs cs bv cv:Nat)(N:Nat)(T:List Int)(pl:Pl)(hT:T.length=N)(hrl:pl.reg.length=N)(hsl:pl.slot.length=N)(hN:N<=64)(n:Nat)(hn:n<N)(w:World)(hi:Inv w (bM (scF b ⟨some ⟨br,0,none⟩,cr,some ⟨bs,0,none⟩,cs,some ⟨bv,0,none⟩,cv⟩ N T pl)) (scF b ⟨some ⟨br,0,none⟩,cr,some ⟨bs,0,none⟩,cs,some ⟨bv,0,none⟩,cv⟩ N T pl) w):
  Ctr prog 223 [.pointer (some ⟨b,0,none⟩),.int .i64 n] w (scF b ⟨some ⟨br,0,none⟩,cr,some ⟨bs,0,none⟩,cs,some ⟨bv,0,none⟩,cv⟩ N T pl) (λ_ c=>c=scF b ⟨some ⟨br,0,none⟩,cr,some ⟨bs,0,none⟩,cs,some ⟨bv,0,none⟩,cv⟩ N T (lb T pl n)):=by
 obtain⟨reg,slot,Nf⟩:=pl;dsimp only at hrl hsl;have hfl:=(qC T slot n).2.1;obtain⟨f,hf⟩:=Zgn (ga T slot n);have hsp:lb T ⟨reg,slot,Nf⟩ n=⟨reg.set n (-1),slot.set n f,if(f:Int)+1>Nf then(f:Int)+1 else Nf⟩:=by unfold lb;rw[hf]
 have hFr:=Ct b ⟨some ⟨br,0,none⟩,cr,some ⟨bs,0,none⟩,cs,some ⟨bv,0,none⟩,cv⟩ N Nf T slot hT hsl hN (some ⟨bs,0,none⟩) cs n hn;rw[hf]at hFr hfl;rw[hsp];have hx:(slot.set n (f:Int))[n]? =some (f:Int):=by rw[List.getElem?_set_self Wq1]
 refine bN func223 rfl ntmps223 rfl hi ?_;refine Z_8 ?_;refine Zy (cw (j:=n) (sz:=1) (r:=n) rfl Zrf (Zv rfl) (Zv rfl) Wq4 Wq4 Wq1) ?_;refine dH (fh Zrf rfl rfl rfl Za Wq1) ?_;rintro _ _ ⟨rfl,rfl⟩;rw[mY];refine Z_3 ?_;refine bU ⟨λj=>List.elem j [15],[]⟩ Zk ?_;refine gO ?_;refine ZFe 2 0 ?_;refine ZFe 3 1 ?_;refine ZG 4 ?_;refine ZE 5 ?_;refine ZE 6 ?_;refine ZE 7 ?_;refine ZE 8 ?_;refine ZFe 9 0 ?_;refine ZFe 10 1 ?_;refine ZG 11 ?_;refine ZE 12 ?_;refine cn 13 Zk ?_;refine ZT (λw hi=>hFr w (hi.get Zh) (dk (hi.get (show Has _ (sl .i64 3 (some ⟨bs,0,none⟩) N cs slot)from Zh))) (dk (hi.get (show Has _ (slv 331 3 (some ⟨bv,0,none⟩) N cv (fT 0 T))from Zh)))) ?_;rintro _ _ ⟨_,⟨rfl,rfl⟩,rfl⟩;refine cG 14 rfl Zk Zk Zk (cw (j:=n) (sz:=1) (r:=n) rfl Zrf (Zv rfl) (Zv rfl) Zrf (λ_=>hn) Wq1) rfl ?_;refine cn 15 Zk ?_;refine du rfl rfl (fh Zrf rfl rfl rfl Za Wq1) ZJ ?_;rintro _ _ ⟨rfl,rfl⟩;rw[mY];refine dx ?_;refine Zt (bU ⟨λj=>List.elem j [19],[]⟩ Zk ?_);refine gO ?_;refine ZE 2 ?_;refine ZFe 3 0 ?_;refine ZFe 4 2 ?_;refine ZG 5 ?_;refine ZE 6 ?_;refine ZE 7 ?_;refine ZFe 8 0 ?_;refine ZFe 9 1 ?_;refine ZG 10 ?_;refine ZE 11 ?_;refine cG 12 rfl Zk Zk Zk (cw (j:=n) (sz:=1) (r:=n) rfl Zrf (Zv rfl) (Zv rfl) Zrf (λ_=>hn) Wq1) rfl ?_;refine dD 13 rfl Zk Zk Zk Zk (bQ Zrf Zv0) (dm Zh (cR hx)) rfl ?_;refine cG 14 rfl Zk Zk Zk (df Zv0 Zv0 Zl) rfl ?_;refine cG 15 rfl Zk Zk Zk (sd Zv0 Zv0 rfl) rfl ?_;refine ZE 16 ?_;refine ZFe 17 0 ?_;refine ZFe 18 2 ?_;refine cn 19 Zk ?_;refine ZQ ?_;refine dx ?_;refine jb (cs':=[row _ _ _,slv _ _ _ _ _ _,slv _ _ _ _ _ _,slv _ _ _ _ _ _]) (.inr rfl) Zu rfl ?_
 rfl
end Go.Proofs.YtkegldppffignaaGreatDoor
namespace Go.Ink
open Go.RowKit
theorem mM(T:List Int)(Na:Int)(N:Nat):∀n,(ig T Na N n).reg.length=N/\(ig T Na N n).slot.length=N
 |0=>⟨by simp[ig],by simp[ig]⟩
 |n+1=>by
  obtain⟨h1,h2⟩:=mM T Na N n;show(mH T Na (ig T Na N n) n).reg.length=N/\(mH T Na (ig T Na N n) n).slot.length=N;unfold mH lb;cases decide (((ga T (ig T Na N n).reg n:Nat):Int)<Na)<;>cases(gL T (ig T Na N n).reg n n !=n)<;>simp[h1,h2]
end Go.Ink
namespace Go.Proofs.YtkegldppffignaaGreatDoor
open Go.RowKit Go.Ink Go.Proofs.Tryz
attribute [local irreducible] OpY bS
theorem DI(v:Int)(n:Nat)(hv:v=n)(hn:n<=64)(A:Option Addr)(c:Nat)(w:World)(h:Rd w .i64 A 1 c [-1]):
  Ctr prog 219 [.slice A 1 c,.int .i64 v] w [] (λr cs=>∃A',r= .slice A' n n/\cs=[sl .i64 3 A' n n (List.replicate n (-1))]):=by
 subst hv;exact Ge n hn A c w h
theorem lofN_ok(p:Pg)(Q:PAd)(hf:rE p)(hr:p.M0=true)(T:List Int)(N:Nat)(hT:gM p=T)(hN:T.length=N)(w:World)(h:CU p Q w):
  Ctr prog 220 [pgv p Q] w [] (λr cs=>∃A c,r= .slice A N c/\cs=[slv 331 3 A N c (fT 0 T)]):=by
 subst hT hN;exact lof_ok p Q hf hr w h
abbrev MG(b:Nat):bL:=row b [.slice none 0 0,.slice none 0 0,.int .i64 0] 276
theorem LV(p:Pg)(Q:PAd)(hf:rE p)(hr:p.M0=true)(w:World)(h:CU p Q w):
  Ctr prog 173 [pgv p Q,.int .i64 7] w [] (λr cs=>∃Ar cr As c2,r= .tuple #[.agg #[.slice Ar p.code.length cr,.slice As p.code.length c2,.int .i64 (dV p).Nf],.int .i64 0]/\cs=[sl .i64 3 Ar p.code.length cr (dV p).reg,sl .i64 3 As p.code.length c2 (dV p).slot]):=by
 have hv3:p.values=p.code.length:=hf.Ni;have hm64:=hf.M9;have hpl:dV p=ig (gM p) 7 p.code.length p.code.length:=rfl;have hTl:=KP p;obtain⟨T,hT⟩:=Zgn (gM p);rw[hT]at hpl hTl;have hlo:=lofN_ok p Q hf hr T _ hT hTl;have hrp:=DI p.values p.code.length hv3 hm64;have hpl0:ig T 7 p.code.length 0=⟨List.replicate p.code.length (-1),List.replicate p.code.length (-1),0⟩:=rfl;rw[hpl];obtain⟨N,hN⟩:=Zgn (p.code.length);rw[hN]at hlo hTl hrp hpl0 hm64|-;have hlens:=mM T 7 N;have hst:∀k,ig T 7 N (k+1)=mH T 7 (ig T 7 N k) k:=λ_=>rfl
 refine bN func173 rfl ntmps173 rfl (Inv.start w) ?_;refine Z_2 ?_;refine ZO λb2=>?_;refine ZN λb4=>?_
 refine Z_7 ?_;refine ZSe (λw hi=>tB p Q hf w (h.MZ hi)) ?_;rw[hr];refine Z_3 ?_;refine eu (cy rfl rfl) (.cons (dh rfl) .nil) (λ_ _=>rfl) (λhg w hi=>yt w) rfl ?_;refine Z_4 ?_;refine fS ?_;refine Z_2 ?_;refine da (λq:Nat×SAd=>[(1,.int .i64 7),(2,.pointer (some ⟨b2,0,none⟩)),(4,.pointer (some ⟨b4,0,none⟩)),(5,.int .i64 0),(6,.pointer (some ⟨q.1,0,none⟩))]) (λq=>[row b4 [.slice none 0 0,.slice none 0 0,.int .i64 0] 276,scR q.1 q.2 N 0,sl .i64 3 q.2.Ar N q.2.cr (List.replicate N (-1)),sl .i64 3 q.2.As N q.2.cs (List.replicate N (-1)),slv 331 3 q.2.Av N q.2.cv (fT 0 T)]) (λ_=>True) ?_ ?_
 .refine bU ⟨λj=>List.elem j [],[]⟩ Zk ?_;refine ZFe 1 13 ?_;refine ZG 2 ?_;refine ZFe 5 13 ?_;refine ZG 6 ?_;refine ZI 9 ?_;refine k8 0 4 Zk ?_ ?_
  .refine xI ?_;rintro _ _ ⟨b22,rfl,rfl⟩;refine k8 3 4 Zk ?_ ?_
   .refine ZT (λw hi=>hrp (some ⟨b22,0,none⟩) 1 w (hi.rd (show Has _ (slv 3 1 (some ⟨b22,0,none⟩) 1 1 (ints .i64 [-1]))from Zh))) ?_;rintro _ _ ⟨_,⟨Ar,rfl,rfl⟩,rfl⟩;refine cn 4 Zk ?_;refine xI ?_;rintro _ _ ⟨b26,rfl,rfl⟩;refine cn 7 Zk ?_;refine ZT (λw hi=>hrp (some ⟨b26,0,none⟩) 1 w (hi.rd (show Has _ (slv 3 1 (some ⟨b26,0,none⟩) 1 1 (ints .i64 [-1]))from Zh))) ?_;rintro _ _ ⟨_,⟨As,rfl,rfl⟩,rfl⟩;refine ZE 8 ?_;refine cn 10 Zk ?_;refine ZT (λw hi=>hlo w (h.MZ hi)) ?_;rintro _ _ ⟨_,⟨Av,cv,rfl,rfl⟩,rfl⟩;refine ZE 11 ?_;refine cn 12 Zk ?_;refine kf rfl rfl (z7 rfl rfl) ZJ rfl ?_;rintro _ _ ⟨b34,rfl,rfl⟩;refine ZE 13 ?_;refine dx ?_;refine bX (((b34,⟨Ar,N,As,N,Av,cv⟩):Nat×SAd)) ?_ ?_ ?_
    .trivial
    .exact Zwk
    exact Zj
   refine xI ?_;rintro _ _ ⟨b26,rfl,rfl⟩;refine cn 3 Zk ?_;refine ZT (λw hi=>hrp (some ⟨b22,0,none⟩) 1 w (hi.rd (show Has _ (slv 3 1 (some ⟨b22,0,none⟩) 1 1 (ints .i64 [-1]))from Zh))) ?_;rintro _ _ ⟨_,⟨Ar,rfl,rfl⟩,rfl⟩;refine cn 7 Zk ?_;refine ZT (λw hi=>hrp (some ⟨b26,0,none⟩) 1 w (hi.rd (show Has _ (slv 3 1 (some ⟨b26,0,none⟩) 1 1 (ints .i64 [-1]))from Zh))) ?_;rintro _ _ ⟨_,⟨As,rfl,rfl⟩,rfl⟩;refine ZE 8 ?_;refine cn 10 Zk ?_;refine ZT (λw hi=>hlo w (h.MZ hi)) ?_;rintro _ _ ⟨_,⟨Av,cv,rfl,rfl⟩,rfl⟩;refine ZE 11 ?_;refine cn 12 Zk ?_;refine kf rfl rfl (z7 rfl rfl) ZJ rfl ?_;rintro _ _ ⟨b34,rfl,rfl⟩;refine ZE 13 ?_;refine dx ?_;refine bX (((b34,⟨Ar,N,As,N,Av,cv⟩):Nat×SAd)) ?_ ?_ ?_
   .trivial
   .exact Zwk
   exact Zj
  refine xI ?_;rintro _ _ ⟨b26,rfl,rfl⟩;refine cn 0 Zk ?_;refine xI ?_;rintro _ _ ⟨b22,rfl,rfl⟩;refine cn 3 Zk ?_;refine ZT (λw hi=>hrp (some ⟨b22,0,none⟩) 1 w (hi.rd (show Has _ (slv 3 1 (some ⟨b22,0,none⟩) 1 1 (ints .i64 [-1]))from Zh))) ?_;rintro _ _ ⟨_,⟨Ar,rfl,rfl⟩,rfl⟩;refine cn 7 Zk ?_;refine ZT (λw hi=>hrp (some ⟨b26,0,none⟩) 1 w (hi.rd (show Has _ (slv 3 1 (some ⟨b26,0,none⟩) 1 1 (ints .i64 [-1]))from Zh))) ?_;rintro _ _ ⟨_,⟨As,rfl,rfl⟩,rfl⟩;refine ZE 8 ?_;refine cn 10 Zk ?_;refine ZT (λw hi=>hlo w (h.MZ hi)) ?_;rintro _ _ ⟨_,⟨Av,cv,rfl,rfl⟩,rfl⟩;refine ZE 11 ?_;refine cn 12 Zk ?_;refine kf rfl rfl (z7 rfl rfl) ZJ rfl ?_;rintro _ _ ⟨b34,rfl,rfl⟩;refine ZE 13 ?_;refine dx ?_;refine bX (((b34,⟨Ar,N,As,N,Av,cv⟩):Nat×SAd)) ?_ ?_ ?_
  .trivial
  .exact Zwk
  exact Zj
 rintro⟨b6,X⟩ -;dsimp only;refine gR ?_;refine cq (λk:Nat=>[(1,.int .i64 7),(2,.pointer (some ⟨b2,0,none⟩)),(4,.pointer (some ⟨b4,0,none⟩)),(5,.int .i64 0),(6,.pointer (some ⟨b6,0,none⟩)),(38,.slice X.Av N X.cv),(39,.int .i64 N),(40,.int .i64 (k:Int))]) (λk=>MG b4::scF b6 X N T (ig T 7 N k)) (λk=>k<=N) (λk=>N - k) (0) ?_ ?_ ?_ ?_
 .exact aq _
 .exact Zwk
 .exact Zu
 rintro k hk;obtain⟨hrl,hsl⟩:=hlens k;have hstk:=hst k;obtain⟨pl,hplk⟩:=Zgn (ig T 7 N k);rw[hplk]at hrl hsl hstk;dsimp only;rw[hplk];refine Z_6 ?_;refine ZW ?_ ?_<;>intro hc5
 .simp only[aj]at hc5;have hkN:k<N:=Wq1;have hxk:T[k]? =some (T.getD k 0):=m7 Wq1;have hfl:=(qC T pl.reg k).2.1;obtain⟨f,hfe⟩:=Zgn (ga T pl.reg k);rw[hfe]at hfl;refine Z_6 ?_;refine dU (λw hi=>ez (hi.get (show Has _ (sl .i64 3 X.Ar N X.cr pl.reg)from Zh)) Wq1) (λh1=>?_);refine dU (λw hi=>ez (hi.get (show Has _ (sl .i64 3 X.As N X.cs pl.slot)from Zh)) Wq1) (λh2=>?_);refine dU (λw hi=>iy (hi.get (show Has _ (slv 331 3 X.Av N X.cv (fT 0 T))from Zh)) Wq1) (λh3=>?_);refine dU (λw hi=>(dk (hi.get (show Has _ (slv 331 3 X.Av N X.cv (fT 0 T))from Zh))).cap) (λh4=>?_);obtain⟨Ar,cr,As,c2,Av,cv⟩:=X;dsimp only at h1 h2 h3 h4|-;obtain⟨br,rfl⟩:=h1;obtain⟨bs,rfl⟩:=h2;obtain⟨bv,rfl⟩:=h3;have hFr:=Ct b6 ⟨some ⟨br,0,none⟩,cr,some ⟨bs,0,none⟩,c2,some ⟨bv,0,none⟩,cv⟩ N pl.Nf T pl.reg hTl hrl hm64 (some ⟨br,0,none⟩) cr k hkN;rw[hfe]at hFr;refine ZA ?_;refine uR ?_;refine dN (cz (vs:=[.int .i64 k,.int .i64 k,.int .i64 (T.getD k 0)]) Zrf Zrf (Zv rfl)) (yk Zh (λi v hv=>kw T 0 k hxk (by rw[bE];exact hv))) rfl ?_;refine ZN λb8=>?_
  refine ZA ?_;refine ZM ?_;refine fE ?_;refine ZSe (λw hi=>hFr w (hi.get Zh) (dk (hi.get (show Has _ (sl .i64 3 (some ⟨br,0,none⟩) N cr pl.reg)from Zh))) (dk (hi.get (show Has _ (slv 331 3 (some ⟨bv,0,none⟩) N cv (fT 0 T))from Zh)))) ?_;refine fE ?_;refine ZW ?_ ?_<;>intro hc8
  .have hsc:mH T 7 pl k=⟨pl.reg.set k f,pl.slot,pl.Nf⟩:=(by unfold mH;rw[hfe,hc8,ac]);rw[hsc]at hstk;refine Z_9 ?_;refine Zy (cw (j:=k) (sz:=1) (r:=k) rfl Zrf (Zv rfl) (Zv rfl) Wq4 Wq4 Wq1) ?_;refine dH (fh Zrf rfl rfl rfl Za Wq1) ?_;rintro _ _ ⟨rfl,rfl⟩;rw[mY];refine Z_7 ?_;refine Wq8 ?_;refine bX (k+1) ?_ ?_ ?_
   .exact⟨hkN,by omega⟩
   .exact Zwk
   exact(show zD _ _ from by(try dsimp only);rw[hstk];exact Zj)
  have hsc:mH T 7 pl k=(bif(gL T pl.reg k k !=k)then lb T ⟨pl.reg.set k (pl.reg.getD (gL T pl.reg k k) 0),pl.slot,pl.Nf⟩ (gL T pl.reg k k)else lb T pl k):=(by unfold mH;rw[hfe,hc8,aa]);rw[hsc]at hstk;refine ri ?_;refine Zy (ge (A:=some ⟨bv,0,none⟩) (n:=N) (c:=cv) k rfl Zrf (Zv rfl) (Zv rfl) Zrf Wq4) ?_;refine Z_5 ?_;refine cq (λj:Nat=>[(1,.int .i64 7),(2,.pointer (some ⟨b2,0,none⟩)),(4,.pointer (some ⟨b4,0,none⟩)),(5,.int .i64 0),(6,.pointer (some ⟨b6,0,none⟩)),(7,.int .i64 k),(8,.pointer (some ⟨b8,0,none⟩)),(10,.int .i64 (gL T pl.reg k j:Nat)),(38,.slice (some ⟨bv,0,none⟩) N cv),(39,.int .i64 N),(40,.int .i64 (k:Int)),(70,.slice (some ⟨bv,0,none⟩) k cv),(71,.int .i64 k),(72,.int .i64 (j:Int))]) (λj=>[MG b4,scR b6 ⟨some ⟨br,0,none⟩,cr,some ⟨bs,0,none⟩,c2,some ⟨bv,0,none⟩,cv⟩ N pl.Nf,sl .i64 3 (some ⟨br,0,none⟩) N cr pl.reg,sl .i64 3 (some ⟨bs,0,none⟩) N c2 pl.slot,slv 331 3 (some ⟨bv,0,none⟩) N cv (fT 0 T),row b8 [.int .i64 k,.int .i64 k,.int .i64 (T.getD k 0)] 331]) (λj=>j<=k) (λj=>k - j) (0) ?_ ?_ ?_ ?_
  .exact aq _
  .exact Zwk
  .exact Zu
  rintro j hj;have hL:gL T pl.reg k j<=k:=(by rcases tq T pl.reg k j with h|⟨h, -⟩<;>omega);have hLs:gL T pl.reg k (j+1)=bif((pl.reg.getD j 0 != -1)&&mQ T k j)&&decide (T.getD (gL T pl.reg k j) 0<T.getD j 0)then j else gL T pl.reg k j:=rfl
  obtain⟨L,hLe⟩:=Zgn (gL T pl.reg k j);rw[hLe]at hL hLs;dsimp only;rw[hLe];refine Z_6 ?_;refine ZW ?_ ?_<;>intro hc12
  .simp only[aj]at hc12;have hjk:j<k:=Wq1;have hxj:T[j]? =some (T.getD j 0):=m7 Wq1;have hxL:T[L]? =some (T.getD L 0):=m7 Wq1;have hxr:pl.reg[j]? =some (pl.reg.getD j 0):=m7 Wq1;refine Z_7 ?_;refine Zy (dX (j:=j) rfl Zrf (Zv rfl) (Zv rfl) Wq4 Wq4) ?_;refine dN (cz (vs:=[.int .i64 j,.int .i64 j,.int .i64 (T.getD j 0)]) Zrf Zrf (Zv rfl)) (yk Zh (λi v hv=>kw T 0 j hxj (by rw[bE];exact hv))) rfl ?_;refine ZN λb12=>?_
   refine ZA ?_;refine ZM ?_;refine Z_3 ?_;refine bU ⟨λj=>List.elem j [],[]⟩ Zk ?_;refine gO ?_;refine ZFe 2 0 ?_;refine ZFe 3 0 ?_;refine ZG 4 ?_;refine ZE 5 ?_;refine cG 6 rfl Zk Zk Zk (cw (j:=j) (sz:=1) (r:=j) rfl Zrf (Zv rfl) (Zv rfl) Zrf Wq4 Wq1) rfl ?_;refine dD 7 rfl Zk Zk Zk Zk (bQ Zrf Zv0) (dm Zh (cR hxr)) rfl ?_;refine ZE 8 ?_;refine ZE 9 ?_;refine sq 10 rfl Zk Zk Zk Zk (bR rfl rfl) Zh Zrf Zrf (Zv rfl) rfl ?_;refine sq 11 rfl Zk Zk Zk Zk (bR rfl rfl) Zh Zrf Zrf (Zv rfl) rfl ?_;refine cn 12 Zk ?_;refine Bx rfl (bR rfl rfl) (.cons (dh rfl) (.cons (dh rfl) .nil)) (λ_ _=>rfl) (λhg w hi=>GM T k j w) rfl ?_;refine ZE 13 ?_;refine ZE 14 ?_;refine ZFf 15 2 ?_;refine qO 16 rfl Zk Zk Zk Zk (bR rfl rfl) (bQ Zrf (dh rfl)) (cu Zh rfl) rfl ?_;refine ZF 17 ?_;refine ZF 18 ?_;refine ZFf 19 3 ?_;refine qO 20 rfl Zk Zk Zk Zk (bR rfl rfl) (bQ Zrf (dh rfl)) (cu Zh rfl) rfl ?_;refine ZF 21 ?_;refine Df 22 rfl Zk Zk Zk (bR rfl rfl) (cw (bb:=bv) (o:=0) (n:=N) (c:=cv) (j:=L) (sz:=3) (r:=L*3) rfl Zrf (dh rfl) (dh rfl) Zrf Wq4 Wq1) rfl ?_;refine ZFf 23 2 ?_;refine qO 24 rfl Zk Zk Zk Zk (bR rfl rfl) (bQ Zrf (dh rfl)) (BL Zh (kw T 0 L (j:=2) hxL rfl)) rfl ?_;refine ZF 25 ?_;refine ZE 26 ?_;refine dx ?_;refine Zt ?_;refine ZW ?_ ?_<;>intro hc14
   .rw[hc14,ac]at hLs;refine Z_7 ?_;refine Wq8 ?_;refine bX (j+1) ?_ ?_ ?_
    .exact⟨hjk,by omega⟩
    .exact Zwk
    exact Zj
   rw[hc14,aa]at hLs;refine Z_4 ?_;refine Wq8 ?_;refine bX (j+1) ?_ ?_ ?_
   .exact⟨hjk,by omega⟩
   .exact Zwk
   exact Zj
  simp only[ah]at hc12;obtain rfl:j=k:=by omega
  rw[hLe]at hstk;refine jd ?_;refine ZW ?_ ?_<;>intro hc17
  .have hne:(L !=j)=true:=(by rw[bne_iff_ne]at hc17|-;omega);rw[hne,ac]at hstk;have hxr:pl.reg[L]? =some (pl.reg.getD L 0):=m7 Wq1;refine bU ⟨λj=>List.elem j [15],[]⟩ Zk ?_;refine gO ?_;refine ZFe 2 0 ?_;refine ZFe 3 0 ?_;refine ZG 4 ?_;refine ZE 5 ?_;refine ZE 6 ?_;refine ZE 7 ?_;refine ZFe 8 0 ?_;refine ZFe 9 0 ?_;refine ZG 10 ?_;refine ZE 11 ?_;refine cG 12 rfl Zk Zk Zk (cw (j:=L) (sz:=1) (r:=L) rfl Zrf (Zv rfl) (Zv rfl) Zrf Wq4 Wq1) rfl ?_;refine dD 13 rfl Zk Zk Zk Zk (bQ Zrf Zv0) (dm Zh (cR hxr)) rfl ?_;refine cG 14 rfl Zk Zk Zk (cw (j:=j) (sz:=1) (r:=j) rfl Zrf (Zv rfl) (Zv rfl) Zrf Wq4 Wq1) rfl ?_;refine cn 15 Zk ?_;refine du rfl rfl (fh Zrf rfl rfl rfl Za Wq1) ZJ ?_;rintro _ _ ⟨rfl,rfl⟩;rw[mY];refine dx ?_;refine Z_4 ?_;refine ZcL (scF b6 ⟨some ⟨br,0,none⟩,cr,some ⟨bs,0,none⟩,c2,some ⟨bv,0,none⟩,cv⟩ N T ⟨pl.reg.set j (pl.reg.getD L 0),pl.slot,pl.Nf⟩) (λw hi hin=>BF b6 br cr bs c2 bv cv N T ⟨pl.reg.set j (pl.reg.getD L 0),pl.slot,pl.Nf⟩ hTl (by simp[hrl]) hsl hm64 L Wq1 w hin) ?_;rintro _ _ ⟨_,rfl,rfl⟩;refine Z_4 ?_;refine Wq8 ?_;refine bX (j+1) ?_ ?_ ?_
   .exact⟨by omega,by omega⟩
   .exact Zwk
   exact(show zD _ _ from by(try dsimp only);rw[hstk];exact Zj)
  have hne:(L !=j)=false:=(by rw[bne_eq_false_iff_eq]at hc17|-;omega);rw[hne,aa]at hstk;obtain rfl:L=j:=(by rw[bne_eq_false_iff_eq]at hne;exact hne);refine Z_5 ?_;refine ZcL (scF b6 ⟨some ⟨br,0,none⟩,cr,some ⟨bs,0,none⟩,c2,some ⟨bv,0,none⟩,cv⟩ N T pl) (λw hi hin=>BF b6 br cr bs c2 bv cv N T pl hTl hrl hsl hm64 L Wq1 w hin) ?_;rintro _ _ ⟨_,rfl,rfl⟩;refine Z_4 ?_;refine Wq8 ?_;refine bX (L+1) ?_ ?_ ?_
  .exact⟨by omega,by omega⟩
  .exact Zwk
  exact(show zD _ _ from by(try dsimp only);rw[hstk];exact Zj)
 simp only[ah]at hc5;obtain rfl:k=N:=by omega
 refine dS ?_;refine dN (cz (vs:=[.slice X.Ar k X.cr,.slice X.As k X.cs,.int .i64 pl.Nf]) Zrf Zrf Zv0) (cK Zh rfl) rfl ?_;refine ZM ?_;refine Z_4 ?_;refine lS (cs':=[sl .i64 3 X.Ar k X.cr pl.reg,sl .i64 3 X.As k X.cs pl.slot]) (.inl rfl) Zu rfl rfl rfl Zh Zrf Zrf ?_;rw[hplk];exact⟨_,_,_,_,rfl,rfl⟩
end Go.Proofs.YtkegldppffignaaGreatDoor
