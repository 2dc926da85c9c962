/- Lemmas. -/
import Derived.Test.YtkegldppffignaaGreatDoorPaa
import Derived.Test.YtkegldppffignaaGreatDoorPab
import Derived.Test.YtkegldppffignaaGreatDoorPac
import Derived.Test.YtkegldppffignaaGreatDoorPah
import Derived.Test.YtkegldppffignaaGreatDoorPai
import Derived.Test.YtkegldppffignaaGreatDoorPam
import Derived.Test.YtkegldppffignaaGreatDoorPas
import Derived.Test.YtkegldppffignaaGreatDoorPaw
import Derived.Test.YtkegldppffignaaGreatDoorPax
set_option linter.unusedSimpArgs false
set_option linter.unusedVariables false
set_option maxRecDepth 100000
set_option maxHeartbeats 4000000
namespace Go.Ink
end Go.Ink
namespace Go.Proofs.YtkegldppffignaaGreatDoor
open Go.RowKit Go.Ink Go.Proofs.Tryz
attribute [local irreducible] OpY bS
end Go.Proofs.YtkegldppffignaaGreatDoor
namespace Go.Ink
open Go.RowKit
end Go.Ink
namespace Go.Proofs.YtkegldppffignaaGreatDoor
open Go.RowKit Go.Ink Go.Proofs.Tryz
attribute [local irreducible] OpY bS
structure Vw where
 s:St
 m:List Int
 o:List Int
 i:List Int
 k:List Int
 M5:Int
 mask:Int
 killed:Bool
structure VAd where
 X:kb
 Am:Option Addr
 cm:Nat
 Ao:Option Addr
 co:Nat
 Ai:Option Addr
 ci:Nat
 Ak:Option Addr
 ck:Nat
abbrev Vw.cells(v:Vw)(Y:VAd):List Value:=v.s.cells (.slice Y.X.Ad v.s.d.length Y.X.cd) (.slice Y.X.Ar v.s.r.length Y.X.cr)++[.slice Y.Am v.m.length Y.cm,.slice Y.Ao v.o.length Y.co,.slice Y.Ai v.i.length Y.ci,.slice Y.Ak v.k.length Y.ck,.int .u32 v.M5,.int .u32 v.mask,.bool v.killed]
abbrev vv(v:Vw)(Y:VAd):Value:= .agg (v.cells Y).toArray
structure Vw.wf(v:Vw):Prop where
 s:v.s.wf
 m:u8s v.m
 o:u8s v.o
 i:u8s v.i
 k:u8s v.k
structure RdVw(w:World)(v:Vw)(Y:VAd):Prop where
 s:oJ w v.s Y.X.Ad Y.X.Ar Y.X.cd Y.X.cr
 m:Rd w .u8 Y.Am v.m.length Y.cm v.m
 o:Rd w .u8 Y.Ao v.o.length Y.co v.o
 i:Rd w .u8 Y.Ai v.i.length Y.ci v.i
 k:Rd w .u8 Y.Ak v.k.length Y.ck v.k
theorem RdVw.MZ{w0 w:World}{cs:List bL}{v:Vw}{Y:VAd}(h:RdVw w0 v Y)(hi:Inv w0 [] cs w):RdVw w v Y:=⟨h.s.MZ hi,h.m.MZ hi,h.o.MZ hi,h.i.MZ hi,h.k.MZ hi⟩
structure BSl where
 A:Option Addr
 c:Nat
 l:List Int
abbrev BSl.v(x:BSl):Value:= .slice x.A x.l.length x.c
def marks(pre:List Int):List Bool:=(List.range 256).map λf:Nat=>decide ((f:Int)∈pre)
def Ig(l:List Int):Prop:=(∀f,f∈l->16<=f/\f<256)/\l.Nodup
theorem pA(pre:List Int):(marks pre).length=256:=by simp[marks]
theorem mR{pre:List Int}{f:Nat}(h:f<256):(marks pre)[f]? =some (decide ((f:Int)∈pre)):=by
 unfold marks;rw[bh,List.getElem?_range h];rfl
theorem GO{pre:List Int}{f:Nat}(h:f<256):(marks pre).set f true=marks (pre++[(f:Int)]):=by
 apply List.ext_getElem?;intro j;by_cases hj:j<256
 .rw[mR hj];by_cases e:f=j
  .subst e;rw[List.getElem?_set_self (by rw[pA];exact h)];simp
  rw[aX e,mR hj];congr 1;have:(j:Int)≠(f:Int):=by omega
  simp[this]
 rw[List.getElem?_eq_none (by rw[aC,pA];omega),List.getElem?_eq_none (by rw[pA];omega)]
theorem GP:marks []=List.replicate 256 false:=by decide+kernel
theorem ui{pre:List Int}{f:Nat}(h:f<256):(jV (marks pre))[f]? =some (.bool (decide ((f:Int)∈pre))):=by unfold jV;rw[bh,mR h];rfl
theorem uh{pre:List Int}{f:Nat}(h:f<256):(jV (marks pre)).set f (.bool true)=jV (marks (pre++[(f:Int)])):=by rw[<-GO h];unfold jV;rw[List.map_set]
theorem Ie{pre:List Int}{f:Int}(h:Ig pre)(h1:16<=f/\f<256)(h2:f∉pre):Ig (pre++[f]):=by
 refine⟨λx hx=>?_,?_⟩
 .rcases aS.1 hx with hx|hx
  .exact h.1 x hx
  rw[aK.1 hx];exact h1
 rw[List.nodup_append];exact⟨h.2,by simp,λa ha b hb=>by rw[aK.1 hb];exact λe=>h2 (e▸ha)⟩
theorem frOk_no{pre post:List Int}{f:Int}(h:¬(16<=f/\f<256)\/f∈pre):¬Ig (pre++f::post):=by
 rintro⟨h1,h2⟩;rcases h with h|h
 .exact h (h1 f cE)
 rw[List.nodup_append]at h2;exact h2.2.2 f h f cE rfl
structure ISl where
 A:Option Addr
 c:Nat
 l:List Int
abbrev ISl.v(x:ISl):Value:= .slice x.A x.l.length x.c
abbrev ISl.cells(x:ISl):List Value:=[x.v]
def ISl.rd(x:ISl)(w:World):Prop:=Rd w .i64 x.A x.l.length x.c x.l
theorem isl_at{L:List ISl}{n:Nat}{x:ISl}(h:L[n]? =some x):(L.map ISl.v)[n]? =some x.v:=by rw[bh,h];rfl
theorem EH(A:Option Addr)(c:Nat)(L:List ISl)(w:World)(h:RdV w 1 A L.length c (L.map ISl.v))(hL:∀x,x∈L->x.rd w):
  Ctr prog 39 [.slice A L.length c] w [] (λv cs=>(∃r,v= .bool r/\(r=true<->Ig (L.flatMap ISl.l)))/\cs=[]):=by
 have hm:=h.max;have hc:=h.cap;unfold maxLen at hm;refine bN func39 rfl ntmps39 rfl (Inv.start w) ?_;refine Z_7 ?_;refine gj (fG (zs:=jV (List.replicate 256 false)) Zrf Zk) rfl ?_;rintro _ _ ⟨b3,rfl,rfl⟩;rw[<-GP];refine fE ?_;refine cq (λk:Nat=>[(3,.pointer (some ⟨b3,0,none⟩)),(8,.slice A L.length c),(9,.int .i64 L.length),(10,.int .i64 (k:Int))]) (λk=>[row b3 (jV (marks ((L.take k).flatMap ISl.l))) 125]) (λk=>k<=L.length/\Ig ((L.take k).flatMap ISl.l)) (λk=>L.length - k) (0) ?_ ?_ ?_ ?_
 .exact⟨aq _,by simp[Ig]⟩
 .exact Zwk
 .exact Zu
 rintro k ⟨hk,hf⟩;have hL2:=hL;refine Z_6 ?_;refine ZW ?_ ?_<;>intro hc3
 .simp only[aj]at hc3;obtain⟨ad,rfl⟩:=h.some_ Wq1;obtain⟨x,hx⟩:∃x,L[k]? =some x:=⟨_,ai (show k<L.length by omega)⟩;have hr:=hL x (aD hx);have htk:(L.take (k+1)).flatMap ISl.l=(L.take k).flatMap ISl.l++x.l:=(by rw[List.take_add_one,hx];simp);have hall:L.flatMap ISl.l=(L.take k).flatMap ISl.l++(x.l++(L.drop (k+1)).flatMap ISl.l):=(by conv=>lhs;rw[<-List.take_append_drop (k+1) L,List.flatMap_append,htk,ap]);obtain⟨pre,hpre⟩:=Zgn ((L.take k).flatMap ISl.l);rw[hpre]at hf htk hall;have hm2:=hr.max;have hc2:=hr.cap;unfold maxLen at hm2;rw[hpre];refine Z_6 ?_;refine uR ?_;refine dN (bQ Zrf Zv0) (eo h (isl_at hx)) rfl ?_;refine Z_5 ?_;have e0:pre=pre++x.l.take 0:=cE;rw[e0];refine Z_6 ?_;refine cq (λj:Nat=>[(3,.pointer (some ⟨b3,0,none⟩)),(8,.slice (some ad) L.length c),(9,.int .i64 L.length),(10,.int .i64 (k:Int)),(14,x.v),(15,.int .i64 x.l.length),(16,.int .i64 (j:Int))]) (λj=>[row b3 (jV (marks (pre++x.l.take j))) 125]) (λj=>j<=x.l.length/\Ig (pre++x.l.take j)) (λj=>x.l.length - j) (0) ?_ ?_ ?_ ?_
  .exact⟨aq _,by simpa using hf⟩
  .exact Zwk
  .exact Zu
  rintro j ⟨hj,hfj⟩;refine Z_6 ?_;refine ZW ?_ ?_<;>intro hc6
  .simp only[aj]at hc6;obtain⟨ad2,had2⟩:=hr.some_ Wq1;have hxv:x.v= .slice (some ad2) x.l.length x.c:=(by unfold ISl.v;rw[had2]);have hr3:Rd w .i64 (some ad2) x.l.length x.c x.l:=(by unfold ISl.rd at hr;rwa[had2]at hr);obtain⟨f,hf2⟩:∃f,x.l[j]? =some f:=⟨_,ai (show j<x.l.length by omega)⟩;rw[hxv];have hsp:x.l=x.l.take j++f::x.l.drop (j+1):=(by have:=au.1 hf2;obtain⟨q1,q2⟩:=this;rw[<-q2,<-List.drop_eq_getElem_cons q1,List.take_append_drop]);have hno:(¬(16<=f/\f<256)\/f∈pre++x.l.take j)->¬Ig (L.flatMap ISl.l):=(λh=>by rw[hall];have e1:pre++(x.l++(L.drop (k+1)).flatMap ISl.l)=(pre++x.l.take j)++f::(x.l.drop (j+1)++(L.drop (k+1)).flatMap ISl.l):=(by rw[ap,<-aN,<-ap (x.l.take j),<-hsp]);rw[e1];exact frOk_no h);have htj:pre++x.l.take (j+1)=(pre++x.l.take j)++[f]:=(by rw[List.take_add_one,hf2];simp);refine Z_6 ?_;refine Zy (dX (j:=j) rfl Zrf (Zv rfl) (Zv rfl) Wq4 Wq4) ?_;refine dN (bQ Zrf Zv0) (eo hr3 (cR hf2)) rfl ?_;refine gy ?_;obtain⟨fn,hfn,hfe⟩:∃fn:Nat,fn<256/\((decide (f<16)||decide (256<=f))=false->f=fn/\16<=fn):=(by by_cases hr:16<=f/\f<256;exact⟨f.toNat,by omega,λ_=>by omega⟩;exact⟨0,by omega,λh=>by simp at h;omega⟩);refine Zyn rfl rfl (cX (j:=fn) (sz:=1) (r:=fn) rfl Zrf (Zv rfl) (dh rfl) (λhg=>(hfe (by simpa using hg)).1) (λ_=>hfn) Wq1) ?_;refine iu (cy rfl rfl) (bQ Zrf (dh rfl)) (cu Zh (ui hfn)) rfl ?_;refine Z_3 ?_;refine ZW ?_ ?_<;>intro hc8
   .have hbad:¬Ig (L.flatMap ISl.l):=hno (by cases hA:(decide (f<16)||decide (256<=f))with|true=>(simp at hA;exact Or.inl Wq1)|false=>(rw[hA]at hc8;have e:=(hfe hA).1;simp at hc8;exact Or.inr (by rw[e];simpa using hc8)));refine ri ?_;refine Zra ?_;exact⟨⟨false,rfl,⟨λh=>(by cases h),λh=>absurd h hbad⟩⟩,rfl⟩
   have hA:(decide (f<16)||decide (256<=f))=false:=(by cases hA:(decide (f<16)||decide (256<=f))with|true=>(rw[hA]at hc8;cases hc8)|false=>rfl);obtain⟨rfl,h16⟩:=hfe hA;have hnot:(fn:Int)∉pre++x.l.take j:=(by rw[hA]at hc8;simpa using hc8);refine Z_4 ?_;refine Zy (cX (j:=fn) (sz:=1) (r:=fn) rfl Zrf (Zv rfl) (Zv rfl) Wq4 Wq4 Wq1) ?_;refine dH (eK Zrf rfl rfl rfl Za (by rw[jM,pA];omega)) ?_;rintro _ _ ⟨rfl,rfl⟩;rw[uh hfn,<-htj];refine Z_4 ?_;refine Wq8 ?_;refine dW (j+1) ?_ ?_ ?_
   .exact⟨⟨by omega,by rw[htj];exact Ie hfj ⟨by omega,by omega⟩ hnot⟩,by omega⟩
   .exact Zwk
   exact Zu
  simp only[ah]at hc6;obtain rfl:j=x.l.length:=by omega
  refine Z_7 ?_;rw[bn]at hfj|-;rw[<-htk]at hfj|-;refine Wq8 ?_;refine dW (k+1) ?_ ?_ ?_
  .exact⟨⟨by omega,hfj⟩,by omega⟩
  .exact Zwk
  exact Zu
 simp only[ah]at hc3;obtain rfl:k=L.length:=by omega
 refine fE ?_;refine Zra ?_;rw[bn]at hf;exact⟨⟨true,rfl,⟨λ_=>hf,λ_=>rfl⟩⟩,rfl⟩
theorem yN(s t:St)(Ad Ar Bd Br:Option Addr)(cd cr ed er:Nat)(w:World)(h:oJ w s Ad Ar cd cr)(h2:oJ w t Bd Br ed er):
  Ctr prog 37 [sv s Ad cd Ar cr,sv t Bd ed Br er] w [] (λv cs=>v= .bool (s.N5 t)/\cs=[]):=by
 have HS:=Kc s t Ad Ar Bd Br cd cr ed er;refine bN func37 rfl ntmps37 rfl (Inv.start w) ?_;refine Z_2 ?_;refine ZO λb2=>?_;refine ZO λb3=>?_
 refine Z_7 ?_;refine eu gv (.cons Zv0 (.cons Zv0 .nil)) (λ_ _=>rfl) (λhg w hi=>HS w (h.MZ hi) (h2.MZ hi)) rfl ?_;refine Z_4 ?_;refine Zra ?_;exact de
theorem Cf(a b:Vw)(Y Z:VAd)(ha:a.wf)(hb:b.wf)(w:World)(h:RdVw w a Y)(h2:RdVw w b Z):
  Ctr prog 38 [vv a Y,vv b Z] w [] (λv cs=>(∃r,v= .bool r/\(r=true<->a=b))/\cs=[]):=by
 refine bN func38 rfl ntmps38 rfl (Inv.start w) ?_;refine Z_2 ?_;refine ZO λb2=>?_;refine ZO λb3=>?_
 refine Z_6 ?_;refine dN (cz (vs:=a.s.cells (.slice Y.X.Ad a.s.d.length Y.X.cd) (.slice Y.X.Ar a.s.r.length Y.X.cr)) Zrf Zrf Zv0) (cK (o:=0) Zh rfl) rfl ?_;refine Z_1 ?_;refine dN (cz (vs:=b.s.cells (.slice Z.X.Ad b.s.d.length Z.X.cd) (.slice Z.X.Ar b.s.r.length Z.X.cr)) Zrf Zrf Zv0) (cK (o:=0) Zh rfl) rfl ?_;refine ZSe (λw hi=>yN a.s b.s Y.X.Ad Y.X.Ar Z.X.Ad Z.X.Ar Y.X.cd Y.X.cr Z.X.cd Z.X.cr w (h.s.MZ hi) (h2.s.MZ hi)) ?_;refine Z_3 ?_;refine dU (λw hi=>jf (h.m.MZ hi)) (λhrd13=>?_);refine iu (bR rfl rfl) (je rfl rfl rfl (dh rfl) hrd13) (λw hi=>RdV.M8 (h.m.MZ hi)) rfl ?_;refine Z_2 ?_;refine dU (λw hi=>jf (h2.m.MZ hi)) (λhrd16=>?_);refine iu (bR rfl rfl) (je rfl rfl rfl (dh rfl) hrd16) (λw hi=>RdV.M8 (h2.m.MZ hi)) rfl ?_;refine Zyy rfl rfl (my rfl (dh rfl) (dh rfl) (kQ ha.m hb.m)) ?_;refine Z_4 ?_;refine dU (λw hi=>jf (h.o.MZ hi)) (λhrd22=>?_);refine iu (bR rfl rfl) (je rfl rfl rfl (dh rfl) hrd22) (λw hi=>RdV.M8 (h.o.MZ hi)) rfl ?_;refine Z_2 ?_;refine dU (λw hi=>jf (h2.o.MZ hi)) (λhrd25=>?_);refine iu (bR rfl rfl) (je rfl rfl rfl (dh rfl) hrd25) (λw hi=>RdV.M8 (h2.o.MZ hi)) rfl ?_;refine Zyy rfl rfl (my rfl (dh rfl) (dh rfl) (kQ ha.o hb.o)) ?_;refine Z_4 ?_;refine dU (λw hi=>jf (h.i.MZ hi)) (λhrd31=>?_);refine iu (bR rfl rfl) (je rfl rfl rfl (dh rfl) hrd31) (λw hi=>RdV.M8 (h.i.MZ hi)) rfl ?_;refine Z_2 ?_;refine dU (λw hi=>jf (h2.i.MZ hi)) (λhrd34=>?_);refine iu (bR rfl rfl) (je rfl rfl rfl (dh rfl) hrd34) (λw hi=>RdV.M8 (h2.i.MZ hi)) rfl ?_;refine Zyy rfl rfl (my rfl (dh rfl) (dh rfl) (kQ ha.i hb.i)) ?_;refine Z_2 ?_;refine ZFb 19 ?_;refine ZD ?_;refine dU (λw hi=>jf (h.k.MZ hi)) (λhrd40=>?_);refine iu (bR rfl rfl) (je rfl rfl rfl (dh rfl) hrd40) (λw hi=>RdV.M8 (h.k.MZ hi)) rfl ?_;refine ZFb 19 ?_;refine ZD ?_;refine dU (λw hi=>jf (h2.k.MZ hi)) (λhrd43=>?_);refine iu (bR rfl rfl) (je rfl rfl rfl (dh rfl) hrd43) (λw hi=>RdV.M8 (h2.k.MZ hi)) rfl ?_;refine Zyy rfl rfl (my rfl (dh rfl) (dh rfl) (kQ ha.k hb.k)) ?_;refine Z_2 ?_;refine ZFb 20 ?_;refine ZD ?_;refine ZFb 20 ?_;refine Z_4 ?_;refine ZFb 21 ?_;refine ZD ?_;refine ZFb 21 ?_;refine Z_4 ?_;refine ZFb 22 ?_;refine ZD ?_;refine ZFb 22 ?_;refine Z_7 ?_;refine Zra ?_;refine⟨⟨_,rfl,?_⟩,rfl⟩;simp only[aL,beq_iff_eq,St.NU];constructor
 .rintro⟨⟨⟨⟨⟨⟨⟨q1,q2⟩,q3⟩,q4⟩,q5⟩,q6⟩,q7⟩,q8⟩;cases a;cases b;simp_all
 rintro rfl;simp
theorem pM(n:Nat)(hn:n<=4611686018427387904)(w:World):Ctr prog 49 [.int .i64 n] w [] (λv cs=>v= .int .i64 (((n+63)/64:Nat):Int)/\cs=[]):=by
 refine bN func49 rfl ntmps49 rfl (Inv.start w) ?_;refine Z_8 ?_;refine Zy (df Zv0 Zv0 Zl) ?_;refine Zy (eE Zv0 Zv0 Zl) ?_;refine Zy (kp (Zv rfl) (Zv rfl) Wq1 (show _=(((n+63)/64:Nat):Int)from by rw[IntWalk.i64_quo _ _ ⟨by omega,by omega,by omega⟩];omega)) ?_;refine Z_4 ?_;refine Zra ?_;exact de
end Go.Proofs.YtkegldppffignaaGreatDoor
namespace Go.Ink
open Go.RowKit
theorem new_wf:St.new.wf:=⟨u0,u0,u0,u0,u0,u0,u0,⟨Int.le_refl _,show(0:Int)<=18446744073709551615 by decide⟩,λx hx=>(by cases hx),λx hx=>by cases hx⟩
end Go.Ink
namespace Go.Proofs.YtkegldppffignaaGreatDoor
open Go.RowKit Go.Ink Go.Proofs.Tryz
attribute [local irreducible] OpY bS
abbrev imgV(A:Option Addr)(c:Nat)(l:List Int)(B:Option Addr)(e:Nat)(k:List Int)(n:Nat):Value:= .agg #[.slice A l.length c,.slice B k.length e,.int .i64 (n:Int)]
end Go.Proofs.YtkegldppffignaaGreatDoor
namespace Go.Ink
open Go.RowKit
end Go.Ink
namespace Go.Proofs.YtkegldppffignaaGreatDoor
open Go.RowKit Go.Ink Go.Proofs.Tryz
attribute [local irreducible] OpY bS
end Go.Proofs.YtkegldppffignaaGreatDoor
namespace Go.Ink
open Go.RowKit
structure I6(s:St):Prop where
 wf:s.wf
 pg:s.MU=false
 ha:s.halted=false
 d:s.d=[]
 r:s.r=[]
 fl:s.right=true
 pc:64<=s.pc/\s.pc<=1063
 ve:64<=s.vec/\s.vec<=1063
theorem I6.next{s:St}(h:I6 s):I6 (s.next.M3 10 s.pc):=
 ⟨BC (GF h.wf) _ h.wf.pc,h.pg,h.ha,h.d,h.r,h.fl,h.ve,h.ve⟩
end Go.Ink
namespace Go.Proofs.YtkegldppffignaaGreatDoor
open Go.RowKit Go.Ink Go.Proofs.Tryz
attribute [local irreducible] OpY bS
end Go.Proofs.YtkegldppffignaaGreatDoor
namespace Go.Ink
open Go.RowKit
end Go.Ink
namespace Go.Proofs.YtkegldppffignaaGreatDoor
open Go.RowKit Go.Ink Go.Proofs.Tryz
attribute [local irreducible] OpY bS
end Go.Proofs.YtkegldppffignaaGreatDoor
namespace Go.Ink
open Go.RowKit
theorem DH{n MY k:Nat}{s:St}{p:Nat}{U:Mmu}{d:Dev}{E:Eng}(h:cZ n U.m p=none):jH n MY (k+1) s p U d E=((s.next.M3 1 0,U,d),{E with Nh:=IntKind.i64.wrap (E.Nh+1)}):=by
 unfold jH;rw[h]
theorem DG{n MY k:Nat}{s:St}{p:Nat}{U U1:Mmu}{d d1:Dev}{E:Eng}{op nn:Int}{z:Nat}{q:Res}(h:cZ n U.m p=some ((op,nn),z))(hq:mq n s op nn U d=(q,U1,d1)):
  jH n MY (k+1) s p U d E=bif jg op q MY s.pc then jH n MY k q.s ((p+z)%4294967296) U1 d1 (mA {E with Nh:=IntKind.i64.wrap (E.Nh+1)} q.MK)else((q.s,U1,d1),mA {E with Nh:=IntKind.i64.wrap (E.Nh+1)} q.MK):=by
 rw[jH,h];simp only[hq]
abbrev EnX.NT(E:EnX)(c:Int):EnX:=⟨E.bc,E.mr,E.room,E.X,E.RZ,E.last,E.Nk,IntKind.i64.wrap (E.Nh+c),E.begun⟩
theorem oG.slowed{E:EnX}(h:oG E)(c:Int):oG (E.NT c):=⟨h.ca,h.eg.same rfl rfl rfl,h.rs,h.last⟩
end Go.Ink
namespace Go.Proofs.YtkegldppffignaaGreatDoor
open Go.RowKit Go.Ink Go.Proofs.Tryz
attribute [local irreducible] OpY bS
abbrev egF(be bu bb:Nat)(L:fu)(D:p8)(s:St)(X:kb)(Y:nw)(U:Mmu)(d:Dev)(E:EnX):List bL:=guF bu bb L D s X Y U d++enF be E
theorem CE(be bu bb:Nat)(L:fu)(D:p8)(Y:nw)(s:St)(X:kb)(p:Nat)(hp:p<=4294967295)(M9:Nat)(hmost:M9<=1000)(U:Mmu)(d:Dev)(hG:GOk L.n s U d)(ho:d.out.length+M9<=1000000000)(E:EnX)(hE:oG E)(w:World)(hi:Inv w (bM (egF be bu bb L D s X Y U d E)) (egF be bu bb L D s X Y U d E) w):
  Ctr prog 108 [.pointer (some ⟨be,0,none⟩),sv s X.Ad X.cd X.Ar X.cr,.int .u32 (p:Int),.int .i64 (M9:Int),.pointer (some ⟨bu,0,none⟩),.pointer (some ⟨D.bs,0,none⟩)] w (egF be bu bb L D s X Y U d E)
   (λv cs=>∃X' Y' E',oG E'/\E'.eng=(jH L.n (p/64) M9 s p U d E.eng).2/\v=sv (jH L.n (p/64) M9 s p U d E.eng).1.1 X'.Ad X'.cd X'.Ar X'.cr/\cs=egF be bu bb L D (jH L.n (p/64) M9 s p U d E.eng).1.1 X' Y' (jH L.n (p/64) M9 s p U d E.eng).1.2.1 (jH L.n (p/64) M9 s p U d E.eng).1.2.2 E'):=by
 obtain⟨pg,hpg⟩:=Zgn (p/64);have hpq:IntKind.u32.wrap ((p:Int).tdiv 64)=(pg:Int):=by rw[bD Wq1,u32_wrap_id _ Wq1 Wq1];omega
 have hpgl:pg<=4294967295:=by omega
 rw[hpg];clear hpg;obtain⟨⟨⟨s9,U9,d9⟩,G9⟩,hR⟩:=Zgn (jH L.n pg M9 s p U d E.eng);rw[hR];obtain⟨o0,hoo⟩:=Zgn (d.out.length);rw[hoo]at ho;refine bN func108 rfl ntmps108 rfl hi ?_;refine Z_2 ?_;refine ZO λb7=>?_;refine ZN λb12=>?_
 refine Z_5 ?_;refine Zy (kp (Zv rfl) (Zv rfl) Wq1 hpq) ?_;refine Zy (ce rfl rfl Zv0 Zl) ?_;refine Z_6 ?_;refine iT (row b7 (s.cells (.slice X.Ad s.d.length X.cd) (.slice X.Ar s.r.length X.cr)) 47::row b12 (St.zero.cells (.slice none 0 0) (.slice none 0 0)) 47::egF be bu bb L D s X Y U d E) Zj ?_;refine Z_5 ?_;refine cq (λq:Nat×St×kb×Nat×nw×Mmu×Dev×EnX=>[(0,.pointer (some ⟨be,0,none⟩)),(2,.int .u32 (q.2.2.2.1:Int)),(4,.pointer (some ⟨bu,0,none⟩)),(5,.pointer (some ⟨D.bs,0,none⟩)),(7,.pointer (some ⟨b7,0,none⟩)),(12,.pointer (some ⟨b12,0,none⟩)),(13,.int .i64 (pg:Int)),(22,.int .i64 (M9:Int)),(23,.int .i64 (q.1:Int))]) (λq=>row b7 (q.2.1.cells (.slice q.2.2.1.Ad q.2.1.d.length q.2.2.1.cd) (.slice q.2.2.1.Ar q.2.1.r.length q.2.2.1.cr)) 47::row b12 (St.zero.cells (.slice none 0 0) (.slice none 0 0)) 47::egF be bu bb L D q.2.1 q.2.2.1 q.2.2.2.2.1 q.2.2.2.2.2.1 q.2.2.2.2.2.2.1 q.2.2.2.2.2.2.2) (λq=>q.1<=M9/\q.2.2.2.1<=4294967295/\GOk L.n q.2.1 q.2.2.2.2.2.1 q.2.2.2.2.2.2.1/\q.2.2.2.2.2.2.1.out.length<=o0+q.1/\oG q.2.2.2.2.2.2.2/\jH L.n pg (M9 - q.1) q.2.1 q.2.2.2.1 q.2.2.2.2.2.1 q.2.2.2.2.2.2.1 q.2.2.2.2.2.2.2.eng=((s9,U9,d9),G9)) (λq=>M9 - q.1) (⟨0,s,X,p,Y,U,d,E⟩) ?_ ?_ ?_ ?_
 .exact⟨aq _,hp,hG,by show d.out.length<=o0+0;omega,hE,hR⟩
 .exact Zwk
 .exact Zu
 rintro⟨j,s,X,p,Y,U,d,E⟩ ⟨hj,hp,hG,ho1,hE,hRj⟩;dsimp only at hj hp hG ho1 hE hRj|-;refine Z_6 ?_;refine ZW ?_ ?_<;>intro hc3
 .simp only[aj]at hc3;obtain⟨k,hk⟩:∃k,M9 - j=k+1:=⟨M9 - j - 1,by omega⟩;rw[hk]at hRj;have HF:=Cy bu bb L U.m p hp;have hrn:=λ(op nn:Int) (z:Nat) h=>mb (n:=L.n) (M:=U.m) (p:=p) (op:=op) (nn:=nn) (z:=z) hG.u.m h
  have hN:=DH (n:=L.n) (MY:=pg) (k:=k) (s:=s) (p:=p) (U:=U) (d:=d) (E:=E.eng);have hS:=λ(op nn:Int) (z:Nat) (q:Res) (U1:Mmu) (d1:Dev) h hq=>DG (n:=L.n) (MY:=pg) (k:=k) (s:=s) (p:=p) (U:=U) (d:=d) (E:=E.eng) (op:=op) (nn:=nn) (z:=z) (q:=q) (U1:=U1) (d1:=d1) h hq
  obtain⟨o,hfo⟩:=Zgn (cZ L.n U.m p);rw[hfo]at HF hN hS;rw[hfo]at hrn;obtain⟨hd16,hr16, -⟩:=St.fits hG.right;have hE1:=hE.slowed 1;refine dS ?_;refine Zy (df Zv0 Zv0 rfl) ?_;refine Z_2 ?_;refine ZL ?_;refine Z_6 ?_;refine ZSe (λw hi=>HF w (hi.get (show Has _ (Jd bu L.bm bb)from Zh)) (hi.get (show Has _ (eA L U.m)from Zh))) ?_;refine Z_4 ?_;refine ZN λb14=>?_
  refine ZM ?_;refine fE ?_;refine ZW ?_ ?_<;>intro hc6
  .obtain rfl:o=none:=(by cases o with|none=>rfl|some o=>cases hc6);rw[hN rfl,aV,aV,aV]at hRj;obtain⟨⟨rfl,rfl,rfl⟩,hG9⟩:=hRj;refine Z_4 ?_;refine Zy (df Zv0 Zv0 rfl) ?_;refine Z_1 ?_;refine ZL ?_;refine Z_5 ?_;refine ZS (λw hi=>qb s.next X.Ad X.Ar X.cd X.cr 1 0 w (hi.NM (show Has _ (slD s X.Ad X.cd)from Zh) (show Has _ (slR s X.Ar X.cr)from Zh) (show s.d.length*4<=_ by omega) (show s.r.length*4<=_ by omega))) ?_;rintro _ _ ⟨_,⟨A3,c3,A4,c4,rfl,rfl⟩,rfl⟩;refine ZM ?_;refine Z_9 ?_;refine bP (row b12 ((s.next.M3 1 0).cells (.slice A3 s.d.length c3) (.slice A4 s.r.length c4)) 47::egF be bu bb L D (s.next.M3 1 0) ⟨A3,c3,A4,c4⟩ Y U d (E.NT 1)) Zj ?_;refine mi (cs':=(egF be bu bb L D (s.next.M3 1 0) ⟨A3,c3,A4,c4⟩ Y U d (E.NT 1))) (.inl rfl) Zu rfl rfl Zh Zrf Zrf ?_;exact⟨⟨A3,c3,A4,c4⟩,Y,E.NT 1,hE1,hG9,rfl,rfl⟩
  obtain⟨⟨⟨op,nn⟩,z⟩,rfl⟩:∃q,o=some q:=(by cases o with|none=>cases hc6|some o=>exact⟨o,rfl⟩);obtain⟨hnn,hz1,hz5, -⟩:=hrn op nn z rfl;have HD:=do_ok bu bb L D Y s X.Ad X.Ar X.cd X.cr op nn U d hG.wf hnn hG.u.t hG.dv.wf Wq1;have hg:=tU (op:=op) (nn:=nn) hG.wf hG.right hnn hG.u hG.dv;have hl:=rZ (n:=L.n) (op:=op) (nn:=nn) (s:=s) (U:=U) hG.lines;obtain⟨⟨q,U1,d1⟩,hq⟩:=Zgn (mq L.n s op nn U d);rw[hS op nn z q U1 d1 rfl hq]at hRj;rw[hq]at HD hg hl;obtain⟨g1,g2,g3,g4,g5,g6⟩:=hg;dsimp only at g1 g2 g3 g4 g5 g6 hl;have HX:=λX1 Ap cp w h=>GD op nn q X1 Ap cp pg s.pc g1.pc hG.wf.pc w h
  obtain⟨nx,hnx⟩:=Zgn (jg op q pg s.pc);rw[hnx]at HX hRj;refine Z_8 ?_;refine ZcL (ubF bu bb L D Y U d) (λw hi hin=>HD w hin (λw' hk=>hi.NL Zi (show Has _ (slD s X.Ad X.cd)from Zh) (show Has _ (slR s X.Ar X.cr)from Zh) Wq1 Wq1 hk)) ?_;rintro _ _ ⟨_,⟨X1,Y1,Ap,cp,rfl,rfl⟩,rfl⟩;refine ZN λb17=>?_
  refine ZM ?_;refine Z_7 ?_;refine ZcL (enP be (E.NT 1) Ap cp q.MK) (λw hi hin=>vJ be (E.NT 1) hE1 Ap cp q.MK w hin) ?_;rintro _ _ ⟨_,⟨E2,rfl,hE2,hEe⟩,rfl⟩;rw[show mA {E.eng with Nh:=IntKind.i64.wrap (E.eng.Nh+1)} q.MK=E2.eng from hEe.symm]at hRj;refine gR ?_;refine dN (cz (vs:=q.s.cells (.slice X1.Ad q.s.d.length X1.cd) (.slice X1.Ar q.s.r.length X1.cr)) Zrf Zrf Zv0) (cK Zh rfl) rfl ?_;refine ZM ?_;refine Z_6 ?_;refine Zy (ce rfl rfl (Zv rfl) (u32_wrap_id _ (by show 0<=(z:Int);omega) (by show(z:Int)<4294967296;omega))) ?_;refine Zy (df (Zv rfl) (Zv rfl) (show _=(((p+z)%4294967296:Nat):Int)from by show IntKind.u32.wrap ((p:Int)+(z:Int))=_;rw[aE];omega)) ?_;refine Z_9 ?_;refine ZSe (λw hi=>HX X1 Ap cp w (hi.rd (show Has _ (sl .i64 3 Ap q.MK.length cp q.MK)from Zh))) ?_;refine Z_3 ?_;refine ZW ?_ ?_<;>intro hc14
  .obtain rfl:nx=false:=(by cases nx with|false=>rfl|true=>cases hc14);rw[aa,aV,aV,aV]at hRj;obtain⟨⟨rfl,rfl,rfl⟩,hG9⟩:=hRj;refine Z_9 ?_;refine ZM ?_;refine Z_3 ?_;refine bP (row b12 (q.s.cells (.slice X1.Ad q.s.d.length X1.cd) (.slice X1.Ar q.s.r.length X1.cr)) 47::egF be bu bb L D q.s X1 Y1 U1 d1 E2) Zj ?_;refine mi (cs':=(egF be bu bb L D q.s X1 Y1 U1 d1 E2)) (.inl rfl) Zu rfl rfl Zh Zrf Zrf ?_;exact⟨X1,Y1,E2,hE2,hG9,rfl,rfl⟩
  obtain rfl:nx=true:=(by cases nx with|true=>rfl|false=>cases hc14);rw[ac]at hRj;refine Z_4 ?_;refine Wq8 ?_;refine bX ((⟨j+1,q.s,X1,(p+z)%4294967296,Y1,U1,d1,E2⟩:Nat×St×kb×Nat×nw×Mmu×Dev×EnX)) ?_ ?_ ?_
  .exact⟨⟨show j+1<=M9 by omega,by show(p+z)%4294967296<=4294967295;omega,⟨g1,g2,g4,g5,hl⟩,by show d1.out.length<=o0+(j+1);omega,hE2,by show jH L.n pg (M9 - (j+1)) q.s _ U1 d1 E2.eng=_;rw[show M9 - (j+1)=k by omega];exact hRj⟩,show M9 - (j+1)<M9 - j by omega⟩
  .exact Zwk
  exact Zj
 simp only[ah]at hc3;rw[show M9 - j=0 by omega]at hRj;simp only[jH,aV]at hRj;obtain⟨⟨rfl,rfl,rfl⟩,hG9⟩:=hRj;refine Z_8 ?_;refine ZM ?_;refine Z_3 ?_;refine bP (row b12 (s.cells (.slice X.Ad s.d.length X.cd) (.slice X.Ar s.r.length X.cr)) 47::egF be bu bb L D s X Y U d E) Zj ?_;refine mi (cs':=(egF be bu bb L D s X Y U d E)) (.inl rfl) Zu rfl rfl Zh Zrf Zrf ?_;exact⟨X,Y,E,hE,hG9,rfl,rfl⟩
end Go.Proofs.YtkegldppffignaaGreatDoor
namespace Go.Ink
open Go.RowKit
section
variable {n:Nat} {s s1 o:St} {U U1:Mmu} {d d1:Dev} {E G:Eng} {r:Rn} {c:Int}
theorem doE_no{pl:Int}(h:dI n s U d=⟨s1,pl,false,U1,d1⟩):doE n s U d E=((s1,U1,d1),{E with Nh:=IntKind.i64.wrap (E.Nh+IntKind.i64.wrap (IntKind.u64.wrap (s1.count - s.count)))}):=by
 unfold doE;rw[h]
 rfl
theorem Lx{pl:Nat}(h:dI n s U d=⟨s1,(pl:Int),true,U1,d1⟩)(ht:jF E s1 (pl:Int) (iK U1.m pl)=(none,G)):doE n s U d E=jH n (pl/64) 8 s1 pl U1 d1 G:=by
 unfold doE;rw[h];simp only[ac,aP];rw[ht]
theorem doE_out{pl:Nat}(h:dI n s U d=⟨s1,(pl:Int),true,U1,d1⟩)(ht:jF E s1 (pl:Int) (iK U1.m pl)=(some (o,r,c),G))(hc:((r.ends&&decide (0<c))||o.pc/64 !=s1.pc/64)=true):doE n s U d E=((o,⟨U1.m.calm,U1.t⟩,d1),G):=by
 unfold doE;rw[h];simp only[ac,aP];rw[ht];dsimp only;rw[hc,ac]
theorem doE_on{pl:Nat}{m:Nat}(h:dI n s U d=⟨s1,(pl:Int),true,U1,d1⟩)(ht:jF E s1 (pl:Int) (iK U1.m pl)=(some (o,r,c),G))(hm:c=(m:Int))(hc:((r.ends&&decide (0<c))||o.pc/64 !=s1.pc/64)=false):doE n s U d E=jH n ((pl+r.bytes.length)%4294967296/64) (8 - m) o ((pl+r.bytes.length)%4294967296) ⟨U1.m.calm,U1.t⟩ d1 G:=by
 unfold doE;rw[h];simp only[ac,aP];rw[ht];dsimp only;rw[hc,aa,show(8 - c).toNat=8 - m by omega]
theorem Dq{p:Nat}(h:GOk n s U d)(hE:iH E)(ht:jF E s (p:Int) (iK U.m p)=(some (o,r,c),G)):GOk n o ⟨U.m.calm,U.t⟩ d/\∃m:Nat,c=(m:Int)/\1<=m/\m<=8:=by
 have hbb:=sX h.u.m p;obtain⟨f1,f2,f3,f4,f5⟩:=pT hE (k:=(s.pc,(p:Int))) hbb;unfold jF at ht;obtain⟨⟨q,E1⟩,hf⟩:=Zgn (lj E (s.pc,(p:Int)) (iK U.m p));rw[hf]at f5 ht;dsimp only at f5;cases q with
 |none=>cases ht
 |some tr=>
  obtain⟨t,r⟩:=tr;dsimp only at ht;cases hdone:(iE t.code s).2==1 with
  |false=>rw[hdone]at ht;cases ht
  |true=>
   rw[hdone,ac]at ht;simp only[aV,aU]at ht;obtain⟨⟨h1,h2,h3⟩, -⟩:=ht;obtain⟨p',il,g1,g2,g3,g4,g5,g6,g7⟩:=f5 t r rfl;obtain⟨M,hM,hout⟩:=BQ hdone;rw[g3]at hM;obtain⟨k1,k2,k3,k4,k5,k6, -, -, -⟩:=BD h.u h.dv h.wf h.right g6 g1 g2 hM;rw[hout]at h1;subst h1;exact⟨⟨k2,k3,⟨h.u.m.calm,h.u.t⟩,h.dv,h.lines⟩,il.length,by rw[<-h3,g4],k5,k6⟩
end
end Go.Ink
namespace Go.Proofs.YtkegldppffignaaGreatDoor
open Go.RowKit Go.Ink Go.Proofs.Tryz
attribute [local irreducible] OpY bS
abbrev eoF(be bu bb:Nat)(L:fu)(D:p8)(Y:nw)(U:Mmu)(d:Dev)(E:EnX):List bL:=ubF bu bb L D Y U d++enF be E
theorem edo_ok(be bu bb:Nat)(L:fu)(D:p8)(Y:nw)(s:St)(Ad Ar:Option Addr)(cd cr:Nat)(U:Mmu)(d:Dev)(hG:GOk L.n s U d)(ho:d.out.length+8<=1000000000)(E:EnX)(hE:oG E)(w:World)(hi:Inv w (bM (eoF be bu bb L D Y U d E)) (eoF be bu bb L D Y U d E) w)
  (h:∀w',dG (bM (eoF be bu bb L D Y U d E)) w w'->oJ w' s Ad Ar cd cr) (ht:∀w',dG (bM (eoF be bu bb L D Y U d E)) w w'->iG w'):
  Ctr prog 78 [.pointer (some ⟨be,0,none⟩),sv s Ad cd Ar cr,.pointer (some ⟨bu,0,none⟩),.pointer (some ⟨D.bs,0,none⟩)] w (eoF be bu bb L D Y U d E)
   (λv cs=>∃X' Y' E',oG E'/\E'.eng=(doE L.n s U d E.eng).2/\v=sv (doE L.n s U d E.eng).1.1 X'.Ad X'.cd X'.Ar X'.cr/\cs=egF be bu bb L D (doE L.n s U d E.eng).1.1 X' Y' (doE L.n s U d E.eng).1.2.1 (doE L.n s U d E.eng).1.2.2 E'):=by
 have hq:∀x:Int,u32 x->IntKind.u32.wrap (x.tdiv 64)=x/64:=λx hx=>by obtain⟨h1,h2⟩:=hx;rw[bD h1,u32_wrap_id _ Wq1 Wq1]
 have HB:=CP bu bb L D Y s hG.wf Ad Ar cd cr U hG.u.t d (qc hG.lines _);have hb:=nQ hG;have hbp:=uj hG;have hN:=λs1 U1 d1 pl h=>doE_no (n:=L.n) (s:=s) (s1:=s1) (U:=U) (U1:=U1) (d:=d) (d1:=d1) (pl:=pl) (E:=E.eng) h
 have hY1:=λs1 U1 d1 (pl:Nat) G h ht=>Lx (n:=L.n) (s:=s) (s1:=s1) (U:=U) (U1:=U1) (d:=d) (d1:=d1) (pl:=pl) (E:=E.eng) (G:=G) h ht
 have hY2:=λs1 U1 d1 (pl:Nat) o r c G h ht hc=>doE_out (n:=L.n) (s:=s) (s1:=s1) (o:=o) (U:=U) (U1:=U1) (d:=d) (d1:=d1) (pl:=pl) (E:=E.eng) (G:=G) (r:=r) (c:=c) h ht hc
 have hY3:=λs1 U1 d1 (pl:Nat) o r c G (m:Nat) h ht hm hc=>doE_on (n:=L.n) (s:=s) (s1:=s1) (o:=o) (U:=U) (U1:=U1) (d:=d) (d1:=d1) (pl:=pl) (E:=E.eng) (G:=G) (r:=r) (c:=c) (m:=m) h ht hm hc
 obtain⟨⟨s1,pl,rn,U1,d1⟩,hbe⟩:=Zgn (dI L.n s U d);rw[hbe]at HB hb hbp hN hY1 hY2 hY3;obtain⟨hg1,hpl,hout, -, -, -⟩:=hb;dsimp only at hg1 hpl hout hbp;obtain⟨pl,rfl⟩:∃m:Nat,pl=m:=ar hpl.1;have hpl2:=hpl.2;obtain⟨⟨⟨s9,U9,d9⟩,G9⟩,hR⟩:=Zgn (doE L.n s U d E.eng);rw[hR]at hN hY1 hY2 hY3|-;refine bN func78 rfl ntmps78 rfl hi ?_;refine Z_2 ?_;refine ZO λb5=>?_;refine ZN λb8=>?_
 refine Z_7 ?_;refine ZcL (ubF bu bb L D Y U d) (λw hi hin=>HB w hin (λw' hk=>h w' (hi.Oi (λc hc=>by simp only[eoF,enF,ubF,uF,lm,aS,aJ,aY]at hc|-;grind) hk)) (λw' hk=>ht w' (hi.Oi (λc hc=>by simp only[eoF,enF,ubF,uF,lm,aS,aJ,aY]at hc|-;grind) hk))) ?_;rintro _ _ ⟨_,⟨X1,rfl,rfl⟩,rfl⟩;refine ZN λb9=>?_
 refine ZM ?_;refine dS ?_;refine ZW ?_ ?_<;>intro hc2
 .obtain rfl:rn=false:=(by cases rn with|false=>rfl|true=>cases hc2);have e:=hN s1 U1 d1 pl rfl;rw[aV,aV,aV]at e;obtain⟨⟨rfl,rfl,rfl⟩,hG9⟩:=e;refine Zs (bU ⟨λj=>List.elem j [14],[]⟩ Zk ?_);refine gO ?_;refine ZFe 2 5 ?_;refine ZG 3 ?_;refine ZFe 4 0 ?_;refine ZFe 5 14 ?_;refine ZG 6 ?_;refine ZFe 7 14 ?_;refine ZG 8 ?_;refine cG 9 rfl Zk Zk Zk (eE Zv0 Zv0 rfl) rfl ?_;refine cG 10 rfl Zk Zk Zk (ce rfl rfl Zv0 rfl) rfl ?_;refine cG 11 rfl Zk Zk Zk (df Zv0 Zv0 rfl) rfl ?_;refine ZE 12 ?_;refine ZFe 13 5 ?_;refine cn 14 Zk ?_;refine ZQ ?_;refine dx ?_;refine Z_4 ?_;refine dN (cz (vs:=s9.cells (.slice X1.Ad s9.d.length X1.cd) (.slice X1.Ar s9.r.length X1.cr)) Zrf Zrf Zv0) (cK Zh rfl) rfl ?_;refine ZM ?_;refine Z_4 ?_;refine bP (row b8 (s9.cells (.slice X1.Ad s9.d.length X1.cd) (.slice X1.Ar s9.r.length X1.cr)) 47::egF be bu bb L D s9 X1 Y U9 d9 (E.NT (IntKind.i64.wrap (IntKind.u64.wrap (s9.count - s.count))))) Zj ?_;refine mi (cs':=(egF be bu bb L D s9 X1 Y U9 d9 (E.NT (IntKind.i64.wrap (IntKind.u64.wrap (s9.count - s.count)))))) (.inl rfl) Zu rfl rfl Zh Zrf Zrf ?_;exact⟨X1,Y,_,hE.slowed _,hG9.symm,rfl,rfl⟩
 obtain rfl:rn=true:=(by cases rn with|true=>rfl|false=>cases hc2);have hpn:pl/64<L.n:=(by have:=(hbp rfl).2;omega);have HT:=λX w hi=>Io be bu bb L E hE s1 X pl Wq1 hpn U1 hg1.wf hg1.right hg1.u.m w hi
 have hTg:=λo r c G h=>Dq (o:=o) (r:=r) (c:=c) (G:=G) (p:=pl) hg1 hE.eg h
 have hY1:=hY1 s1 U1 d1 pl;have hY2:=hY2 s1 U1 d1 pl;have hY3:=hY3 s1 U1 d1 pl;obtain⟨⟨o,G⟩,hTe⟩:=Zgn (jF E.eng s1 (pl:Int) (iK U1.m pl));rw[hTe]at HT hY1 hY2 hY3 hTg;refine Z_3 ?_;rcases o with _|⟨o,r,k⟩
 .have hZ:=hY1 G rfl rfl;refine Z_3 ?_;refine dN (cz (vs:=s1.cells (.slice X1.Ad s1.d.length X1.cd) (.slice X1.Ar s1.r.length X1.cr)) Zrf Zrf Zv0) (cK Zh rfl) rfl ?_;refine Z_3 ?_;refine ZcL (tF bu bb L s1 X1 U1 be E) (λw hi hin=>HT X1 w hin) ?_;rintro _ _ ⟨_,⟨E2,hE2,hEe,X2,x,rfl,rfl⟩,rfl⟩;refine Z_4 ?_;refine ZN λb10=>?_
  refine ZN λb11=>?_
  refine ZM ?_;refine dH (bZ Zrf rfl rfl (gn x) Za (by exact rfl)) ?_;rintro _ _ ⟨rfl,rfl⟩;refine rj ?_;refine Zyn rfl rfl (kp (dh rfl) (Zv rfl) Wq1 (hq _ hg1.wf.pc)) ?_;refine Z_3 ?_;refine Zyn rfl rfl (kp (dh rfl) (Zv rfl) Wq1 (hq _ hg1.wf.pc)) ?_;refine Z_4 ?_;refine ZW ?_ ?_<;>intro hc6
  ·(have h9:((x.r.ends&&decide ((0:Int)<0))||(s1.pc/64 !=s1.pc/64))=true:=hc6;simp at h9)
  refine Z_3 ?_;refine iR ⟨λj=>List.elem j [13,14],[]⟩ [(0,0),(1,1),(2,0),(3,4),(4,4),(5,0),(9,0),(10,0),(11,0),(12,0),(6,2),(7,0),(8,0),(13,2),(14,2)] Zk Zk ?_;refine cW rfl (fZ Zv0) rfl ?_;refine v8 rfl (cz (vs:=s1.cells (.slice X2.Ad s1.d.length X2.cd) (.slice X2.Ar s1.r.length X2.cr)) Zrf Zrf Zv0) (cK Zh rfl) rfl ?_;refine cW rfl (dT 16 rfl Zv0 Zf) rfl ?_;refine jB rfl (bQ Zrf Zv0) (cu Zh rfl) rfl ?_;refine jB rfl (cz (vs:=x.cells) Zrf Zrf Zv0) (cK Zh rfl) rfl ?_;refine cW rfl (fZ Zv0) rfl ?_;refine cW rfl (fZ Zv0) rfl ?_;refine cW rfl (eE (Zv rfl) (Zv rfl) (show _=((8:Nat):Int)from rfl)) rfl ?_;refine cW rfl (fZ Zv0) rfl ?_;refine cW rfl (fZ Zv0) rfl ?_;refine fo rfl ?_;refine dO rfl rfl (cU rfl (λ_ _=>rfl) (λw hi=>CD x 0 w)) ZJ rfl ?_;rintro _ _ ⟨_,⟨rfl,rfl⟩,rfl⟩;rw[az];refine cW rfl (ce rfl rfl Zv0 rfl) rfl ?_;refine cW rfl (df (Zv rfl) (Zv rfl) (show _=(pl:Int)from by show IntKind.u32.wrap ((pl:Int)+0)=_;rw[aE];omega)) rfl ?_;refine fo rfl ?_;have HRs:=λw hi=>CE be bu bb L D Y s1 X2 pl Wq1 8 Wq5 U1 d1 hg1 (by rw[hout];exact ho) E2 hE2 w hi
  rw[hEe,<-hZ]at HRs;refine ZcS (egF be bu bb L D s1 X2 Y U1 d1 E2) (λw hi hin=>HRs w hin) ?_;rintro _ _ ⟨_,⟨X3,Y3,E3,hE3,hEe3,rfl,rfl⟩,rfl⟩;refine fo rfl ?_;refine eX rfl rfl (bZ Zrf rfl rfl (jA rfl) Za (by exact rfl)) ZJ ?_;rintro _ _ ⟨rfl,rfl⟩;refine eU ?_;refine Z_2 ?_;refine bP (row b8 (s9.cells (.slice X3.Ad s9.d.length X3.cd) (.slice X3.Ar s9.r.length X3.cr)) 47::egF be bu bb L D s9 X3 Y3 U9 d9 E3) Zj ?_;refine mi (cs':=(egF be bu bb L D s9 X3 Y3 U9 d9 E3)) (.inl rfl) Zu rfl rfl Zh Zrf Zrf ?_;exact⟨X3,Y3,E3,hE3,hEe3,rfl,rfl⟩
 obtain⟨hg2,m,rfl,hm1,hm8⟩:=hTg o r k G rfl;refine Z_3 ?_;refine dN (cz (vs:=s1.cells (.slice X1.Ad s1.d.length X1.cd) (.slice X1.Ar s1.r.length X1.cr)) Zrf Zrf Zv0) (cK Zh rfl) rfl ?_;refine Z_3 ?_;refine ZcL (tF bu bb L s1 X1 U1 be E) (λw hi hin=>HT X1 w hin) ?_;rintro _ _ ⟨_,⟨E2,hE2,hEe,X2,x,rfl,rfl,rfl⟩,rfl⟩;refine Z_4 ?_;refine ZN λb10=>?_
 refine ZN λb11=>?_
 refine ZM ?_;refine dH (bZ Zrf rfl rfl (gn x) Za (by exact rfl)) ?_;rintro _ _ ⟨rfl,rfl⟩;refine rj ?_;refine Zyn rfl rfl (kp (dh rfl) (Zv rfl) Wq1 (hq _ hg2.wf.pc)) ?_;refine Z_3 ?_;refine Zyn rfl rfl (kp (dh rfl) (Zv rfl) Wq1 (hq _ hg1.wf.pc)) ?_;refine Z_4 ?_;refine ZW ?_ ?_<;>intro hc6
 .have hZ:=hY2 o x.r (m:Int) G rfl rfl hc6;simp only[aV]at hZ;obtain⟨⟨rfl,rfl,rfl⟩,hG9⟩:=hZ;refine Z_3 ?_;refine ZM ?_;refine Z_4 ?_;refine bP (row b8 (s9.cells (.slice X2.Ad s9.d.length X2.cd) (.slice X2.Ar s9.r.length X2.cr)) 47::egF be bu bb L D s9 X2 Y ⟨U1.m.calm,U1.t⟩ d9 E2) Zj ?_;refine mi (cs':=(egF be bu bb L D s9 X2 Y ⟨U1.m.calm,U1.t⟩ d9 E2)) (.inl rfl) Zu rfl rfl Zh Zrf Zrf ?_;exact⟨X2,Y,E2,hE2,hEe.trans hG9.symm,rfl,rfl⟩
 have hZ:=hY3 o x.r (m:Int) G m rfl rfl rfl hc6;refine Z_3 ?_;refine iR ⟨λj=>List.elem j [13,14],[]⟩ [(0,0),(1,1),(2,0),(3,4),(4,4),(5,0),(9,0),(10,0),(11,0),(12,0),(6,2),(7,0),(8,0),(13,2),(14,2)] Zk Zk ?_;refine cW rfl (fZ Zv0) rfl ?_;refine v8 rfl (cz (vs:=o.cells (.slice X2.Ad o.d.length X2.cd) (.slice X2.Ar o.r.length X2.cr)) Zrf Zrf Zv0) (cK Zh rfl) rfl ?_;refine cW rfl (dT 16 rfl Zv0 Zf) rfl ?_;refine jB rfl (bQ Zrf Zv0) (cu Zh rfl) rfl ?_;refine jB rfl (cz (vs:=x.cells) Zrf Zrf Zv0) (cK Zh rfl) rfl ?_;refine cW rfl (fZ Zv0) rfl ?_;refine cW rfl (fZ Zv0) rfl ?_;refine cW rfl (eE (Zv rfl) (Zv rfl) (show _=((8 - m:Nat):Int)from by rw[bF _ ⟨by omega,by omega⟩];omega)) rfl ?_;refine cW rfl (fZ Zv0) rfl ?_;refine cW rfl (fZ Zv0) rfl ?_;refine fo rfl ?_;refine dO rfl rfl (cU rfl (λ_ _=>rfl) (λw hi=>CD x (m:Int) w)) ZJ rfl ?_;rintro _ _ ⟨_,⟨rfl,rfl⟩,rfl⟩;rw[show((m:Int)==0)=false from beq_eq_false_iff_ne.2 Wq1,aa,az];refine cW rfl (ce rfl rfl Zv0 rfl) rfl ?_;refine cW rfl (df (Zv rfl) (Zv rfl) (show _=(((pl+x.r.bytes.length)%4294967296:Nat):Int)from by show IntKind.u32.wrap ((pl:Int)+IntKind.u32.wrap (x.r.bytes.length:Int))=_;simp only[aE];omega)) rfl ?_;refine fo rfl ?_;have HRs:=λw hi=>CE be bu bb L D Y o X2 ((pl+x.r.bytes.length)%4294967296) Wq1 (8 - m) Wq1 ⟨U1.m.calm,U1.t⟩ d1 hg2 (by rw[hout];omega) E2 hE2 w hi
 rw[hEe,<-hZ]at HRs;refine ZcS (egF be bu bb L D o X2 Y ⟨U1.m.calm,U1.t⟩ d1 E2) (λw hi hin=>HRs w hin) ?_;rintro _ _ ⟨_,⟨X3,Y3,E3,hE3,hEe3,rfl,rfl⟩,rfl⟩;refine fo rfl ?_;refine eX rfl rfl (bZ Zrf rfl rfl (jA rfl) Za (by exact rfl)) ZJ ?_;rintro _ _ ⟨rfl,rfl⟩;refine eU ?_;refine Z_2 ?_;refine bP (row b8 (s9.cells (.slice X3.Ad s9.d.length X3.cd) (.slice X3.Ar s9.r.length X3.cr)) 47::egF be bu bb L D s9 X3 Y3 U9 d9 E3) Zj ?_;refine mi (cs':=(egF be bu bb L D s9 X3 Y3 U9 d9 E3)) (.inl rfl) Zu rfl rfl Zh Zrf Zrf ?_;exact⟨X3,Y3,E3,hE3,hEe3,rfl,rfl⟩
theorem Lj(be bu bb:Nat)(L:fu)(hn:L.n<=1000000)(D:p8)(Y:nw)(s:St)(Ad Ar:Option Addr)(cd cr:Nat)(U:Mmu)(d:Dev)(hG:GOk L.n s U d)(m:Int)(hm0: -1000000<=m)(hm:m<=1000000)(ho:d.out.length+8*m.toNat+8<=1000000000)(E:EnX)(hE:oG E)(w:World)(hi:Inv w (bM (eoF be bu bb L D Y U d E)) (eoF be bu bb L D Y U d E) w)
  (h:∀w',dG (bM (eoF be bu bb L D Y U d E)) w w'->oJ w' s Ad Ar cd cr) (ht:∀w',dG (bM (eoF be bu bb L D Y U d E)) w w'->iG w'):
  Ctr prog 45 [.pointer (some ⟨be,0,none⟩),sv s Ad cd Ar cr,.pointer (some ⟨bu,0,none⟩),.pointer (some ⟨D.bs,0,none⟩),.int .i64 m] w (eoF be bu bb L D Y U d E)
   (λv cs=>∃X' Y' E',oG E'/\E'.eng=(J1 L.n m s U d E.eng).2/\v=sv (J1 L.n m s U d E.eng).1.1 X'.Ad X'.cd X'.Ar X'.cr/\cs=egF be bu bb L D (J1 L.n m s U d E.eng).1.1 X' Y' (J1 L.n m s U d E.eng).1.2.1 (J1 L.n m s U d E.eng).1.2.2 E'):=by
 have HR2:=nF s;rw[hG.right]at HR2;obtain⟨hd16,hr16, -⟩:=St.fits hG.right;obtain⟨⟨⟨s9,U9,d9⟩,G9⟩,hR⟩:=Zgn (J1 L.n m s U d E.eng);rw[hR];have hR0:ly L.n m s.count (m.toNat - 0) ((s,U,d),E.eng)=((s9,U9,d9),G9):=hR;have hk0:EK L.n m s.count d.out.length 0 (s,U,d):=⟨hG,aM _,0,by show IntKind.u64.wrap (s.count - s.count)=0;rw[Int.sub_self];rfl,aM _,aM _,by cases hd:decide (0<m)with|false=>(show(0:Int)<0+8;omega)|true=>(simp only[aj]at hd;show(0:Int)<m+8;omega)⟩;obtain⟨from_,hfr⟩:=Zgn (s.count);obtain⟨o0,hoo⟩:=Zgn (d.out.length);rw[hfr]at hR0 hk0;rw[hoo]at ho hk0;refine bN func45 rfl ntmps45 rfl hi ?_;refine Z_2 ?_;refine ZO λb6=>?_;refine ZN λb10=>?_
 refine Z_5 ?_;refine ZS (λw hi=>jv s Ad Ar cd cr w (h w hi.Nb)) ?_;rintro _ _ ⟨_,⟨A1,c1,A2,c2,rfl,rfl⟩,rfl⟩;refine ZM ?_;refine Z_6 ?_;refine ZSe (λw hi=>HR2 A1 A2 c1 c2 w) ?_;refine fE ?_;refine fS ?_;refine Z_4 ?_;refine iT (row b6 (s.cells (.slice A1 s.d.length c1) (.slice A2 s.r.length c2)) 47::row b10 (St.zero.cells (.slice none 0 0) (.slice none 0 0)) 47::egF be bu bb L D s ⟨A1,c1,A2,c2⟩ Y U d E) Zj ?_;refine Z_7 ?_;refine cq (λq:Nat×St×kb×nw×Mmu×Dev×EnX=>[(0,.pointer (some ⟨be,0,none⟩)),(2,.pointer (some ⟨bu,0,none⟩)),(3,.pointer (some ⟨D.bs,0,none⟩)),(4,.int .i64 m),(6,.pointer (some ⟨b6,0,none⟩)),(10,.pointer (some ⟨b10,0,none⟩)),(11,.int .u64 from_)]) (λq=>row b6 (q.2.1.cells (.slice q.2.2.1.Ad q.2.1.d.length q.2.2.1.cd) (.slice q.2.2.1.Ar q.2.1.r.length q.2.2.1.cr)) 47::row b10 (St.zero.cells (.slice none 0 0) (.slice none 0 0)) 47::egF be bu bb L D q.2.1 q.2.2.1 q.2.2.2.1 q.2.2.2.2.1 q.2.2.2.2.2.1 q.2.2.2.2.2.2) (λq=>EK L.n m from_ o0 q.1 (q.2.1,q.2.2.2.2.1,q.2.2.2.2.2.1)/\q.1<=m.toNat/\oG q.2.2.2.2.2.2/\ly L.n m from_ (m.toNat - q.1) ((q.2.1,q.2.2.2.2.1,q.2.2.2.2.2.1),q.2.2.2.2.2.2.eng)=((s9,U9,d9),G9)) (λq=>m.toNat - q.1) (⟨0,s,⟨A1,c1,A2,c2⟩,Y,U,d,E⟩) ?_ ?_ ?_ ?_
 .exact⟨hk0,aq _,hE,hR0⟩
 .exact Zwk
 .exact Zu
 rintro⟨i,s,X,Y,U,d,E⟩ ⟨hk,him,hE,hRi⟩;dsimp only at hk him hE hRi|-;have hrc:eL m from_ s=((decide (0<m)&& !s.halted)&&decide (IntKind.u64.wrap (s.count - from_)<m)):=rfl;refine gy ?_;refine Zyy rfl rfl (eE (dh rfl) (dh rfl) rfl) ?_;refine ZB ?_;refine Zyy rfl rfl (ce rfl rfl (dh rfl) (show _=(bif decide (0<m)then m else IntKind.u64.wrap m)from by cases hd:decide (0<m)with|false=>rfl|true=>(rw[ac,aQ];simp only[aj]at hd;omega))) ?_;refine Z_4 ?_;refine ZW ?_ ?_<;>intro hc5
 .have hc:eL m from_ s=true:=(by rw[hrc];revert hc5;cases decide (0<m)with|false=>(intro h;cases h)|true=>exact λh=>h);obtain⟨hk2,hilt⟩:=BP hm Wq1 hk hc;obtain⟨k,hkk⟩:∃k,m.toNat - i=k+1:=⟨m.toNat - i - 1,by omega⟩;rw[hkk,yo (q:=((s,U,d),E.eng)) hc]at hRi;obtain⟨hd16,hr16, -⟩:=St.fits hk.g.right;have hok:=hk.out;dsimp only at hok hd16 hr16;have HB:=edo_ok be bu bb L D Y s X.Ad X.Ar X.cd X.cr U d hk.g Wq1 E hE;obtain⟨hd1, -, -⟩:=MB hn hk.g hE.eg;obtain⟨⟨⟨s2,U2,d2⟩,G2⟩,hq⟩:=Zgn (doE L.n s U d E.eng);dsimp only at hRi hk2 hd1;rw[hq]at HB hRi hd1;dsimp only at hd1;rw[<-hd1]at hk2;refine Z_8 ?_;refine ZcL (eoF be bu bb L D Y U d E) (λw hi hin=>HB w hin (λw' hk=>hi.NL Zi (show Has _ (slD s X.Ad X.cd)from Zh) (show Has _ (slR s X.Ar X.cr)from Zh) Wq1 Wq1 hk) (λw' hk=>ht w' (hi.Oi (λc hc=>by simp only[egF,eoF,enF,guF,ubF,uF,lm,aS,aJ,aY]at hc|-;grind) hk))) ?_;rintro _ _ ⟨_,⟨X2,Y2,E2,hE2,hEe,rfl,rfl⟩,rfl⟩;refine ZM ?_;refine Z_2 ?_;refine bX ((⟨i+1,s2,X2,Y2,U2,d2,E2⟩:Nat×St×kb×nw×Mmu×Dev×EnX)) ?_ ?_ ?_
  .exact⟨⟨hk2,show i+1<=m.toNat by omega,hE2,by show ly L.n m from_ (m.toNat - (i+1)) ((s2,U2,d2),E2.eng)=_;rw[show m.toNat - (i+1)=k by omega,hEe];exact hRi⟩,show m.toNat - (i+1)<m.toNat - i by omega⟩
  .exact Zwk
  exact Zj
 have hc:eL m from_ s=false:=(by rw[hrc];revert hc5;cases decide (0<m)with|false=>exact λ_=>rfl|true=>exact λh=>h);rw[sP (q:=((s,U,d),E.eng)) hc,aV,aV,aV]at hRi;obtain⟨⟨rfl,rfl,rfl⟩,hG9⟩:=hRi;refine Z_8 ?_;refine ZM ?_;refine Z_3 ?_;refine bP (row b10 (s.cells (.slice X.Ad s.d.length X.cd) (.slice X.Ar s.r.length X.cr)) 47::egF be bu bb L D s X Y U d E) Zj ?_;refine mi (cs':=(egF be bu bb L D s X Y U d E)) (.inl rfl) Zu rfl rfl Zh Zrf Zrf ?_;exact⟨X,Y,E,hE,hG9,rfl,rfl⟩
end Go.Proofs.YtkegldppffignaaGreatDoor
namespace Go.Ink
open Go.RowKit
section
variable {C:Cx} {fr:Fr} {d:Option Nat} {T:TypeId} {x y:Operand} {ty:TypeId} {pos:String} {af:Array Edge} {gd:Option (Nat×Bool)} {g:Bool}
end
theorem ym{n:Nat}{m f:Int}:∀(k:Nat) {q:St×Mmu×Dev},GOk n q.1 q.2.1 q.2.2->(kK n m f k q).2.2.out.length<=q.2.2.out.length+8*k
 |0,q,h=>by show q.2.2.out.length<=_;omega
 |k+1,q,h=>by
  cases hc:eL m f q.1 with
  |false=>rw[jn hc];omega
  |true=>
   rw[po hc];have h1:=ym (m:=m) (f:=f) k (zx h);have h2:(cT n q.1 q.2.1 q.2.2).2.2.out.length<=q.2.2.out.length+8:=by
    rcases qI h with h3|⟨-, -, -,h3⟩
    .exact h3.out
    rw[h3];omega
   omega
theorem F9{n:Nat}(m:Int){s:St}{U:Mmu}{d:Dev}(h:GOk n s U d):(eW n m s U d).2.2.out.length<=d.out.length+8*m.toNat:=ym m.toNat (q:=(s,U,d)) h
end Go.Ink
namespace Go.Proofs.YtkegldppffignaaGreatDoor
open Go.RowKit Go.Ink Go.Proofs.Tryz
attribute [local irreducible] OpY bS
theorem It(room:Int)(hr:1<=room/\room<=1024)(w:World):Ctr prog 56 [.int .i64 room] w [] (λv cs=>∃be E,(oG E/\E.eng=Eng.fresh room)/\v= .tuple #[.pointer (some ⟨be,0,none⟩),.int .i64 0]/\cs=enF be E):=by
 refine(enew_ok room w).mono ?_;rintro v cs h;rw[if_pos hr]at h;obtain⟨be,bc,mr,ml,rfl,rfl⟩:=h;exact⟨be,⟨bc,mr,room,⟨ml,none,0,0,[],[]⟩,[],(0,0),0,0,false⟩,⟨⟨qa.none hr _ _ _ _,iH.fresh hr,(λy hy=>nomatch hy),(show lc (0,0)from⟨⟨by decide,by decide⟩,by decide,by decide⟩)⟩,rfl⟩,rfl,rfl⟩
end Go.Proofs.YtkegldppffignaaGreatDoor
namespace Go.Ink
open Go.RowKit
def Mem.load(n:Nat)(l:List Int):Mem:=(Mem.new n).fill 0 l l.length
theorem Mem.Nt{n:Nat}{l:List Int}(h:l.length<=n*64):(Mem.load n l).data=l++List.replicate (n*64 - l.length) 0:=congrArg Mem.data (Mem.init_eq h)
theorem Mem.N8(n:Nat):(Mem.new n).ok n:=⟨aI,λx hx=>by rw[List.eq_of_mem_replicate hx];decide,aI⟩
theorem KN{n:Nat}{l k:List Int}(hb:u8s l)(hk:k.length<=1024)(hkb:u8s k):GOk n St.new ⟨Mem.load n l,dz⟩ (Dev.init k):=
 ⟨new_wf,rfl,⟨(Mem.N8 n).fill 0 hb _,u7⟩,Dev.Oe hk hkb,⟨Int.le_refl _,show(0:Int)<=255 by decide⟩⟩
theorem Inv.okS{w0 w:World}{S:List Nat}{cs cin rest:List bL}(h:Inv w0 S cs w)(hp:ja cin cs rest):∀c,c∈cin->c.ok w:=λc hc=>h.ok c (hp.perm.symm.subset (List.mem_append_left _ hc))
end Go.Ink
namespace Go.Proofs.YtkegldppffignaaGreatDoor
open Go.RowKit Go.Ink Go.Proofs.Tryz
attribute [local irreducible] OpY bS
structure rp where
 bg:Nat
 bu:Nat
 bb:Nat
 be:Nat
 L:fu
 D:p8
structure Gst where
 s:St
 X:kb
 Y:nw
 U:Mmu
 d:Dev
 o:Option EnX
def engV(be:Nat):Option EnX->Value
 |none=> .pointer none
 |some _=> .pointer (some ⟨be,0,none⟩)
def enO(be:Nat):Option EnX->List bL
 |none=>[]
 |some E=>enF be E
abbrev y8(H:rp)(G:Gst)(k:Bool):List Value:=[.pointer (some ⟨H.D.bs,0,none⟩),.pointer (some ⟨H.L.bm,0,none⟩),.pointer (some ⟨H.L.bp,0,none⟩),.int .i64 (H.L.o:Int),.pointer (some ⟨H.bu,0,none⟩),engV H.be G.o]++(G.s.cells (.slice G.X.Ad G.s.d.length G.X.cd) (.slice G.X.Ar G.s.r.length G.X.cr)++[.bool k])
abbrev Cs(H:rp)(G:Gst)(k:Bool):bL:=row H.bg (y8 H G k) 49
abbrev gsF(H:rp)(G:Gst):List bL:=Cs H G false::(guF H.bu H.bb H.L H.D G.s G.X G.Y G.U G.d++[dp (enO H.be G.o)])
structure Gst.ok(n:Nat)(G:Gst):Prop where
 g:GOk n G.s G.U G.d
 e:∀E,G.o=some E->oG E
structure Jg(bp o n:Nat)(W ow pr l k:List Int)(tr:Bool)(H:rp)(G:Gst):Prop where
 hbp:H.L.bp=bp
 ho:H.L.o=o
 hn:H.L.n=n
 hgw:H.L.gw=ow
 hgB:H.L.gB=W
 hgp:H.L.gp=pr.set o n
 hs:G.s=St.new
 hu:G.U=⟨Mem.load n l,dz⟩
 hd:G.d=Dev.init k
 htr:G.o.isSome=tr
 ok:G.ok n
theorem gnew_ok(bp:Nat)(W ow pr:List Int)(hl:dF W ow pr)(o n:Nat)(ho:o<4)(hn0:1<=n)(hn:n<=64)(h1:pr[o]? =some (-1))(hs:(n:Int)+pd pr 4<=240)(hb:∀x,x∈pr->x<=1000)(hno:∀x,x∈ow->x≠(o:Int))(hc:n<=qD ow 256)
  (A B:Option Addr) (c e:Nat) (l k:List Int) (hll:l.length<=n*64) (hlb:u8s l) (hkl:k.length<=1024) (hkb:u8s k) (tr:Bool) (w:World) (hi:Inv w (bM [dj bp W ow pr]) [dj bp W ow pr] w)
  (hA:∀w',dG (bM [dj bp W ow pr]) w w'->Rd w' .u8 A l.length c l) (hB:∀w',dG (bM [dj bp W ow pr]) w w'->Rd w' .u8 B k.length e k):
  Ctr prog 24 [.pointer (some ⟨bp,0,none⟩),.int .i64 o,imgV A c l B e k n,.bool tr] w [dj bp W ow pr] (λv cs=>∃H G,Jg bp o n W ow pr l k tr H G/\v= .tuple #[.pointer (some ⟨H.bg,0,none⟩),.int .i64 0]/\cs=gsF H G):=by
 have hG:=KN (n:=n) (l:=l) (k:=k) hlb hkl hkb;have HM:∀bt bf bg bm,eI (⟨bp,bt,bf,bg,bm,o,n,ow,W,pr.set o n⟩) (Mem.new n) ⟨W,ow,pr.set o n,List.replicate n (-1),List.replicate n false⟩:=λbt bf bg bm=>
  eI.new (L:=⟨bp,bt,bf,bg,bm,o,n,ow,W,pr.set o n⟩) ho hn0 hn (pr:=pr) hl rfl hno (Ld hc)
 have HB:∀(H:rp) (G:Gst),H.L.bp=bp->H.L.o=o->H.L.n=n->H.L.gw=ow->H.L.gB=W->H.L.gp=pr.set o n->G.s=St.new->G.U=⟨Mem.load n l,dz⟩->G.d=Dev.init k->G.o.isSome=tr->(∀E,G.o=some E->oG E)->Jg bp o n W ow pr l k tr H G:=λH G a1 a2 a3 a4 a5 a6 a7 a8 a9 a10 a11=>⟨a1,a2,a3,a4,a5,a6,a7,a8,a9,a10,⟨by rw[a7,a8,a9];exact hG,a11⟩⟩
 have H2:=λbm w h=>IU bm B e k hkl w h
 unfold Mem.load at HB;obtain⟨d,hd⟩:=Zgn (Dev.init k);rw[hd]at H2 HB;clear hG hd;refine bN func24 rfl ntmps24 rfl hi ?_;refine Z_2 ?_;refine ZO λb6=>?_;refine jd ?_;refine fS ?_;refine Zs (bU ⟨λj=>List.elem j [],[]⟩ Zk ?_);refine ZFe 0 0 ?_;refine ZG 1 ?_;refine ZE 2 ?_;refine ZFe 4 2 ?_;refine ZG 5 ?_;refine cG 6 rfl Zk Zk Zk (sd Zv0 Zv0 rfl) rfl ?_;refine cn 3 Zk ?_;refine ZT (λw hi=>pM l.length Wq1 w) ?_;rintro _ _ ⟨_,⟨rfl,rfl⟩,rfl⟩;refine ZE 7 ?_;refine ZE 8 ?_;refine ZFf 9 1 ?_;refine qO 10 rfl Zk Zk Zk Zk (cy rfl rfl) (bQ Zrf (dh rfl)) (cu Zh rfl) rfl ?_;refine ZF 11 ?_;refine ZF 12 ?_;refine ZE 13 ?_;refine ZE 14 ?_;refine dx ?_;refine Zt (dc rfl ((by rw[if_neg (show¬(0:Int)>(n:Int) by omega),aw (show¬(n:Int)<(((l.length+63)/64:Nat):Int) by omega),aw (show¬(1024:Int)<(k.length:Int) by omega)];rfl)) ?_);refine Z_9 ?_;refine ZcL ([dj bp W ow pr]) (λw hi hin=>nnew_ok bp W ow pr hl o n ho hn0 hn h1 hs hb w hin) ?_;rintro _ _ ⟨_,⟨bt,bf,bg,rfl,rfl⟩,rfl⟩;refine gy ?_;refine fS ?_;refine Z_6 ?_;refine ZS (λw hi=>rnew_ok bp bt w) ?_;rintro _ _ ⟨_,⟨bm,rfl,rfl⟩,rfl⟩;refine Z_9 ?_;refine Bw (bs:=[bp,bt,bf,bg,bm]) (F:=DU ⟨bp,bt,bf,bg,bm,o,n,ow,W,pr.set o n⟩ (List.replicate 64 false)) (hb:=λ_=>rfl) (p:=eI ⟨bp,bt,bf,bg,bm,o,n,ow,W,pr.set o n⟩ (Mem.new n)) ⟨W,ow,pr.set o n,List.replicate n (-1),List.replicate n false⟩ (HM bt bf bg bm) Zi ?_;refine Z_3 ?_;refine ZcM ([eA ⟨bp,bt,bf,bg,bm,o,n,ow,W,pr.set o n⟩ (Mem.new n)]) (λw hi hin=>J3 ⟨bp,bt,bf,bg,bm,o,n,ow,W,pr.set o n⟩ (Mem.new n) A c l hll hlb w hin (λw' hk=>hA w' (hi.Ns Zi hk))) ?_;refine Z_7 ?_;refine ZS (λw hi=>H2 bm w (hB w hi.Nb)) ?_;rintro _ _ ⟨_,⟨D,rfl,rfl⟩,rfl⟩;refine dS ?_;refine ZS (λw hi=>GI bm w) ?_;rintro _ _ ⟨_,⟨bu,bb,rfl,rfl⟩,rfl⟩;refine gy ?_;refine ZSe (λw hi=>N8 w) ?_;refine ZA ?_;refine ZO λb77=>?_
 refine dC 25 1 ?_;refine dC 25 1 ?_;refine Z_9 ?_;refine ZW ?_ ?_<;>intro hc13
 .refine Z_2 ?_;refine ZS (λw hi=>It 32 ⟨by decide,by decide⟩ w) ?_;rintro _ _ ⟨_,⟨be,E,⟨hE,hE0⟩,rfl,rfl⟩,rfl⟩;refine Z_5 ?_;refine EZ (enF be E) Zi ?_;refine ZL ?_;refine dS ?_;refine bP (gsF ⟨b77,bu,bb,be,⟨bp,bt,bf,bg,bm,o,n,ow,W,pr.set o n⟩,D⟩ ⟨St.new,⟨none,0,none,0⟩,⟨none,0,none,0⟩,⟨(Mem.new n).fill 0 l l.length,dz⟩,d,some E⟩) Zj ?_;refine rx (cs':=(gsF ⟨b77,bu,bb,be,⟨bp,bt,bf,bg,bm,o,n,ow,W,pr.set o n⟩,D⟩ ⟨St.new,⟨none,0,none,0⟩,⟨none,0,none,0⟩,⟨(Mem.new n).fill 0 l l.length,dz⟩,d,some E⟩)) (.inl rfl) Zu rfl rfl rfl ?_;exact⟨⟨b77,bu,bb,be,⟨bp,bt,bf,bg,bm,o,n,ow,W,pr.set o n⟩,D⟩,⟨St.new,⟨none,0,none,0⟩,⟨none,0,none,0⟩,⟨(Mem.new n).fill 0 l l.length,dz⟩,d,some E⟩,HB _ _ rfl rfl rfl rfl rfl rfl rfl rfl rfl (show true=tr from hc13.symm) (λE' h=>by cases h;exact hE),rfl,rfl⟩
 refine dS ?_;refine Gh ?_;refine bP (gsF ⟨b77,bu,bb,0,⟨bp,bt,bf,bg,bm,o,n,ow,W,pr.set o n⟩,D⟩ ⟨St.new,⟨none,0,none,0⟩,⟨none,0,none,0⟩,⟨(Mem.new n).fill 0 l l.length,dz⟩,d,none⟩) Zj ?_;refine rx (cs':=(gsF ⟨b77,bu,bb,0,⟨bp,bt,bf,bg,bm,o,n,ow,W,pr.set o n⟩,D⟩ ⟨St.new,⟨none,0,none,0⟩,⟨none,0,none,0⟩,⟨(Mem.new n).fill 0 l l.length,dz⟩,d,none⟩)) (.inl rfl) Zu rfl rfl rfl ?_;exact⟨⟨b77,bu,bb,0,⟨bp,bt,bf,bg,bm,o,n,ow,W,pr.set o n⟩,D⟩,⟨St.new,⟨none,0,none,0⟩,⟨none,0,none,0⟩,⟨(Mem.new n).fill 0 l l.length,dz⟩,d,none⟩,HB _ _ rfl rfl rfl rfl rfl rfl rfl rfl rfl (show false=tr from hc13.symm) (λE' h=>by cases h),rfl,rfl⟩
theorem i5(H:rp)(G:Gst)(w:World)(h:(Cs H G false).ok w)(h2:oJ w G.s G.X.Ad G.X.Ar G.X.cd G.X.cr):Ctr prog 20 [.pointer (some ⟨H.bg,0,none⟩)] w [] (LX G.s):=by
 refine bN func20 rfl ntmps20 rfl (Inv.start w) ?_;refine Z_2 ?_;refine ZN λb2=>?_;refine Z_7 ?_;refine dN (cz (vs:=G.s.cells (.slice G.X.Ad G.s.d.length G.X.cd) (.slice G.X.Ar G.s.r.length G.X.cr)) Zrf Zrf Zv0) (rT (o:=6) h rfl) rfl ?_;refine ZS (λw hi=>jv G.s G.X.Ad G.X.Ar G.X.cd G.X.cr w (h2.MZ hi)) ?_;rintro _ _ ⟨_,⟨A1,c1,A2,c2,rfl,rfl⟩,rfl⟩;refine ZM ?_;refine Z_3 ?_;refine mi (cs':=[slD G.s A1 c1,slR G.s A2 c2]) (.inl rfl) Zu rfl rfl Zh Zrf Zrf ?_;exact⟨A1,c1,A2,c2,rfl,rfl⟩
theorem Lk(be bu bb:Nat)(L:fu)(hn:L.n<=1000000)(D:p8)(Y:nw)(s:St)(Ad Ar:Option Addr)(cd cr:Nat)(U:Mmu)(d:Dev)(hG:GOk L.n s U d)(m:Int)(hm0: -1000000<=m)(hm:m<=1000000)(ho:d.out.length+8*m.toNat+8<=1000000000)(E:EnX)(hE:oG E)(w:World)(hi:Inv w (bM (eoF be bu bb L D Y U d E)) (eoF be bu bb L D Y U d E) w)
  (h:∀w',dG (bM (eoF be bu bb L D Y U d E)) w w'->oJ w' s Ad Ar cd cr) (ht:∀w',dG (bM (eoF be bu bb L D Y U d E)) w w'->iG w'):
  Ctr prog 45 [.pointer (some ⟨be,0,none⟩),sv s Ad cd Ar cr,.pointer (some ⟨bu,0,none⟩),.pointer (some ⟨D.bs,0,none⟩),.int .i64 m] w (eoF be bu bb L D Y U d E)
   (λv cs=>∃X' Y' E',oG E'/\v=sv (eW L.n m s U d).1 X'.Ad X'.cd X'.Ar X'.cr/\cs=egF be bu bb L D (eW L.n m s U d).1 X' Y' (eW L.n m s U d).2.1 (eW L.n m s U d).2.2 E'):=by
 refine(Lj be bu bb L hn D Y s Ad Ar cd cr U d hG m hm0 hm ho E hE w hi h ht).mono ?_;rintro v cs ⟨X',Y',E',hE', -,hv,hcs⟩;rw[(Ga hn m hG hE.eg).1]at hv hcs;exact⟨X',Y',E',hE',hv,hcs⟩
theorem lf(H:rp)(G:Gst)(hn:H.L.n<=1000000)(hG:G.ok H.L.n)(m:Int)(hm0: -1000000<=m)(hm:m<=1000000)(ho:G.d.out.length+8*m.toNat+8<=1000000000)(w:World)(hi:Inv w (bM (gsF H G)) (gsF H G) w)(ht:∀w',dG (bM (gsF H G)) w w'->iG w'):
  Ctr prog 17 [.pointer (some ⟨H.bg,0,none⟩),.int .i64 m] w (gsF H G)
   (λv cs=>∃G',(G'.ok H.L.n/\(G'.s,G'.U,G'.d)=eW H.L.n m G.s G.U G.d/\G'.o.isSome=G.o.isSome)/\v= .int .i64 (IntKind.i64.wrap (IntKind.u64.wrap ((eW H.L.n m G.s G.U G.d).1.count - G.s.count)))/\cs=gsF H G'):=by
 obtain⟨s,X,Y,U,d,o⟩:=G;have hg:=hG.g;dsimp only at hg ho|-;obtain⟨hd16,hr16, -⟩:=St.fits hg.right;have hg2:GOk H.L.n (eW H.L.n m s U d).1 (eW H.L.n m s U d).2.1 (eW H.L.n m s U d).2.2:=(Ga hn m hg (iH.fresh (room:=8) ⟨by decide,by decide⟩)).2.2.1;cases o with
 |none=>
  have HR:=run_ok H.bu H.bb H.L H.D Y s X.Ad X.Ar X.cd X.cr U d hg m hm0 hm ho;obtain⟨⟨s2,U2,d2⟩,hq⟩:=Zgn (eW H.L.n m s U d);rw[hq]at HR hg2|-;dsimp only at hg2;refine bN func17 rfl ntmps17 rfl hi ?_;refine dS ?_;refine ZFa 22 ?_;refine Z_3 ?_;refine fS ?_;refine mn ?_;refine Z_2 ?_;refine fS ?_;refine bU ⟨λj=>List.elem j [14,17],[]⟩ Zk ?_;refine gO ?_;refine ZE 2 ?_;refine ZFe 3 6 ?_;refine dD 4 rfl Zk Zk Zk Zk (cz (vs:=s.cells (.slice X.Ad s.d.length X.cd) (.slice X.Ar s.r.length X.cr)) Zrf Zrf Zv0) (cK (o:=6) Zh rfl) rfl ?_;refine ZE 5 ?_;refine ZE 6 ?_;refine ZFe 7 4 ?_;refine ZG 8 ?_;refine ZE 9 ?_;refine ZE 10 ?_;refine ZFe 11 0 ?_;refine ZG 12 ?_;refine ZE 13 ?_;refine cn 14 Zk ?_;refine ZcA (ubF H.bu H.bb H.L H.D Y U d) (λw hi hin=>HR w hin (λw' hk=>hi.NL Zi (show Has _ (slD s X.Ad X.cd)from Zh) (show Has _ (slR s X.Ar X.cr)from Zh) Wq1 Wq1 hk) (λw' hk=>ht w' (hi.Ns Zi hk))) ?_;rintro _ _ ⟨_,⟨X2,Y2,rfl,rfl⟩,rfl⟩;refine ZE 15 ?_;refine ZFe 16 6 ?_;refine cn 17 Zk ?_;refine du rfl rfl (fb (ys:=y8 H ⟨s2,X2,Y2,U2,d2,none⟩ false) (n:=16) (vs:=s2.cells (.slice X2.Ad s2.d.length X2.cd) (.slice X2.Ar s2.r.length X2.cr)) rfl Zrf rfl rfl (jA rfl) Za rfl (Nat.le_of_ble_eq_true rfl)) ZJ ?_;rintro _ _ ⟨rfl,rfl⟩;refine dx ?_;refine Z_9 ?_;refine Zy (eE Zv0 Zv0 rfl) ?_;refine Zy (ce rfl rfl Zv0 Zl) ?_;refine Z_4 ?_;refine bP (gsF H ⟨s2,X2,Y2,U2,d2,none⟩) Zj ?_;refine Zrb ((gsF H ⟨s2,X2,Y2,U2,d2,none⟩)) ?_;exact⟨⟨s2,X2,Y2,U2,d2,none⟩,⟨⟨hg2,λE h=>by cases h⟩,rfl,rfl⟩,rfl,rfl⟩
 |some E=>
  have hE:=hG.e E rfl;have HR:=Lk H.be H.bu H.bb H.L hn H.D Y s X.Ad X.Ar X.cd X.cr U d hg m hm0 hm ho;obtain⟨⟨s2,U2,d2⟩,hq⟩:=Zgn (eW H.L.n m s U d);rw[hq]at HR hg2|-;dsimp only at hg2;refine bN func17 rfl ntmps17 rfl hi ?_;refine dS ?_;refine ZFa 22 ?_;refine Z_3 ?_;refine fS ?_;refine Je ?_;refine wl_open (bs:=bM (enF H.be E)) (F:=λ_:Unit=>enF H.be E) (hb:=λ_=>rfl) (p:=λ_=>True) Zd (λ_ _=>?_);refine Z_3 ?_;refine bW rfl (rfl) ?_;refine Zs (bU ⟨λj=>List.elem j [9],[]⟩ Zk ?_);refine gO ?_;refine ZFe 2 5 ?_;refine ZG 3 ?_;refine ZE 4 ?_;refine ZE 5 ?_;refine ZFe 6 1 ?_;refine cn 7 Zk ?_;refine kY ?_;refine cn 8 Zk ?_;refine ZT (λw hi=>qi H.L U.m w (hi.get (show Has _ (eA H.L U.m)from Zh))) ?_;rintro _ _ ⟨_,⟨A3,c3,rfl,rfl⟩,rfl⟩;refine cn 9 Zk ?_;refine ZcA (enP H.be E A3 c3 (ik U.m.MS 64)) (λw hi hin=>vJ H.be E hE A3 c3 (ik U.m.MS 64) w hin) ?_;rintro _ _ ⟨_,⟨E2,rfl,hE2, -⟩,rfl⟩;refine dx ?_;refine Zt (bU ⟨λj=>List.elem j [18,21],[]⟩ Zk ?_);refine gO ?_;refine ZE 2 ?_;refine ZFe 3 5 ?_;refine ZG 4 ?_;refine ZE 5 ?_;refine ZE 6 ?_;refine ZFe 7 6 ?_;refine dD 8 rfl Zk Zk Zk Zk (cz (vs:=s.cells (.slice X.Ad s.d.length X.cd) (.slice X.Ar s.r.length X.cr)) Zrf Zrf Zv0) (cK (o:=6) Zh rfl) rfl ?_;refine ZE 9 ?_;refine ZE 10 ?_;refine ZFe 11 4 ?_;refine ZG 12 ?_;refine ZE 13 ?_;refine ZE 14 ?_;refine ZFe 15 0 ?_;refine ZG 16 ?_;refine ZE 17 ?_;refine cn 18 Zk ?_;refine ZcA (eoF H.be H.bu H.bb H.L H.D Y U d E2) (λw hi hin=>HR E2 hE2 w hin (λw' hk=>hi.NL Zi (show Has _ (slD s X.Ad X.cd)from Zh) (show Has _ (slR s X.Ar X.cr)from Zh) Wq1 Wq1 hk) (λw' hk=>ht w' (hi.Ns Zi hk))) ?_;rintro _ _ ⟨_,⟨X2,Y2,E3,hE3,rfl,rfl⟩,rfl⟩;refine ZE 19 ?_;refine ZFe 20 6 ?_;refine cn 21 Zk ?_;refine du rfl rfl (fb (ys:=y8 H ⟨s2,X2,Y2,U2,d2,some E3⟩ false) (n:=16) (vs:=s2.cells (.slice X2.Ad s2.d.length X2.cd) (.slice X2.Ar s2.r.length X2.cr)) rfl Zrf rfl rfl (jA rfl) Za rfl (Nat.le_of_ble_eq_true rfl)) ZJ ?_;rintro _ _ ⟨rfl,rfl⟩;refine dx ?_;refine Z_3 ?_;refine EZ (enF H.be E3) Zi ?_;refine Z_6 ?_;refine Zy (eE Zv0 Zv0 rfl) ?_;refine Zy (ce rfl rfl Zv0 Zl) ?_;refine Z_4 ?_;refine bP (gsF H ⟨s2,X2,Y2,U2,d2,some E3⟩) Zj ?_;refine Zrb ((gsF H ⟨s2,X2,Y2,U2,d2,some E3⟩)) ?_;exact⟨⟨s2,X2,Y2,U2,d2,some E3⟩,⟨⟨hg2,λE h=>by cases h;exact hE3⟩,rfl,rfl⟩,rfl,rfl⟩
end Go.Proofs.YtkegldppffignaaGreatDoor
