/- Lemmas. -/
import Derived.Test.YtgpahfcaecojgaaGreatDoorPao
set_option linter.all false
set_option maxRecDepth 100000
set_option maxHeartbeats 4000000
namespace Go.Ink
open Go.RowKit Go.Proofs.Tryz
theorem St.same_iff(a b:St):a.same b=true<->a=b:=by
 unfold St.same;constructor
 .intro h;simp only[au,beq_iff_eq]at h;obtain⟨⟨⟨⟨⟨h1,h2⟩,⟨⟨⟨⟨⟨⟨h3,h4⟩,h5⟩,h6⟩,h7⟩,h8⟩,h9⟩⟩,⟨⟨⟨⟨h10,h11⟩,h12⟩,h13⟩,h14⟩⟩,h15⟩,h16⟩:=h;cases a;cases b;simp_all
 rintro rfl;simp
section
attribute [local irreducible] OpY bN
theorem IT(A A2:Oa)(c c2:Nat)(xs ys:Li)(w:World)(h:Rd w .u32 A xs.length c xs)(h2:Rd w .u32 A2 ys.length c2 ys):
  CW prog 128 [.slice A xs.length c,.slice A2 ys.length c2] w (.bool (xs==ys)):=by
 have hm:=h.max;have hc:=h.cap;unfold maxLen at hm;refine Zfs func128 ntmps128 ?_;refine oU ?_;refine ZW ?_ ?_<;>intro hc1
 .have hne:(xs==ys)=false:=by rw[aV];rintro rfl;simp at hc1
  refine sE ?_;exact⟨by rw[hne],rfl⟩
 have hlen:xs.length=ys.length:=by(have:(xs.length:Int)=ys.length:=by simpa using hc1);omega
 refine gq ?_;refine wLo (λk:Nat=>[(13,.i (k:Int)),(12,.i xs.length),(0,.slice A xs.length c),(1,.slice A2 ys.length c2)]) (λ_=>[]) (λk=>k<=xs.length/\xs.take k=ys.take k) (λk=>xs.length - k) (0) ⟨ap _,rfl⟩ ?_;rintro k ⟨hk,he⟩;refine Zw6 ?_ ?_<;>intro hc4
 .simp only[ac]at hc4;obtain⟨ad,rfl⟩:=h.some_ Wq1;obtain⟨ad2,rfl⟩:=h2.some_ Wq1;refine gq ?_;refine uf ?_;refine Zy4 2 rfl (cC rfl Zrf (Zv rfl) (Zv rfl) Zrf Wq2) ?_;refine Wq197 ?_;refine ZE 8 ?_;refine ug ?_;refine ZW ?_ ?_<;>intro hc6
  .have hne:(xs==ys)=false:=by rw[aV];rintro rfl;simp at hc6
   refine oo ?_;exact⟨by rw[hne],rfl⟩
  have heq:xs[k]'(by omega)=ys[k]'(by omega):=by simpa using hc6
  refine jS ?_;refine qMM (k+1) ⟨⟨by omega,?_⟩,by omega⟩;rw[List.take_succ_eq_append_getElem Wq1,List.take_succ_eq_append_getElem Wq1,he,heq]
 simp only[aa]at hc4;refine oo ?_;refine⟨?_,rfl⟩;have hkk:k=xs.length:=by omega
 subst hkk;rw[bC]at he;rw[he,hlen,bC];simp
set_option maxRecDepth 100000 in
theorem same_ok(s t:St)(Ad Ar Bd Br:Oa)(cd cr ed er:Nat)(w:World)(h:rj w s Ad Ar cd cr)(h2:rj w t Bd Br ed er):
  CW prog 106 [sv s Ad cd Ar cr,sv t Bd ed Br er] w (.bool (s.same t)):=by
 refine Zfs func106 ntmps106 ?_;refine Z_2 ?_;refine ZO λb2=>?_;refine ZO λb3=>?_
 refine Z_9 ?_;refine dE fE (.cons Zv0 (.cons Zv0 .nil)) (λ_ _=>rfl) (λhg w hi=>IT Ad Bd cd ed s.d t.d w (h.d.Wh hi) (h2.d.Wh hi)) rfl (Z_5 ?_);refine dE (bS rfl rfl) (.cons (cA rfl) (.cons (cA rfl) .nil)) (λ_ _=>rfl) (λhg w hi=>IT Ar Br cr er s.r t.r w (h.r.Wh hi) (h2.r.Wh hi)) rfl (EC ?_);refine EC ?_;refine EC ?_;refine Z_1 ?_;exact ru
structure Vw where
 s:St
 m:List Int
 o:List Int
 i:List Int
 k:List Int
 Wx:Int
 mask:Int
 killed:Bool
structure VAd where
 X:ko
 Am:Option Addr
 cm:Nat
 Ao:Option Addr
 co:Nat
 Ai:Option Addr
 ci:Nat
 Ak:Option Addr
 ck:Nat
abbrev Vw.cells(v:Vw)(Y:VAd):List Value:=v.s.cells (.slice Y.X.Ad v.s.d.length Y.X.cd) (.slice Y.X.Ar v.s.r.length Y.X.cr)++[.slice Y.Am v.m.length Y.cm,.slice Y.Ao v.o.length Y.co,.slice Y.Ai v.i.length Y.ci,.slice Y.Ak v.k.length Y.ck,.w v.Wx,.w v.mask,.bool v.killed]
abbrev vv(v:Vw)(Y:VAd):Value:= .agg (v.cells Y).toArray
structure Vw.wf(v:Vw):Prop where
 s:v.s.wf
 m:u8s v.m
 o:u8s v.o
 i:u8s v.i
 k:u8s v.k
structure oV(w:World)(v:Vw)(Y:VAd):Prop where
 s:rj w v.s Y.X.Ad Y.X.Ar Y.X.cd Y.X.cr
 m:Rd w .u8 Y.Am v.m.length Y.cm v.m
 o:Rd w .u8 Y.Ao v.o.length Y.co v.o
 i:Rd w .u8 Y.Ai v.i.length Y.ci v.i
 k:Rd w .u8 Y.Ak v.k.length Y.ck v.k
theorem oV.Wh{w0 w:World}{cs:List bJ}{v:Vw}{Y:VAd}(h:oV w0 v Y)(hi:Inv w0 [] cs w):oV w v Y:=⟨h.s.Wh hi,h.m.Wh hi,h.o.Wh hi,h.i.Wh hi,h.k.Wh hi⟩
structure BSl where
 A:Option Addr
 c:Nat
 l:List Int
abbrev BSl.v(x:BSl):Value:= .slice x.A x.l.length x.c
def Cp(a b:Vw)(Y Z:VAd):List (BSl×BSl):=[(⟨Y.Am,Y.cm,a.m⟩,⟨Z.Am,Z.cm,b.m⟩),(⟨Y.Ao,Y.co,a.o⟩,⟨Z.Ao,Z.co,b.o⟩),(⟨Y.Ai,Y.ci,a.i⟩,⟨Z.Ai,Z.ci,b.i⟩),(⟨Y.Ak,Y.ck,a.k⟩,⟨Z.Ak,Z.ck,b.k⟩)]
abbrev pairV(p:BSl×BSl):List Value:=[p.1.v,p.2.v]
def Lg(l:List (BSl×BSl)):Bool:=l.all λp=>p.1.l==p.2.l
def mV(pre:Li):List Bool:=(List.range 256).map λf:Nat=>decide ((f:Int)∈pre)
def xJ(l:Li):Prop:=(∀f,f∈l->16<=f/\f<256)/\l.Nodup
theorem qE(pre:Li):(mV pre).length=256:=by simp[mV]
variable{pre:Li}{f:Nat}
theorem sa(h:f<256):(mV pre)[f]? =some (decide ((f:Int)∈pre)):=by
 unfold mV;rw[aX,List.getElem?_range h];rfl
theorem NZ(h:f<256):(mV pre).set f true=mV (pre++[(f:Int)]):=by
 apply List.ext_getElem?;intro j;by_cases hj:j<256
 .rw[sa hj];by_cases e:f=j
  .subst e;rw[List.getElem?_set_self (by rw[qE];exact h)];simp
  rw[List.getElem?_set_ne e,sa hj];congr 1;have:(j:Int)≠(f:Int):=by omega
  simp[this]
 rw[List.getElem?_eq_none (by rw[List.length_set,qE];omega),List.getElem?_eq_none (by rw[qE];omega)]
theorem N6:mV []=List.replicate 256 false:=by decide+kernel
theorem xf(h:f<256):(jQ (mV pre))[f]? =some (.bool (decide ((f:Int)∈pre))):=by unfold jQ;rw[aX,sa h];rfl
theorem xd(h:f<256):(jQ (mV pre)).set f (.bool true)=jQ (mV (pre++[(f:Int)])):=by rw[<-NZ h];unfold jQ;rw[List.map_set]
theorem O8{f:Int}(h:xJ pre)(h1:16<=f/\f<256)(h2:f∉pre):xJ (pre++[f]):=by
 refine⟨λx hx=>?_,?_⟩
 .rcases az.1 hx with hx|hx
  .exact h.1 x hx
  rw[aC.1 hx];exact h1
 rw[List.nodup_append];exact⟨h.2,by simp,λa ha b hb=>by rw[aC.1 hb];exact λe=>h2 (e▸ha)⟩
theorem Ge{post:Li}{f:Int}(h:¬(16<=f/\f<256)\/f∈pre):¬xJ (pre++f::post):=by
 rintro⟨h1,h2⟩;rcases h with h|h
 .exact h (h1 f cP)
 rw[List.nodup_append]at h2;exact h2.2.2 f h f cP rfl
structure ISl where
 A:Option Addr
 c:Nat
 l:List Int
abbrev ISl.v(x:ISl):Value:= .slice x.A x.l.length x.c
abbrev ISl.cells(x:ISl):List Value:=[x.v]
def ISl.rd(x:ISl)(w:World):Prop:=Rd w .i64 x.A x.l.length x.c x.l
theorem isl_at{L:List ISl}{n:Nat}{x:ISl}(h:L[n]? =some x):(L.map ISl.v)[n]? =some x.v:=by rw[aX,h];rfl
theorem Ua(a b:Vw)(Y Z:VAd)(ha:a.wf)(hb:b.wf)(w:World)(h:oV w a Y)(h2:oV w b Z):
  Ctr prog 74 [vv a Y,vv b Z] w [] (λv cs=>(∃r,v= .bool r/\(r=true<->a=b))/\cs=[]):=by
 have HP:∀p,p∈Cp a b Y Z->u8s p.1.l/\u8s p.2.l/\Rd w .u8 p.1.A p.1.l.length p.1.c p.1.l/\Rd w .u8 p.2.A p.2.l.length p.2.c p.2.l:=λp hp=>by
  simp only[Cp,aJ,aY,or_false]at hp;rcases hp with rfl|rfl|rfl|rfl
  .exact⟨ha.m,hb.m,h.m,h2.m⟩
  .exact⟨ha.o,hb.o,h.o,h2.o⟩
  .exact⟨ha.i,hb.i,h.i,h2.i⟩
  exact⟨ha.k,hb.k,h.k,h2.k⟩
 have hP4:(Cp a b Y Z).length=4:=rfl;have hEq:Lg (Cp a b Y Z)=((a.m==b.m)&&((a.o==b.o)&&((a.i==b.i)&&((a.k==b.k)&&true)))):=rfl;obtain⟨P,hP⟩:=Zgn (Cp a b Y Z);have hflat:[Value.slice Y.Am a.m.length Y.cm,.slice Z.Am b.m.length Z.cm,.slice Y.Ao a.o.length Y.co,.slice Z.Ao b.o.length Z.co,.slice Y.Ai a.i.length Y.ci,.slice Z.Ai b.i.length Z.ci,.slice Y.Ak a.k.length Y.ck,.slice Z.Ak b.k.length Z.ck]=P.flatMap pairV:=by rw[<-hP];rfl
 rw[hP]at HP hP4 hEq;refine Zfs func74 ntmps74 ?_;refine Z_2 ?_;refine ZO λb2=>?_;refine ZO λb3=>?_
 refine om ?_;refine gq ?_;refine fo (gZ rfl rfl Zrf Zrf rfl rfl hflat) rfl ?_;rintro _ _ ⟨b28,rfl,rfl⟩;refine Z_5 ?_;refine wLo (λq:Nat×Bool=>[(2,.p b2),(3,.p b3),(5,.bool q.2),(28,.slice (sA b28) 4 4),(29,.i 4),(30,.i (q.1:Int))]) (λ_=>[row b2 (a.cells Y) 55,row b3 (b.cells Z) 55,slv 182 2 (sA b28) 4 4 (P.flatMap pairV)]) (λq=>q.1<=4/\q.2=Lg (P.take q.1)) (λq=>4 - q.1) (⟨0,true⟩) ⟨ap _,rfl⟩ ?_;rintro⟨k,g⟩ ⟨hk,hg⟩;dsimp only at hk hg|-;subst hg;refine Zw6 ?_ ?_<;>intro hc3
 .simp only[ac]at hc3;obtain⟨p,hp⟩:∃p,P[k]? =some p:=⟨_,ae (show k<P.length by omega)⟩;obtain⟨u1,u2,r1,r2⟩:=HP p (ak hp);obtain⟨⟨A1,c1,l1⟩,⟨A2,c2,l2⟩⟩:=p;dsimp only at u1 u2 r1 r2;have hand:(Lg (P.take k)&&(l1==l2))=Lg (P.take (k+1)):=(by rw[bE,hp];simp[Lg]);refine Z_6 ?_;refine Ex ?_;refine dQ (bW (vs:=[.slice A1 l1.length c1,.slice A2 l2.length c2]) Zrf Zrf Zv0) (vt Zh (λj v hj=>bZ (f:=pairV) Zrf (i:=j) hp hj)) rfl ?_;refine ZN λb7=>?_
  refine mR ?_;refine Zyy rfl rfl (dz (j:=0) (sz:=1) (r:=0) rfl Zrf (Zv rfl) (Zv rfl) Wq2 Wq2 Wq1) ?_;refine ZD ?_;refine Zyy rfl rfl (dz (j:=1) (sz:=1) (r:=1) rfl Zrf (Zv rfl) (Zv rfl) Wq2 Wq2 Wq1) ?_;refine ZD ?_;refine dE (bS rfl rfl) (.cons (cA rfl) (.cons (cA rfl) .nil)) (λ_ _=>rfl) (λhg w hi=>Eu A1 A2 c1 c2 l1 l2 u1 u2 w (r1.Wh hi) (r2.Wh hi)) rfl (Z_6 ?_);rw[hand];refine Wq6 ?_;refine qMM ((⟨k+1,Lg (P.take (k+1))⟩:Nat×Bool)) ⟨⟨by omega,rfl⟩,by omega⟩
 simp only[aa]at hc3;obtain rfl:k=4:=by omega
 refine fH ?_;refine gQ (bS rfl rfl) (bW (vs:=a.s.cells (.slice Y.X.Ad a.s.d.length Y.X.cd) (.slice Y.X.Ar a.s.r.length Y.X.cr)) Zrf Zrf (cA rfl)) (cX (o:=0) Zh rfl) rfl (Z_1 ?_);refine gQ (bS rfl rfl) (bW (vs:=b.s.cells (.slice Z.X.Ad b.s.d.length Z.X.cd) (.slice Z.X.Ar b.s.r.length Z.X.cr)) Zrf Zrf (cA rfl)) (cX (o:=0) Zh rfl) rfl (dE (bS rfl rfl) (.cons (cA rfl) (.cons (cA rfl) .nil)) (λ_ _=>rfl) (λhg w hi=>same_ok a.s b.s Y.X.Ad Y.X.Ar Z.X.Ad Z.X.Ar Y.X.cd Y.X.cr Z.X.cd Z.X.cr w (h.s.Wh hi) (h2.s.Wh hi)) rfl (Z_2 ?_));refine ZFb 20 ?_;refine ZD ?_;refine ZFb 20 ?_;refine Z_4 ?_;refine ZFb 21 ?_;refine ZD ?_;refine ZFb 21 ?_;refine Z_4 ?_;refine ZFb 22 ?_;refine ZD ?_;refine ZFb 22 ?_;refine sE ?_;refine⟨⟨_,rfl,?_⟩,rfl⟩;rw[aM Wq1,hEq];simp only[au,beq_iff_eq,St.same_iff,and_true];constructor
 .rintro⟨⟨⟨⟨⟨q1,q2,q3,q4⟩,q5⟩,q6⟩,q7⟩,q8⟩;cases a;cases b;simp_all
 rintro rfl;simp
theorem ku(A:Oa)(c:Nat)(L:List ISl)(w:World)(h:RdV w 1 A L.length c (L.map ISl.v))(hL:∀x,x∈L->x.rd w):
  Ctr prog 34 [.slice A L.length c] w [] (λv cs=>(∃r,v= .bool r/\(r=true<->xJ (L.flatMap ISl.l)))/\cs=[]):=by
 have hm:=h.max;have hc:=h.cap;unfold maxLen at hm;refine Zfs func34 ntmps34 ?_;refine Z_7 ?_;refine fo (ls (zs:=jQ (List.replicate 256 false)) Zrf Zk) rfl ?_;rintro _ _ ⟨b3,rfl,rfl⟩;rw[<-N6];refine gq ?_;refine wLo (λk:Nat=>[(3,.p b3),(8,.slice A L.length c),(9,.i L.length),(10,.i (k:Int))]) (λk=>[row b3 (jQ (mV ((L.take k).flatMap ISl.l))) 122]) (λk=>k<=L.length/\xJ ((L.take k).flatMap ISl.l)) (λk=>L.length - k) (0) ⟨ap _,by simp[xJ]⟩ ?_;rintro k ⟨hk,hf⟩;have hL2:=hL;refine Zw6 ?_ ?_<;>intro hc3
 .simp only[ac]at hc3;obtain⟨ad,rfl⟩:=h.some_ Wq1;obtain⟨x,hx⟩:∃x,L[k]? =some x:=⟨_,ae (show k<L.length by omega)⟩;have hr:=hL x (ak hx);have htk:(L.take (k+1)).flatMap ISl.l=(L.take k).flatMap ISl.l++x.l:=(by rw[bE,hx];simp);have hall:L.flatMap ISl.l=(L.take k).flatMap ISl.l++(x.l++(L.drop (k+1)).flatMap ISl.l):=(by conv=>lhs;rw[<-List.take_append_drop (k+1) L,List.flatMap_append,htk,aq]);obtain⟨pre,hpre⟩:=Zgn ((L.take k).flatMap ISl.l);rw[hpre]at hf htk hall;have hm2:=hr.max;have hc2:=hr.cap;unfold maxLen at hm2;rw[hpre];refine Z_6 ?_;refine Ex ?_;refine dQ (bM Zrf Zv0) (dJ h (isl_at hx)) rfl (Z_5 ?_);have e0:pre=pre++x.l.take 0:=cP;rw[e0];refine Z_6 ?_;refine wLo (λj:Nat=>[(3,.p b3),(8,.slice (some ad) L.length c),(9,.i L.length),(10,.i (k:Int)),(14,x.v),(15,.i x.l.length),(16,.i (j:Int))]) (λj=>[row b3 (jQ (mV (pre++x.l.take j))) 122]) (λj=>j<=x.l.length/\xJ (pre++x.l.take j)) (λj=>x.l.length - j) (0) ⟨ap _,by simpa using hf⟩ ?_;rintro j ⟨hj,hfj⟩;refine Zw6 ?_ ?_<;>intro hc6
  .simp only[ac]at hc6;obtain⟨ad2,had2⟩:=hr.some_ Wq1;have hxv:x.v= .slice (some ad2) x.l.length x.c:=(by unfold ISl.v;rw[had2]);have hr3:Rd w .i64 (some ad2) x.l.length x.c x.l:=(by unfold ISl.rd at hr;rwa[had2]at hr);obtain⟨f,hf2⟩:∃f,x.l[j]? =some f:=⟨_,ae (show j<x.l.length by omega)⟩;rw[hxv];have hsp:x.l=x.l.take j++f::x.l.drop (j+1):=(by have:=ar.1 hf2;obtain⟨q1,q2⟩:=this;rw[<-q2,<-List.drop_eq_getElem_cons q1,List.take_append_drop]);have hno:(¬(16<=f/\f<256)\/f∈pre++x.l.take j)->¬xJ (L.flatMap ISl.l):=(λh=>by rw[hall];have e1:pre++(x.l++(L.drop (k+1)).flatMap ISl.l)=(pre++x.l.take j)++f::(x.l.drop (j+1)++(L.drop (k+1)).flatMap ISl.l):=(by rw[aq,<-aP,<-aq (x.l.take j),<-hsp]);rw[e1];exact Ge h);have htj:pre++x.l.take (j+1)=(pre++x.l.take j)++[f]:=(by rw[bE,hf2];simp);refine Z_6 ?_;refine EK ?_;refine dQ (bM Zrf Zv0) (dJ hr3 (cK hf2)) rfl (jl ?_);obtain⟨fn,hfn,hfe⟩:∃fn:Nat,fn<256/\((decide (f<16)||decide (256<=f))=false->f=fn/\16<=fn):=(by by_cases hr:16<=f/\f<256;exact⟨f.toNat,by omega,λ_=>by omega⟩;exact⟨0,by omega,λh=>by simp at h;omega⟩);refine Zyn rfl rfl (dz (j:=fn) (sz:=1) (r:=fn) rfl Zrf (Zv rfl) (cA rfl) (λhg=>(hfe (by simpa using hg)).1) (λ_=>hfn) Wq1) ?_;refine gQ (bQ rfl rfl) (bM Zrf (cA rfl)) (cB Zh (xf hfn)) rfl (Zw3 ?_ ?_)<;>intro hc8
   .have hbad:¬xJ (L.flatMap ISl.l):=hno (by cases hA:(decide (f<16)||decide (256<=f))with|true=>(simp at hA;exact Or.inl Wq1)|false=>(rw[hA]at hc8;have e:=(hfe hA).1;simp at hc8;exact Or.inr (by rw[e];simpa using hc8)));refine rc ?_;refine Zra ?_;exact⟨⟨false,rfl,⟨λh=>(by cases h),λh=>absurd h hbad⟩⟩,rfl⟩
   have hA:(decide (f<16)||decide (256<=f))=false:=(by cases hA:(decide (f<16)||decide (256<=f))with|true=>(rw[hA]at hc8;cases hc8)|false=>rfl);obtain⟨rfl,h16⟩:=hfe hA;have hnot:(fn:Int)∉pre++x.l.take j:=(by rw[hA]at hc8;simpa using hc8);refine Z_4 ?_;refine Zy (dz (j:=fn) (sz:=1) (r:=fn) rfl Zrf (Zv rfl) (Zv rfl) Wq2 Wq2 Wq1) ?_;refine eT (ij Zrf rfl rfl rfl Za (by rw[kO,qE];omega)) ?_;rintro _ _ ⟨rfl,rfl⟩;rw[xd hfn,<-htj];refine jS ?_;refine qMM (j+1) ⟨⟨by omega,by rw[htj];exact O8 hfj ⟨by omega,by omega⟩ hnot⟩,by omega⟩
  simp only[aa]at hc6;obtain rfl:j=x.l.length:=by omega
  refine Z_7 ?_;rw[bC]at hfj|-;rw[<-htk]at hfj|-;refine Wq6 ?_;refine qMM (k+1) ⟨⟨by omega,hfj⟩,by omega⟩
 simp only[aa]at hc3;obtain rfl:k=L.length:=by omega
 refine oo ?_;rw[bC]at hf;exact⟨⟨true,rfl,⟨λ_=>hf,λ_=>rfl⟩⟩,rfl⟩
theorem Oq(s t:St)(Ad Ar Bd Br:Oa)(cd cr ed er:Nat)(w:World)(h:rj w s Ad Ar cd cr)(h2:rj w t Bd Br ed er):
  CW prog 51 [sv s Ad cd Ar cr,sv t Bd ed Br er] w (.bool (s.rsame t)):=by
 have HS:=RN s t Ad Ar Bd Br cd cr ed er;refine Zfs func51 ntmps51 ?_;refine Z_2 ?_;refine ZO λb2=>?_;refine ZO λb3=>?_
 refine Z_7 ?_;exact dE fE (.cons Zv0 (.cons Zv0 .nil)) (λ_ _=>rfl) (λhg w hi=>HS w (h.Wh hi) (h2.Wh hi)) rfl o7
theorem SO(a b:Vw)(Y Z:VAd)(ha:a.wf)(hb:b.wf)(w:World)(h:oV w a Y)(h2:oV w b Z):
  Ctr prog 27 [vv a Y,vv b Z] w [] (λv cs=>(∃r,v= .bool r/\(r=true<->a=b))/\cs=[]):=by
 refine Zfs func27 ntmps27 ?_;refine Z_2 ?_;refine ZO λb2=>?_;refine ZO λb3=>?_
 refine Z_6 ?_;refine dQ (bW (vs:=a.s.cells (.slice Y.X.Ad a.s.d.length Y.X.cd) (.slice Y.X.Ar a.s.r.length Y.X.cr)) Zrf Zrf Zv0) (cX (o:=0) Zh rfl) rfl (Z_1 ?_);refine dQ (bW (vs:=b.s.cells (.slice Z.X.Ad b.s.d.length Z.X.cd) (.slice Z.X.Ar b.s.r.length Z.X.cr)) Zrf Zrf Zv0) (cX (o:=0) Zh rfl) rfl (ZSe (λw hi=>Oq a.s b.s Y.X.Ad Y.X.Ar Z.X.Ad Z.X.Ar Y.X.cd Y.X.cr Z.X.cd Z.X.cr w (h.s.Wh hi) (h2.s.Wh hi)) ?_);refine Z_3 ?_;refine dU (λw hi=>iP (h.m.Wh hi)) (λhrd13=>?_);refine gQ (bS rfl rfl) (iL rfl rfl rfl (cA rfl) hrd13) (λw hi=>RdV.Wy (h.m.Wh hi)) rfl (Z_2 ?_);refine dU (λw hi=>iP (h2.m.Wh hi)) (λhrd16=>?_);refine gQ (bS rfl rfl) (iL rfl rfl rfl (cA rfl) hrd16) (λw hi=>RdV.Wy (h2.m.Wh hi)) rfl (Zyy rfl rfl (sM rfl (cA rfl) (cA rfl) (qk ha.m hb.m)) ?_);refine Z_4 ?_;refine dU (λw hi=>iP (h.o.Wh hi)) (λhrd22=>?_);refine gQ (bS rfl rfl) (iL rfl rfl rfl (cA rfl) hrd22) (λw hi=>RdV.Wy (h.o.Wh hi)) rfl (Z_2 ?_);refine dU (λw hi=>iP (h2.o.Wh hi)) (λhrd25=>?_);refine gQ (bS rfl rfl) (iL rfl rfl rfl (cA rfl) hrd25) (λw hi=>RdV.Wy (h2.o.Wh hi)) rfl (Zyy rfl rfl (sM rfl (cA rfl) (cA rfl) (qk ha.o hb.o)) ?_);refine Z_4 ?_;refine dU (λw hi=>iP (h.i.Wh hi)) (λhrd31=>?_);refine gQ (bS rfl rfl) (iL rfl rfl rfl (cA rfl) hrd31) (λw hi=>RdV.Wy (h.i.Wh hi)) rfl (Z_2 ?_);refine dU (λw hi=>iP (h2.i.Wh hi)) (λhrd34=>?_);refine gQ (bS rfl rfl) (iL rfl rfl rfl (cA rfl) hrd34) (λw hi=>RdV.Wy (h2.i.Wh hi)) rfl (Zyy rfl rfl (sM rfl (cA rfl) (cA rfl) (qk ha.i hb.i)) ?_);refine Z_2 ?_;refine ZFb 19 ?_;refine ZD ?_;refine dU (λw hi=>iP (h.k.Wh hi)) (λhrd40=>?_);refine gQ (bS rfl rfl) (iL rfl rfl rfl (cA rfl) hrd40) (λw hi=>RdV.Wy (h.k.Wh hi)) rfl (ZFb 19 ?_);refine ZD ?_;refine dU (λw hi=>iP (h2.k.Wh hi)) (λhrd43=>?_);refine gQ (bS rfl rfl) (iL rfl rfl rfl (cA rfl) hrd43) (λw hi=>RdV.Wy (h2.k.Wh hi)) rfl (Zyy rfl rfl (sM rfl (cA rfl) (cA rfl) (qk ha.k hb.k)) ?_);refine Z_2 ?_;refine ZFb 20 ?_;refine ZD ?_;refine ZFb 20 ?_;refine Z_4 ?_;refine ZFb 21 ?_;refine ZD ?_;refine ZFb 21 ?_;refine Z_4 ?_;refine ZFb 22 ?_;refine ZD ?_;refine ZFb 22 ?_;refine sE ?_;refine⟨⟨_,rfl,?_⟩,rfl⟩;simp only[au,beq_iff_eq,St.Xy];constructor
 .rintro⟨⟨⟨⟨⟨⟨⟨q1,q2⟩,q3⟩,q4⟩,q5⟩,q6⟩,q7⟩,q8⟩;cases a;cases b;simp_all
 rintro rfl;simp
theorem qL(n:Nat)(hn:n<=4611686018427387904)(w:World):CW prog 75 [.i n] w (.i (((n+63)/64:Nat):Int)):=by
 refine Zfs func75 ntmps75 ?_;refine Z_8 ?_;refine rh ?_;refine pd ?_;refine Zy (mh (Zv rfl) (Zv rfl) Wq1 (show _=(((n+63)/64:Nat):Int)from by rw[IntWalk.i64_quo _ _ ⟨by omega,by omega,by omega⟩];omega)) ?_;exact o7
theorem Jb(tr:Bool)(w:World):CW prog 30 [.bool tr,.slice none 0 0] w (.tuple #[.pointer none,.i 1]):=by
 refine Zfs func30 ntmps30 ?_;refine Gv ?_;refine pX ?_;refine Z_8 ?_;exact lc
theorem Q4(w:World):CW prog 29 [.slice none 0 0,.slice none 0 0] w (.tuple #[.i 0,.bool true]):=by
 refine Zfs func29 ntmps29 ?_;refine Z_9 ?_;refine ZSe (λw hi=>Jb true w) ?_;refine fH ?_;refine ZSe (λw hi=>Jb false w) ?_;refine EU ?_;refine pX ?_;refine gq ?_;exact lc
theorem CJ(w:World):CW prog 31 [.pointer none] w (.bool false):=by
 refine Zfs func31 ntmps31 ?_;refine fb ?_;refine pX ?_;exact Ez
theorem Tn{l:Li}(h1:l.all (λf=>decide (16<=f)&&decide (f<256))=true)(h2:l.Nodup):xJ l:=⟨λf hf=>by simpa using aQ.1 h1 f hf,h2⟩
theorem IG{l:Li}(h1:l.all (λf=>decide (16<=f)&&decide (f<256))=false\/¬l.Nodup):¬xJ l:=λ⟨h3,h4⟩=>by
 rcases h1 with h1|h1
 .have:l.all (λf=>decide (16<=f)&&decide (f<256))=true:=aQ.2 λf hf=>by simpa using h3 f hf
  rw[this]at h1;cases h1
 exact h1 h4
theorem oO(w:World):CW prog 32 [] w (.bool true):=by
 refine Zfs func32 ntmps32 ?_;refine Z_7 ?_;refine ZSe (λw hi=>Q4 w) ?_;refine Z_9 ?_;refine jD ?_;rintro _ _ ⟨b7,rfl,rfl⟩;refine jD ?_;rintro _ _ ⟨b8,rfl,rfl⟩;refine jD ?_;rintro _ _ ⟨b9,rfl,rfl⟩;refine ZSn (λw hi=>ku (sA b9) 2 [⟨some ⟨b7,0,none⟩,2,[16,17]⟩,⟨some ⟨b8,0,none⟩,1,[18]⟩] w (hi.rd Zh) (λx hx=>by simp only[aJ,aY,or_false]at hx;rcases hx with rfl|rfl;exact(hi.rd (Zhc (slv 3 1 (sA b7) 2 2 [.i 16,.i 17])));exact(hi.rd (Zhc (slv 3 1 (sA b8) 1 1 [.i 18]))))) ?_;rintro _ _ ⟨⟨r,rfl,hr⟩,rfl⟩;obtain rfl:r=true:=hr.2 (Tn rfl (show([16,17,18]:Li).Nodup by decide));refine ZA ?_;refine Qx ?_;rintro _ _ ⟨b12,rfl,rfl⟩;refine Qx ?_;rintro _ _ ⟨b13,rfl,rfl⟩;refine fF (bS rfl rfl) rfl (dh rfl (λ_ _=>rfl) (λw hi=>ku (sA b13) 1 [⟨some ⟨b12,0,none⟩,1,[3]⟩] w (hi.rd Zh) (λx hx=>by rw[aC.1 hx];exact(hi.rd (Zhc (slv 3 1 (sA b12) 1 1 [.i 3])))))) rfl ?_;rintro _ _ ⟨_,⟨⟨r2,rfl,hr2⟩,rfl⟩,rfl⟩;obtain rfl:r2=false:=(by cases r2 with|false=>rfl|true=>exact absurd (hr2.1 rfl) (IG (Or.inl rfl)));refine Z_3 ?_;refine Qx ?_;rintro _ _ ⟨b18,rfl,rfl⟩;refine Qx ?_;rintro _ _ ⟨b19,rfl,rfl⟩;refine Qx ?_;rintro _ _ ⟨b20,rfl,rfl⟩;refine fF (bS rfl rfl) rfl (dh rfl (λ_ _=>rfl) (λw hi=>ku (sA b20) 2 [⟨some ⟨b18,0,none⟩,1,[16]⟩,⟨some ⟨b19,0,none⟩,1,[16]⟩] w (hi.rd Zh) (λx hx=>by simp only[aJ,aY,or_false]at hx;rcases hx with rfl|rfl;exact(hi.rd (Zhc (slv 3 1 (sA b18) 1 1 [.i 16])));exact(hi.rd (Zhc (slv 3 1 (sA b19) 1 1 [.i 16])))))) rfl ?_;rintro _ _ ⟨_,⟨⟨r3,rfl,hr3⟩,rfl⟩,rfl⟩;obtain rfl:r3=false:=(by cases r3 with|false=>rfl|true=>exact absurd (hr3.1 rfl) (IG (Or.inr (show¬([16,16]:Li).Nodup by decide))));refine fH ?_;refine fF (bS rfl rfl) rfl (dh rfl (λ_ _=>rfl) (λw hi=>CJ w)) rfl ?_;rintro _ _ ⟨_,⟨rfl,rfl⟩,rfl⟩;refine Z_6 ?_;exact ru
end
section
variable {C:Cx} {fr:Fr} {d:Option Nat} {T:TypeId} {x:Operand} {ty:TypeId} {pos:String} {af:Array Edge} {gd:Option (Nat×Bool)} {g:Bool}
theorem QS{i:Nat}{fs:Array Field}{f:Field}{vs:List Value}{v:Value}(hT:C.P.underlying T=some (.struct fs))(hf:fs[i]? =some f)(he:∀w,(isAgg f.type).run C.P w= .ok false w)(hx:Ev fr g x (.agg vs.toArray))(hv:vs[f.offset]? =some v):
  OpY C ⟨d,.field T x i,ty,pos,af,gd⟩ fr g Any v:=λa w hfr _ hg=>by
 have h1:=hx.eval hfr hg;have hr:(Instr.field T (.agg vs.toArray) i).run C.P w= .ok v w:=by
  simp[Instr.field,run_underlying hT,hf,asAgg,part,he,hv]
 simp[execOp,h1,hr]
end
structure ot(L:eB)(k:EM):Prop where
 pl:du k.B k.ow k.pr
 fr:k.fr.length=L.n
 gd:k.gd.length=L.n
 Wt:∀p,p<L.n->k.fr[p]? =some (-1)\/∃f:Nat,k.fr[p]? =some (f:Int)/\16<=f/\f<256/\k.ow[f]? =some (L.o:Int)
 inj:∀p q f:Nat,k.fr[p]? =some (f:Int)->k.fr[q]? =some (f:Int)->p=q
 held:∀f:Nat,f<256->(L.oth f=false/\k.ow[f]? =some (-1))\/(L.oth f=false/\k.ow[f]? =some (L.o:Int)/\∃p:Nat,k.fr[p]? =some (f:Int))\/(L.oth f=true/\k.ow[f]? =L.gw[f]? /\∀j,j<64->k.B[f*64+j]? =L.gB[f*64+j]?)
 prs:k.pr=L.gp
section
variable {L:eB} {M:Mem} {k:EM}
theorem ef.tab(h:ef L M k):ot L k:=⟨h.pl,h.fr,h.gd,λp hp=>by
 rcases h.Wt p hp with h1|⟨f,h1,h2,h3,h4, -⟩
 ·grind
 grind,h.inj,h.held,h.prs⟩
theorem ot.unmap(h:ot L k){p f:Nat}(hf:k.fr[p]? =some (f:Int)):(16<=f/\f<256/\k.ow[f]? =some (L.o:Int))/\ot L {k with ow:=k.ow.set f (-1),fr:=k.fr.set p (-1),gd:=k.gd.set p false}:=by
 have hpl:p<L.n:=by have:=(ar.1 hf).1;rw[h.fr]at this;exact this
 have hr:16<=f/\f<256/\k.ow[f]? =some (L.o:Int):=by
  rcases h.Wt p hpl with h1|⟨g,h1,h2⟩
  .grind
  grind
 obtain⟨h16,h256,how⟩:=hr;have hwl:=h.pl.ow;have hfl:=h.fr;refine⟨⟨h16,h256,how⟩,⟨h.pl.b,by grind,h.pl.pr⟩,by grind,by simp[h.gd],λq hq=>?_,λa b g ha hb=>?_,λg hg=>?_,h.prs⟩
 .show(k.fr.set p (-1))[q]? =some (-1)\/∃g:Nat,(k.fr.set p (-1))[q]? =some (g:Int)/\16<=g/\g<256/\(k.ow.set f (-1))[g]? =some (L.o:Int);by_cases hqp:q=p
  .grind
  rw[List.getElem?_set_ne Wq1];rcases h.Wt q hq with h1|⟨g,h1,h2,h3,h4⟩
  .grind
  have hgf:f≠g:=by rintro rfl;exact hqp (h.inj q p f h1 hf)
  grind
 .change (k.fr.set p (-1))[a]? =_ at ha
  change (k.fr.set p (-1))[b]? =_ at hb
  have no:∀c:Nat,(k.fr.set p (-1))[c]? =some (g:Int)->p≠c:=by
   rintro c hc rfl;rw[List.getElem?_set_self Wq1]at hc;have:=ay hc;omega
  rw[List.getElem?_set_ne (no a ha)]at ha;rw[List.getElem?_set_ne (no b hb)]at hb;exact h.inj a b g ha hb
 show(_/\(k.ow.set f (-1))[g]? =some (-1))\/(_/\(k.ow.set f (-1))[g]? =some (L.o:Int)/\∃q:Nat,(k.fr.set p (-1))[q]? =some (g:Int))\/(_/\(k.ow.set f (-1))[g]? =_/\_);by_cases hgf:f=g
 .subst hgf;left;refine⟨?_,by grind⟩;rcases h.held f hg with h1|h1|⟨h1,h2, -⟩
  .exact h1.1
  .exact h1.1
  grind [eB.oth]
 rw[List.getElem?_set_ne hgf];rcases h.held g hg with h1|⟨h1,h2,q,hq⟩|h1
 .grind
 .refine .inr (.inl ⟨h1,h2,q,?_⟩)
  grind
 grind
theorem ot.none(h:ot L k)(hall:∀p:Nat,p<L.n->k.fr[p]? =some (-1))(hl:L.gw.length=256)(hno:∀x,x∈L.gw->x≠(L.o:Int)):k.ow=L.gw/\∀f,f<256->L.oth f=true->∀j,j<64->k.B[f*64+j]? =L.gB[f*64+j]? :=by
 have hfr:∀(p f:Nat),k.fr[p]? ≠some (f:Int):=λp f hp=>by
  have hpl:=(ar.1 hp).1
  simp_all [h.fr]
 refine⟨List.ext_getElem? λf=>?_,λf hf ho=>?_⟩
 .by_cases hf:f<256
  .rcases h.held f hf with⟨h1,h2⟩|⟨-, -,q,hq⟩|⟨-,h2, -⟩
   .grind [eB.oth]
   .grind
   exact h2
  grind [h.pl.ow]
 rcases h.held f hf with⟨h1, -⟩|⟨h1, -⟩|⟨-, -,h3⟩
 .grind
 .grind
 exact h3
end
def ES(fr:Li)(k:Nat):List Nat:=(List.range k).filter (λp=> !(fr[p]? ==some (-1)))
def iI(fr:Li)(k:Nat):List Int:=(ES fr k).map λp:Nat=>(p:Int)
theorem Kz(fr:Li)(k:Nat):iI fr (k+1)=iI fr k++(bif fr[k]? ==some (-1)then[]else[(k:Int)]):=by
 grind [iI,ES,List.range_succ]
theorem Ie(fr:Li)(k:Nat):(iI fr k).length<=k:=by
 grind [iI,ES]
theorem KA(fr:Li)(k:Nat):(ES fr k).Nodup:=List.filter_sublist.nodup List.nodup_range
theorem If{fr:Li}{k p:Nat}:p∈ES fr k<->p<k/\fr[p]? ≠some (-1):=by
 grind [ES]
variable{ow:Li}{o:Int}
theorem mF(h:∀x,x∈ow->x≠o)(k:Nat):cQ ow o k=[]:=by
 grind [cQ,List.map_eq_nil_iff,List.filter_eq_nil_iff,List.mem_of_getElem?]
structure ln(L:eB)(k0 k:EM)(j:Nat):Prop where
 rep:ot L k
 fr:∀p:Nat,k.fr[p]? =if p∈(ES k0.fr L.n).take j then some (-1)else k0.fr[p]?
variable{L:eB}{k:EM}
theorem ln.none(h:ot L k):ln L k k 0:=⟨h,λp=>by simp⟩
theorem ln.at_{k0:EM}{j p:Nat}(h:ln L k0 k j)(h0:ot L k0)(hp:(ES k0.fr L.n)[j]? =some p):p<L.n/\∃f:Nat,k.fr[p]? =some (f:Int)/\16<=f/\f<256/\k.ow[f]? =some (L.o:Int)/\ln L k0 {k with ow:=k.ow.set f (-1),fr:=k.fr.set p (-1),gd:=k.gd.set p false} (j+1):=by
 have hm:=If.1 (ak hp);have hjl:=(ar.1 hp).1;have hnt:p∉(ES k0.fr L.n).take j:=λhc=>by
  grind [KA,List.mem_iff_getElem?,List.getElem?_eq_some_iff,List.getElem_inj]
 have e:=h.fr p;rw[if_neg hnt]at e;rcases h0.Wt p hm.1 with h1|⟨f,h1, -⟩
 .grind
 rw[h1]at e;obtain⟨⟨a1,a2,a3⟩,hu⟩:=h.rep.unmap e;refine⟨hm.1,f,e,a1,a2,a3,hu,λq=>?_⟩;show(k.fr.set p (-1))[q]? =_;rw[bE,hp];by_cases hqp:p=q
 .grind
 rw[List.getElem?_set_ne hqp,h.fr q]
 grind
theorem ln.all{k0:EM}(h:ln L k0 k (ES k0.fr L.n).length)(h0:ot L k0):∀p:Nat,p<L.n->k.fr[p]? =some (-1):=λp hp=>by
 have e:=h.fr p
 grind [If]
def mH(ow:Li)(k:Nat):Nat:=((List.range' 16 (k - 16)).filter (λf=>ow[f]? ==some (-1))).length
theorem KS(ow:Li){k:Nat}(h:16<=k):mH ow (k+1)=mH ow k+(bif ow[k]? ==some (-1)then 1 else 0):=by
 unfold mH;rw[show k+1 - 16=(k - 16)+1 by omega,List.range'_concat,List.filter_append,aj,show 16+1*(k - 16)=k by omega]
 grind
theorem Tl(ow:Li)(k:Nat):mH ow k<=k:=by
 grind [mH]
structure pU where
 B:List Int
 ow:List Int
 pr:List Int
def eB.on(L:eB)(P:pU):eB:={L with gw:=P.ow.map (λx=>if x=(L.o:Int)then -1 else x),gB:=P.B,gp:=P.pr}
structure mc(P:pU):Prop where
 len:du P.B P.ow P.pr
 own:∀f:Nat,f<256->P.ow[f]? =some (-1)\/∃o:Nat,o<4/\P.ow[f]? =some (o:Int)
 few:∀(o:Nat) (p:Int),P.pr[o]? =some p->((cQ P.ow o 256).length:Int)<=(if 0>p then 0 else p)
 sum:fX P.pr 4<=240
abbrev sJ(L:eB)(P:pU)(M:Mem)(fr:Li)(gd:List Bool):Prop:=ef (L.on P) M ⟨P.B,P.ow,P.pr,fr,gd⟩
variable{P:pU}{f:Nat}
theorem on_gw:(L.on P).gw[f]? =(P.ow[f]?).map (λx=>if x=(L.o:Int)then -1 else x):=by
 show(P.ow.map _)[f]? =_
 grind
theorem lh:(L.on P).oth f=true<->∃x,P.ow[f]? =some x/\x≠ -1/\x≠(L.o:Int):=by
 unfold eB.oth;rw[on_gw];rcases h:P.ow[f]? with _|x
 .simp
 show(((if x=(L.o:Int)then(-1:Int)else x) != -1)&&((if x=(L.o:Int)then(-1:Int)else x) !=(L.o:Int)))=true<->_
 grind
theorem vY(h:(L.on P).oth f=true):(L.on P).gw[f]? =P.ow[f]? :=by
 grind [lh,on_gw]
theorem FB:∀x,x∈(L.on P).gw->x≠(L.o:Int):=λx hx=>by
 obtain⟨y, -,rfl⟩:=aZ.1 hx;omega
variable{α:Type}
theorem Gm(p q0 q1 q2 q3:α->Bool):∀l:List α,(∀x,x∈l->p x=true->q0 x=true\/q1 x=true\/q2 x=true\/q3 x=true)->(l.filter p).length<=(l.filter q0).length+(l.filter q1).length+(l.filter q2).length+(l.filter q3).length
 :=by intro y1;induction y1<;>grind
theorem Gg(p:α->Bool):∀l:List α,(l.filter p).length+(l.filter (λx=> !p x)).length=l.length
 :=by intro y1;induction y1<;>grind
theorem rE(a b c d:Int):fX [a,b,c,d] 4=(if 0>a then 0 else a)+(if 0>b then 0 else b)+(if 0>c then 0 else c)+(if 0>d then 0 else d):=by
 show((((0:Int)+_)+_)+_)+_=_;omega
theorem mc.cap(h:mc P){L:eB}(ho:L.o<4)(hp:P.pr[L.o]? =some (L.n:Int)):L.n<=((List.range' 16 240).filter (λf=> !(L.on P).oth f)).length:=by
 have hsub:List.Sublist (List.range' 16 240) (List.range 256):=by decide+kernel
 have hq:∀(o:Nat) (b:Bool),(b=true->o≠L.o)->((List.range' 16 240).filter (λf=>(P.ow[f]? ==some (o:Int))&&b)).length<=(bif b then(cQ P.ow o 256).length else 0):=λo b hb=>by
  cases b with
  |false=>simp
  |true=>
   grind [cQ]
 have hlen:=h.len.pr;obtain⟨a0,a1,a2,a3,hpr⟩:∃a b c d,P.pr=[a,b,c,d]:=by
  match hh:P.pr,hlen with
  |[a,b,c,d],_=>grind
 have hs:=h.sum;rw[hpr,rE]at hs;have f0:=h.few 0 a0 bY;have f1:=h.few 1 a1 bY;have f2:=h.few 2 a2 bY;have f3:=h.few 3 a3 bY;have hc:=Gm (λf=>(L.on P).oth f) (λf=>(P.ow[f]? ==some ((0:Nat):Int))&&(L.o !=0)) (λf=>(P.ow[f]? ==some ((1:Nat):Int))&&(L.o !=1)) (λf=>(P.ow[f]? ==some ((2:Nat):Int))&&(L.o !=2)) (λf=>(P.ow[f]? ==some ((3:Nat):Int))&&(L.o !=3)) (List.range' 16 240) (λf hf ht=>by
  rw[List.mem_range'_1]at hf;obtain⟨x,h1,h2,h3⟩:=lh.1 ht;rcases h.own f (by omega)with h4|⟨o,h4,h5⟩
  ·grind
  rw[h1]at h5;obtain rfl:=ay h5;have hne:o≠L.o:=λe=>h3 (by rw[e])
  rw[h1];obtain rfl|rfl|rfl|rfl:o=0\/o=1\/o=2\/o=3:=by omega
  ·grind
  ·grind
  ·grind
  grind)
 have g0:=hq 0 (L.o !=0) (λe=>by grind);have g1:=hq 1 (L.o !=1) (λe=>by grind);have g2:=hq 2 (L.o !=2) (λe=>by grind);have g3:=hq 3 (L.o !=3) (λe=>by grind);have hpt:=Gg (λf=>(L.on P).oth f) (List.range' 16 240);rw[List.length_range']at hpt;rw[hpr]at hp;obtain e|e|e|e:L.o=0\/L.o=1\/L.o=2\/L.o=3:=by omega
 .rw[e]at hp g0 g1 g2 g3;obtain rfl:a0=(L.n:Int):=ay hp;simp only[bj,ah,show((0:Nat) !=1)=true from rfl,show((0:Nat) !=2)=true from rfl,show((0:Nat) !=3)=true from rfl,ai]at g0 g1 g2 g3;rw[e]at hc;simp only[bj,show((0:Nat) !=1)=true from rfl,show((0:Nat) !=2)=true from rfl,show((0:Nat) !=3)=true from rfl]at hc;omega
 .rw[e]at hp g0 g1 g2 g3;obtain rfl:a1=(L.n:Int):=ay hp;simp only[bj,ah,show((1:Nat) !=0)=true from rfl,show((1:Nat) !=2)=true from rfl,show((1:Nat) !=3)=true from rfl,ai]at g0 g1 g2 g3;rw[e]at hc;simp only[bj,show((1:Nat) !=0)=true from rfl,show((1:Nat) !=2)=true from rfl,show((1:Nat) !=3)=true from rfl]at hc;omega
 .rw[e]at hp g0 g1 g2 g3;obtain rfl:a2=(L.n:Int):=ay hp;simp only[bj,ah,show((2:Nat) !=0)=true from rfl,show((2:Nat) !=1)=true from rfl,show((2:Nat) !=3)=true from rfl,ai]at g0 g1 g2 g3;rw[e]at hc;simp only[bj,show((2:Nat) !=0)=true from rfl,show((2:Nat) !=1)=true from rfl,show((2:Nat) !=3)=true from rfl]at hc;omega
 rw[e]at hp g0 g1 g2 g3;obtain rfl:a3=(L.n:Int):=ay hp;simp only[bj,ah,show((3:Nat) !=0)=true from rfl,show((3:Nat) !=1)=true from rfl,show((3:Nat) !=2)=true from rfl,ai]at g0 g1 g2 g3;rw[e]at hc;simp only[bj,show((3:Nat) !=0)=true from rfl,show((3:Nat) !=1)=true from rfl,show((3:Nat) !=2)=true from rfl]at hc;omega
theorem DH{ow':Li}(h:∀f:Nat,f<256->(ow'[f]? =some o<->ow[f]? =some o)):cQ ow' o 256=cQ ow o 256:=by
 grind [cQ,List.filter_congr]
section
variable {P P':pU} {L Lj:eB} {M M' Mj:Mem} {fr frj:Li} {gd gdj:List Bool} {k:EM}
structure xF(L:eB)(P P':pU):Prop where
 len:du P'.B P'.ow P'.pr
 o4:L.o<4
 at_:∀f:Nat,f<256->((L.on P).oth f=false/\(P'.ow[f]? =some (-1)\/P'.ow[f]? =some (L.o:Int)))\/((L.on P).oth f=true/\P'.ow[f]? =P.ow[f]? /\∀j,j<64->P'.B[f*64+j]? =P.B[f*64+j]?)
 pr:∀o:Nat,o≠L.o->P'.pr[o]? =P.pr[o]?
 few:∀p:Int,P'.pr[L.o]? =some p->((cQ P'.ow L.o 256).length:Int)<=(if 0>p then 0 else p)
 sum:fX P'.pr 4<=240
theorem xF.oth(h:xF L P P'){f:Nat}(hf:f<256){x:Int}(h1:x≠ -1)(h2:x≠(L.o:Int)):P'.ow[f]? =some x<->P.ow[f]? =some x:=by
 rcases h.at_ f hf with⟨e0,e1|e1⟩|⟨-,e1, -⟩
 .grind [lh]
 .grind [lh]
 rw[e1]
theorem xF.byte(h:xF L P P'){f:Nat}(hf:f<256){x:Int}(h1:x≠ -1)(h2:x≠(L.o:Int))(h3:P.ow[f]? =some x):∀j,j<64->P'.B[f*64+j]? =P.B[f*64+j]? :=by
 rcases h.at_ f hf with⟨e0, -⟩|⟨-, -,e1⟩
 .grind [lh]
 exact e1
theorem mc.turn(hP:mc P)(h:xF L P P'):mc P':=by
 refine⟨h.len,λf hf=>?_,λo p hp=>?_,h.sum⟩
 .rcases h.at_ f hf with⟨-,e1|e1⟩|⟨-,e1, -⟩
  .grind
  .grind [h.o4]
  rw[e1];exact hP.own f hf
 by_cases e:o=L.o
 .subst e;exact h.few p hp
 rw[DH (λf hf=>h.oth hf (x:=(o:Int)) Wq1 Wq1)];exact hP.few o p (by rw[<-h.pr o e];exact hp)
theorem sJ.other(hP:mc P)(h:xF L P P')(hj:sJ Lj P Mj frj gdj)(hne:Lj.o≠L.o):sJ Lj P' Mj frj gdj:=by
 have hpj:P'.pr[Lj.o]? =some (Lj.n:Int):=by rw[h.pr _ hne];exact hj.prom
 refine⟨h.len,hj.o4,hj.n1,hj.n64,hj.fr,hj.gd,hj.dl,hj.tl,hj.db,λp hp=>?_,hj.inj,λf hf=>?_,hpj,rfl,(hP.turn h).cap (L:=Lj) hj.o4 hpj⟩
 .rcases hj.Wt p hp with e|⟨f,e1,e2,e3,e4,e5⟩
  .exact .inl e
  change P.ow[f]? =some (Lj.o:Int)at e4
  refine .inr ⟨f,e1,e2,e3,(h.oth e3 (x:=(Lj.o:Int)) Wq1 Wq1).2 e4,λj hjj=>?_⟩;show P'.B[f*64+j]? =_;rw[h.byte e3 (x:=(Lj.o:Int)) Wq1 Wq1 e4 j hjj]
  grind
 have hx:∃x,P'.ow[f]? =some x:=⟨_,ae (show f<P'.ow.length by rw[h.len.ow];exact hf)⟩;obtain⟨x,hx⟩:=hx;have no:∀y:Int,y= -1\/y=(Lj.o:Int)->x=y->(Lj.on P').oth f=false:=λy hy e=>by
  grind [lh]
 by_cases e1:x= -1
 .grind
 by_cases e2:x=(Lj.o:Int)
 .subst e2;have e3:=(h.oth hf (x:=(Lj.o:Int)) Wq1 Wq1).1 hx;rcases hj.held f hf with⟨-,e4⟩|⟨-, -,e4⟩|⟨e4, -⟩
  .grind
  .exact .inr (.inl ⟨no _ (.inr rfl) rfl,hx,e4⟩)
  grind [lh]
 have e6:(Lj.on P').oth f=true:=lh.2 ⟨x,hx,e1,e2⟩;exact .inr (.inr ⟨e6,(vY e6).symm,λ_ _=>rfl⟩)
theorem ef.turns(h:ef (L.on P) M' k)(hP:mc P):xF L P ⟨k.B,k.ow,k.pr⟩:=by
 have hpr:k.pr=P.pr:=h.prs;refine⟨h.pl,h.o4,λf hf=>?_,λo _=>by grind,λp hp=>?_,by grind [fX,hP.sum]⟩
 .rcases h.held f hf with⟨e0,e1⟩|⟨e0,e1, -⟩|⟨e0,e1,e2⟩
  .grind
  .exact .inl ⟨e0,.inr e1⟩
  exact .inr ⟨e0,by grind [vY],e2⟩
 have h1:=h.XH.1;have h2:=h.prom
 change k.pr[L.o]? =some (L.n:Int)at h2
 change k.pr[L.o]? =some p at hp
 rw[hp]at h2;obtain rfl:=ay h2
 change (cQ k.ow L.o 256).length<=L.n at h1
 grind
theorem sJ.own(hP:mc P)(h:ef (L.on P) M' k):sJ L ⟨k.B,k.ow,k.pr⟩ M' k.fr k.gd:=by
 refine⟨h.pl,h.o4,h.n1,h.n64,h.fr,h.gd,h.dl,h.tl,h.db,h.Wt,h.inj,λf hf=>?_,h.prom,rfl,(hP.turn (h.turns hP)).cap (L:=L) h.o4 h.prom⟩;have e2:∀x:Int,k.ow[f]? =some x->(x= -1\/x=(L.o:Int))->(L.on ⟨k.B,k.ow,k.pr⟩).oth f=false:=λx e hx=>by
  grind [lh]
 rcases h.held f hf with⟨-,e1⟩|⟨-,e1,q,hq⟩|⟨e0,e1, -⟩
 .grind
 .exact .inr (.inl ⟨e2 _ e1 (.inr rfl),e1,q,hq⟩)
 obtain⟨x,e3,e4,e5⟩:=lh.1 e0;have e6:(L.on ⟨k.B,k.ow,k.pr⟩).oth f=true:=lh.2 ⟨x,by grind [vY],e4,e5⟩;exact .inr (.inr ⟨e6,(vY e6).symm,λ_ _=>rfl⟩)
theorem vn{l:Li}(hl:l.length=4){o:Nat}(ho:o<4){p:Int}(hp:l[o]? =some p)(q:Int):fX (l.set o q) 4=fX l 4 - (if 0>p then 0 else p)+(if 0>q then 0 else q):=by
 obtain⟨a,b,c,d,rfl⟩:∃a b c d,l=[a,b,c,d]:=by
  match l,hl with
  |[a,b,c,d],_=>grind
 obtain rfl|rfl|rfl|rfl:o=0\/o=1\/o=2\/o=3:=by omega
 all_goals
  obtain rfl:=ay hp;simp only[List.set_cons_zero,List.set_cons_succ,rE];omega
theorem KG(hP:mc P)(o4:L.o<4){B:Li}(hl:du B (L.on P).gw (P.pr.set L.o (-1)))(hb:∀f,f<256->(L.on P).oth f=true->∀j,j<64->B[f*64+j]? =P.B[f*64+j]?):xF L P ⟨B,(L.on P).gw,P.pr.set L.o (-1)⟩:=by
 refine⟨hl,o4,λf hf=>?_,λo ho=>by grind,λp hp=>?_,?_⟩
 .cases hb2:(L.on P).oth f with
  |true=>grind [vY]
  |false=>
   refine .inl ⟨rfl,.inl ?_⟩;show(L.on P).gw[f]? =_;obtain⟨x,hx⟩:∃x,(L.on P).gw[f]? =some x:=⟨_,ae (show f<(L.on P).gw.length by rw[hl.ow];exact hf)⟩;have hn:=FB (L:=L) (P:=P) _ (ak hx);have h1:(match(L.on P).gw[f]? with|some x=>x != -1&&x !=(L.o:Int)|none=>false)=false:=hb2
   grind
 .grind [cQ,mF,FB]
 show fX (P.pr.set L.o (-1)) 4<=240;have hpl:=hP.len.pr;have e:=vn hpl o4 (ae Wq1) (-1)
 grind [hP.sum]
theorem NJ(hP:mc P)(o4:L.o<4)(hno:P.pr[L.o]? =some (-1))(hs:(L.n:Int)+fX P.pr 4<=240):(∀x,x∈P.ow->x≠(L.o:Int))/\xF L P ⟨P.B,P.ow,P.pr.set L.o L.n⟩:=by
 have hpl:=hP.len.pr;have h0:∀x,x∈P.ow->x≠(L.o:Int):=λx hx e=>by
  have h1:=hP.few L.o (-1) hno;obtain⟨f,hf⟩:=List.mem_iff_getElem?.1 hx;have hf2:=(ar.1 hf).1;rw[hP.len.ow]at hf2;have h2:(f:Int)∈cQ P.ow L.o 256:=by
   unfold cQ;exact aZ.2 ⟨f,List.mem_filter.2 ⟨List.mem_range.2 hf2,by grind⟩,rfl⟩
  grind
 refine⟨h0,⟨hP.len.b,hP.len.ow,by grind⟩,o4,λf hf=>?_,λo ho=>by grind,λp hp=>?_,?_⟩
 .grind [hP.len.ow,lh]
 .grind [cQ,mF]
 show fX (P.pr.set L.o L.n) 4<=240;rw[vn hpl o4 hno];omega
end
theorem ctr_O{P:Program}{f:FuncId}{args:List Value}{w:World}{bs:List Nat}{F:α->List bJ}{hb:∀a,bK (F a)=bs}{p:α->Prop}{K:Value->List bJ->Prop}
  (hi:Inv w (bK [exC bs F hb p]) [exC bs F hb p] w) (h:∀a,p a->Inv w (bK (F a)) (F a) w->Ctr P f args w (F a) K):Ctr P f args w [exC bs F hb p] K:=by
 obtain⟨a,h1,h2⟩:=hi.Xj;have e:bK [exC bs F hb p]=bK (F a):=by rw[eI,zC,aw,hb a];rfl
 rw[aw,e]at h2;refine Calls.mono (h a h1 h2) ?_
 grind
def mW(ow:Li)(fs:Li)(k:Nat):List Int:=(fs.take k).foldl (λa f=>a.set f.toNat (-1)) ow
theorem wG{fs:Li}{k:Nat}{f:Int}(h:fs[k]? =some f):mW ow fs (k+1)=(mW ow fs k).set f.toNat (-1):=by
 grind [mW,List.take_add_one]
theorem KP(ow fs:Li):∀k,(mW ow fs k).length=ow.length
 :=by intro y1;induction y1<;>grind [mW,wG,List.take_add_one,Option.toList_none,List.length_set]
theorem Hz(bp:Nat)(B ow pr:Li)(hl:du B ow pr)(o:Nat)(ho:o<4)(A:Oa)(c:Nat)(fs:Li)(hf:∀(j:Nat) (f:Int),fs[j]? =some f->∃g:Nat,f=(g:Int)/\16<=g/\g<256/\ow[g]? =some (o:Int)/\(fs.take j).contains f=false)(w:World)
  (hi:Inv w (bK [dD bp B ow pr]) [dD bp B ow pr] w) (hrd:∀w',dc (bK [dD bp B ow pr]) w w'->Rd w' .i64 A fs.length c fs):
  Ctr prog 140 [.p bp,.i o,.slice A fs.length c] w [dD bp B ow pr] (λv cs=>v= .i 0/\cs=[dD bp B (mW ow fs fs.length) pr]):=by
 have hrw:=hrd w (dc.refl _ _);have hcap:=hrw.cap;have hmx:=hrw.max;simp only[maxLen]at hmx;have hl':∀k,du B (mW ow fs k) pr:=λk=>⟨hl.b,by rw[KP];exact hl.ow,hl.pr⟩
 refine Zfn func140 ntmps140 hi ?_;refine Z_9 ?_;refine LB ?_;refine iX ?_;refine gq ?_;refine wLo (λk:Nat=>[(0,.p bp),(1,.i o),(2,.slice A fs.length c),(14,.slice A fs.length c),(15,.i (fs.length:Int)),(16,.i (k:Int))]) (λ_=>[dD bp B ow pr]) (λk=>k<=fs.length) (λk=>fs.length - k) (0) Wq1 ?_;rintro k hk;refine Zw6 ?_ ?_<;>intro hc4
 .simp only[ac]at hc4;have hkl:k<fs.length:=Wq1;obtain⟨ad,rfl⟩:=hrw.some_ Wq1;have hx:=ae hkl;obtain⟨x,hxx⟩:=Zgn (fs[k]'hkl);rw[hxx]at hx;obtain⟨g,rfl,h16,h256,how,hcn⟩:=hf k x hx;have hlk:(fs.take k).length=k:=List.length_take_of_le hk;have HC:=pI (some ad) c (fs.take k) g;have hrt:=λw' hk'=>iv (hrd w' hk') k
  rw[hlk]at HC hrt;refine Z_7 ?_;refine Ex ?_;refine dQ (bM Zrf Zv0) (oG hrd (cK hx)) rfl (Z_7 ?_);refine ZSe (λw hi=>IF g w) ?_;rw[aE (show(16:Int)<=g by omega),aE (show(g:Int)<256 by omega)];refine Z_5 ?_;refine ZFb 16384 ?_;refine Zyn rfl rfl (dz (j:=g) (sz:=1) (r:=16384+g) rfl Zrf (cA rfl) (cA rfl) Wq2 Wq2 Wq1) ?_;refine gQ (bQ rfl rfl) (bM Zrf (cA rfl)) (cB Zh (rY hl how)) rfl (ZB ?_);refine Zyn rfl rfl (lK (cA rfl) (cA rfl) (show((o:Int) !=(o:Int))=false from by simp)) ?_;refine Z_4 ?_;refine Zyn rfl rfl (eC k rfl Zrf (cA rfl) (cA rfl) pe Wq2) ?_;refine ZB ?_;refine fF (bQ rfl rfl) rfl (dh rfl (λ_ _=>rfl) (λw hi=>HC w (hrt w hi.WB))) rfl ?_;rintro _ _ ⟨_,⟨rfl,rfl⟩,rfl⟩;rw[hcn];refine iX ?_;refine jS ?_;refine qMM (k+1) Wq1
 simp only[aa]at hc4;obtain rfl:fs.length=k:=Wq1;refine Z_8 ?_;rw[show ow=mW ow fs 0 from rfl];refine Z_6 ?_;refine wLo (λk:Nat=>[(0,.p bp),(42,.slice A fs.length c),(43,.i (fs.length:Int)),(44,.i (k:Int))]) (λk=>[dD bp B (mW ow fs k) pr]) (λk=>k<=fs.length) (λk=>fs.length - k) (0) Wq1 ?_;rintro k hk;refine Zw6 ?_ ?_<;>intro hc10
 .simp only[ac]at hc10;have hkl:k<fs.length:=Wq1;obtain⟨ad,rfl⟩:=hrw.some_ Wq1;have hx:=ae hkl;obtain⟨x,hxx⟩:=Zgn (fs[k]'hkl);rw[hxx]at hx;obtain⟨g,rfl,h16,h256,how,hcn⟩:=hf k x hx;have hsu:mW ow fs (k+1)=(mW ow fs k).set g (-1):=(by rw[wG hx,aN]);refine Z_6 ?_;refine Ex ?_;refine dQ (bM Zrf Zv0) (oG hrd (cK hx)) rfl (Z_7 ?_);refine ZFa 16384 ?_;refine Zy (dz (j:=g) (sz:=1) (r:=16384+g) rfl Zrf (Zv rfl) (Zv rfl) Wq2 Wq2 Wq1) ?_;refine eT (ij Zrf rfl rfl rfl Za (by rw[iQ (hl' k)];omega)) ?_;rintro _ _ ⟨rfl,rfl⟩;rw[rX (hl' k) (show g<256 by omega),<-hsu];refine jS ?_;refine qMM (k+1) Wq1
 simp only[aa]at hc10;obtain rfl:fs.length=k:=Wq1;refine gq ?_;exact BX
theorem R7(bp:Nat)(B ow pr:Li)(hl:du B ow pr)(o:Nat)(ho:o<4)(hno:∀x,x∈ow->x≠(o:Int)):CI prog 120 [.p bp,.i o] [dD bp B ow pr] (λv cs=>v= .i 0/\cs=[dD bp B ow (pr.set o (-1))]):=λw hi=>by
 have he:=mF hno 256;refine Zfn func120 ntmps120 hi ?_;refine Z_9 ?_;refine LB ?_;refine iX ?_;refine Z_6 ?_;refine ZSn (λw hi=>F8 bp B ow pr hl o ho w (hi.get Zh)) ?_;rintro _ _ ⟨A1,c1,rfl,rfl⟩;rw[he];refine Z_8 ?_;refine ZcM ([dD bp B ow pr]) (λw hi hin=>Hz bp B ow pr hl o ho A1 c1 [] (λj f h=>by simp at h) w hin (λw' hk=>hi.WZ Zi (Zhc (sl .i64 3 A1 0 c1 [])) hk)) ?_;rw[show mW ow [] ([]:Li).length=ow from rfl];refine Z_7 ?_;refine UU ?_;refine UE ?_;rintro _ _ ⟨rfl,rfl⟩;rw[rW hl];refine fH ?_;exact BX
theorem R6(bp:Nat)(B ow pr:Li)(hl:du B ow pr)(w:World)(hp:(dD bp B ow pr).ok w):
  CW prog 83 [.p bp] w (.i (mH ow 256:Nat)):=by
 refine Zfs func83 ntmps83 ?_;refine ue ?_;refine wLo (λk:Nat=>[(0,.p bp),(3,.i (mH ow k:Nat)),(4,.i (k:Int))]) (λ_=>[]) (λk=>16<=k/\k<=256) (λk=>256 - k) (16) Wq1 ?_;rintro k ⟨hk1,hk2⟩;have hle:=Tl ow k;have hsu:=KS ow hk1;refine Zw7 ?_ ?_<;>intro hc3
 .simp only[ac]at hc3;have hkl:k<ow.length:=(by rw[hl.ow];omega);have hok:=ae hkl;obtain⟨x,hxx⟩:=Zgn (ow[k]'hkl);rw[hxx]at hok;rw[hok,show(some x==some (-1:Int))=(x== -1)from rfl]at hsu;refine Z_9 ?_;refine Wq356 ?_;refine dQ (bM Zrf Zv0) (dr hp (rY hl hok)) rfl (Zw3 ?_ ?_)<;>intro hc5
  .rw[show(x== -1)=true from hc5,ai]at hsu;refine Z_2 ?_;refine Zy (eK (Zv rfl) (Zv rfl) (show _=((mH ow (k+1):Nat):Int)from by rw[bD _ ⟨by omega,by omega⟩];omega)) ?_;refine xu ?_;refine qMM (k+1) Wq1
  rw[show(x== -1)=false from hc5,ah]at hsu;refine lI ?_;rw[show mH ow k=mH ow (k+1) by omega];refine qMM (k+1) Wq1
 simp only[aa]at hc3;obtain rfl:k=256:=Wq1;refine fb ?_;exact ru
theorem JQ(bt bp o bf bg n:Nat)(hn:n<=64)(fr:Li)(hfr:fr.length=n)(w:World)(h:(jX bt bp o bf bg n).ok w)(h2:(frC bf n fr).ok w):
  Ctr prog 138 [.p bt] w [] (λv cs=>∃A c,v= .slice A (iI fr n).length c/\cs=[sl .i64 3 A (iI fr n).length c (iI fr n)]):=by
 have hrd:=dM h2;refine Zfs func138 ntmps138 ?_;refine ng ?_;refine cY 3 1 (Z_3 ?_);refine Ql ?_;refine Z_5 ?_;refine wLo (λs:Nat×Option Addr×Nat=>[(3,.slice s.2.1 (iI fr s.1).length s.2.2),(9,.slice (sA bf) n n),(10,.i (n:Int)),(11,.i (s.1:Int))]) (λs=>[sl .i64 3 s.2.1 (iI fr s.1).length s.2.2 (iI fr s.1)]) (λs=>s.1<=n) (λs=>n - s.1) ((0,none,0)) Wq1 ?_;rintro⟨k,A1,c1⟩ hk;simp only at hk;dsimp only;refine Zw6 ?_ ?_<;>intro hc3
 .simp only[ac]at hc3;have hkl:k<fr.length:=Wq1;have hok:=ae hkl;obtain⟨x,hxx⟩:=Zgn (fr[k]'hkl);rw[hxx]at hok;have hle:=Ie fr k;have hsu:=Kz fr k;rw[hok,show(some x==some (-1:Int))=(x== -1)from rfl]at hsu;refine Z_7 ?_;refine Ex ?_;refine dQ (bM Zrf Zv0) (dJ hrd (cK hok)) rfl (mZ ?_ ?_)<;>intro hc5
  .have he:iI fr (k+1)=iI fr k++[(k:Int)]:=bY;refine Z_3 ?_;refine jD ?_;rintro _ _ ⟨b20,rfl,rfl⟩;refine fo (bV (e:=3) (sz:=1) (bytes:=8) rfl rfl Za rfl rfl (λw hi=>hi.rd Zh) (mQ rfl) Wq9 Wq1) rfl ?_;rintro _ _ ⟨A2,c2,rfl,rfl⟩;rw[show(iI fr k).length+1=(iI fr (k+1)).length by grind,show ints .i64 (iI fr k)++[Value.i (k:Int)]=ints .i64 (iI fr (k+1)) by(rw[he];exact cj _ [_])];refine lI ?_;refine qMM ((k+1,A2,c2)) Wq1
  have he:iI fr (k+1)=iI fr k:=bY;rw[<-he];refine jS ?_;refine qMM ((k+1,A1,c1)) Wq1
 simp only[aa]at hc3;obtain rfl:k=n:=Wq1;refine fb ?_;exact Qg
abbrev tpF(L:eB)(k:EM):List bJ:=[jX L.bt L.bp L.o L.bf L.bg L.n,frC L.bf L.n k.fr,gdC L.bg L.n k.gd,dD L.bp k.B k.ow k.pr]
theorem Ms(L:eB)(k:EM)(hk:ot L k)(o4:L.o<4)(n64:L.n<=64)(p f:Nat)(hp:p<L.n)(hf:k.fr[p]? =some (f:Int)):CI prog 139 [.p L.bt,.i p] (tpF L k) (λv cs=>v= .i 0/\cs=tpF L {k with ow:=k.ow.set f (-1),fr:=k.fr.set p (-1),gd:=k.gd.set p false}):=λw hi=>by
 obtain⟨⟨h16,h256,how⟩,hu⟩:=hk.unmap hf;refine Zfn func139 ntmps139 hi ?_;refine Z_9 ?_;refine ZSe (λw hi=>lN L.bt L.bp L.o L.bf L.bg L.n p k.fr f hp hf w (hi.get Zh) (hi.get Zh)) ?_;rw[pE];refine sG ?_;refine Z_3 ?_;refine bU (Zdn [11,13]) Zk (pP ?_);refine ZFe 2 2 ?_;refine pQ ?_;refine kU ?_;refine ZFe 7 3 ?_;refine ZG 8 ?_;refine ZE 9 ?_;refine Zy4 10 rfl (cw (j:=p) (sz:=1) (r:=p) rfl Zrf (Zv rfl) (Zv rfl) Wq2 Wq2 Wq1) ?_;refine cW 11 Zk (Us ?_);rintro _ _ ⟨rfl,rfl⟩;rw[fQ];refine Zy4 12 rfl (cw (j:=p) (sz:=1) (r:=p) rfl Zrf (Zv rfl) (Zv rfl) Wq2 Wq2 Wq1) ?_;refine cW 13 Zk (Us ?_);rintro _ _ ⟨rfl,rfl⟩;rw[Ep];refine jU ?_;refine bU (Zdn [10]) Zk (uj ?_);refine Ca ?_;refine ZFe 6 1 ?_;refine ZG 7 ?_;refine ZE 8 ?_;refine kR ?_;refine EA ?_;rintro _ _ ⟨b36,rfl,rfl⟩;refine mb ?_;refine tD ([dD L.bp k.B k.ow k.pr]) (λw hi hin=>Hz L.bp k.B k.ow k.pr hk.pl L.o o4 (sA b36) 1 [(f:Int)] (λj x hx=>by grind) w hin (λw' hk=>hi.WZ Zi (Zhc (sl .i64 3 (sA b36) 1 1 [(f:Int)])) hk)) ?_;rintro _ _ ⟨rfl,rfl⟩;refine dR ?_;refine Z_7 ?_;refine bO (tpF L {k with ow:=k.ow.set f (-1),fr:=k.fr.set p (-1),gd:=k.gd.set p false}) Zj (Zrb ([row _ _ _,slv _ _ _ _ _ _,slv _ _ _ _ _ _,row _ _ _]) ?_);exact gr
theorem Nj(L:eB)(M:Mem)(hl:L.gw.length=256)(hno:∀x,x∈L.gw->x≠(L.o:Int)):CI prog 119 [.p L.bm] [fw L M] (λ_ cs=>∃B,(du B L.gw L.gp/\∀f,f<256->L.oth f=true->∀j,j<64->B[f*64+j]? =L.gB[f*64+j]?)/\cs=[dD L.bp B L.gw L.gp]):=λw hi=>by
 refine ctr_O hi λk hk hi=>?_
 have n64:=hk.n64;have o4:=hk.o4;have hfr:=hk.fr;have htl:=hk.tl;have hml:(iI k.fr L.n).length=(ES k.fr L.n).length:=ax _;have hmt:=Ie k.fr L.n;refine Zfn func119 ntmps119 hi ?_;unfold FR;refine Z_7 ?_;refine ZSn (λw hi=>JQ L.bt L.bp L.o L.bf L.bg L.n n64 k.fr hfr w (hi.get Zh) (hi.get Zh)) ?_;rintro _ _ ⟨A1,c1,rfl,rfl⟩;refine ZA ?_;refine eY (sl .i64 3 A1 (iI k.fr L.n).length c1 (iI k.fr L.n)::sZ L M.Wj::tpF L k) Zj (Z_4 ?_);refine wLo (λq:Nat×EM=>[(0,.p L.bm),(8,.slice A1 (iI k.fr L.n).length c1),(9,.i ((iI k.fr L.n).length:Int)),(10,.i (q.1:Int))]) (λq=>sl .i64 3 A1 (iI k.fr L.n).length c1 (iI k.fr L.n)::sZ L M.Wj::tpF L q.2) (λq=>ln L k q.2 q.1/\q.1<=(ES k.fr L.n).length) (λq=>(ES k.fr L.n).length - q.1) ((⟨0,k⟩:Nat×EM)) ⟨.none hk.tab,ap _⟩ ?_;rintro⟨j,k'⟩ ⟨hU,hj⟩;dsimp only at hU hj|-;refine Zw6 ?_ ?_<;>intro hc1
 .simp only[ac]at hc1;have hjl:j<(ES k.fr L.n).length:=Wq1;have hp:=ae hjl;obtain⟨p,hpp⟩:=Zgn ((ES k.fr L.n)[j]'hjl);rw[hpp]at hp;obtain⟨hpn,f,hf,h16,h256,how,hU2⟩:=hU.at_ hk.tab hp;have hpm:(iI k.fr L.n)[j]? =some (p:Int):=(by unfold iI;grind);refine lp (λw hi=>eM (hi.get (Zhc (sl .i64 3 A1 (iI k.fr L.n).length c1 (iI k.fr L.n)))) Wq1) (λhA=>?_);obtain⟨ba,rfl⟩:=hA;refine Z_6 ?_;refine Zy (cw (j:=j) (sz:=1) (r:=j) rfl Zrf (Zv rfl) (Zv rfl) Wq2 Wq2 Wq1) ?_;refine dQ (bM Zrf Zv0) (dG Zh (cK hpm)) rfl (Z_9 ?_);refine ZcM (tpF L k') (λw hi hin=>Ms L k' hU.rep o4 n64 p f hpn hf w hin) ?_;refine jS ?_;refine qMP ((⟨j+1,{k' with ow:=k'.ow.set f (-1),fr:=k'.fr.set p (-1),gd:=k'.gd.set p false}⟩:Nat×EM)) bY
 simp only[aa]at hc1;obtain rfl:j=(ES k.fr L.n).length:=Wq1;obtain⟨e1,e2⟩:=hU.rep.none (hU.all hk.tab) hl hno;have e3:=hU.rep.prs;have e4:=hU.rep.pl;refine Z_8 ?_;refine ZFa 66 ?_;refine eT (ij Zrf rfl rfl rfl Za (by rw[nN htl];omega)) ?_;rintro _ _ ⟨rfl,rfl⟩;refine Zn (bO [dD L.bp k'.B k'.ow k'.pr] Zj ?_);refine jE (cs':=[dD L.bp k'.B k'.ow k'.pr]) (.inr rfl) Zu rfl ?_;rw[e1,e3]at e4|-;exact⟨k'.B,⟨e4,e2⟩,rfl⟩
end Go.Ink
