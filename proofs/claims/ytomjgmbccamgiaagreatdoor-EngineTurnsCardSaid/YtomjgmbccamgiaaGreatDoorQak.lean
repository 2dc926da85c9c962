/- Lemmas. -/
import Derived.Test.YtomjgmbccamgiaaGreatDoorQaa
import Derived.Test.YtomjgmbccamgiaaGreatDoorQab
import Derived.Test.YtomjgmbccamgiaaGreatDoorQai
import Derived.Test.YtomjgmbccamgiaaGreatDoorQaj
set_option linter.unusedSimpArgs false
set_option linter.unusedVariables false
set_option maxRecDepth 100000
set_option maxHeartbeats 4000000
namespace Go.Ink
open Go.RowKit
theorem Bx{n:Nat}{s s1:St}{U U1:Mmu}{d d1:Dev}{pl:Int}(h:JE n s U d=⟨s1,pl,false,U1,d1⟩):dT n s U d=(s1,U1,d1):=by
 unfold dT;rw[h]
 rfl
theorem yu{n:Nat}{s s1:St}{U U1:Mmu}{d d1:Dev}{pl:Nat}(h:JE n s U d=⟨s1,(pl:Int),true,U1,d1⟩):dT n s U d=eZ n (pl/64) 8 s1 pl U1 d1:=by
 unfold dT;rw[h]
 rfl
def gy(m from_:Int)(s:St):Bool:=decide (0<m)&& !s.halted&&decide (IntKind.u64.wrap (s.count - from_)<m)
def qd(n:Nat)(m:Int)(s:St)(U:Mmu)(d:Dev):St×Mmu×Dev:=nQ n m s.count m.toNat (s,U,d)
theorem oV{n k:Nat}{m from_:Int}{q:St×Mmu×Dev}(h:gy m from_ q.1=false):nQ n m from_ k q=q:=by
 cases k with
 |zero=>rfl
 |succ k=>
  show(bif gy m from_ q.1 then _ else q)=q;rw[h]
  rfl
theorem uu{n k:Nat}{m from_:Int}{q:St×Mmu×Dev}(h:gy m from_ q.1=true):nQ n m from_ (k+1) q=nQ n m from_ k (dT n q.1 q.2.1 q.2.2):=by
 show(bif gy m from_ q.1 then _ else q)=_;rw[h]
 rfl
structure By(n:Nat)(m from_:Int)(o0 i:Nat)(q:St×Mmu×Dev):Prop where
 g:GOk n q.1 q.2.1 q.2.2
 out:q.2.2.out.length≤o0+8*i
 cnt:∃c:Nat,IntKind.u64.wrap (q.1.count - from_)=(c:Int)∧i≤c∧c≤8*i∧(c:Int)<(bif decide (0<m)then m else 0)+8
theorem yW{n:Nat}{m from_:Int}(hm:m≤1000000){o0 i:Nat}(hi:i≤1000000){q:St×Mmu×Dev}(h:By n m from_ o0 i q)(hc:gy m from_ q.1=true):By n m from_ o0 (i+1) (dT n q.1 q.2.1 q.2.2)∧(i:Int)<m:=by
 obtain⟨h1,h2,c,h3,h4,h5,h6⟩:=h;simp only[gy,aB,ap,Bool.not_eq_true']at hc;obtain⟨⟨hm0,hh⟩,hlt⟩:=hc;rw[aG hm0,ac]at h6;obtain⟨b1,b2,j,b3,b4,b5⟩:=Bw h1 hh;refine⟨⟨b1,by omega,c+j,?_,by omega,by omega,?_⟩,by omega⟩
 ·rw[b5];rw[aW]at h3⊢;rw[aW];omega
 rw[aG hm0,ac];omega
end Go.Ink
namespace Go.Proofs.YtomjgmbccamgiaaGreatDoor
open Go.RowKit Go.Ink Go.Proofs.Tryz
attribute [local irreducible] OpY bW
theorem zM(bu bb:Nat)(L:gQ)(D:p6)(Y:j0)(s:St)(Ad Ar:Option Addr)(cd cr:Nat)(U:Mmu)(d:Dev)(hG:GOk L.n s U d)(ho:d.out.length+8≤1000000000)(w:World)(hi:Inv w (bK (ubF bu bb L D Y U d)) (ubF bu bb L D Y U d) w)
  (h:∀w',dQ (bK (ubF bu bb L D Y U d)) w w'→mR w' s Ad Ar cd cr) (ht:∀w',dQ (bK (ubF bu bb L D Y U d)) w w'→lv w'):
  Ctr prog 23 [sv s Ad cd Ar cr,.pointer (some ⟨bu,0,none⟩),.pointer (some ⟨D.bs,0,none⟩)] w (ubF bu bb L D Y U d)
   (fun v cs=>∃X' Y',v=sv (dT L.n s U d).1 X'.Ad X'.cd X'.Ar X'.cr∧cs=guF bu bb L D (dT L.n s U d).1 X' Y' (dT L.n s U d).2.1 (dT L.n s U d).2.2):=by
 have HB:=zP bu bb L D Y s hG.wf Ad Ar cd cr U hG.u.t d (oP hG.lines _);have hb:=mQ hG;have hN:=fun s1 U1 d1 pl h=>Bx (n:=L.n) (s:=s) (s1:=s1) (U:=U) (U1:=U1) (d:=d) (d1:=d1) (pl:=pl) h
 have hY:=fun s1 U1 d1 pl h=>yu (n:=L.n) (s:=s) (s1:=s1) (U:=U) (U1:=U1) (d:=d) (d1:=d1) (pl:=pl) h
 obtain⟨⟨s1,pl,rn,U1,d1⟩,hbe⟩:=Zgn (JE L.n s U d);rw[hbe]at HB hb hN hY;obtain⟨hg1,hpl,hout, -, -, -⟩:=hb;dsimp only at hg1 hpl hout;obtain⟨pl,rfl⟩:∃m:Nat,pl=m:=ar hpl.1;have hpl2:=hpl.2;have HR:=fun X w hi=>rest_ok bu bb L D Y s1 X pl (by omega) 8 (by decide) U1 d1 hg1 (by rw[hout];exact ho) w hi
 obtain⟨⟨s9,U9,d9⟩,hR⟩:=Zgn (dT L.n s U d);rw[hR]at hN hY⊢;refine bL func23 rfl ntmps23 rfl hi ?_;refine Z_2 ?_;refine ZO fun b3=>?_;refine ZN fun b6=>?_
 refine Z_7 ?_;refine ZcL (ubF bu bb L D Y U d) (fun w hi hin=>HB w hin (fun w' hk=>h w' (hi.past (fun c hc=>by simp only[ubF,uF,mO,aV,aM,a9]at hc⊢;grind) hk)) (fun w' hk=>ht w' (hi.past (fun c hc=>by simp only[ubF,uF,mO,aV,aM,a9]at hc⊢;grind) hk))) ?_;rintro _ _ ⟨_,⟨X1,rfl,rfl⟩,rfl⟩;refine ZN fun b7=>?_
 refine ZM ?_;refine eK ?_;refine ZW ?_ ?_<;>intro hc2
 ·obtain rfl:rn=false:=(by cases rn with|false=>rfl|true=>cases hc2);have e:=hN s1 U1 d1 pl rfl;rw[aX,aX]at e;obtain⟨rfl,rfl,rfl⟩:=e;refine Z_3 ?_;refine dU (cC (vs:=s9.cells (.slice X1.Ad s9.d.length X1.cd) (.slice X1.Ar s9.r.length X1.cr)) Zrf Zrf Zv0) (cL Zh rfl) rfl ?_;refine ZM ?_;refine Z_4 ?_;refine bQ (row b6 (s9.cells (.slice X1.Ad s9.d.length X1.cd) (.slice X1.Ar s9.r.length X1.cr)) 38::guF bu bb L D s9 X1 Y U9 d9) Zj ?_;refine kk (cs':=(guF bu bb L D s9 X1 Y U9 d9)) (.inl rfl) Zu rfl rfl Zh Zrf Zrf ?_;exact⟨X1,Y,rfl,rfl⟩
 obtain rfl:rn=true:=(by cases rn with|true=>rfl|false=>cases hc2);have e:=hY s1 U1 d1 pl rfl;rw[←e]at HR;refine Z_5 ?_;refine dU (cC (vs:=s1.cells (.slice X1.Ad s1.d.length X1.cd) (.slice X1.Ar s1.r.length X1.cr)) Zrf Zrf Zv0) (cL Zh rfl) rfl ?_;refine Z_4 ?_;refine ZcL (guF bu bb L D s1 X1 Y U1 d1) (fun w hi hin=>HR X1 w hin) ?_;rintro _ _ ⟨_,⟨X2,Y2,rfl,rfl⟩,rfl⟩;refine ZM ?_;refine Z_3 ?_;refine bQ (row b6 (s9.cells (.slice X2.Ad s9.d.length X2.cd) (.slice X2.Ar s9.r.length X2.cr)) 38::guF bu bb L D s9 X2 Y2 U9 d9) Zj ?_;refine kk (cs':=(guF bu bb L D s9 X2 Y2 U9 d9)) (.inl rfl) Zu rfl rfl Zh Zrf Zrf ?_;exact⟨X2,Y2,rfl,rfl⟩
theorem Hs(bu bb:Nat)(L:gQ)(D:p6)(Y:j0)(s:St)(Ad Ar:Option Addr)(cd cr:Nat)(U:Mmu)(d:Dev)(hG:GOk L.n s U d)(m:Int)(hm0: -1000000≤m)(hm:m≤1000000)(ho:d.out.length+8*m.toNat+8≤1000000000)(w:World)(hi:Inv w (bK (ubF bu bb L D Y U d)) (ubF bu bb L D Y U d) w)
  (h:∀w',dQ (bK (ubF bu bb L D Y U d)) w w'→mR w' s Ad Ar cd cr) (ht:∀w',dQ (bK (ubF bu bb L D Y U d)) w w'→lv w'):
  Ctr prog 18 [sv s Ad cd Ar cr,.pointer (some ⟨bu,0,none⟩),.pointer (some ⟨D.bs,0,none⟩),.int .i64 m] w (ubF bu bb L D Y U d)
   (fun v cs=>∃X' Y',v=sv (qd L.n m s U d).1 X'.Ad X'.cd X'.Ar X'.cr∧cs=guF bu bb L D (qd L.n m s U d).1 X' Y' (qd L.n m s U d).2.1 (qd L.n m s U d).2.2):=by
 have HR2:=mC s;rw[hG.right]at HR2;obtain⟨hd16,hr16, -⟩:=St.fits hG.right;obtain⟨⟨s9,U9,d9⟩,hR⟩:=Zgn (qd L.n m s U d);rw[hR];have hR0:nQ L.n m s.count (m.toNat - 0) (s,U,d)=(s9,U9,d9):=hR;have hk0:By L.n m s.count d.out.length 0 (s,U,d):=⟨hG,aQ _,0,by show IntKind.u64.wrap (s.count - s.count)=0;rw[Int.sub_self];rfl,aQ _,aQ _,by cases hd:decide (0<m)with|false=>(show(0:Int)<0+8;omega)|true=>(simp only[ap]at hd;show(0:Int)<m+8;omega)⟩;obtain⟨from_,hfr⟩:=Zgn (s.count);obtain⟨o0,hoo⟩:=Zgn (d.out.length);rw[hfr]at hR0 hk0;rw[hoo]at ho hk0;refine bL func18 rfl ntmps18 rfl hi ?_;refine Z_2 ?_;refine ZO fun b4=>?_;refine ZN fun b8=>?_
 refine Z_5 ?_;refine ZS (fun w hi=>jp s Ad Ar cd cr w (h w hi.IG)) ?_;rintro _ _ ⟨_,⟨A1,c1,A2,c2,rfl,rfl⟩,rfl⟩;refine ZM ?_;refine Z_6 ?_;refine ZSe (fun w hi=>HR2 A1 A2 c1 c2 w) ?_;refine eo ?_;refine bY rfl (rfl) ?_;refine Z_4 ?_;refine kQ (row b4 (s.cells (.slice A1 s.d.length c1) (.slice A2 s.r.length c2)) 38::row b8 (St.zero.cells (.slice none 0 0) (.slice none 0 0)) 38::guF bu bb L D s ⟨A1,c1,A2,c2⟩ Y U d) Zj ?_;refine Z_7 ?_;refine cJ (fun q:Nat×St×iv×j0×Mmu×Dev=>[(1,.pointer (some ⟨bu,0,none⟩)),(2,.pointer (some ⟨D.bs,0,none⟩)),(3,.int .i64 m),(4,.pointer (some ⟨b4,0,none⟩)),(8,.pointer (some ⟨b8,0,none⟩)),(9,.int .u64 from_)]) (fun q=>row b4 (q.2.1.cells (.slice q.2.2.1.Ad q.2.1.d.length q.2.2.1.cd) (.slice q.2.2.1.Ar q.2.1.r.length q.2.2.1.cr)) 38::row b8 (St.zero.cells (.slice none 0 0) (.slice none 0 0)) 38::guF bu bb L D q.2.1 q.2.2.1 q.2.2.2.1 q.2.2.2.2.1 q.2.2.2.2.2) (fun q=>By L.n m from_ o0 q.1 (q.2.1,q.2.2.2.2.1,q.2.2.2.2.2)∧q.1≤m.toNat∧nQ L.n m from_ (m.toNat - q.1) (q.2.1,q.2.2.2.2.1,q.2.2.2.2.2)=(s9,U9,d9)) (fun q=>m.toNat - q.1) (⟨0,s,⟨A1,c1,A2,c2⟩,Y,U,d⟩) ?_ ?_ ?_ ?_
 ·exact⟨hk0,aw _,hR0⟩
 ·exact Zwk
 ·exact Zu
 rintro⟨i,s,X,Y,U,d⟩ ⟨hk,him,hRi⟩;dsimp only at hk him hRi⊢;have hrc:gy m from_ s=((decide (0<m)&& !s.halted)&&decide (IntKind.u64.wrap (s.count - from_)<m)):=rfl;refine ic ?_;refine Zyy rfl rfl (eP (dc rfl) (dc rfl) rfl) ?_;refine ZB ?_;refine Zyy rfl rfl (cu rfl rfl (dc rfl) (show _=(bif decide (0<m)then m else IntKind.u64.wrap m)from by cases hd:decide (0<m)with|false=>rfl|true=>(rw[ac,aW];simp only[ap]at hd;omega))) ?_;refine Z_4 ?_;refine ZW ?_ ?_<;>intro hc5
 ·have hc:gy m from_ s=true:=(by rw[hrc];revert hc5;cases decide (0<m)with|false=>(intro h;cases h)|true=>exact fun h=>h);obtain⟨hk2,hilt⟩:=yW hm (by omega) hk hc;obtain⟨k,hkk⟩:∃k,m.toNat - i=k+1:=⟨m.toNat - i - 1,by omega⟩;rw[hkk,uu hc]at hRi;obtain⟨hd16,hr16, -⟩:=St.fits hk.g.right;have hok:=hk.out;dsimp only at hok hd16 hr16;have HB:=zM bu bb L D Y s X.Ad X.Ar X.cd X.cr U d hk.g (by omega);obtain⟨⟨s2,U2,d2⟩,hq⟩:=Zgn (dT L.n s U d);dsimp only at hRi hk2;rw[hq]at HB hRi hk2;refine Z_7 ?_;refine ZcL (ubF bu bb L D Y U d) (fun w hi hin=>HB w hin (fun w' hk=>hi.I0 Zi (show Has _ (slD s X.Ad X.cd)from Zh) (show Has _ (slR s X.Ar X.cr)from Zh) (by omega) (by omega) hk) (fun w' hk=>ht w' (hi.past (fun c hc=>by simp only[guF,ubF,uF,mO,aV,aM,a9]at hc⊢;grind) hk))) ?_;rintro _ _ ⟨_,⟨X2,Y2,rfl,rfl⟩,rfl⟩;refine ZM ?_;refine Z_2 ?_;refine cz ((⟨i+1,s2,X2,Y2,U2,d2⟩:Nat×St×iv×j0×Mmu×Dev)) ?_ ?_ ?_
  ·exact⟨⟨hk2,show i+1≤m.toNat by omega,by show nQ L.n m from_ (m.toNat - (i+1)) (s2,U2,d2)=_;rw[show m.toNat - (i+1)=k by omega];exact hRi⟩,show m.toNat - (i+1)<m.toNat - i by omega⟩
  ·exact Zwk
  exact Zj
 have hc:gy m from_ s=false:=(by rw[hrc];revert hc5;cases decide (0<m)with|false=>exact fun _=>rfl|true=>exact fun h=>h);rw[oV hc,aX,aX]at hRi;obtain⟨rfl,rfl,rfl⟩:=hRi;refine Z_8 ?_;refine ZM ?_;refine Z_3 ?_;refine bQ (row b8 (s.cells (.slice X.Ad s.d.length X.cd) (.slice X.Ar s.r.length X.cr)) 38::guF bu bb L D s X Y U d) Zj ?_;refine kk (cs':=(guF bu bb L D s X Y U d)) (.inl rfl) Zu rfl rfl Zh Zrf Zrf ?_;exact⟨X,Y,rfl,rfl⟩
end Go.Proofs.YtomjgmbccamgiaaGreatDoor
namespace Go.Ink
open Go.RowKit
def gc(T:List Int)(n at_:Int):List Int:=bif decide (0≤n)then T.set n.toNat (if at_>T.getD n.toNat 0 then at_ else T.getD n.toNat 0)else T
def kp(x:II):Bool:=x.op==3||x.op==4
def fm:List II→Nat→List Int→List Int
 |[],_,T=>T
 |x::c,k,T=>fm c (k+1) (bif kp x then gc (gc T x.a k) x.b k else T)
def jq(T:List Int)(l:List Int)(at_:Int):List Int:=l.foldl (fun T n=>gc T n at_) T
def iota(n:Nat):List Int:=(List.range n).map fun k:Nat=>(k:Int)
def gn(p:Pg):List Int:=jq (jq (jq (fm p.code 0 (iota p.code.length)) p.Iq p.code.length) p.Ir p.code.length) [p.flags,p.target] p.code.length
def Up(A B:List Int):Prop:=B.length=A.length∧∀i,A.getD i 0≤B.getD i 0
theorem Up.refl(A:List Int):Up A A:=⟨rfl,fun _=>bF _⟩
theorem Up.trans{A B D:List Int}(h:Up A B)(k:Up B D):Up A D:=⟨k.1.trans h.1,fun i=>Int.le_trans (h.2 i) (k.2 i)⟩
theorem jt(T:List Int)(n a:Int):Up T (gc T n a):=by
 unfold gc;cases decide (0≤n)with
 |false=>exact Up.refl T
 |true=>
  refine⟨by rw[ac,aL],fun i=>?_⟩;rw[ac];by_cases e:n.toNat=i
  ·subst e;by_cases hl:n.toNat<T.length
   ·rw[da hl];split<;>omega
   rw[List.set_eq_of_length_le (by omega)];exact bF _
  rw[cK e];exact bF _
theorem ui{T:List Int}{n a:Int}(h0:0≤n)(h1:n.toNat<T.length):a≤(gc T n a).getD n.toNat 0:=by
 unfold gc;rw[aG h0,ac,da h1];split<;>omega
theorem i9:∀(l:List Int) (T:List Int) (a:Int),Up T (jq T l a)
 |[],T,a=>Up.refl T
 |n::l,T,a=>(jt T n a).trans (i9 l (gc T n a) a)
theorem nF:∀(l:List Int) (T:List Int) (a:Int),∀n,n∈l→0≤n→n.toNat<T.length→a≤(jq T l a).getD n.toNat 0
 |[],_,_,n,hn,_,_=>by cases hn
 |m::l,T,a,n,hn,h0,h1=>by
  show a≤(jq (gc T m a) l a).getD n.toNat 0;have hl:=(jt T m a).1;rcases aM.1 hn with rfl|hn
  ·exact Int.le_trans (ui h0 h1) ((i9 l (gc T n a) a).2 _)
  exact nF l (gc T m a) a n hn h0 (by omega)
theorem jJ:∀(c:List II) (k:Nat) (T:List Int),Up T (fm c k T)
 |[],_,T=>Up.refl T
 |x::c,k,T=>by
  refine Up.trans ?_ (jJ c (k+1) _);cases kp x with
  |true=>exact(jt T x.a k).trans (jt _ x.b k)
  |false=>exact Up.refl T
theorem rJ:∀(c:List II) (k:Nat) (T:List Int) (i:Nat) (x:II),c[i]? =some x→kp x=true→(0≤x.a∧x.a.toNat<T.length)→(0≤x.b∧x.b.toNat<T.length)→
  ((k+i:Nat):Int)≤(fm c k T).getD x.a.toNat 0∧((k+i:Nat):Int)≤(fm c k T).getD x.b.toNat 0
 |[],_,_,i,x,h,_,_,_=>by cases h
 |y::c,k,T,0,x,h,hx,ha,hb=>by
  obtain rfl:y=x:=by simpa using h
  have e:fm (y::c) k T=fm c (k+1) (gc (gc T y.a k) y.b k):=by
   show fm c (k+1) (bif kp y then _ else _)=_;rw[hx];rfl
  have h1:=(jt T y.a k).1;have h2:=jJ c (k+1) (gc (gc T y.a k) y.b k);have h3:=ui (T:=T) (a:=k) ha.1 ha.2;have h4:=ui (T:=gc T y.a k) (a:=k) hb.1 (by omega);have h5:=(jt (gc T y.a k) y.b k).2 y.a.toNat;rw[e,Nat.add_zero];exact⟨Int.le_trans h3 (Int.le_trans h5 (h2.2 _)),Int.le_trans h4 (h2.2 _)⟩
 |y::c,k,T,i+1,x,h,hx,ha,hb=>by
  have hl:(bif kp y then gc (gc T y.a k) y.b k else T).length=T.length:=by
   cases kp y with
   |true=>exact((jt T y.a k).trans (jt _ y.b k)).1
   |false=>rfl
  have:=rJ c (k+1) (bif kp y then gc (gc T y.a k) y.b k else T) i x (by simpa using h) hx ⟨ha.1,by omega⟩ ⟨hb.1,by omega⟩;rw[show k+1+i=k+(i+1) by omega]at this;exact this
theorem Gw{n i:Nat}(h:i<n):(iota n).getD i 0=i:=by
 unfold iota;rw[ax,bj,List.getElem?_range h];rfl
theorem od(n:Nat):(iota n).length=n:=by simp[iota]
theorem uU(p:Pg):Up (fm p.code 0 (iota p.code.length)) (gn p):=((i9 _ _ _).trans (i9 _ _ _)).trans (i9 _ _ _)
theorem Gm(p:Pg):(gn p).length=p.code.length:=by rw[(uU p).1,(jJ _ _ _).1,od]
theorem Dl(p:Pg){i:Nat}(h:i<p.code.length):(i:Int)≤(gn p).getD i 0:=by
 have h1:=((jJ p.code 0 (iota p.code.length)).trans (uU p)).2 i;rw[Gw h]at h1;exact h1
theorem Dk(p:Pg){n:Nat}{x:II}(h:p.code[n]? =some x)(hx:kp x=true)(ha:0≤x.a∧x.a<p.code.length)(hb:0≤x.b∧x.b<p.code.length):(n:Int)≤(gn p).getD x.a.toNat 0∧(n:Int)≤(gn p).getD x.b.toNat 0:=by
 have h1:=rJ p.code 0 (iota p.code.length) n x h hx ⟨ha.1,by rw[od];omega⟩ ⟨hb.1,by rw[od];omega⟩;rw[bo]at h1;exact⟨Int.le_trans h1.1 ((uU p).2 _),Int.le_trans h1.2 ((uU p).2 _)⟩
theorem oa(p:Pg){n:Int}(h:n∈p.Iq∨n∈p.Ir∨n=p.flags∨n=p.target)(h0:0≤n∧n<p.code.length):(p.code.length:Int)≤(gn p).getD n.toNat 0:=by
 have l0:(fm p.code 0 (iota p.code.length)).length=p.code.length:=by rw[(jJ _ _ _).1,od]
 have l1:=(i9 p.Iq (fm p.code 0 (iota p.code.length)) p.code.length).1;have u2:=i9 p.Ir (jq (fm p.code 0 (iota p.code.length)) p.Iq p.code.length) p.code.length;have l2:=u2.1;have u3:=i9 [p.flags,p.target] (jq (jq (fm p.code 0 (iota p.code.length)) p.Iq p.code.length) p.Ir p.code.length) p.code.length;rcases h with h|h|h
 ·exact Int.le_trans (nF p.Iq _ _ n h h0.1 (by omega)) ((u2.trans u3).2 _)
 ·exact Int.le_trans (nF p.Ir _ _ n h h0.1 (by omega)) (u3.2 _)
 exact nF [p.flags,p.target] _ _ n (by simpa using h) h0.1 (by omega)
def lS(T:List Int)(i j:Nat):Bool:=(decide ((i:Int)<T.getD j 0)&&decide ((j:Int)<T.getD i 0))||((i:Int)==(j:Int))
def fb(T place:List Int)(n:Nat)(k:Int):Nat→Bool
 |0=>false
 |i+1=>fb T place n k i||((place.getD i 0==k)&&lS T i n)
def jO(T place:List Int)(n:Nat):Nat→Nat→Nat
 |0,k=>k
 |f+1,k=>bif fb T place n k place.length then jO T place n f (k+1)else k
def fM(T place:List Int)(n:Nat):Nat:=jO T place n place.length 0
def gm(T reg:List Int)(n:Nat):Nat→Nat
 |0=>n
 |k+1=>bif((reg.getD k 0 != -1)&&lS T n k)&&decide (T.getD (gm T reg n k) 0<T.getD k 0)then k else gm T reg n k
def kj(T:List Int)(pl:Pl)(n:Nat):Pl:=
 ⟨pl.reg.set n (-1),pl.slot.set n (fM T pl.slot n),if((fM T pl.slot n:Nat):Int)+1>pl.IM then((fM T pl.slot n:Nat):Int)+1 else pl.IM⟩
def lK(T:List Int)(IF:Int)(pl:Pl)(n:Nat):Pl:=
 bif decide (((fM T pl.reg n:Nat):Int)<IF)then⟨pl.reg.set n (fM T pl.reg n),pl.slot,pl.IM⟩else
 bif(gm T pl.reg n n !=n)then kj T ⟨pl.reg.set n (pl.reg.getD (gm T pl.reg n n) 0),pl.slot,pl.IM⟩ (gm T pl.reg n n)else kj T pl n
def gS(T:List Int)(IF:Int)(N:Nat):Nat→Pl
 |0=>⟨List.replicate N (-1),List.replicate N (-1),0⟩
 |n+1=>lK T IF (gS T IF N n) n
theorem qV(T place:List Int)(n:Nat)(k:Int):∀m,fb T place n k m=true↔∃i,i<m∧place.getD i 0=k∧lS T i n=true
 |0=>⟨fun h=>by(cases h),fun⟨i,h,_⟩=>absurd h (by omega)⟩
 |m+1=>by
  show(fb T place n k m||((place.getD m 0==k)&&lS T m n))=true↔_;rw[Bool.or_eq_true,qV T place n k m,aB,beq_iff_eq];constructor
  ·rintro(⟨i,h1,h2⟩|⟨h1,h2⟩)
   ·exact⟨i,by omega,h2⟩
   exact⟨m,by omega,h1,h2⟩
  rintro⟨i,h1,h2,h3⟩;by_cases e:i=m
  ·subst e;exact Or.inr ⟨h2,h3⟩
  exact Or.inl ⟨i,by omega,h2,h3⟩
theorem pigeon(place:List Int)(h:∀k:Nat,k≤place.length→∃i,i<place.length∧place.getD i 0=(k:Int)):False:=by
 have hc:∃f:Nat→Nat,∀k,k≤place.length→f k<place.length∧place.getD (f k) 0=(k:Int):=by
  refine⟨fun k=>if hk:k≤place.length then Classical.choose (h k hk)else 0,fun k hk=>?_⟩;simp only[dif_pos hk];exact Classical.choose_spec (h k hk)
 obtain⟨f,hf⟩:=hc;have h1:=lQ place.length ((List.range (place.length+1)).map f) ?_ ?_
 ·simp at h1;omega
 ·rw[List.Nodup,List.pairwise_map];refine List.Pairwise.imp_of_mem ?_ (List.nodup_range (n:=place.length+1));intro a b ha hb hab e;have h2:=(hf a (by have:=List.mem_range.1 ha;omega)).2;have h3:=(hf b (by have:=List.mem_range.1 hb;omega)).2;rw[e,h3]at h2;exact hab (by omega)
 intro x hx;obtain⟨k,hk,rfl⟩:=bh.1 hx;exact(hf k (by have:=List.mem_range.1 hk;omega)).1
theorem wN(T place:List Int)(n:Nat):∀f k,k+f=place.length→(∀j,j<k→fb T place n j place.length=true)→fb T place n (jO T place n f k) place.length=false∧jO T place n f k≤place.length∧∀j,j<jO T place n f k→fb T place n j place.length=true
 |0,k,hk,hb=>by
  refine⟨?_,by show k≤_;omega,hb⟩;show fb T place n k place.length=false;cases h:fb T place n k place.length with
  |false=>rfl
  |true=>
   refine(pigeon place fun j hj=>?_).elim;have ht:fb T place n j place.length=true:=by
    by_cases e:j=k
    ·rw[e];exact h
    exact hb j (by omega)
   obtain⟨i,h1,h2, -⟩:=(qV T place n j place.length).1 ht;exact⟨i,h1,h2⟩
 |f+1,k,hk,hb=>by
  cases h:fb T place n k place.length with
  |false=>
   have e:jO T place n (f+1) k=k:=by show(bif fb T place n k place.length then _ else k)=k;rw[h];rfl
   rw[e];exact⟨h,by omega,hb⟩
  |true=>
   have e:jO T place n (f+1) k=jO T place n f (k+1):=by show(bif fb T place n k place.length then jO T place n f (k+1)else k)=_;rw[h];rfl
   rw[e];exact wN T place n f (k+1) (by omega) (fun j hj=>by
    by_cases e:j=k
    ·rw[e];exact h
    exact hb j (by omega))
theorem JG(T place:List Int)(n:Nat):fb T place n (fM T place n) place.length=false∧fM T place n≤place.length∧∀j,j<fM T place n→fb T place n j place.length=true:=
 wN T place n place.length 0 (by omega) (fun j hj=>absurd hj (by omega))
theorem mM{T place:List Int}{n i:Nat}(hi:i<place.length)(h:place.getD i 0=(fM T place n:Nat)):lS T i n=false:=by
 cases hm:lS T i n with
 |false=>rfl
 |true=>
  have:=(qV T place n (fM T place n) place.length).2 ⟨i,hi,h,hm⟩;rw[(JG T place n).1]at this;cases this
theorem x8{T:List Int}{i j:Nat}(h:lS T i j=false)(hij:i<j)(hT:(j:Int)≤T.getD j 0):T.getD i 0≤j:=by
 unfold lS at h;simp only[bl,Bool.and_eq_false_iff,aj]at h;omega
theorem Gd{T:List Int}{i j:Nat}(h:lS T i j=false)(hij:j<i)(hT:(i:Int)≤T.getD i 0):T.getD j 0≤i:=by
 unfold lS at h;simp only[bl,Bool.and_eq_false_iff,aj]at h;omega
theorem rI(T reg:List Int)(n:Nat):∀k,gm T reg n k=n∨(gm T reg n k<k∧reg.getD (gm T reg n k) 0≠ -1∧lS T n (gm T reg n k)=true)
 |0=>Or.inl rfl
 |k+1=>by
  have e:gm T reg n (k+1)=bif((reg.getD k 0 != -1)&&lS T n k)&&decide (T.getD (gm T reg n k) 0<T.getD k 0)then k else gm T reg n k:=rfl
  cases hc:((reg.getD k 0 != -1)&&lS T n k)&&decide (T.getD (gm T reg n k) 0<T.getD k 0)with
  |true=>
   rw[hc,ac]at e;rw[e];simp only[aB,bne_iff_ne,ne_eq]at hc;exact Or.inr ⟨by omega,hc.1.1,hc.1.2⟩
  |false=>
   rw[hc,aa]at e;rw[e];rcases rI T reg n k with h|⟨h1,h2⟩
   ·exact Or.inl h
   exact Or.inr ⟨by omega,h2⟩
structure SInv(T:List Int)(IF:Int)(N n:Nat)(pl:Pl):Prop where
 rl:pl.reg.length=N
 sl:pl.slot.length=N
 had:∀i,i<n→(0≤pl.reg.getD i 0∧pl.reg.getD i 0<IF∧pl.slot.getD i 0= -1)∨(pl.reg.getD i 0= -1∧0≤pl.slot.getD i 0∧pl.slot.getD i 0≤N)
 new:∀i,n≤i→i<N→pl.reg.getD i 0= -1∧pl.slot.getD i 0= -1
 reg:∀i j,i<j→j<n→0≤pl.reg.getD i 0→pl.reg.getD i 0=pl.reg.getD j 0→T.getD i 0≤j
 slot:∀i j,i<j→j<n→0≤pl.slot.getD i 0→pl.slot.getD i 0=pl.slot.getD j 0→T.getD i 0≤j
theorem sinv0(T:List Int)(IF:Int)(N:Nat):SInv T IF N 0 (gS T IF N 0):=
 ⟨by simp[gS],by simp[gS],fun i hi=>absurd hi (by omega),fun i _ hi=>by
  constructor<;>(show(List.replicate N (-1:Int)).getD i 0= -1;rw[ax,List.getElem?_replicate_of_lt hi];rfl),fun i j _ hj=>absurd hj (by omega),fun i j _ hj=>absurd hj (by omega)⟩
theorem Cy{T:List Int}{IF:Int}{N n:Nat}{pl:Pl}(hT:∀i,i<N→(i:Int)≤T.getD i 0)(h:SInv T IF N n pl)(hn:n<N):SInv T IF N (n+1) (lK T IF pl n):=by
 have hrl:=h.rl;have hsl:=h.sl;obtain⟨nr,ns⟩:=h.new n (aQ _) hn;unfold lK;by_cases hr:((fM T pl.reg n:Nat):Int)<IF
 ·rw[aG hr,ac];refine⟨by simp[hrl],hsl,fun i hi=>?_,fun i h1 h2=>?_,fun i j hij hj h0 he=>?_,fun i j hij hj h0 he=>?_⟩
  ·by_cases e:i=n
   ·subst e;refine Or.inl ?_;dsimp only;rw[da (by omega)];exact⟨by omega,hr,ns⟩
   dsimp only;rw[cK (fun x=>e x.symm)];exact h.had i (by omega)
  ·dsimp only;rw[cK (by omega)];exact h.new i (by omega) h2
  ·dsimp only at h0 he;by_cases ej:j=n
   ·subst ej;rw[cK (by omega),da (by omega)]at he;exact x8 (mM (by omega) he) hij (hT j hn)
   rw[cK (by omega),cK (by omega)]at he;rw[cK (by omega)]at h0;exact h.reg i j hij (by omega) h0 he
  by_cases ej:j=n
  ·subst ej;dsimp only at h0 he;rw[ns]at he;omega
  exact h.slot i j hij (by omega) h0 he
 rw[aF hr,aa];rcases rI T pl.reg n n with hl|⟨l1,l2,l3⟩
 ·rw[hl,show(n !=n)=false by simp,aa];unfold kj;have hf:=JG T pl.slot n;refine⟨by simp[hrl],by simp[hsl],fun i hi=>?_,fun i h1 h2=>?_,fun i j hij hj h0 he=>?_,fun i j hij hj h0 he=>?_⟩
  ·dsimp only;by_cases e:i=n
   ·subst e;refine Or.inr ?_;rw[da (by omega),da (by omega)];exact⟨rfl,by omega,by omega⟩
   rw[cK (fun x=>e x.symm),cK (fun x=>e x.symm)];exact h.had i (by omega)
  ·dsimp only;rw[cK (by omega),cK (by omega)];exact h.new i (by omega) h2
  ·dsimp only at h0 he;rw[cK (by omega)]at he h0;by_cases ej:j=n
   ·subst ej;rw[da (by omega)]at he;omega
   rw[cK (by omega)]at he;exact h.reg i j hij (by omega) h0 he
  dsimp only at h0 he;rw[cK (by omega)]at he h0;by_cases ej:j=n
  ·subst ej;rw[da (by omega)]at he;exact x8 (mM (by omega) he) hij (hT j hn)
  rw[cK (by omega)]at he;exact h.slot i j hij (by omega) h0 he
 obtain⟨lg,hlg⟩:=Zgn (gm T pl.reg n n);rw[hlg]at l1 l2 l3⊢;rw[show(lg !=n)=true by simp;omega,ac];have hm:(n:Int)<T.getD lg 0:=by
  unfold lS at l3;simp only[Bool.or_eq_true,aB,ap,beq_iff_eq]at l3;omega
 obtain⟨hreg,hlt,hslot⟩:0≤pl.reg.getD lg 0∧pl.reg.getD lg 0<IF∧pl.slot.getD lg 0= -1:=by
  rcases h.had lg l1 with q|⟨q, -⟩
  ·exact q
  exact absurd q l2
 unfold kj;have hf:=JG T pl.slot lg;have er:∀i,i≠lg→i≠n→((pl.reg.set n (pl.reg.getD lg 0)).set lg (-1)).getD i 0=pl.reg.getD i 0:=fun i h1 h2=>by rw[cK (fun e=>h1 e.symm),cK (fun e=>h2 e.symm)]
 have ern:((pl.reg.set n (pl.reg.getD lg 0)).set lg (-1)).getD n 0=pl.reg.getD lg 0:=by rw[cK (by omega),da (by omega)]
 have erl:((pl.reg.set n (pl.reg.getD lg 0)).set lg (-1)).getD lg 0= -1:=da (by rw[aL];omega);have es:∀i,i≠lg→(pl.slot.set lg ((fM T pl.slot lg:Nat):Int)).getD i 0=pl.slot.getD i 0:=fun i h1=>cK (fun e=>h1 e.symm)
 have esl:(pl.slot.set lg ((fM T pl.slot lg:Nat):Int)).getD lg 0=(fM T pl.slot lg:Nat):=da (by omega);refine⟨by simp[hrl],by simp[hsl],fun i hi=>?_,fun i h1 h2=>?_,fun i j hij hj h0 he=>?_,fun i j hij hj h0 he=>?_⟩
 ·dsimp only;by_cases e:i=lg
  ·subst e;rw[erl,esl];exact Or.inr ⟨rfl,by omega,by omega⟩
  by_cases e2:i=n
  ·subst e2;rw[ern,es _ e];exact Or.inl ⟨hreg,hlt,ns⟩
  rw[er i e e2,es i e];exact h.had i (by omega)
 ·dsimp only;rw[er i (by omega) (by omega),es i (by omega)];exact h.new i (by omega) h2
 ·dsimp only at h0 he;by_cases ei:i=lg
  ·subst ei;rw[erl]at h0;omega
  rw[er i ei (by omega)]at h0 he;by_cases ejn:j=n
  ·subst ejn;rw[ern]at he;by_cases hil:i<lg
   ·have:=h.reg i lg hil l1 h0 he;omega
   have:=h.reg lg i (by omega) (by omega) hreg he.symm;omega
  by_cases ejl:j=lg
  ·subst ejl;rw[erl]at he;omega
  rw[er j ejl ejn]at he;exact h.reg i j hij (by omega) h0 he
 dsimp only at h0 he;by_cases ei:i=lg
 ·subst ei;rw[es j (by omega)]at he;rw[esl]at he;exact Gd (mM (by omega) he.symm) hij (hT j (by omega))
 rw[es i ei]at h0 he;by_cases ejl:j=lg
 ·subst ejl;rw[esl]at he;exact x8 (mM (by omega) he) hij (hT j (by omega))
 rw[es j ejl]at he;by_cases ejn:j=n
 ·subst ejn;rw[ns]at he;omega
 exact h.slot i j hij (by omega) h0 he
theorem yV{T:List Int}{IF:Int}{N:Nat}(hT:∀i,i<N→(i:Int)≤T.getD i 0):∀n,n≤N→SInv T IF N n (gS T IF N n)
 |0,_=>sinv0 T IF N
 |n+1,h=>Cy hT (yV hT n (by omega)) (by omega)
theorem CQ{T:List Int}{N:Nat}(hT:∀i,i<N→(i:Int)≤T.getD i 0)(hN:N≤64):ES (gS T 7 N N) T N:=by
 have h:=yV (IF:=7) hT N (aQ _);obtain⟨pl,hpl⟩:=Zgn (gS T 7 N N);rw[hpl]at h⊢;have e:∀n:Nat,pl.r n=pl.reg.getD n 0∧pl.s n=pl.slot.getD n 0:=fun n=>by simp only[Pl.r,Pl.s,aS,and_self]
 have hin:∀n:Nat,pl.inR n=decide (0≤pl.reg.getD n 0):=fun n=>by unfold Pl.inR;rw[(e n).1]
 refine⟨fun n hn=>?_,fun i j hij hj h1 h2 he=>?_,fun i j hij hj h1 h2 he=>?_⟩
 ·unfold Pl.has;rw[hin,(e n).1,(e n).2];rcases h.had n hn with⟨q1,q2, -⟩|⟨q1,q2,q3⟩
  ·exact Or.inl ⟨aG q1,q2⟩
  exact Or.inr ⟨aF (by omega),q2,by omega⟩
 ·rw[hin]at h1;rw[(e i).1,(e j).1]at he;exact h.reg i j hij hj (by simpa using h1) he
 rw[hin]at h1;rw[(e i).2,(e j).2]at he;refine h.slot i j hij hj ?_ he;rcases h.had i (by omega)with⟨q1, -⟩|⟨-,q, -⟩
 ·rw[aG q1]at h1;cases h1
 exact q
def II.zero:II:=⟨0,0,0,0,0⟩
def iE(U:List Bool)(l:List Int):List Bool:=l.foldl (fun U n=>bif n != -1 then U.set n.toNat true else U) U
def kf(code:List II):Nat→List Bool→List Bool
 |0,U=>U
 |k+1,U=>kf code k (bif U.getD k false&&kp (code.getD k II.zero)then iE U [(code.getD k II.zero).a,(code.getD k II.zero).b]else U)
def AU(p:Pg):List Bool:=iE (iE (iE (List.replicate p.code.length false) p.Iq) p.Ir) [p.flags,p.target]
def fU(p:Pg):List Bool:=kf p.code p.code.length (AU p)
def mT(x:II)(pl:List Int)(n:Nat):II:=bif kp x then⟨x.op,n,pl.getD x.a.toNat 0,pl.getD x.b.toNat 0,x.imm⟩else⟨x.op,n,x.a,x.b,x.imm⟩
def kF(U:List Bool):List II→Nat→List Int→List II→List Int×List II
 |[],_,pl,c=>(pl,c)
 |x::suf,i,pl,c=>bif U.getD i false then kF U suf (i+1) (pl.set i (c.length:Int)) (c++[mT x (pl.set i (c.length:Int)) c.length])else kF U suf (i+1) pl c
def cU(pl:List Int)(l:List Int):List Int:=l.map fun n=>pl.getD n.toNat 0
def eu(p:Pg):List Int×List II:=kF (fU p) p.code 0 (List.replicate p.code.length 0) []
def eA(pl:List Int)(n:Int):Int:=bif n != -1 then pl.getD n.toNat 0 else n
def cN(p:Pg):Pg:=⟨(eu p).2,p.Ii,p.Ij,p.IK,p.IN,cU (eu p).1 p.Iq,cU (eu p).1 p.Ir,eA (eu p).1 p.flags,p.next,eA (eu p).1 p.target,p.branch,p.taken,p.count,(eu p).2.length⟩
def WfC(code:List II):Prop:=∀(i:Nat) (x:II),code[i]? =some x→kp x=true→(0≤x.a∧x.a<i)∧(0≤x.b∧x.b<i)
abbrev us(U:List Bool)(n:Nat):Prop:=U.getD n false=true
theorem zr{U:List Bool}{j:Nat}(hj:j<U.length):(U.set j true).getD j false=true:=by rw[ax,List.getElem?_set_self hj];rfl
theorem DT{U:List Bool}{i j:Nat}{b:Bool}(h:i≠j):(U.set i b).getD j false=U.getD j false:=by rw[ax,List.getElem?_set_ne h,←ax]
theorem fY:∀(l:List Int) (U:List Bool),(iE U l).length=U.length
 |[],_=>rfl
 |n::l,U=>by
  show(iE (bif n != -1 then U.set n.toNat true else U) l).length=_;rw[fY l];cases n != -1<;>simp
theorem jz:∀(l:List Int) (U:List Bool) (i:Nat),us U i→us (iE U l) i
 |[],_,_,h=>h
 |n::l,U,i,h=>by
  show us (iE (bif n != -1 then U.set n.toNat true else U) l) i;refine jz l _ i ?_;cases n != -1 with
  |false=>exact h
  |true=>
   show(U.set n.toNat true).getD i false=true;by_cases e:n.toNat=i
   ·subst e;refine zr ?_;by_cases hl:n.toNat<U.length
    ·exact hl
    have h:U.getD n.toNat false=true:=h;rw[ax,List.getElem?_eq_none (by omega)]at h;cases h
   rw[DT e];exact h
theorem mI:∀(l:List Int) (U:List Bool) (n:Int),n∈l→0≤n→n.toNat<U.length→us (iE U l) n.toNat
 |[],_,_,h,_,_=>by cases h
 |m::l,U,n,h,h0,h1=>by
  show us (iE (bif m != -1 then U.set m.toNat true else U) l) n.toNat;rcases aM.1 h with rfl|h
  ·refine jz l _ _ ?_;rw[show(n != -1)=true by simp;omega];exact zr h1
  exact mI l _ n h h0 (by cases m != -1<;>simpa using h1)
theorem tI:∀(l:List Int) (U:List Bool) (i:Nat),us (iE U l) i→us U i∨∃n,n∈l∧n≠ -1∧n.toNat=i
 |[],_,_,h=>Or.inl h
 |m::l,U,i,h=>by
  have h:us (iE (bif m != -1 then U.set m.toNat true else U) l) i:=h;rcases tI l _ i h with h|⟨n,h1,h2⟩
  ·by_cases e:m= -1
   ·subst e;exact Or.inl h
   rw[show(m != -1)=true by simpa using e,ac]at h;by_cases e2:m.toNat=i
   ·exact Or.inr ⟨m,by simp,e,e2⟩
   rw[us,DT e2]at h;exact Or.inl h
  exact Or.inr ⟨n,by simp[h1],h2⟩
theorem lh(code:List II):∀(k:Nat) (U:List Bool) (i:Nat),us U i→us (kf code k U) i
 |0,_,_,h=>h
 |k+1,U,i,h=>by
  show us (kf code k _) i;refine lh code k _ i ?_;cases U.getD k false&&kp (code.getD k II.zero)with
  |true=>exact jz _ _ _ h
  |false=>exact h
theorem wY{code:List II}{k:Nat}(hk:k<code.length):code[k]? =some (code.getD k II.zero):=by rw[ax,ak hk];rfl
theorem sD{code:List II}(hw:WfC code):∀(k:Nat),k≤code.length→∀(U:List Bool) (i:Nat),k≤i→us (kf code k U) i→us U i
 |0,_,_,_,_,h=>h
 |k+1,hk,U,i,hi,h=>by
  have h:us (kf code k (bif U.getD k false&&kp (code.getD k II.zero)then iE U [(code.getD k II.zero).a,(code.getD k II.zero).b]else U)) i:=h;have h1:=sD hw k (by omega) _ i (by omega) h;cases hc:U.getD k false&&kp (code.getD k II.zero)with
  |false=>rw[hc]at h1;exact h1
  |true=>
   rw[hc,ac]at h1;obtain⟨ha,hb⟩:=hw k _ (wY (by omega)) (by simp only[aB]at hc;exact hc.2);rcases tI _ _ _ h1 with h2|⟨n,h2,h3,h4⟩
   ·exact h2
   simp only[aM,a9,or_false]at h2;rcases h2 with rfl|rfl<;>omega
theorem oL{code:List II}(hw:WfC code):∀(k:Nat),k≤code.length→∀(U:List Bool),U.length=code.length→∀(i:Nat),i<k→us (kf code k U) i→kp (code.getD i II.zero)=true→us (kf code k U) (code.getD i II.zero).a.toNat∧us (kf code k U) (code.getD i II.zero).b.toNat
 |0,_,_,_,i,hi,_,_=>absurd hi (by omega)
 |k+1,hk,U,hU,i,hi,h,hab=>by
  obtain⟨U',hU'⟩:∃U',(bif U.getD k false&&kp (code.getD k II.zero)then iE U [(code.getD k II.zero).a,(code.getD k II.zero).b]else U)=U':=⟨_,rfl⟩;have e:kf code (k+1) U=kf code k U':=by rw[←hU'];rfl
  have hl:U'.length=code.length:=by
   rw[←hU',←hU];cases U.getD k false&&kp (code.getD k II.zero)with
   |true=>exact fY _ _
   |false=>rfl
  rw[e]at h⊢;by_cases hik:i=k
  ·subst hik;have h1:=sD hw i (by omega) U' i (aQ _) h;obtain⟨ha,hb⟩:=hw i _ (wY (by omega)) hab;have hUi:us U i:=by
    cases hc:U.getD i false&&kp (code.getD i II.zero)with
    |false=>rw[hc,aa]at hU';rw[hU'];exact h1
    |true=>simp only[aB]at hc;exact hc.1
   have hc:(U.getD i false&&kp (code.getD i II.zero))=true:=by rw[hab,Bool.and_true];exact hUi
   rw[hc,ac]at hU';rw[←hU'];exact⟨lh code i _ _ (mI _ _ _ (by simp) ha.1 (by omega)),lh code i _ _ (mI _ _ _ (by simp) hb.1 (by omega))⟩
  exact oL hw k (by omega) U' hl i (by omega) h hab
section
variable {D R:List Int}
structure FInv(U:List Bool)(code:List II)(i:Nat)(pl:List Int)(c:List II)(D R:List Int):Prop where
 len:pl.length=code.length
 val:∀n,n<i→us U n→II.in_ (pl.getD n 0) c∧dZ D R c (pl.getD n 0)=dZ D R code n
def WfO(code:List II):Prop:=∀(i:Nat) (x:II),code[i]? =some x→(x.op=0∨x.op=1∨x.op=2)∨kp x=true
theorem sY{V V':List Int}{x:II}(h:x.op=0∨x.op=1∨x.op=2)(y:II)(h1:y.op=x.op)(h2:y.imm=x.imm):kg D R V y=kg D R V' x:=by
 obtain⟨op,dst,a,b,imm⟩:=x;obtain⟨op2,dst2,a2,b2,imm2⟩:=y;dsimp only at h h1 h2;subst h1 h2;rcases h with rfl|rfl|rfl<;>rfl
theorem vy{V V':List Int}{x y:II}(h1:y.op=x.op)(h2:y.imm=x.imm)(hx:kp x=true)(ha:V.getD y.a.toNat 0=V'.getD x.a.toNat 0)(hb:V.getD y.b.toNat 0=V'.getD x.b.toNat 0):kg D R V y=kg D R V' x:=by
 obtain⟨op,dst,a,b,imm⟩:=x;obtain⟨op2,dst2,a2,b2,imm2⟩:=y;dsimp only at h1 h2 ha hb;subst h1 h2;unfold kp at hx;simp only[Bool.or_eq_true,beq_iff_eq]at hx;rcases hx with rfl|rfl
 ·show(iq imm2 (V.getD a2.toNat 0) (V.getD b2.toNat 0)).1=(iq imm2 (V'.getD a.toNat 0) (V'.getD b.toNat 0)).1;rw[ha,hb]
 show(iq imm2 (V.getD a2.toNat 0) (V.getD b2.toNat 0)).2.1=(iq imm2 (V'.getD a.toNat 0) (V'.getD b.toNat 0)).2.1;rw[ha,hb]
theorem xu{code c:List II}{pl:List Int}{x:II}{n:Nat}(ho:(x.op=0∨x.op=1∨x.op=2)∨kp x=true)(ha:kp x=true→dZ D R c (pl.getD x.a.toNat 0)=dZ D R code x.a∧dZ D R c (pl.getD x.b.toNat 0)=dZ D R code x.b):
  kg D R (IQ D R c) (mT x pl n)=kg D R (IQ D R code) x:=by
 rcases ho with ho|hx
 ·have hx:kp x=false:=by unfold kp;rcases ho with h|h|h<;>rw[h]<;>rfl
  have e:mT x pl n=⟨x.op,n,x.a,x.b,x.imm⟩:=by unfold mT;rw[hx];rfl
  rw[e];exact sY ho _ rfl rfl
 have e:mT x pl n=⟨x.op,n,pl.getD x.a.toNat 0,pl.getD x.b.toNat 0,x.imm⟩:=by unfold mT;rw[hx];rfl
 obtain⟨h1,h2⟩:=ha hx;rw[e];exact vy rfl rfl hx h1 h2
theorem Ae{code:List II}(hw:WfC code)(ho:WfO code){i:Nat}{x:II}(hx:code[i]? =some x):dZ D R code i=kg D R (IQ D R code) x:=by
 obtain⟨hi,hxe⟩:=au.1 hx;have hsp:code=(code.take i++[x])++code.drop (i+1):=by rw[←hxe,aq,List.singleton_append,←List.drop_eq_getElem_cons hi,List.take_append_drop]
 have hl:(code.take i).length=i:=by rw[az];omega
 have e1:dZ D R code i=dZ D R (code.take i++[x]) i:=by
  conv=>lhs;rw[hsp]
  exact g9 ⟨by omega,by rw[ae,hl];simp;omega⟩
 have e2:dZ D R (code.take i++[x]) i=kg D R (IQ D R (code.take i)) x:=by
  have:=i7 (D:=D) (R:=R) (code.take i) x;rw[hl]at this;exact this
 rw[e1,e2];rcases ho i x hx with h|h
 ·exact sY h _ rfl rfl
 obtain⟨⟨a1,a2⟩,b1,b2⟩:=hw i x hx h;have hsp2:code=code.take i++code.drop i:=(List.take_append_drop i code).symm;have ea:dZ D R code x.a=dZ D R (code.take i) x.a:=by
  conv=>lhs;rw[hsp2]
  exact g9 ⟨a1,by rw[hl];exact a2⟩
 have eb:dZ D R code x.b=dZ D R (code.take i) x.b:=by
  conv=>lhs;rw[hsp2]
  exact g9 ⟨b1,by rw[hl];exact b2⟩
 exact vy rfl rfl h ea.symm eb.symm
theorem DW{U:List Bool}{code:List II}(hw:WfC code)(ho:WfO code)(hcl:∀(i:Nat) (x:II),code[i]? =some x→us U i→kp x=true→us U x.a.toNat∧us U x.b.toNat):∀(suf:List II) (i:Nat) (pl:List Int) (c:List II),code.drop i=suf→i≤code.length→
  FInv U code i pl c D R→FInv U code code.length (kF U suf i pl c).1 (kF U suf i pl c).2 D R
 |[],i,pl,c,hs,hi,h=>by
  have:code.length=i:=by
   have:=congrArg List.length hs;rw[bz]at this;simp at this;omega
  rw[this];exact h
 |x::suf,i,pl,c,hs,hi,h=>by
  have hil:i<code.length:=by
   have:=congrArg List.length hs;rw[bz]at this;simp at this;omega
  have hx:code[i]? =some x:=by rw[List.drop_eq_getElem_cons hil]at hs;injection hs with h1 h2;rw[ak hil,h1]
  have hs':code.drop (i+1)=suf:=by rw[List.drop_eq_getElem_cons hil]at hs;injection hs
  cases hu:U.getD i false with
  |false=>
   have e:kF U (x::suf) i pl c=kF U suf (i+1) pl c:=by show(bif U.getD i false then _ else _)=_;rw[hu];rfl
   rw[e];refine DW hw ho hcl suf (i+1) pl c hs' (by omega) ⟨h.len,fun n hn hun=>?_⟩;by_cases en:n=i
   ·subst en;rw[us,hu]at hun;cases hun
   exact h.val n (by omega) hun
  |true=>
   have e:kF U (x::suf) i pl c=kF U suf (i+1) (pl.set i (c.length:Int)) (c++[mT x (pl.set i (c.length:Int)) c.length]):=by show(bif U.getD i false then _ else _)=_;rw[hu];rfl
   rw[e];refine DW hw ho hcl suf (i+1) _ _ hs' (by omega) ⟨by rw[aL];exact h.len,fun n hn hun=>?_⟩;have hlen:=h.len;by_cases en:n=i
   ·subst en;rw[da (by omega)];refine⟨mb _ _,?_⟩;rw[i7,Ae hw ho hx];refine xu (ho n x hx) (fun hab=>?_);obtain⟨⟨a1,a2⟩,b1,b2⟩:=hw n x hx hab;obtain⟨ua,ub⟩:=hcl n x hx hu hab;have ea:((x.a.toNat:Nat):Int)=x.a:=by omega
    have eb:((x.b.toNat:Nat):Int)=x.b:=by omega
    have ha:=(h.val x.a.toNat (by omega) ua).2;have hb:=(h.val x.b.toNat (by omega) ub).2;rw[ea]at ha;rw[eb]at hb;rw[cK (by omega),cK (by omega)];exact⟨ha,hb⟩
   obtain⟨h1,h2⟩:=h.val n (by omega) hun;rw[cK (fun x=>en x.symm)];exact⟨pV _ h1,(g9 h1).trans h2⟩
structure Raw(p:Pg):Prop where
 wf:WfC p.code
 ops:WfO p.code
 Iq:∀n,n∈p.Iq→II.in_ n p.code
 Ir:∀n,n∈p.Ir→II.in_ n p.code
 flags:p.flags= -1∨II.in_ p.flags p.code
 target:p.target= -1∨II.in_ p.target p.code
theorem Cq{p:Pg}(h:Raw p){n:Int}(hn:n∈p.Iq∨n∈p.Ir∨n=p.flags∨n=p.target)(h0:II.in_ n p.code):
  II.in_ ((eu p).1.getD n.toNat 0) (eu p).2∧dZ D R (eu p).2 ((eu p).1.getD n.toNat 0)=dZ D R p.code n:=by
 have hl0:(AU p).length=p.code.length:=by unfold AU;rw[fY,fY,fY,aO]
 have hcl:∀(i:Nat) (x:II),p.code[i]? =some x→us (fU p) i→kp x=true→us (fU p) x.a.toNat∧us (fU p) x.b.toNat:=fun i x hx hu hab=>by
  have hi:i<p.code.length:=(au.1 hx).1;have e:p.code.getD i II.zero=x:=by rw[ax,hx];rfl
  have:=oL h.wf p.code.length (aQ _) (AU p) hl0 i hi hu (by rw[e];exact hab);rw[e]at this;exact this
 have hF:=DW (D:=D) (R:=R) (U:=fU p) h.wf h.ops hcl p.code 0 (List.replicate p.code.length 0) [] (by simp) (aw _) ⟨by simp,fun n hn=>absurd hn (by omega)⟩;obtain⟨i0,i1⟩:=h0;have en:((n.toNat:Nat):Int)=n:=by omega
 have hu:us (fU p) n.toNat:=by
  refine lh p.code p.code.length _ _ ?_;unfold AU;rcases hn with hn|hn|hn
  ·exact jz _ _ _ (jz _ _ _ (mI _ _ _ hn i0 (by simp;omega)))
  ·exact jz _ _ _ (mI _ _ _ hn i0 (by rw[fY];simp;omega))
  exact mI _ _ _ (by simpa using hn) i0 (by rw[fY,fY];simp;omega)
 have:=hF.val n.toNat (by omega) hu;rw[en]at this;exact this
end
def ImC(code:List II):Prop:=∀x,x∈code→0≤x.imm∧x.imm≤4294967295
structure lx(w:Lw):Prop where
 d:∀n,n∈w.d.l→II.in_ n w.code
 r:∀n,n∈w.r.l→II.in_ n w.code
 wf:WfC w.code
 ops:WfO w.code
 flags:w.flags= -1∨II.in_ w.flags w.code
 target:w.target= -1∨II.in_ w.target w.code
 imm:ImC w.code
theorem ImC.snoc{c:List II}{x:II}(h:ImC c)(hx:0≤x.imm∧x.imm≤4294967295):ImC (c++[x]):=fun y hy=>by
 rcases aV.1 hy with h1|h1
 ·exact h y h1
 rw[aN.1 h1];exact hx
theorem WfC.snoc{c:List II}{x:II}(h:WfC c)(hx:kp x=true→(0≤x.a∧x.a<c.length)∧(0≤x.b∧x.b<c.length)):WfC (c++[x]):=fun i y hy hab=>by
 by_cases hi:i<c.length
 ·rw[bE hi]at hy;exact h i y hy hab
 rw[bG (by omega)]at hy;by_cases e:i - c.length=0
 ·rw[e]at hy;obtain rfl:x=y:=by simpa using hy
  have:=hx hab;omega
 rw[List.getElem?_eq_none (by simp;omega)]at hy;cases hy
theorem WfO.snoc{c:List II}{x:II}(h:WfO c)(hx:(x.op=0∨x.op=1∨x.op=2)∨kp x=true):WfO (c++[x]):=fun i y hy=>by
 by_cases hi:i<c.length
 ·rw[bE hi]at hy;exact h i y hy
 rw[bG (by omega)]at hy;by_cases e:i - c.length=0
 ·rw[e]at hy;obtain rfl:x=y:=by simpa using hy
  exact hx
 rw[List.getElem?_eq_none (by simp;omega)]at hy;cases hy
theorem CI{k:Int}(hk:k=1∨k=2){c:List II}{s:Sd}(h:∀n,n∈s.l→II.in_ n c)(hw:WfC c)(ho:WfO c)(hm_:ImC c):
  II.in_ (eW k c s).1 (eW k c s).2.1∧(∀n,n∈(eW k c s).2.2.l→II.in_ n (eW k c s).2.1)∧WfC (eW k c s).2.1∧WfO (eW k c s).2.1∧ImC (eW k c s).2.1∧∃e,(eW k c s).2.1=c++e:=by
 unfold eW;cases hl:s.l.getLast? with
 |some n=>
  obtain⟨m,hm⟩:∃m,s.l=m++[n]:=List.getLast?_eq_some_iff.1 hl;refine⟨h n (by rw[hm];simp),fun j hj=>h j ?_,hw,ho,hm_,[],by simp⟩;rw[hm]at hj⊢;simp at hj⊢;exact Or.inl hj
 |none=>
  refine⟨mb _ _,fun j hj=>(by cases hj),hw.snoc (fun hab=>?_),ho.snoc (Or.inl ?_),hm_.snoc (by show 0≤IntKind.u32.wrap s.Ik∧IntKind.u32.wrap s.Ik≤_;rw[aE];omega),_,rfl⟩
  ·rcases hk with rfl|rfl<;>cases hab
  rcases hk with rfl|rfl
  ·exact Or.inr (Or.inl rfl)
  exact Or.inr (Or.inr rfl)
theorem Bb{c c':List II}{n:Int}(h:II.in_ n c)(he:∃e,c'=c++e):II.in_ n c':=by obtain⟨e,rfl⟩:=he;exact pV e h
theorem AS{c c':List II}{n:Int}(h:n= -1∨II.in_ n c)(he:∃e,c'=c++e):n= -1∨II.in_ n c':=h.imp id fun h=>Bb h he
theorem lx.In{w:Lw}(h:lx w):lx w.In.2∧II.in_ w.In.1 w.In.2.code∧∃e,w.In.2.code=w.code++e:=by
 obtain⟨h1,h2,h3,h4,h6,h5⟩:=CI (k:=1) (Or.inl rfl) h.d h.wf h.ops h.imm;exact⟨⟨h2,fun n hn=>Bb (h.r n hn) h5,h3,h4,AS h.flags h5,AS h.target h5,h6⟩,h1,h5⟩
theorem lx.IS{w:Lw}(h:lx w):lx w.IS.2∧II.in_ w.IS.1 w.IS.2.code∧∃e,w.IS.2.code=w.code++e:=by
 obtain⟨h1,h2,h3,h4,h6,h5⟩:=CI (k:=2) (Or.inr rfl) h.r h.wf h.ops h.imm;exact⟨⟨fun n hn=>Bb (h.d n hn) h5,h2,h3,h4,AS h.flags h5,AS h.target h5,h6⟩,h1,h5⟩
theorem lx.pop2{w:Lw}(h:lx w):lx w.In.2.In.2∧II.in_ w.In.1 w.In.2.In.2.code∧II.in_ w.In.2.In.1 w.In.2.In.2.code:=by
 obtain⟨h1,h2, -⟩:=h.In;obtain⟨k1,k2,k3⟩:=h1.In;exact⟨k1,Bb h2 k3,k2⟩
theorem lx.IX{w:Lw}(h:lx w)(l:List Int)(hl:∀n,n∈l→II.in_ n w.code):lx (w.IX l):=⟨fun n hn=>by rcases aV.1 hn with q|q;exact h.d n q;exact hl n q,h.r,h.wf,h.ops,h.flags,h.target,h.imm⟩
theorem lx.Jq{w:Lw}(h:lx w)(l:List Int)(hl:∀n,n∈l→II.in_ n w.code):lx (w.Jq l):=⟨h.d,fun n hn=>by rcases aV.1 hn with q|q;exact h.r n q;exact hl n q,h.wf,h.ops,h.flags,h.target,h.imm⟩
theorem lx.add{w:Lw}(h:lx w)(op a b imm:Int)(him:0≤imm∧imm≤4294967295)(ho:op=0∨((op=3∨op=4)∧II.in_ a w.code∧II.in_ b w.code)):lx (w.add op a b imm)∧II.in_ w.here (w.add op a b imm).code:=by
 have he:∃e,(w.add op a b imm).code=w.code++e:=⟨_,rfl⟩;refine⟨⟨fun n hn=>Bb (h.d n hn) he,fun n hn=>Bb (h.r n hn) he,h.wf.snoc (fun hab=>?_),h.ops.snoc ?_,AS h.flags he,AS h.target he,h.imm.snoc him⟩,mb _ _⟩
 ·rcases ho with rfl|⟨-,⟨a1,a2⟩,b1,b2⟩
  ·cases hab
  exact⟨⟨a1,a2⟩,b1,b2⟩
 rcases ho with rfl|⟨rfl|rfl, -⟩
 ·exact Or.inl (Or.inl rfl)
 ·exact Or.inr rfl
 exact Or.inr rfl
theorem lx.Io{w:Lw}(h:lx w):lx w.Io:=⟨h.d,h.r,h.wf,h.ops,h.flags,h.target,h.imm⟩
theorem lx.wfl{w:Lw}(h:lx w){x:Int}(hx:II.in_ x w.code):lx (w.wfl x):=⟨h.d,h.r,h.wf,h.ops,Or.inr hx,h.target,h.imm⟩
theorem lx.wtg{w:Lw}(h:lx w){x:Int}(hx:II.in_ x w.code):lx (w.wtg x):=⟨h.d,h.r,h.wf,h.ops,h.flags,Or.inr hx,h.imm⟩
theorem lx.wbr{w:Lw}(h:lx w)(x:Int):lx (w.wbr x):=⟨h.d,h.r,h.wf,h.ops,h.flags,h.target,h.imm⟩
theorem F4{op:Int}(hp:dD op=true){w:Lw}(h:lx w){n nx:Int}(hn:u32 n)(hnx:u32 nx):lx (w.one op n nx):=by
 refine lx.Io ?_;have sing:∀{c:List II} {x:Int},II.in_ x c→∀n,n∈[x]→II.in_ n c:=fun hx n hn=>by rw[aN.1 hn];exact hx
 obtain⟨d1,d2,d3⟩:=h.In;obtain⟨r1,r2,r3⟩:=h.IS;obtain⟨p1,p2,p3⟩:=h.pop2;rcases nV hp with rfl|rfl|rfl|rfl|rfl|rfl|rfl|rfl|rfl|hr|hr|rfl|hr|rfl|rfl|rfl
 ·exact h
 ·exact(h.add 0 0 0 n hn (Or.inl rfl)).1.IX _ (sing (h.add 0 0 0 n hn (Or.inl rfl)).2)
 ·exact(h.add 0 0 0 n hn (Or.inl rfl)).1.IX _ (sing (h.add 0 0 0 n hn (Or.inl rfl)).2)
 ·exact d1.IX _ (fun n hn=>by simp at hn;rw[hn];exact d2)
 ·exact d1
 ·exact p1.IX _ (fun n hn=>by simp at hn;rcases hn with rfl|rfl<;>assumption)
 ·exact p1.IX _ (fun n hn=>by simp at hn;rcases hn with h|h|h<;>rw[h]<;>assumption)
 ·exact d1.Jq _ (sing d2)
 ·exact r1.IX _ (sing r2)
 ·rw[kE (Or.inl hr)];unfold Lw.reckon;rw[show(op !=25)=true by simp;omega];obtain⟨a1,a2⟩:=p1.add 4 w.In.2.In.1 w.In.1 op (by omega) (Or.inr ⟨Or.inr rfl,p3,p2⟩);obtain⟨b1,b2⟩:=(a1.wfl a2).add 3 w.In.2.In.1 w.In.1 op (by omega) (Or.inr ⟨Or.inl rfl,pV _ p3,pV _ p2⟩);exact b1.IX _ (sing b2)
 ·rw[kE (Or.inr hr)];subst hr;obtain⟨a1,a2⟩:=p1.add 4 w.In.2.In.1 w.In.1 25 (by omega) (Or.inr ⟨Or.inr rfl,p3,p2⟩);exact a1.wfl a2
 ·exact h
 ·have h5:op=33∨op=34∨op=35∨op=36∨op=37:=by omega
  rcases h5 with rfl|rfl|rfl|rfl|rfl<;>exact h.wbr _
 ·exact(h.add 0 0 0 nx hnx (Or.inl rfl)).1.Jq _ (sing (h.add 0 0 0 nx hnx (Or.inl rfl)).2)
 ·exact r1.wtg r2
 exact d1.wtg d2
def Lw.init:Lw:=⟨[],⟨[],0,0⟩,⟨[],0,0⟩, -1, -1,0⟩
def lT(pc:Int)(w:Lw):List (Int×Int)→Option (Int×Lw)
 |[]=>some (pc,w)
 |i::l=>bif(!gX i.1 i.2|| !dD i.1)||(gq i.1&& !l.isEmpty)then none else lT (IntKind.u32.wrap (pc+IntKind.u32.wrap (cG i.1))) (w.one i.1 i.2 (IntKind.u32.wrap (pc+IntKind.u32.wrap (cG i.1)))) l
def uG(nx:Int)(w:Lw)(i:Int×Int)(n:Nat):Pg:=
 ⟨w.code,w.d.Ik,w.r.Ik,w.d.high,w.r.high,w.d.l,w.r.l,w.flags,bif i.1==32||i.1==38 then IntKind.u32.wrap (nx+kL i.2)else nx,w.target,w.branch,bif i.1==32||i.1==38 then 0 else bif w.branch !=0 then IntKind.u32.wrap (nx+kL i.2)else 0,n,w.code.length⟩
def fq(pc:Int)(l:List (Int×Int)):Option Pg:=
 bif decide ((l.length:Int)<1)||decide (8<(l.length:Int))then none else
 match lT pc Lw.init l with
 |none=>none
 |some (nx,w)=>some (cN (uG nx w (l.getLastD (0,0)) l.length))
theorem rF:lx Lw.init:=⟨fun _ h=>(by cases h),fun _ h=>(by cases h),fun _ _ h=>(by cases h),fun _ _ h=>(by cases h),Or.inl rfl,Or.inl rfl,fun _ h=>(by cases h)⟩
theorem kD{pc:Int}{w:Lw}{i:Int×Int}{l:List (Int×Int)}{q:Int×Lw}(h:lT pc w (i::l)=some q):
  gX i.1 i.2=true∧dD i.1=true∧(l≠[]→gq i.1=false)∧lT (IntKind.u32.wrap (pc+IntKind.u32.wrap (cG i.1))) (w.one i.1 i.2 (IntKind.u32.wrap (pc+IntKind.u32.wrap (cG i.1)))) l=some q:=by
 have h:(bif(!gX i.1 i.2|| !dD i.1)||(gq i.1&& !l.isEmpty)then none else lT (IntKind.u32.wrap (pc+IntKind.u32.wrap (cG i.1))) (w.one i.1 i.2 (IntKind.u32.wrap (pc+IntKind.u32.wrap (cG i.1)))) l)=some q:=h;cases hc:(!gX i.1 i.2|| !dD i.1)||(gq i.1&& !l.isEmpty)with
 |true=>rw[hc]at h;cases h
 |false=>
  rw[hc,aa]at h;simp only[bl,Bool.not_eq_false',Bool.and_eq_false_iff]at hc;refine⟨hc.1.1,hc.1.2,fun hl=>?_,h⟩;rcases hc.2 with h1|h1
  ·exact h1
  cases l with
  |nil=>exact absurd rfl hl
  |cons=>cases h1
theorem s6(x:Int):u32 (IntKind.u32.wrap x):=by unfold u32;rw[aE];omega
theorem qC:∀(l:List (Int×Int)) (pc:Int) (w:Lw) (q:Int×Lw),(∀i,i∈l→u32 i.2)→lT pc w l=some q→lx w→lx q.2∧fI w q.2∧(l≠[]→u32 q.1)
 |[],pc,w,q,_,h,hw=>by obtain rfl:(pc,w)=q:=aJ h;exact⟨hw,fI.refl _,fun e=>absurd rfl e⟩
 |i::l,pc,w,q,hu,h,hw=>by
  obtain⟨-,h2, -,h4⟩:=kD h;obtain⟨k1,k2,k3⟩:=qC l _ _ q (fun j hj=>hu j (bC _ hj)) h4 (F4 h2 hw (hu i (by simp)) (s6 _));refine⟨k1,(we h2 w _ _).trans k2,fun _=>?_⟩;cases l with
  |nil=>obtain rfl:=aJ h4;exact s6 _
  |cons j l=>exact k3 (by simp)
theorem EF{b:Bool}{x y:Run}(hx:x.device=false)(hy:y.device=false):(bif b then x else y).device=false:=by cases b<;>assumption
section
variable {n:Nat} {op nn:Int} {s:St} {U:Mmu} {d:Dev}
theorem CS(h:dD op=true):∃R:Run,R.device=false∧rA n s op nn U d=⟨R,U,d⟩∧wk s op nn=R:=by
 have hc:op=0∨op=1∨op=2∨op=3∨op=4∨op=5∨op=6∨op=7∨op=8∨op=16∨op=17∨op=18∨op=19∨op=20∨op=21∨op=22∨op=23∨op=25∨op=32∨op=33∨op=34∨op=35∨op=36∨op=37∨op=38∨op=39∨op=40:=by
  rcases iS h with h|h|h|h<;>omega
 rcases hc with rfl|rfl|rfl|rfl|rfl|rfl|rfl|rfl|rfl|rfl|rfl|rfl|rfl|rfl|rfl|rfl|rfl|rfl|rfl|rfl|rfl|rfl|rfl|rfl|rfl|rfl|rfl<;>
  first
  |exact⟨_,rfl,rfl,rfl⟩
  |exact⟨_,EF rfl rfl,rfl,rfl⟩
  |(refine⟨_,?_,rfl,rfl⟩;exact EF (b:=(iq _ (eY s _).pop.top (eY s _).top).2.2) (x:=(eY s _).pop.pop) (y:=(eY s _).pop.pop.wt ⟨5,0⟩) rfl rfl)
theorem y8(h:dD op=true)(hr:s.right=true):vd n s op nn U d=(doN s op nn,⟨U.m.calm,U.t⟩,d)∧(doN s op nn).device=false∧(doN s op nn).Ig=[]:=by
 obtain⟨R,h1,h2,h3⟩:=CS (n:=n) (s:=s) (nn:=nn) (U:=⟨U.m.calm,U.t⟩) (d:=d) h;unfold vd doN;rw[hr,h2,h3];simp only[Bool.not_true,aa];cases(gg s op nn !=0)with
 |true=>exact⟨rfl,rfl,rfl⟩
 |false=>
  simp only[aa];have e:Bl s ⟨R,⟨U.m.calm,U.t⟩,d⟩=H6 s R:=by
   unfold Bl H6;rw[show iB U.m.calm.Ip 64=[]from Am]
  rw[e];unfold H6;cases(R.Iv.Im !=0)with
  |true=>exact⟨rfl,h1,rfl⟩
  |false=>exact⟨rfl,h1,rfl⟩
theorem xP(h:dD op=true)(hw:s.wf)(hr:s.right=true)(hnn:u32 nn)(hU:UOk n U)(hd:d.ok):(doN s op nn).s.wf∧(doN s op nn).s.right=true:=by
 have hg:=sc (op:=op) (nn:=nn) hw hr hnn hU hd;rw[(y8 (n:=n) (nn:=nn) (U:=U) (d:=d) h hr).1]at hg;exact⟨hg.wf,hg.right⟩
end
inductive BB:List (Int×Int)→St→St→Prop
 |nil (s:St):BB [] s s
 |cons {op nn:Int} {l:List (Int×Int)} {s s1 s2:St} (hp:dD op=true) (hr:s.right=true) (h:doN s op nn=⟨s1,false,false,[]⟩) (hm:l≠[]→gq op=false∧s1.pc=dS s op) (k:BB l s1 s2):BB ((op,nn)::l) s s2
def Ie(s s':St)(k:Nat):Prop:=s'=⟨s'.pc,s'.d,s'.r,s'.flags,s.Il,s.It,s.ie,s.root,s.vec,s.epc,s.Im,s.addr,s.Ix,s.eie,IntKind.u64.wrap (s.count+k),s.halted⟩
theorem Ie.trans{a b c:St}{j:Nat}(h:Ie a b 1)(k:Ie b c j):Ie a c (j+1):=by
 unfold Ie at h k⊢;rw[h]at k;dsimp only at k;rw[k];have e:IntKind.u64.wrap (IntKind.u64.wrap (a.count+((1:Nat):Int))+(j:Int))=IntKind.u64.wrap (a.count+((j+1:Nat):Int)):=by simp only[aW];omega
 rw[e]
theorem Ed{op:Int}(hp:dD op=true)(h:gq op=false):op<32:=by
 unfold gq at h;simp only[bl,Bool.and_eq_false_iff,aj]at h;rcases iS hp with q|q|q|q<;>omega
theorem ze{n:Nat}{U:Mmu}{d:Dev}(hU:UOk n U)(hdv:d.ok){D R:List Int}{f0:Int}(hD:D.length≤16)(hR:R.length≤16):∀(l:List (Int×Int)) (s:St) (w:Lw) (q:Int×Lw),l≠[]→(∀i,i∈l→u32 i.2)→lT s.pc w l=some q→s.wf→s.right=true→
  LI D R w s.d s.r→FL D R f0 w s.flags→w.target= -1→w.branch=0→q.2.d.Ik≤(D.length:Int)→q.2.r.Ik≤(R.length:Int)→(D.length:Int)+q.2.d.high≤16→(R.length:Int)+q.2.r.high≤16→
  ∃s',BB l s s'∧s'.wf∧s'.right=true∧LI D R q.2 s'.d s'.r∧FL D R f0 q.2 s'.flags∧s'.pc=pI D R q.2 (l.getLastD (0,0)).1 (l.getLastD (0,0)).2 q.1 s'.flags∧Ie s s' l.length∧(((l.getLastD (0,0)).1==32||(l.getLastD (0,0)).1==38)=true→q.2.branch=0)
 |[],_,_,_,hl,_,_,_,_,_,_,_,_,_,_,_,_=>absurd rfl hl
 |(op,nn)::l,s,w,q,hl,hu,h,hwf,hr,hli,hfl,htg,hbr,n1,n2,g1,g2=>by
  obtain⟨h1,h2,h3,h4⟩:=kD h;dsimp only at h1 h2 h3 h4;have hm:fI (w.one op nn (dS s op)) q.2:=by
   have:∀(l:List (Int×Int)) (pc:Int) (w:Lw) (q:Int×Lw),lT pc w l=some q→fI w q.2:=by
    intro l
    induction l with
    |nil=>intro pc w q h;obtain rfl:(pc,w)=q:=aJ h;exact fI.refl _
    |cons i l ih=>intro pc w q h;obtain⟨-,h2, -,h4⟩:=kD h;exact(we h2 w _ _).trans (ih _ _ _ h4)
   exact this l _ _ q h4
  have hnn:u32 nn:=hu (op,nn) (by simp);obtain⟨s1,hs⟩:=one_ok (nn:=nn) h2 h1 hr hli hfl hD hR htg hbr (Int.le_trans hm.nd n1) (Int.le_trans hm.nr n2) (by have:=hm.hd;omega) (by have:=hm.hr;omega);have hgo:=xP (nn:=nn) h2 hwf hr hnn hU hdv;rw[hs.did]at hgo;have hk1:Ie s s1 1:=hs.rest;cases l with
  |nil=>
   obtain rfl:(dS s op,w.one op nn (dS s op))=q:=aJ h4;exact⟨s1,.cons h2 hr hs.did (fun e=>absurd rfl e) (.nil s1),hgo.1,hgo.2,hs.li,hs.fl,hs.pc,hk1,fun he=>(by
    have he:(op==32||op==38)=true:=he;simp only[Bool.or_eq_true,beq_iff_eq]at he;rcases he with rfl|rfl<;>exact hbr)⟩
  |cons j l=>
   have he:=h3 (by simp);have hlt:=Ed h2 he;obtain⟨t1,b1⟩:=hs.going hlt;have hpc:s1.pc=dS s op:=hs.pc.trans (qK b1 t1 (by
    have e1:(op==32)=false:=by simp;omega
    have e2:(op==38)=false:=by simp;omega
    rw[e1,e2];rfl))
   have h4:lT s1.pc (w.one op nn (dS s op)) (j::l)=some q:=by rw[hpc];exact h4
   obtain⟨s',c1,c2,c3,c4,c5,c6,c7,c8⟩:=ze hU hdv hD hR (j::l) s1 (w.one op nn (dS s op)) q (by simp) (fun i hi=>hu i (bC _ hi)) h4 hgo.1 hgo.2 hs.li hs.fl t1 b1 n1 n2 g1 g2;exact⟨s',.cons h2 hr hs.did (fun _=>⟨he,hpc⟩) c1,c2,c3,c4,c5,c6,hk1.trans c7,c8⟩
end Go.Ink
