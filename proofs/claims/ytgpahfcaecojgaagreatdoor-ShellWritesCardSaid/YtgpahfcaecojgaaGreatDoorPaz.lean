/- Lemmas. -/
import Derived.Test.YtgpahfcaecojgaaGreatDoorPay
set_option linter.all false
set_option maxRecDepth 100000
set_option maxHeartbeats 4000000
namespace Go.Ink
open Go.RowKit Go.Proofs.Tryz
section
variable {l m:List Ag} {x y:It} {a b:Ag} {i j k:Nat}
structure KillR(k:Nat)(m l:List Ag):Prop where
 len:m.length=l.length
 oth:∀j:Nat,j≠k->m[j]? =l[j]?
 dead:∃a,m[k]? =some a/\a.dead=true
end
def Sub(A:Oa)(c:Nat)(xs:Li)(A':Oa)(c':Nat)(xs':Li):Prop:=∀w,Rd w .u8 A xs.length c xs->Rd w .u8 A' xs'.length c' xs'
variable{A:Oa}{c:Nat}{xs:Li}
theorem Sub.trans{A' A2:Oa}{c' c2:Nat}{xs' xs2:Li}(h:Sub A c xs A' c' xs')(h':Sub A' c' xs' A2 c2 xs2):Sub A c xs A2 c2 xs2:=λw hw=>h' w (h w hw)
theorem Sub.nil(A:Oa)(c:Nat)(xs:Li):Sub A c xs none 0 []:=λw _=>nH w .u8
theorem Sub.drop(A:Oa)(c:Nat)(xs:Li){k:Nat}(hk:k<=xs.length):Sub A c xs (if c=k then A else A.map (·.add (k*1))) (c - k) (xs.drop k):=λw h=>by
 rw[bH];exact Nh h hk
theorem F6(k:IntKind)(x y:Int):bits .or k x y=bits .or k y x:=by
 unfold bits;dsimp only;rw[BitVec.or_comm]
theorem Cj(n:Int)(h₀:0<=n)(h₁:n<2^63):IntKind.i64.wrap n=n:=bD _ ⟨by omega,by omega⟩
theorem or_hi{a b:Int}(ha:0<=a/\a<=255)(hb:0<=b/\b<=255):bits .or .i64 a (b*256)=a+256*b:=by
 rw[F6,bits_join .i64 63 bX Cj 8 (b*256) a Wq1 Wq1 Wq1 Wq1 Wq1 Wq1];omega
theorem or_zero{a:Int}(ha:0<=a/\a<=255):bits .or .i64 0 a=a:=by
 rw[bits_join .i64 63 bX Cj 8 0 a Wq1 Wq1 Wq1 Wq1 Wq1 Wq1];omega
variable{n:Nat}{s:RS9}
theorem jK(h:u8s s.1):u8s (gD n s).1/\u8s (gD n s).2.1:=by
 unfold gD;split
 .exact⟨λx hx=>h x (aB hx),λx hx=>h x (bG hx)⟩
 exact⟨fa,fa⟩
theorem qv:(gD n s).1.length<=n:=by
 unfold gD;split
 .exact List.length_take_le ..
 exact ap _
variable{l:Li}
theorem Dg(h:u8s l):0<=qB l/\qB l<=65535:=by
 match l with
 |[]=>exact⟨Int.le_refl _,by decide⟩
 |[a]=>
  have:=h a (.head _);exact⟨this.1,by show a<=65535;omega⟩
 |a::b::r=>
  have:=h a (.head _);have:=h b (.tail _ (.head _));show 0<=a+256*b/\a+256*b<=65535;omega
theorem uD(h:u8s s.1):0<=(me n s).1/\(me n s).1<=65535:=Dg (jK h).1
theorem Dh(h:l.length<=1)(hb:u8s l):qB l<=255:=by
 match l,h with
 |[],_=>exact show(0:Int)<=255 by decide
 |[a],_=>exact(hb a (.head _)).2
abbrev sU(b:Nat)(A:Oa)(c:Nat)(s:RS9):bJ:=row b [.slice A s.1.length c,.bool s.2] 98
structure Scr where
 A:Option Addr
 c:Nat
 L:List Im
 J:List bJ
 B:Option Addr
 e:Nat
 T:List ItR
 K:List bJ
abbrev Scr.cells(S:Scr):List Value:=[.slice S.A S.L.length S.c,.slice S.B S.T.length S.e]
abbrev Scr.v(S:Scr):Value:= .agg S.cells.toArray
abbrev imC(A:Oa)(c:Nat)(L:List Im):bJ:=slv 59 3 A L.length c (L.flatMap Im.cells)
abbrev Scr.cs(S:Scr):List bJ:=[imC S.A S.c S.L,bP S.J,iU S.B S.e S.T,bP S.K]
def ImJ(J:List bJ)(L:List Im):Prop:=∀w,(bP J).ok w->∀x,x∈L->x.rd w
def ItJ(J:List bJ)(T:List ItR):Prop:=∀w,(bP J).ok w->∀x,x∈T->Rd w .u8 x.A x.b.length x.c x.b
structure Scr.ok(S:Scr)(I:List Si)(T:List It):Prop where
 l:S.L.map Im.si=I
 t:S.T.map ItR.it=T
 j:ImJ S.J S.L
 k:ItJ S.K S.T
 lb:∀x,x∈S.L->u8s x.l/\u8s x.k/\x.l.length<=65535/\x.k.length<=65535
 tb:∀x,x∈S.T->u8s x.b/\x.b.length<=255/\0<=x.n
variable{J K:List bJ}{L:List Im}{x:Im}
theorem ImJ.snoc(h:ImJ J L)(hx:∀w,(bP K).ok w->x.rd w):ImJ [bP K,bP J] (L++[x]):=λw hj y hy=>by
 have e:∀c,c∈[bP K,bP J]->c.ok w:=ek hj;rcases az.1 hy with q|q
 .exact h w (e _ (.tail _ (.head _))) y q
 rw[aC.1 q];exact hx w (e _ (.head _))
theorem ItJ.snoc{L:List ItR}{x:ItR}(h:ItJ J L)(hx:∀w,(bP K).ok w->Rd w .u8 x.A x.b.length x.c x.b):ItJ [bP K,bP J] (L++[x]):=λw hj y hy=>by
 have e:∀c,c∈[bP K,bP J]->c.ok w:=ek hj;rcases az.1 hy with q|q
 .exact h w (e _ (.tail _ (.head _))) y q
 rw[aC.1 q];exact hx w (e _ (.head _))
theorem Scr.ok0(h1:ImJ J L)(h2:∀x,x∈L->u8s x.l/\u8s x.k/\x.l.length<=65535/\x.k.length<=65535):Scr.ok ⟨A,c,L,J,none,0,[],[]⟩ (L.map Im.si) []:=
 ⟨rfl,rfl,h1,λw _ x hx=>jT,h2,λx hx=>jT⟩
structure DI where
 n:Nat
 L:List Im
 A:Option Addr
 c:Nat
 J:List bJ
 l:List Int
 B:Option Addr
 e:Nat
structure DI.ok(q:DI)(A:Oa)(c:Nat)(l:Li)(I:List Si)(R:Option (List Int)):Prop where
 i:q.L.map Im.si++(pW q.n q.l).1=I
 r:(pW q.n q.l).2=R
 s:Sub A c l q.B q.e q.l
 u:u8s q.l
 j:ImJ q.J q.L
 lb:∀x,x∈q.L->u8s x.l/\u8s x.k/\x.l.length<=65535/\x.k.length<=65535
 n4:q.L.length+q.n<=4
structure DT where
 T:List ItR
 A:Option Addr
 c:Nat
 K:List bJ
 l:List Int
 B:Option Addr
 e:Nat
structure DT.ok(q:DT)(A:Oa)(c:Nat)(l:Li)(T:List It):Prop where
 t:q.T.map ItR.it++BJ (512 - q.T.length) q.l=T
 n:q.T.length<=512
 s:Sub A c l q.B q.e q.l
 u:u8s q.l
 k:ItJ q.K q.T
 tb:∀x,x∈q.T->u8s x.b/\x.b.length<=255/\0<=x.n
theorem mv:L.length+1=(L++[x]).length/\L.flatMap Im.cells++x.cells=(L++[x]).flatMap Im.cells:=by
 exact Wq304
variable{I:List Si}{R:Option (List Int)}
theorem DI.ok.no{q:DI}(h:q.ok A c l I R){m:Nat}(hm:q.n=m+1)(h1:xI q.l=none):q.L.map Im.si=I/\R=none:=by
 have hi:=h.i;have hr:=h.r;rw[hm,PO h1]at hi hr;rw[aw]at hi;exact⟨hi,hr.symm⟩
variable{A1:Oa}{c1:Nat}{B:Oa}{e:Nat}
theorem DI.ok.go{l1:Li}(h:DI.ok ⟨n+1,L,A1,c1,J,l1,B,e⟩ A c l I R){x:Im}{r:Li}(h1:xI l1=some (x.si,r)){A2:Oa}{c2:Nat}{K:List bJ}{B2:Oa}{e2:Nat}(hs:Sub B e l1 B2 e2 r)(hu:u8s r)(hx:∀w,(bP K).ok w->x.rd w)(hb:u8s x.l/\u8s x.k/\x.l.length<=65535/\x.k.length<=65535):DI.ok ⟨n,L++[x],A2,c2,[bP K,bP J],r,B2,e2⟩ A c l I R:=by
 have hi:=h.i;have hr:=h.r;have h4:=h.n4;dsimp only at hi hr h4;rw[PP h1]at hi hr;refine⟨?_,hr,h.s.trans hs,hu,h.j.snoc hx,λy hy=>?_,?_⟩
 .show(L++[x]).map Im.si++(pW n r).1=I;rw[<-hi,List.map_append,aq]
  rfl
 .rcases az.1 hy with q|q
  .exact h.lb y q
  rw[aC.1 q];exact hb
 show(L++[x]).length+n<=4;rw[aj];show L.length+1+n<=4;omega
variable{T:List It}
theorem DT.ok.stop{q:DT}(h:q.ok A c l T)(h1:q.l=[]\/q.T.length=512):q.T.map ItR.it=T:=by
 have ht:=h.t;rcases h1 with e|e
 .rw[e,I0,aw]at ht;exact ht
 rw[e,Nat.sub_self,Ed,aw]at ht;exact ht
theorem DT.ok.no{q:DT}(h:q.ok A c l T){k:Int}{r:Li}(hl:q.l=k::r)(hn:q.T.length<512)(hk:¬(k<1\/6<k))(h1:rq k r=none):q.T.map ItR.it=T:=by
 have ht:=h.t;rw[hl,show 512 - q.T.length=(511 - q.T.length)+1 by omega,PK hk h1,aw]at ht;exact ht
variable{r:Li}
theorem DT.ok.skip{T1:List ItR}{k:Int}(h:DT.ok ⟨T1,A1,c1,K,k::r,B,e⟩ A c l T)(hn:T1.length<512)(hk:k<1\/6<k){B2:Oa}{e2:Nat}(hs:Sub B e (k::r) B2 e2 r):DT.ok ⟨T1,A1,c1,K,r,B2,e2⟩ A c l T:=by
 have ht:=h.t;dsimp only at ht;rw[show 512 - T1.length=(511 - T1.length)+1 by omega,Ee hk]at ht;refine⟨?_,h.n,h.s.trans hs,λx hx=>h.u x (.tail _ hx),h.k,h.tb⟩;show T1.map ItR.it++BJ (512 - T1.length) r=T;rw[show 512 - T1.length=(511 - T1.length)+1 by omega];exact ht
theorem DT.ok.go{T1:List ItR}{k:Int}(h:DT.ok ⟨T1,A1,c1,K,k::r,B,e⟩ A c l T)(hn:T1.length<512)(hk:¬(k<1\/6<k)){x:ItR}{r2:Li}(h1:rq k r=some (x.it,r2)){A2:Oa}{c2:Nat}{M:List bJ}{B2:Oa}{e2:Nat}(hs:Sub B e (k::r) B2 e2 r2)(hu:u8s r2)(hx:∀w,(bP M).ok w->Rd w .u8 x.A x.b.length x.c x.b)(hb:u8s x.b/\x.b.length<=255/\0<=x.n):DT.ok ⟨T1++[x],A2,c2,[bP M,bP K],r2,B2,e2⟩ A c l T:=by
 have ht:=h.t;dsimp only at ht;rw[show 512 - T1.length=(511 - T1.length)+1 by omega,PL hk h1]at ht;refine⟨?_,by show(T1++[x]).length<=512;rw[aj];show T1.length+1<=512;omega,h.s.trans hs,hu,h.k.snoc hx,λy hy=>?_⟩
 .show(T1++[x]).map ItR.it++BJ (512 - (T1++[x]).length) r2=T;refine Wq496 ?_
  rfl
 rcases az.1 hy with q|q
 .exact h.tb y q
 rw[aC.1 q];exact hb
section
attribute [local irreducible] OpY bN
theorem rd_tk{W:World}(h:Rd W .u8 A xs.length c xs)(hn:n<=xs.length):Rd W .u8 A n c (xs.take n):=by
 have:=iv h n;rw[aD,Nat.min_eq_left hn]at this;exact this
theorem OI{x:Si}{bd:Bool}(h:imL (l,false)=(x,(r,bd))):(bd=true->xI l=none)/\(bd=false->xI l=some (x,r)):=by
 cases ho:xI l with
 |none=>
  have:=Ir ho;exact UK
 |some y=>
  obtain⟨y,r2⟩:=y;have:=Bs ho;rw[h]at this;cases this
  exact⟨λq=>(by cases q),λ_=>rfl⟩
theorem wx{c:Int}{x:It}{bd:Bool}(h:F2 c (l,false)=(x,(r,bd))):(bd=true->rq c l=none)/\(bd=false->rq c l=some (x,r)):=by
 cases ho:rq c l with
 |none=>
  have:=In ho;exact UK
 |some y=>
  obtain⟨y,r2⟩:=y;have:=Bo ho;rw[h]at this;cases this
  exact⟨λq=>(by cases q),λ_=>rfl⟩
theorem NE(hb:u8s l)(hl:l.length<=2){k:Nat}{x:Int}(hx:l[k]? =some x):bits .or .i64 (qB (l.take k)) (IntKind.i64.wrap (x*2^(min (8*(k:Int)).toNat IntKind.i64.bits)))=qB (l.take (k+1)):=by
 have hxr:=hb x (ak hx);rcases l with _|⟨a,r⟩
 .cases hx
 rcases k with _|k
 .have e:a=x:=ay hx;subst e;show bits .or .i64 0 (IntKind.i64.wrap (a*1))=a;rw[Int.mul_one,bD _ ⟨by omega,by omega⟩,or_zero hxr]
 rcases r with _|⟨b,r⟩
 .cases hx
 rcases k with _|k
 .have e:b=x:=ay hx;subst e;have ha:=hb a (.head _);show bits .or .i64 a (IntKind.i64.wrap (b*256))=a+256*b;rw[bD _ ⟨by omega,by omega⟩,or_hi ha hxr]
 have:=(ar.1 hx).1;simp only[aO]at this hl;omega
theorem sr(k:Int)(w:World):CW prog 47 [.i k] w (.bool (kX k)):=by
 unfold kX;refine Zfs func47 ntmps47 ?_;refine ue ?_;exact ru
theorem AA(b:Nat)(A:Oa)(c:Nat)(s:RS9)(n:Nat)(hn:n<=65535)(w:World)(hi:Inv w (bK [sU b A c s]) [sU b A c s] w)(hA:∀w',dc (bK [sU b A c s]) w w'->Rd w' .u8 A s.1.length c s.1):
  Ctr prog 46 [.p b,.i (n:Int)] w [sU b A c s] (λv cs=>∃A' c' B e,Sub A c s.1 A' c' (gD n s).2.1/\v= .slice B (gD n s).1.length e/\cs=[sU b A' c' (gD n s).2,sl .u8 5 B (gD n s).1.length e (gD n s).1]):=by
 obtain⟨xs,bad⟩:=s;have hw:=hA w (dc.refl _ _);have hm:=hw.max;have hc:=hw.cap;simp only[maxLen]at hm;dsimp only at hm hc hw;refine Zfn func46 ntmps46 hi ?_;refine ue ?_;refine ZW ?_ ?_<;>intro hc1
 .have hlt:¬n<=xs.length:=by(simp only[ac]at hc1;omega)
  refine Z_6 ?_;refine ZL ?_;refine kZ ?_;refine Z_4 ?_;refine cY 5 1 (Z_5 ?_);refine Gy ?_;rw[show gD n (xs,bad)=([],([],true))from if_neg hlt];exact⟨none,0,none,0,Sub.nil _ _ _,rfl,rfl⟩
 have hlt:n<=xs.length:=by(simp only[aa]at hc1;omega)
 refine Z_9 ?_;refine Qo ?_;refine fo (CE (e:=5) (sz:=1) (bytes:=1) rfl rfl rfl rfl (λw hi=>(rd_tk (hA w hi.WB) hlt)) cN Wq9 Wq1) rfl ?_;rintro _ _ ⟨B,e,rfl,rfl⟩;refine gq ?_;refine Zy (ry (lo:=n) (hi:=xs.length) rfl Zrf (Zv rfl) (.inr ⟨_,_,rfl,(Zv rfl)⟩) (.inl ⟨rfl,rfl⟩) Wq1 Wq1) ?_;refine kZ ?_;refine Z_9 ?_;refine Gy ?_;rw[show gD n (xs,bad)=(xs.take n,(xs.drop n,bad))from if_pos hlt];refine⟨_,_,B,e,Sub.drop A c xs (k:=n) hlt,?_,?_⟩
 .show _=Value.slice B (xs.take n).length e;rw[aD,Nat.min_eq_left hlt]
 show _=[row b [.slice _ (xs.drop n).length _,.bool bad] _,slv _ _ _ (xs.take n).length _ _];rw[aD,Nat.min_eq_left hlt,bH]
 rfl
theorem nF(b:Nat)(A:Oa)(c:Nat)(s:RS9)(n:Nat)(hn:n<=2)(hb:u8s s.1)(w:World)(hi:Inv w (bK [sU b A c s]) [sU b A c s] w)(hA:∀w',dc (bK [sU b A c s]) w w'->Rd w' .u8 A s.1.length c s.1):
  Ctr prog 45 [.p b,.i (n:Int)] w [sU b A c s] (λv cs=>∃A' c',Sub A c s.1 A' c' (me n s).2.1/\v= .i (me n s).1/\cs=[sU b A' c' (me n s).2]):=by
 have hu:=(jK (n:=n) hb).1;have hlen:=qv (n:=n) (s:=s);have HR:=AA b A c s n Wq1;unfold me;obtain⟨⟨l,s2⟩,hq⟩:=Zgn (gD n s);rw[hq]at hu hlen HR|-;dsimp only at hu hlen HR|-;refine Zfn func45 ntmps45 hi ?_;refine oU ?_;refine dy ([sU b A c s]) (λw hi hin=>HR w hin (λw' hk=>hA w' (hi.WU Zi hk))) ?_;rintro _ _ ⟨A1,c1,B,e,hs,rfl,rfl⟩;refine Z_5 ?_;refine wLo (λk:Nat=>[(5,.i (qB (l.take k))),(10,.slice B l.length e),(11,.i (l.length:Int)),(12,.i (k:Int))]) (λ_=>[sU b A1 c1 s2,sl .u8 5 B l.length e l]) (λk=>k<=l.length) (λk=>l.length - k) (0) (ap _) ?_;rintro k hk;refine Zw6 ?_ ?_<;>intro hc3
 .simp only[ac]at hc3;have hkl:k<l.length:=Wq1;refine lp (λw hi=>eM (hi.get (Zhc (sl .u8 5 B l.length e l))) Wq1) (λhq=>?_);obtain⟨bf,rfl⟩:=hq;obtain⟨x,hx⟩:∃x,l[k]? =some x:=⟨_,ae hkl⟩;have hxr:=hu x (ak hx);refine Z_7 ?_;refine Wq472 ?_;refine dQ (bM Zrf (Zv rfl)) (dG (Zhc (sl .u8 5 (sA bf) l.length e l)) (cK hx)) rfl (Z_7 ?_);refine lD ?_;refine ZA ?_;refine Zy (jF Zv0 Zv0 Zl) ?_;refine Lm ?_;refine Zy (Ci (Zv rfl) (Zv rfl) (NE hu Wq1 hx)) ?_;refine lI ?_;refine qMP (k+1) ⟨by omega,by omega⟩
 simp only[aa]at hc3;obtain rfl:k=l.length:=Wq1;refine fb ?_;refine Zrb ([row _ _ _]) ?_;rw[bC];exact⟨A1,c1,hs,rfl,rfl⟩
theorem kp(A:Oa)(c:Nat)(l:Li)(hb:u8s l)(w:World)(h:Rd w .u8 A l.length c l):
  Ctr prog 21 [.slice A l.length c] w [] (λv cs=>∃S:Scr,S.ok (Eg l).1 (Eg l).2/\v=S.v/\cs=S.cs):=by
 refine Zfs func21 ntmps21 ?_;refine Z_2 ?_;refine ZN λb2=>?_;refine Z_4 ?_;refine ZN λb3=>?_;refine mZ ?_ ?_<;>intro hc2
 .have hl0:l=[]:=(by simp only[beq_iff_eq]at hc2;exact List.eq_nil_of_length_eq_zero Wq1);subst hl0;refine Z_2 ?_;refine Qp ?_;refine fg (ZlR ?_);refine jC ?_;exact bO (row b2 [.slice none 0 0,.slice none 0 0] 27::Scr.cs ⟨none,0,[],[],none,0,[],[]⟩) Zj (m8 (cs':=(Scr.cs ⟨none,0,[],[],none,0,[],[]⟩)) (.inl rfl) Zu rfl rfl Zh Zrf Zrf ⟨⟨none,0,[],[],none,0,[],[]⟩,Scr.ok0 (λw _ x hx=>jT) (λx hx=>jT),rfl,rfl⟩)
 obtain⟨x0,r,rfl⟩:∃x r,l=x::r:=(by cases l with|nil=>exact absurd hc2 bX|cons x r=>exact⟨x,r,rfl⟩);have hx0:=hb x0 (.head _);have N0:=λb w hi hA=>nF b A c (x0::r,false) 1 bX hb w hi hA
 rw[show me 1 (x0::r,false)=(x0,(r,false))from rfl]at N0;obtain⟨⟨I,R⟩,hD⟩:=Zgn (pW (min x0.toNat 4) r);obtain⟨T,hT⟩:=Zgn ((match R with|none=>[]|some r2=>BJ 512 r2));have hS:Eg (x0::r)=(I,T):=(by rw[Ef,hD,<-hT];rfl);rw[hS];refine Z_6 ?_;refine ZO λb14=>?_
 refine Z_7 ?_;refine dy ([sU b14 A c (x0::r,false)]) (λw hi hin=>N0 b14 w hin (λw' hk=>RdV.Wm h hi Zi hk)) ?_;rintro _ _ ⟨A1,c1,hs1,rfl,rfl⟩;refine Zy (Js (Zv rfl) (Zv rfl) (show _=((min x0.toNat 4:Nat):Int)from by omega)) ?_;refine Qp ?_;refine fg (eY (row b2 [.slice none 0 0,.slice none 0 0] 27::row b3 [.slice none 0 0,.slice none 0 0] 27::sU b14 A1 c1 (r,false)::Scr.cs ⟨none,0,[],[],none,0,[],[]⟩) Zj (Z_4 ?_));refine wLo (λq:DI=>[(2,.p b2),(3,.p b3),(4,.p b14),(5,.i (q.n:Int))]) (λq=>row b2 [.slice none 0 0,.slice none 0 0] 27::row b3 [.slice q.A q.L.length q.c,.slice none 0 0] 27::sU b14 q.B q.e (q.l,false)::Scr.cs ⟨q.A,q.c,q.L,q.J,none,0,[],[]⟩) (λq=>q.ok A c (x0::r) I R) (λq=>q.n) ((⟨min x0.toNat 4,[],none,0,[],r,A1,c1⟩:DI)) ⟨by rw[hD];rfl,by rw[hD],hs1,λx hx=>hb x (.tail _ hx),λw _ x hx=>jT,λx hx=>jT,show 0+min x0.toNat 4<=4 by omega⟩ ?_;rintro⟨n,L,A2,c2,J,l2,A3,c3⟩ hq;dsimp only at hq|-;have hn4:=hq.n4;dsimp only at hn4;refine Zw7 ?_ ?_<;>intro hc6
 .simp only[ac]at hc6;obtain⟨m,rfl⟩:∃m,n=m+1:=⟨n - 1,by omega⟩;have hu0:u8s l2:=hq.u;have hs0:Sub A c (x0::r) A3 c3 l2:=hq.s;obtain⟨⟨p,l3,d3⟩,e1⟩:=Zgn (me 1 (l2,false));have hu1:u8s l3:=(by have:=(jK (n:=1) (s:=(l2,false)) hu0).2;rw[show(gD 1 (l2,false)).2=(l3,d3)from congrArg Prod.snd e1]at this;exact this);have N1:=λb A c w hi hA=>nF b A c (l2,false) 1 bX hu0 w hi hA
  rw[e1]at N1;obtain⟨⟨a,l4,d4⟩,e2⟩:=Zgn (me 2 (l3,d3));have hu2:u8s l4:=(by have:=(jK (n:=2) (s:=(l3,d3)) hu1).2;rw[show(gD 2 (l3,d3)).2=(l4,d4)from congrArg Prod.snd e2]at this;exact this);have ha:=uD (n:=2) (s:=(l3,d3)) hu1;have N2:=λb A c w hi hA=>nF b A c (l3,d3) 2 bX hu1 w hi hA
  rw[e2]at N2 ha;obtain⟨a,rfl⟩:=ao ha.1;have ha2:a<=65535:=(by have:=ha.2;dsimp only at this;omega);obtain⟨⟨X,l5,d5⟩,e3⟩:=Zgn (gD a (l4,d4));have hu3:=jK (n:=a) (s:=(l4,d4)) hu2;have hX:=qv (n:=a) (s:=(l4,d4));have N3:=λb A c w hi hA=>AA b A c (l4,d4) a ha2 w hi hA
  rw[e3]at N3 hu3 hX;obtain⟨⟨k,l6,d6⟩,e4⟩:=Zgn (me 2 (l5,d5));have hu4:u8s l6:=(by have:=(jK (n:=2) (s:=(l5,d5)) hu3.2).2;rw[show(gD 2 (l5,d5)).2=(l6,d6)from congrArg Prod.snd e4]at this;exact this);have hk:=uD (n:=2) (s:=(l5,d5)) hu3.2;have N4:=λb A c w hi hA=>nF b A c (l5,d5) 2 bX hu3.2 w hi hA
  rw[e4]at N4 hk;obtain⟨k,rfl⟩:=ao hk.1;have hk2:k<=65535:=(by have:=hk.2;dsimp only at this;omega);obtain⟨⟨Y,l7,d7⟩,e5⟩:=Zgn (gD k (l6,d6));have hu5:=jK (n:=k) (s:=(l6,d6)) hu4;have hY:=qv (n:=k) (s:=(l6,d6));have N5:=λb A c w hi hA=>AA b A c (l6,d6) k hk2 w hi hA
  rw[e5]at N5 hu5 hY;have eim:imL (l2,false)=(⟨p,X,Y⟩,(l7,d7)):=(by unfold imL;rw[e1];dsimp only;rw[e2];dsimp only;rw[aN,e3];dsimp only;rw[e4];dsimp only;rw[aN,e5]);have hcs:=OI eim;dsimp only at N1 N2 N3 N4 N5 hu3 hu5 hX hY;refine Z_7 ?_;refine dy ([sU b14 A3 c3 (l2,false)]) (λw hi hin=>N1 b14 A3 c3 w hin (λw' hk=>hs0 w' (RdV.Wm h hi Zi hk))) ?_;rintro _ _ ⟨A4,c4,hs2,rfl,rfl⟩;refine ZA ?_;refine ZN λb6=>?_
  refine jj ?_;refine dy ([sU b14 A4 c4 (l3,d3)]) (λw hi hin=>N2 b14 A4 c4 w hin (λw' hk=>hs2 w' (hs0 w' (RdV.Wm h hi Zi hk)))) ?_;rintro _ _ ⟨A5,c5,hs3,rfl,rfl⟩;refine dy ([sU b14 A5 c5 (l4,d4)]) (λw hi hin=>N3 b14 A5 c5 w hin (λw' hk=>hs3 w' (hs2 w' (hs0 w' (RdV.Wm h hi Zi hk))))) ?_;rintro _ _ ⟨A6,c6,B6,f6,hs4,rfl,rfl⟩;refine iJ ?_;refine Z_6 ?_;refine dy ([sU b14 A6 c6 (l5,d5)]) (λw hi hin=>N4 b14 A6 c6 w hin (λw' hk=>hs4 w' (hs3 w' (hs2 w' (hs0 w' (RdV.Wm h hi Zi hk)))))) ?_;rintro _ _ ⟨A7,c7,hs5,rfl,rfl⟩;refine dy ([sU b14 A7 c7 (l6,d6)]) (λw hi hin=>N5 b14 A7 c7 w hin (λw' hk=>hs5 w' (hs4 w' (hs3 w' (hs2 w' (hs0 w' (RdV.Wm h hi Zi hk))))))) ?_;rintro _ _ ⟨A8,c8,B8,f8,hs6,rfl,rfl⟩;refine iJ ?_;refine xL ?_ ?_<;>intro hc11
  .subst hc11;obtain⟨g1,g2⟩:=hq.no rfl (hcs.1 rfl);dsimp only at g1;have hT0:T=[]:=(by rw[<-hT,g2]);subst hT0;rw[<-g1];refine Z_3 ?_;refine ZM ?_;refine Z_9 ?_;exact bO (row b2 [.slice A2 L.length c2,.slice none 0 0] 27::Scr.cs ⟨A2,c2,L,J,none,0,[],[]⟩) Zj (m8 (cs':=(Scr.cs ⟨A2,c2,L,J,none,0,[],[]⟩)) (.inl rfl) Zu rfl rfl Zh Zrf Zrf ⟨⟨A2,c2,L,J,none,0,[],[]⟩,Scr.ok0 hq.j hq.lb,rfl,rfl⟩)
  subst hc11;have hgo:=hcs.2 rfl;refine xv ?_;rintro _ _ ⟨b43,rfl,rfl⟩;refine fo (bV (e:=59) (sz:=3) (bytes:=56) rfl rfl Za rfl rfl (λw hi=>hi.rd (Zhc (slv 59 3 (sA b43) 1 1 (Im.cells ⟨B6,f6,X,B8,f8,Y,p⟩)))) (pC ⟨B6,f6,X,B8,f8,Y,p⟩) Wq9 Wq1) rfl ?_;rintro _ _ ⟨A9,c9,rfl,rfl⟩;rw[(mv (L:=L) (x:=⟨B6,f6,X,B8,f8,Y,p⟩)).1,(mv (L:=L) (x:=⟨B6,f6,X,B8,f8,Y,p⟩)).2];refine fx [sl .u8 5 B6 X.length f6 X,sl .u8 5 B8 Y.length f8 Y] Zi (fx [bP [sl .u8 5 B6 X.length f6 X,sl .u8 5 B8 Y.length f8 Y],bP J] Zi (iJ ?_));refine Z_5 ?_;refine pd ?_;refine Z_2 ?_;have hok:=hq.go (x:=⟨B6,f6,X,B8,f8,Y,p⟩) hgo (A2:=A9) (c2:=c9) (K:=[sl .u8 5 B6 X.length f6 X,sl .u8 5 B8 Y.length f8 Y]) (((((hs2.trans hs3).trans hs4).trans hs5).trans hs6)) hu5.2 (λw hj=>⟨dM (ek hj _ (.head _)),dM (ek hj _ (.tail _ (.head _)))⟩) ⟨hu3.1,hu5.1,aK hX ha2,aK hY hk2⟩;refine qMP ((⟨m,L++[(⟨B6,f6,X,B8,f8,Y,p⟩:Im)],A9,c9,[bP [sl .u8 5 B6 X.length f6 X,sl .u8 5 B8 Y.length f8 Y],bP J],l7,A8,c8⟩:DI)) ⟨hok,Nat.lt_succ_self m⟩
 simp only[aa]at hc6;obtain rfl:n=0:=Wq1;have g1:L.map Im.si=I:=(by have:=hq.i;dsimp only at this;rw[show pW 0 l2=([],some l2)from rfl,aw]at this;exact this);have g2:some l2=R:=hq.r;have hT2:BJ 512 l2=T:=(by rw[<-hT,<-g2]);refine Z_7 ?_;refine wLo (λq:DT=>[(2,.p b2),(3,.p b3),(4,.p b14)]) (λq=>row b2 [.slice none 0 0,.slice none 0 0] 27::row b3 [.slice A2 L.length c2,.slice q.A q.T.length q.c] 27::sU b14 q.B q.e (q.l,false)::Scr.cs ⟨A2,c2,L,J,q.A,q.c,q.T,q.K⟩) (λq=>q.ok A c (x0::r) T) (λq=>q.l.length) ((⟨[],none,0,[],l2,A3,c3⟩:DT)) ⟨hT2,ap _,hq.s,hq.u,λw _ x hx=>jT,λx hx=>jT⟩ ?_;rintro⟨T1,A4,c4,K,l3,A5,c5⟩ hp;dsimp only at hp|-;have hT1:=hp.n;dsimp only at hT1;refine ue ?_;refine ZW ?_ ?_<;>intro hc14
 .have hc14':0<l3.length/\T1.length<512:=(by simp only[au,ac]at hc14;omega);obtain⟨hl3,hTl⟩:=hc14';obtain⟨kd,l4,rfl⟩:∃x r,l3=x::r:=(by cases l3 with|nil=>exact absurd hl3 bX|cons x r=>exact⟨x,r,rfl⟩);have hu0:u8s (kd::l4):=hp.u;have hs0:Sub A c (x0::r) A5 c5 (kd::l4):=hp.s;have hkr:=hu0 kd (.head _);have hu1:u8s l4:=(λx hx=>hu0 x (.tail _ hx));have N1:=λb A c w hi hA=>nF b A c (kd::l4,false) 1 bX hu0 w hi hA
  rw[show me 1 (kd::l4,false)=(kd,(l4,false))from rfl]at N1;obtain⟨⟨g,l5,d5⟩,e2⟩:=Zgn (me 1 (l4,false));have hu2:u8s l5:=(by have:=(jK (n:=1) (s:=(l4,false)) hu1).2;rw[show(gD 1 (l4,false)).2=(l5,d5)from congrArg Prod.snd e2]at this;exact this);have N2:=λb A c w hi hA=>nF b A c (l4,false) 1 bX hu1 w hi hA
  rw[e2]at N2;have HC:=sr kd;dsimp only at N1 N2;refine Z_6 ?_;refine dy ([sU b14 A5 c5 (kd::l4,false)]) (λw hi hin=>N1 b14 A5 c5 w hin (λw' hk=>hs0 w' (RdV.Wm h hi Zi hk))) ?_;rintro _ _ ⟨A6,c6,hs1,rfl,rfl⟩;refine ZA ?_;refine ZN λb7=>?_
  refine ZM ?_;refine oU ?_;refine ZW ?_ ?_<;>intro hc16
  .have hbad:kd<1\/6<kd:=(by simpa using hc16);refine Z_3 ?_;refine qMP ((⟨T1,A4,c4,K,l4,A6,c6⟩:DT)) ⟨hp.skip hTl hbad hs1,Nat.lt_succ_self _⟩
  have hgood:¬(kd<1\/6<kd):=(by simpa using hc16);refine Z_5 ?_;refine dy ([sU b14 A6 c6 (l4,false)]) (λw hi hin=>N2 b14 A6 c6 w hin (λw' hk=>hs1 w' (hs0 w' (RdV.Wm h hi Zi hk)))) ?_;rintro _ _ ⟨A7,c7,hs2,rfl,rfl⟩;refine iJ ?_;refine Z_4 ?_;cases hcc:kX kd
  .rw[hcc]at HC;refine Z_3 ?_;refine BV ?_;refine pN ?_;refine Z_4 ?_;cases hk2:(kd==2)
   .have eit:F2 kd (l4,false)=(⟨kd,g,0,[]⟩,(l5,d5)):=(by unfold F2;rw[hcc,hk2,e2];rfl);have hcs:=wx eit;refine Z_3 ?_;refine EJ ?_;refine xL ?_ ?_<;>intro hc22
    .exact Wq349
    subst hc22;have hgo:=hcs.2 rfl;refine xv ?_;rintro _ _ ⟨b93,rfl,rfl⟩;refine fo (bV (e:=41) (sz:=4) (bytes:=48) rfl rfl Za rfl rfl (λw hi=>hi.rd (Zhc (slv 41 4 (sA b93) 1 1 (ItR.cells ⟨kd,g,0,none,0,[]⟩)))) (je ⟨kd,g,0,none,0,[]⟩) Wq9 Wq1) rfl ?_;rintro _ _ ⟨A10,c10,rfl,rfl⟩;rw[(eA (ys:=T1) (y:=⟨kd,g,0,none,0,[]⟩)).1,(eA (ys:=T1) (y:=⟨kd,g,0,none,0,[]⟩)).2];refine UN ?_;have hlt:=nK hgo;have hok:=hp.go hTl hgood (x:=⟨kd,g,0,none,0,[]⟩) hgo (A2:=A10) (c2:=c10) (M:=[]) (hs1.trans hs2) hu2 (λw _=>nH w .u8) ⟨fa,ap _,Int.le_refl _⟩;refine qMP ((⟨T1++[(⟨kd,g,0,none,0,[]⟩:ItR)],A10,c10,[bP [],bP K],l5,A7,c7⟩:DT)) ⟨hok,show l5.length<(kd::l4).length by rw[aO];omega⟩
   obtain⟨⟨a,l6,d6⟩,e3⟩:=Zgn (me 1 (l5,d5));have hu3:u8s l6:=(by have:=(jK (n:=1) (s:=(l5,d5)) hu2).2;rw[show(gD 1 (l5,d5)).2=(l6,d6)from congrArg Prod.snd e3]at this;exact this);have hn:=uD (n:=1) (s:=(l5,d5)) hu2;have hn1:=Dh (qv (n:=1) (s:=(l5,d5))) (jK (n:=1) (s:=(l5,d5)) hu2).1;rw[show qB (gD 1 (l5,d5)).1=a from congrArg Prod.fst e3]at hn1;have N3:=λb A c w hi hA=>nF b A c (l5,d5) 1 bX hu2 w hi hA
   rw[e3]at N3 hn;obtain⟨a,rfl⟩:=ao hn.1;have ha1:a<=255:=Wq1;obtain⟨⟨X,l7,d7⟩,e4⟩:=Zgn (gD a (l6,d6));have hu4:=jK (n:=a) (s:=(l6,d6)) hu3;have hX:=qv (n:=a) (s:=(l6,d6));have N4:=λb A c w hi hA=>AA b A c (l6,d6) a Wq1 w hi hA
   rw[e4]at N4 hu4 hX;have eit:F2 kd (l4,false)=(⟨kd,g,0,X⟩,(l7,d7)):=(by unfold F2;rw[hcc,hk2,e2];dsimp only[cond];rw[e3];dsimp only;rw[aN,e4]);have hcs:=wx eit;dsimp only at N3 N4 hu4 hX;refine UQ ?_;refine Z_3 ?_;refine dy ([sU b14 A7 c7 (l5,d5)]) (λw hi hin=>N3 b14 A7 c7 w hin (λw' hk=>hs2 w' (hs1 w' (hs0 w' (RdV.Wm h hi Zi hk))))) ?_;rintro _ _ ⟨A8,c8,hs3,rfl,rfl⟩;refine dy ([sU b14 A8 c8 (l6,d6)]) (λw hi hin=>N4 b14 A8 c8 w hin (λw' hk=>hs3 w' (hs2 w' (hs1 w' (hs0 w' (RdV.Wm h hi Zi hk)))))) ?_;rintro _ _ ⟨A9,c9,B9,f9,hs4,rfl,rfl⟩;refine iJ ?_;refine xL ?_ ?_<;>intro hc22
   .exact Wq349
   subst hc22;have hgo:=hcs.2 rfl;refine xv ?_;rintro _ _ ⟨b93,rfl,rfl⟩;refine fo (bV (e:=41) (sz:=4) (bytes:=48) rfl rfl Za rfl rfl (λw hi=>hi.rd (Zhc (slv 41 4 (sA b93) 1 1 (ItR.cells ⟨kd,g,0,B9,f9,X⟩)))) (je ⟨kd,g,0,B9,f9,X⟩) Wq9 Wq1) rfl ?_;rintro _ _ ⟨A10,c10,rfl,rfl⟩;rw[(eA (ys:=T1) (y:=⟨kd,g,0,B9,f9,X⟩)).1,(eA (ys:=T1) (y:=⟨kd,g,0,B9,f9,X⟩)).2];refine fx [sl .u8 5 B9 X.length f9 X] Zi (fx [bP [sl .u8 5 B9 X.length f9 X],bP K] Zi (iJ ?_));refine Z_2 ?_;have hlt:=nK hgo;have hok:=hp.go hTl hgood (x:=⟨kd,g,0,B9,f9,X⟩) hgo (A2:=A10) (c2:=c10) (M:=[sl .u8 5 B9 X.length f9 X]) (((hs1.trans hs2).trans hs3).trans hs4) hu4.2 (λw hj=>dM (ek hj _ (.head _))) ⟨hu4.1,aK hX ha1,Int.le_refl _⟩;refine qMP ((⟨T1++[(⟨kd,g,0,B9,f9,X⟩:ItR)],A10,c10,[bP [sl .u8 5 B9 X.length f9 X],bP K],l7,A9,c9⟩:DT)) ⟨hok,show l7.length<(kd::l4).length by rw[aO];omega⟩
  rw[hcc]at HC;have hk2:(kd==2)=false:=QA;obtain⟨⟨n,l6,d6⟩,e3⟩:=Zgn (me 2 (l5,d5));have hu3:u8s l6:=(by have:=(jK (n:=2) (s:=(l5,d5)) hu2).2;rw[show(gD 2 (l5,d5)).2=(l6,d6)from congrArg Prod.snd e3]at this;exact this);have hn:=uD (n:=2) (s:=(l5,d5)) hu2;have N3:=λb A c w hi hA=>nF b A c (l5,d5) 2 bX hu2 w hi hA
  rw[e3]at N3 hn;have eit:F2 kd (l4,false)=(⟨kd,g,n,[]⟩,(l6,d6)):=(by unfold F2;rw[hcc,hk2,e2];dsimp only[cond];rw[e3]);have hcs:=wx eit;dsimp only at N3 hn;refine Z_3 ?_;refine BV ?_;refine xw ?_;refine Z_2 ?_;refine dy ([sU b14 A7 c7 (l5,d5)]) (λw hi hin=>N3 b14 A7 c7 w hin (λw' hk=>hs2 w' (hs1 w' (hs0 w' (RdV.Wm h hi Zi hk))))) ?_;rintro _ _ ⟨A8,c8,hs3,rfl,rfl⟩;refine iJ ?_;refine Z_7 ?_;refine EJ ?_;refine xL ?_ ?_<;>intro hc22
  .exact Wq349
  subst hc22;have hgo:=hcs.2 rfl;refine xv ?_;rintro _ _ ⟨b93,rfl,rfl⟩;refine fo (bV (e:=41) (sz:=4) (bytes:=48) rfl rfl Za rfl rfl (λw hi=>hi.rd (Zhc (slv 41 4 (sA b93) 1 1 (ItR.cells ⟨kd,g,n,none,0,[]⟩)))) (je ⟨kd,g,n,none,0,[]⟩) Wq9 Wq1) rfl ?_;rintro _ _ ⟨A10,c10,rfl,rfl⟩;rw[(eA (ys:=T1) (y:=⟨kd,g,n,none,0,[]⟩)).1,(eA (ys:=T1) (y:=⟨kd,g,n,none,0,[]⟩)).2];refine UN ?_;have hlt:=nK hgo;have hok:=hp.go hTl hgood (x:=⟨kd,g,n,none,0,[]⟩) hgo (A2:=A10) (c2:=c10) (M:=[]) ((hs1.trans hs2).trans hs3) hu3 (λw _=>nH w .u8) ⟨fa,ap _,hn.1⟩;refine qMP ((⟨T1++[(⟨kd,g,n,none,0,[]⟩:ItR)],A10,c10,[bP [],bP K],l6,A8,c8⟩:DT)) ⟨hok,show l6.length<(kd::l4).length by rw[aO];omega⟩
 have hTT:T1.map ItR.it=T:=hp.stop (by dsimp only;simp only[Bool.and_eq_false_iff,aa]at hc14;rcases hc14 with z|z;exact .inl (List.eq_nil_of_length_eq_zero Wq1);exact .inr Wq1);refine Z_8 ?_;exact Wq46
variable{w:World}{sz:Nat}
theorem rdv_tk{m:Nat}{xs:List Value}(h:RdV w sz A n c xs)(hm:m<=n):RdV w sz A m c (xs.take (m*sz)):=by
 have hl:=h.len;have hc:=h.cap;refine⟨?_,by omega,h.max,λe=>?_,λad e j u hu=>?_⟩
 .rw[aD,hl];have:=Nat.mul_le_mul_right sz hm;omega
 .have:=h.nil e;omega
 rw[List.getElem?_take]at hu;split at hu
 .exact h.at_ ad e j u hu
 cases hu
theorem Gf{α β:Type}{f:α->List β}{sz:Nat}(hf:∀a,(f a).length=sz):∀(l:List α) (m:Nat),(l.take m).flatMap f=(l.flatMap f).take (m*sz)
 |[],m=>by rw[List.take_nil];exact List.take_nil.symm
 |a::l,0=>by rw[Nat.zero_mul];rfl
 |a::l,m+1=>by
  rw[List.take_succ_cons,bF,bF,Gf hf l m,Nat.succ_mul,List.take_append,hf,aM (show(f a).length<=m*sz+sz by rw[hf];omega),Nat.add_sub_cancel]
theorem AM{α:Type}{f:α->List Value}(hf:∀a,(f a).length=sz){w:World}{A:Oa}{c:Nat}{l:List α}(h:RdV w sz A l.length c (l.flatMap f))(m:Nat):RdV w sz A (l.take m).length c ((l.take m).flatMap f):=by
 by_cases hm:m<=l.length
 .rw[Gf hf,aD,Nat.min_eq_left hm];exact rdv_tk h hm
 rw[aM Wq1];exact h
theorem Na(h:kg I=0):EQ I T=lx (I.map Si.ag) T/\Kc I T=(ER (I.map Si.ag) T).map Ag.view:=by
 unfold EQ Kc;rw[h];exact gr
theorem fN.ok_no(h:kg I≠0):fN.ok ⟨none,0,[],[],none,0,[],[],kg I⟩ I T:=by
 obtain⟨h1,h2⟩:=Hp (T:=T) h;refine⟨h1.symm,h2.symm,rfl,λw _ z hz=>(by cases hz),λw _ x hx=>jT,λo ho=>?_,λv hv=>?_⟩
 .rw[h1]at ho;cases ho
 rw[h2]at hv;cases hv
theorem Mf{V:List VwR}{x:VwR}:V.length+1=(V++[x]).length/\V.flatMap VwR.cells++x.cells=(V++[x]).flatMap VwR.cells:=by
 exact Wq304
structure DV where
 i:Nat
 V:List VwR
 B:Option Addr
 e:Nat
 K:List bJ
theorem sS(tr:Bool)(A:Oa)(c:Nat)(L:List Im)(B:Oa)(e:Nat)(T:List ItR)(hL:∀x,x∈L->u8s x.l/\u8s x.k/\x.l.length<=4611686018427387904)(hT:∀x,x∈T->u8s x.b/\x.b.length<=1000/\ -9223372036854775808<=x.n)(w:World)(h:RdV w 3 A L.length c (L.flatMap Im.cells))(hr:∀x,x∈L->x.rd w)(h2:RdV w 4 B T.length e (T.flatMap ItR.cells))(hB:∀x,x∈T->Rd w .u8 x.A x.b.length x.c x.b)(ht:fc w):
  Ctr prog 25 [.agg #[.slice A L.length c,.slice B T.length e],.bool tr] w [] (λv cs=>∃R:fN,R.ok (L.map Im.si) ((T.map ItR.it).take 512)/\v= .agg R.cells.toArray/\cs=R.cs):=by
 have hbs:=w8 L;have hcap:=h2.cap;have hmax:=h2.max;unfold maxLen at hmax;refine Zfs func25 ntmps25 ?_;refine Z_2 ?_;refine ZO λb2=>?_;refine ZN λb4=>?_
 refine Z_3 ?_;by_cases hb0:jB L=0
 .refine Z_4 ?_;refine Wq477 ?_;rintro _ _ ⟨_,⟨bm,m,⟨hm,hlm⟩,rfl,rfl⟩,rfl⟩;refine sG ?_;refine fH ?_;refine Zy (Js (Zv rfl) (Zv rfl) (show _=(((T.take 512).length:Nat):Int)from by rw[aD];omega)) ?_;have htl:(T.take 512).length<=T.length:=ri;have ht5:(T.take 512).length<=512:=ri;refine Qo ?_;refine dy (eE bm m) (λw hi hin=>NV bm m 0 hm (T.take 512) Wq1 B e (λx hx=>hT x (aB hx)) w hin (λw' hk=>AM ItR.V8 (RdV.Wm h2 hi Zi hk) 512) (λw' hk x hx=>RdV.Wm (hB x (aB hx)) hi Zi hk) (λw' hk=>RdV.Wm ht hi Zi hk)) ?_;rintro _ _ ⟨m2,Z,A3,c3,J,⟨hm2,hl2,hZ,hJ⟩,rfl,rfl⟩;refine ZA ?_;refine ZN λb7=>?_
  refine jj ?_;refine ZSe (λw hi=>oK bm m2 w (hi.get Zh)) ?_;have hm4:m2.l.length<=4:=(by rw[m2.len];exact hm2.g.four);have hyes:=Na (I:=L.map Im.si) (T:=(T.map ItR.it).take 512) (by rw[<-hbs];exact hb0);rw[<-ag_si,<-hlm,<-List.map_take,<-hl2]at hyes;have hzw:∀o,o∈lx m.l ((T.take 512).map ItR.it)->o.v.wf:=H8 hm.f (λx hx=>(by obtain⟨y,hy,rfl⟩:=aZ.1 hx;exact(hT y (aB hy)).1));refine cY 55 23 (fg (eY (row b4 [.slice none 0 0,.slice none 0 0,.i 0] 45::row b7 [.slice A3 Z.length c3,.slice none 0 0,.i 0] 45::vU A3 c3 Z::bP J::Co none 0 []::bP []::eE bm m2) Zj (Z_4 ?_)));refine wLo (λq:DV=>[(4,.p b4),(5,.p bm),(7,.p b7),(33,.i (m2.l.length:Int)),(34,.i (q.i:Int))]) (λq=>row b4 [.slice none 0 0,.slice none 0 0,.i 0] 45::row b7 [.slice A3 Z.length c3,.slice q.B q.V.length q.e,.i 0] 45::vU A3 c3 Z::bP J::Co q.B q.e q.V::bP q.K::eE bm m2) (λq=>q.i<=m2.l.length/\q.V.map VwR.v=(m2.l.map Ag.view).take q.i/\VwOk q.K q.V) (λq=>m2.l.length - q.i) ((⟨0,[],none,0,[]⟩:DV)) ⟨ap _,rfl,λw _ x hx=>jT⟩ ?_;rintro⟨i,V,B2,e2,K⟩ ⟨hi1,hV,hK⟩;dsimp only at hi1 hV hK|-;have hVl:V.length<=i:=(by have e:=congrArg List.length hV;rw[ax,aD]at e;omega);refine Zw6 ?_ ?_<;>intro hc6
  .simp only[ac]at hc6;have hil:i<m2.l.length:=Wq1;obtain⟨a,ha⟩:∃a,m2.l[i]? =some a:=⟨_,ae hil⟩;refine jl ?_;refine ZSn (λw hi=>uE bm m2 _ hm2 Wq1 i a ha w hi Zi) ?_;rintro _ _ ⟨Y4,J4,hR4,rfl,rfl⟩;refine Z_3 ?_;refine ZN λb9=>?_
   refine rf ?_;refine pZ ?_;rintro _ _ ⟨b46,rfl,rfl⟩;refine fo (bV (e:=55) (sz:=23) (bytes:=216) rfl rfl Za rfl rfl (λw hi=>hi.rd (Zhc (slv 55 23 (sA b46) 1 1 (VwR.cells ⟨a.view,Y4⟩)))) (vwR_one ⟨a.view,Y4⟩) Wq9 Wq1) rfl ?_;rintro _ _ ⟨B3,e3,rfl,rfl⟩;rw[(Mf (V:=V) (x:=⟨a.view,Y4⟩)).1,(Mf (V:=V) (x:=⟨a.view,Y4⟩)).2];refine fx [bP J4,bP K] Zi (iJ ?_);refine jS ?_;have hV2:(V++[(⟨a.view,Y4⟩:VwR)]).map VwR.v=(m2.l.map Ag.view).take (i+1):=(by rw[List.map_append,hV,bE,aX,ha];rfl);refine qMP ((⟨i+1,V++[(⟨a.view,Y4⟩:VwR)],B3,e3,[bP J4,bP K]⟩:DV)) ⟨⟨show i+1<=m2.l.length by omega,hV2,hK.snoc hR4⟩,show m2.l.length - (i+1)<m2.l.length - i by omega⟩
  simp only[aa]at hc6;obtain rfl:i=m2.l.length:=Wq1;refine Z_8 ?_;refine iC ?_;refine bO (row b4 [.slice A3 Z.length c3,.slice B2 V.length e2,.i 0] 45::fN.cs ⟨A3,c3,Z,J,B2,e2,V,K,0⟩) Zj (m8 (cs':=(fN.cs ⟨A3,c3,Z,J,B2,e2,V,K,0⟩)) (.inl rfl) Zu rfl rfl Zh Zrf Zrf ?_);rw[<-ax (f:=Ag.view),bC]at hV;exact⟨⟨A3,c3,Z,J,B2,e2,V,K,0⟩,⟨by rw[<-List.map_take,hyes.1];exact hZ,by rw[<-List.map_take,hyes.2];exact hV,hb0.symm.trans hbs,hJ,hK,by rw[<-List.map_take,hyes.1];exact hzw,by rw[<-List.map_take,hyes.2];exact λv hv=>(by obtain⟨g,hg,rfl⟩:=aZ.1 hv;exact(hm2.f g hg).wf)⟩,rfl,rfl⟩
 refine Z_4 ?_;refine Wq448 ?_;refine UO ?_;refine xw ?_;refine Z_2 ?_;rw[hbs]at hb0|-;refine cY 107 25 (fg (cY 55 23 (fg (Z_2 ?_))));refine jC ?_;exact bO (row b4 [.slice none 0 0,.slice none 0 0,.i (kg (L.map Im.si))] 45::fN.cs ⟨none,0,[],[],none,0,[],[],kg (L.map Im.si)⟩) Zj (m8 (cs':=(fN.cs ⟨none,0,[],[],none,0,[],[],kg (L.map Im.si)⟩)) (.inl rfl) Zu rfl rfl Zh Zrf Zrf ⟨⟨none,0,[],[],none,0,[],[],kg (L.map Im.si)⟩,fN.ok_no hb0,rfl,rfl⟩)
theorem nB(tr:Bool)(A:Oa)(c:Nat)(l:Li)(hb:u8s l)(w:World)(h:Rd w .u8 A l.length c l)(ht:fc w):
  Ctr prog 39 [.slice A l.length c,.bool tr] w [] (λv cs=>∃R:fN,R.ok (Eg l).1 (Eg l).2/\v= .agg R.cells.toArray/\cs=R.cs):=by
 have h5:=(ja (PM hb).1).2.1;refine Zfs func39 ntmps39 ?_;refine Z_2 ?_;refine ZN λb4=>?_;refine Z_5 ?_;refine ZSn (λw hi=>kp A c l hb w (h.Wh hi)) ?_;rintro _ _ ⟨S,hS,rfl,rfl⟩;obtain⟨A1,c1,L,J,B,e,T,K⟩:=S;obtain⟨hl,hT,hj,hk,hlb,htb⟩:=hS;dsimp only at hl hT hj hk hlb htb;refine ZA ?_;refine ZSn (λw hi=>sS tr A1 c1 L B e T (λx hx=>⟨(hlb x hx).1,(hlb x hx).2.1,aK (hlb x hx).2.2.1 bX⟩) (λx hx=>⟨(htb x hx).1,aK (htb x hx).2.1 bX,Int.le_trans bX (htb x hx).2.2⟩) w (hi.rd (Zhc (imC A1 c1 L))) (hj w (hi.get (Zhc (bP J)))) (hi.rd (Zhc (iU B e T))) (hk w (hi.get (Zhc (bP K)))) (ht.old hi)) ?_;rintro _ _ ⟨R,hR,rfl,rfl⟩;rw[hl,hT,aM h5]at hR;refine iC ?_;exact bO (row b4 R.cells 45::R.cs) Zj (m8 (cs':=R.cs) (.inl rfl) Zu rfl rfl Zh Zrf Zrf ⟨R,hR,rfl,rfl⟩)
theorem FY:kg [⟨1,[],[]⟩]=0/\EQ [⟨1,[],[]⟩] [⟨1,0,8,[]⟩]=[⟨8,gj,0⟩]:=⟨by decide,by kernel_rfl⟩
theorem lU(w:World)(ht:fc w):CW prog 24 [] w (.bool true):=by
 obtain⟨hk1,hk2⟩:=FY;have hk3:=uy (T:=[⟨1,0,8,[]⟩]) hk1;refine Zfs func24 ntmps24 ?_;refine Z_7 ?_;refine ZSn (λw hi=>nB true none 0 [] fa w (nH w .u8) (ht.old hi)) ?_;rintro _ _ ⟨R,hR,rfl,rfl⟩;have hw1:R.why=1:=hR.why;have hz1:R.Z.length=0:=hR.zlen;refine ZN λb1=>?_
 refine jC ?_;refine jD ?_;rintro _ _ ⟨b4,rfl,rfl⟩;refine ZSn (λw hi=>nB true (sA b4) 10 [1,1,0,0,0,0,1,0,8,0] (λx hx=>by simp only[aJ,List.not_mem_nil,or_false]at hx;omega) w (hi.rd (Zhc (slv 5 1 (sA b4) 10 10 [.int .u8 1,.int .u8 1,.int .u8 0,.int .u8 0,.int .u8 0,.int .u8 0,.int .u8 1,.int .u8 0,.int .u8 8,.int .u8 0]))) (ht.old hi)) ?_;rintro _ _ ⟨Q,hQ,rfl,rfl⟩;have hQ:Q.ok [⟨1,[],[]⟩] [⟨1,0,8,[]⟩]:=hQ;have hw2:Q.why=0:=hQ.why.trans hk1;have hv2:Q.V.length=1:=hQ.vlen.trans hk3;have hz:=hQ.z;rw[hk2]at hz;obtain⟨A1,c1,Z1,J1,B1,e1,V1,K1,w1⟩:=R;obtain⟨A2,c2,Z2,J2,B2,e2,V2,K2,w2⟩:=Q;dsimp only at hw1 hz1 hw2 hv2 hz;subst hw1 hw2;obtain⟨z0,rfl,h0⟩:=N7 hz;obtain⟨⟨n0,v0,y0⟩,Y0⟩:=z0;simp only[Ou.mk.injEq]at h0;obtain⟨rfl,rfl,rfl⟩:=h0;refine dU (λw hi=>dV (hi.get (Zhc (vU A2 c2 [⟨⟨8,gj,0⟩,Y0⟩]))) (show 0<1 by decide)) (λhq=>?_);obtain⟨bz,rfl⟩:=hq;refine ZN λb2=>?_
 refine ZM ?_;refine gq ?_;refine Zyy rfl rfl (jn (cA rfl) (Zv rfl) (show _=true from by rw[hz1];rfl)) ?_;refine oU ?_;refine Zyy rfl rfl (cC (j:=0) rfl Zrf (cA rfl) (Zv rfl) Wq2 (λ_=>(show 0<1 by decide))) ?_;refine Zyy rfl rfl (cR 0 rfl (cA rfl) ((fa_lit (j:=0) rfl))) ?_;refine gQ (bS rfl rfl) (bM Zrf (cA rfl)) (vu (Zhc (vU (sA bz) c2 [⟨⟨8,gj,0⟩,Y0⟩])) rfl) rfl (Z_6 ?_);refine Zyy rfl rfl (jn (cA rfl) (Zv rfl) (show _=true from by rw[hv2];rfl)) ?_;exact xy
theorem uK(a:Vw)(Y Z:VAd)(ha:a.wf)(w:World)(h:oV w a Y)(h2:oV w a Z):CW prog 27 [vv a Y,vv a Z] w (.bool true):=
 (SO a a Y Z ha ha w h h2).mono λv cs ⟨⟨r,h1,h2⟩,h3⟩=>⟨by rw[h1,h2.2 rfl],h3⟩
structure ImX(l:List Bo4)(L:List Im)(J:List bJ):Prop where
 n5:L.length<=5
 b:∀x,x∈L->u8s x.l/\u8s x.k/\x.l.length<=1024/\x.k.length<=1024
 rd:∀w:World,(∀a,a∈l->Rd w .u8 a.x.B a.x.k.length a.x.e a.x.k)->(bP J).ok w->∀x,x∈L->x.rd w
theorem ImX.snoc{l:List Bo4}(h:ImX l L J)(h5:L.length<5){a:Bo4}(ha:a∈l)(hak:u8s a.x.k){A:Oa}{c n:Nat}{E:Li}(hE:u8s E)(hn:1<=n/\n<=16){q:Int}:
  ImX l (L++[(⟨A,c,E.take (n*64),a.x.B,a.x.e,a.x.k.take 1024,q⟩:Im)]) [sl .u8 5 A E.length c E,bP J]:=by
 refine⟨by rw[aj];exact h5,λx hx=>?_,λw hr hj x hx=>?_⟩
 .rcases az.1 hx with q|q
  .exact h.b x q
  rw[aC.1 q];exact⟨λy hy=>hE y (aB hy),λy hy=>hak y (aB hy),by show(E.take (n*64)).length<=1024;rw[aD];omega,by show(a.x.k.take 1024).length<=1024;rw[aD];omega⟩
 have e:∀c',c'∈[sl .u8 5 A E.length c E,bP J]->c'.ok w:=ek hj;rcases az.1 hx with q|q
 .exact h.rd w hr (e _ (.tail _ (.head _))) x q
 exact Wq310
def I4(x:ItR):ItR:=⟨x.kind,x.Wq,x.n,x.A,x.c,x.b.take 300⟩
def iT(its:List ItR):List ItR:=(its.take 20).map I4
theorem cut3_ok{x:ItR}(h:x.ok w):(I4 x).ok w:=⟨iv h.rd 300,λy hy=>h.bs y (aB hy)⟩
theorem wv(its:List ItR):(iT its).length<=20:=by unfold iT;rw[ax,aD];omega
theorem qI{its:List ItR}(h:∀x,x∈its->x.ok w):∀x,x∈iT its->x.ok w/\x.b.length<=300:=λx hx=>by
 obtain⟨y,hy,rfl⟩:=aZ.1 hx;exact⟨cut3_ok (h y (aB hy)),by show(y.b.take 300).length<=300;rw[aD];omega⟩
structure DS where
 i:Nat
 L:List Im
 A:Option Addr
 c:Nat
 J:List bJ
theorem mw(A:Oa)(c:Nat)(l:List Bo4)(B:Oa)(e:Nat)(its:List ItR)(w:World)(h:RdV w 4 A l.length c (l.flatMap Bo4.cells))(hl:∀y,y∈l->y.x.ok w)(h2:RdV w 4 B its.length e (its.flatMap ItR.cells))(hit:∀x,x∈its->x.ok w):
  Ctr prog 14 [.slice A l.length c,.slice B its.length e] w [] (λv cs=>∃A' c' L J B' e',ImX l L J/\v= .agg #[.slice A' L.length c',.slice B' (iT its).length e']/\cs=[imC A' c' L,bP J,iU B' e' (iT its)]):=by
 refine Zfs func14 ntmps14 ?_;refine Z_2 ?_;refine ZN λb4=>?_;refine Z_4 ?_;refine ZN λb5=>?_;refine Z_5 ?_;refine Qp ?_;refine Z_4 ?_;refine wLo (λq:DS=>[(0,.slice A l.length c),(1,.slice B its.length e),(4,.p b4),(5,.p b5),(6,.i (q.i:Int))]) (λq=>[row b4 [.slice none 0 0,.slice none 0 0] 27,row b5 [.slice q.A q.L.length q.c,.slice none 0 0] 27,imC q.A q.c q.L,bP q.J,iU none 0 []]) (λq=>q.i<=5/\q.i<=l.length/\q.L.length=q.i/\ImX l q.L q.J) (λq=>5 - q.i) ((⟨0,[],none,0,[]⟩:DS)) ⟨ap _,ap _,rfl,⟨ap _,(λx hx=>by cases hx),(λw _ _ x hx=>by cases hx)⟩⟩ ?_;rintro⟨i,L,A1,c1,J⟩ ⟨hi5,hil,hLi,hI⟩;dsimp only at hi5 hil hLi hI|-;refine yk ?_ ?_<;>intro hc3
 .have hc3':i<l.length/\i<5:=Wq433;obtain⟨hkl,hk5⟩:=hc3';obtain⟨ad,rfl⟩:=h.some_ Wq1;obtain⟨a,hla⟩:∃a,l[i]? =some a:=⟨_,ae hkl⟩;have ham:=ak hla;have hao:=hl a ham;refine Z_4 ?_;refine cL (λq:Nat×Option Addr×Nat×List Int×Nat=>[(0,.slice (some ad) l.length c),(1,.slice B its.length e),(4,.p b4),(5,.p b5),(6,.i (i:Int)),(7,.p q.1)]) (λq=>[row b4 [.slice none 0 0,.slice none 0 0] 27,row b5 [.slice A1 L.length c1,.slice none 0 0] 27,imC A1 c1 L,bP J,iU none 0 [],row q.1 (Im.cells ⟨q.2.1,q.2.2.1,q.2.2.2.1.take (q.2.2.2.2*64),a.x.B,a.x.e,a.x.k.take 1024,(q.2.2.2.2:Int)⟩) 59,sl .u8 5 q.2.1 q.2.2.2.1.length q.2.2.1 q.2.2.2.1]) (λq=>u8s q.2.2.2.1/\1<=q.2.2.2.2/\q.2.2.2.2<=16) ?_ ?_
  .refine gP (Zdn [17]) [(0,0),(1,0),(2,0),(3,0),(4,1),(5,0),(6,0),(7,0),(8,0),(9,1),(10,0),(11,0),(12,0),(13,0),(14,1),(15,3),(16,3),(17,3)] Zk Zk (Uv ?_);refine dH rfl (cR 0 rfl (Zv rfl) ((cu ad (i*4) 0))) rfl (uY rfl (bM Zrf Zv0) (di h (bZ Bo4.V8 (i:=0) hla rfl)) rfl (Uv ?_));refine dH rfl (cR 1 rfl (Zv rfl) ((cu ad (i*4) 1))) rfl (uY rfl (bM Zrf Zv0) (di h (bZ Bo4.V8 (i:=1) hla rfl)) rfl (Uv ?_));refine dH rfl (cR 2 rfl (Zv rfl) ((cu ad (i*4) 2))) rfl (uY rfl (bM Zrf Zv0) (di h (bZ Bo4.V8 (i:=2) hla rfl)) rfl (LY [(15,[(16,2),(17,2)]),(16,[(15,2),(17,2)])] Zk (.cons ?_ (.cons ?_ .nil))))
   .refine Wq363 ?_;rintro _ _ ⟨_,⟨A2,c2,E,E2,N,⟨hE1,hn,hE2⟩,rfl,rfl⟩,rfl⟩;refine ym ?_;rintro _ _ ⟨b7,rfl,rfl⟩;refine Uh ?_;rintro _ _ ⟨rfl,rfl⟩;refine i6 (qMP ((⟨b7,A2,c2,E,N⟩:Nat×Option Addr×Nat×List Int×Nat)) ⟨hE1,hn⟩)
   refine Jl ?_;rintro _ _ ⟨b7,rfl,rfl⟩;refine fT ?_;refine Wq363 ?_;rintro _ _ ⟨_,⟨A2,c2,E,E2,N,⟨hE1,hn,hE2⟩,rfl,rfl⟩,rfl⟩;refine Uh ?_;rintro _ _ ⟨rfl,rfl⟩;refine i6 (qMP ((⟨b7,A2,c2,E,N⟩:Nat×Option Addr×Nat×List Int×Nat)) ⟨hE1,hn⟩)
  rintro⟨b7,A2,c2,E,N⟩ ⟨hE1,hn⟩;dsimp only at hE1 hn|-;refine cL (λq:Int=>[(0,.slice (some ad) l.length c),(1,.slice B its.length e),(4,.p b4),(5,.p b5),(6,.i (i:Int)),(7,.p b7)]) (λq=>[row b4 [.slice none 0 0,.slice none 0 0] 27,row b5 [.slice A1 L.length c1,.slice none 0 0] 27,imC A1 c1 L,bP J,iU none 0 [],row b7 (Im.cells ⟨A2,c2,E.take (N*64),a.x.B,a.x.e,a.x.k.take 1024,q⟩) 59,sl .u8 5 A2 E.length c2 E]) (λ_=>True) ?_ ?_
  .refine Z_4 ?_;refine EE ?_;refine Zy (cR 3 rfl (Zv rfl) ((cu ad (i*4) 3))) ?_;refine dQ (bM Zrf Zv0) (di h (bZ Bo4.V8 (i:=3) hla rfl)) rfl (Z_2 ?_);refine ZW ?_ ?_<;>intro hc6
   .refine Z_3 ?_;refine EE ?_;refine Zy (cR 1 rfl (Zv rfl) ((cu ad (i*4) 1))) ?_;refine dQ (bM Zrf Zv0) (di h (bZ Bo4.V8 (i:=1) hla rfl)) rfl (iJ ?_);refine Zn (qMP (a.x.Wa) kY)
   refine Zc (qMP ((N:Int)) kY)
  rintro q -;refine Z_4 ?_;refine pZ ?_;rintro _ _ ⟨b50,rfl,rfl⟩;refine fo (bV (e:=59) (sz:=3) (bytes:=56) rfl rfl Za rfl rfl (λw hi=>hi.rd (Zhc (slv 59 3 (sA b50) 1 1 (Im.cells ⟨A2,c2,E.take (N*64),a.x.B,a.x.e,a.x.k.take 1024,q⟩)))) (pC ⟨A2,c2,E.take (N*64),a.x.B,a.x.e,a.x.k.take 1024,q⟩) Wq9 Wq1) rfl ?_;rintro _ _ ⟨A3,c3,rfl,rfl⟩;rw[(mv (L:=L) (x:=⟨A2,c2,E.take (N*64),a.x.B,a.x.e,a.x.k.take 1024,q⟩)).1,(mv (L:=L) (x:=⟨A2,c2,E.take (N*64),a.x.B,a.x.e,a.x.k.take 1024,q⟩)).2];refine fx [sl .u8 5 A2 E.length c2 E,bP J] Zi (iJ ?_);refine lI ?_;refine qMP ((⟨i+1,L++[(⟨A2,c2,E.take (N*64),a.x.B,a.x.e,a.x.k.take 1024,q⟩:Im)],A3,c3,[sl .u8 5 A2 E.length c2 E,bP J]⟩:DS)) ⟨⟨show i+1<=5 by omega,show i+1<=l.length by omega,by rw[aj,hLi];rfl,hI.snoc Wq1 ham hao.bs hE1 hn⟩,show 5 - (i+1)<5 - i by omega⟩
 refine fb ?_;refine wLo (λq:Nat×Option Addr×Nat=>[(1,.slice B its.length e),(4,.p b4),(5,.p b5),(8,.i (q.1:Int))]) (λq=>[row b4 [.slice none 0 0,.slice none 0 0] 27,row b5 [.slice A1 L.length c1,.slice q.2.1 ((its.take q.1).map I4).length q.2.2] 27,imC A1 c1 L,bP J,iU q.2.1 q.2.2 ((its.take q.1).map I4)]) (λq=>q.1<=20/\q.1<=its.length) (λq=>20 - q.1) ((⟨0,none,0⟩:Nat×Option Addr×Nat)) ⟨ap _,ap _⟩ ?_;rintro⟨j,B1,e1⟩ ⟨hj20,hjl⟩;dsimp only at hj20 hjl|-;refine yk ?_ ?_<;>intro hc10
 .have hc10':j<its.length/\j<20:=(by simp only[au,ac]at hc10;omega);obtain⟨hjt,hj2⟩:=hc10';obtain⟨ad2,rfl⟩:=h2.some_ Wq1;obtain⟨x,hx⟩:∃x,its[j]? =some x:=⟨_,ae hjt⟩;have hxo:=hit x (ak hx);have HC:=λw=>tA x.A x.c x.b 300 w hxo.rd.cap
  have hsn:(its.take (j+1)).map I4=(its.take j).map I4++[I4 x]:=Qr;have hjn:((its.take j).map I4).length=j:=yq;refine Wq488 ?_;refine ZN λb9=>?_
  refine jj ?_;refine BV ?_;refine iJ ?_;refine xv ?_;rintro _ _ ⟨b74,rfl,rfl⟩;refine fo (bV (e:=41) (sz:=4) (bytes:=48) rfl rfl Za rfl rfl (λw hi=>hi.rd (Zhc (slv 41 4 (sA b74) 1 1 (I4 x).cells))) (je (I4 x)) Wq9 Wq1) rfl ?_;rintro _ _ ⟨B2,e2,rfl,rfl⟩;rw[(eA (ys:=(its.take j).map I4) (y:=I4 x)).1,(eA (ys:=(its.take j).map I4) (y:=I4 x)).2,<-hsn];refine iJ ?_;refine lI ?_;refine qMP ((⟨j+1,B2,e2⟩:Nat×Option Addr×Nat)) ⟨⟨show j+1<=20 by omega,show j+1<=its.length by omega⟩,show 20 - (j+1)<20 - j by omega⟩
 have hjj:its.take j=its.take 20:=(by simp only[Bool.and_eq_false_iff,aa]at hc10;rcases Nat.lt_or_ge j 20 with z|z;rw[aM (show its.length<=j by omega),aM (show its.length<=20 by omega)];rw[show j=20 by omega]);rw[hjj];refine Z_8 ?_;refine iC ?_;exact bO (row b4 [.slice A1 L.length c1,.slice B1 (iT its).length e1] 27::[imC A1 c1 L,bP J,iU B1 e1 (iT its)]) Zj (m8 (cs':=[imC A1 c1 L,bP J,iU B1 e1 (iT its)]) (.inl rfl) Zu rfl rfl Zh Zrf Zrf ⟨A1,c1,L,J,B1,e1,hI,rfl,rfl⟩)
end
end Go.Ink
