/- Lemmas. -/
import Derived.Test.YtbkgmdgackknfaaGreatDoorPar
set_option linter.unusedSimpArgs false
set_option linter.unusedVariables false
set_option maxRecDepth 100000
set_option maxHeartbeats 4000000
namespace Go.Ink
open Go.RowKit Go.Proofs.Tryz
abbrev span(i:Nat)(t:Int):List Value:=[.i i,.i i,.i t]
def fv:Nat->List Int->List Value
 |_,[]=>[]
 |k,t::T=> .i k:: .i k:: .i t::fv (k+1) T
theorem GX:∀(T:List Int) (k:Nat) (t:Int),fv k (T++[t])=fv k T++[.i ((k+T.length:Nat):Int),.i ((k+T.length:Nat):Int),.i t]
 :=by intro y1;induction y1<;>grind [fv]
theorem ko:∀(T:List Int) (k i:Nat) {t:Int} {j:Nat} {v:Value},T[i]? =some t->(span (k+i) t)[j]? =some v->(fv k T)[i*3+j]? =some v
 |[],_,_,_,_,_,h,_=>by simp at h
 |x::T,k,0,t,j,v,h,hj=>by
  obtain rfl:x=t:=by grind
  rw[Nat.zero_mul,Nat.zero_add]
  match j,hj with
  |0,hj=>exact hj
  |1,hj=>exact hj
  |2,hj=>exact hj
  |j+3,hj=>simp at hj
 |x::T,k,i+1,t,j,v,h,hj=>by
  have:=ko T (k+1) i (t:=t) (j:=j) (v:=v) bR bR;rw[show(i+1)*3+j=(i*3+j)+3 by omega];exact this
theorem xy:∀(T:List Int) (k i:Nat) (t:Int),(fv k T).set (i*3+2) (.i t)=fv k (T.set i t)
 |[],_,_,_=>rfl
 |x::T,k,0,t=>rfl
 |x::T,k,i+1,t=>by
  have:=xy T (k+1) i t
  grind [fv]
theorem GW:∀(T:List Int) (k:Nat),∀u∈fv k T,u.oneCell'=true
 |[],_,u,h=>by cases h
 |x::T,k,u,h=>by
  have h:u∈(.i k:: .i k:: .i x::fv (k+1) T:List Value):=h;simp only[aG]at h;rcases h with rfl|rfl|rfl|h
  .rfl
  .rfl
  .rfl
  exact GW T (k+1) u h
theorem qa(T:List Int)(n a:Int):(fX T n a).length=T.length:=(jU T n a).1
theorem Lp(n:Nat):iota (n+1)=iota n++[(n:Int)]:=by grind [iota,List.range_succ]
theorem jz{α:Type}{l:List α}{k:Nat}{x:α}(h:l[k]? =some x):l.drop k=x::l.drop (k+1):=by
 grind [Nat.lt_or_ge,List.drop_eq_getElem_cons,List.getElem?_eq_getElem,Option.some.inj,List.getElem?_eq_none]
theorem Oh{w0:World}{S:List Nat}{cs:List bC}{n c j:Nat}{ad:Addr}{xs:List Value}{v:Value}(h:∀w,Inv w0 S cs w->RdV w 1 (some ad) n c xs)(hv:xs[j]? =some v):∀w,Inv w0 S cs w->cells [(ad.add (j*1),v)] w:=λw hi z hz=>by
 rw[aB]at hz;subst hz;rw[Nat.mul_one];exact(h w hi).at_ ad rfl j v hv
theorem one3(a b c:Int):∀u∈([.i a,.i b,.i c]:List Value),u.oneCell'=true:=λu h=>by
 simp only[aG,aS,or_false]at h;rcases h with rfl|rfl|rfl<;>rfl
theorem Gt.RU{p:Pg}{Q:PAd}{w0 w:World}{cs:List bC}(h:Gt p Q w0)(hi:Inv w0 [] cs w):Gt p Q w:=⟨h.code.RU hi,h.RV.RU hi,h.RX.RU hi⟩
theorem rE{p:Pg}(h:p.R7=true):(∀(k:Nat) (x:II),p.code[k]? =some x->ly x=true->(0<=x.a/\x.a<k)/\(0<=x.b/\x.b<k))/\(∀n,n∈p.RV\/n∈p.RX->0<=n/\n<p.code.length)/\(0<=p.flags->p.flags<p.code.length)/\(0<=p.target->p.target<p.code.length):=by
 unfold Pg.R7 at h;simp only[aD]at h;obtain⟨-,h1,h2,h3,h4⟩:=h;have hv:∀a b,tf a b=true->0<=a/\a<b:=λa b h=>by grind [tf]
 refine⟨λk x hx hab=>?_,λn hn=>?_,λh0=>?_,λh0=>?_⟩
 .have hm:=yC p.code 0 h1 k x hx
  grind [ly,kw,tf]
 .grind
 .grind [Pg.SG]
 grind [Pg.SG]
section
attribute [local irreducible] OpY bH
abbrev lvC(A:Option Addr)(c:Nat)(T:List Int):bC:=slv 351 3 A T.length c (fv 0 T)
abbrev lvF(b:Nat)(A:Option Addr)(c:Nat)(T:List Int):List bC:=[row b [.slice A T.length c] 346,lvC A c T]
theorem KT(T:List Int)(i j:Nat)(w:World):Ctr prog 232 [.agg #[.i i,.i i,.i (T.getD i 0)],.agg #[.i j,.i j,.i (T.getD j 0)]] w [] (λr cs=>r= .bool (np T i j)/\cs=[]):=by
 obtain⟨ti,hti⟩:=Zgn (T.getD i 0);obtain⟨tj,htj⟩:=Zgn (T.getD j 0);unfold np;rw[hti,htj];refine Zfs func232 ntmps232 ?_;refine Z_2 ?_;refine ZO λb2=>?_;refine ZO λb3=>?_
 refine kX ?_;refine gf ?_;exact⟨by grind,rfl⟩
theorem Jm(b:Nat)(A:Option Addr)(c:Nat)(T:List Int)(n at_:Int)(hn:0<=n->n.toNat<T.length)(w:World)(hi:Inv w (bD (lvF b A c T)) (lvF b A c T) w):
  Ctr prog 267 [.i n,.i at_,.p b] w (lvF b A c T) (λ_ cs=>cs=lvF b A c (fX T n at_)):=by
 refine Zfn func267 ntmps267 hi ?_;refine Zw6 ?_ ?_<;>intro hc0
 .simp only[ae]at hc0;have hlt:=hn hc0;obtain⟨m,rfl⟩:∃m:Nat,n=m:=ap hc0;rw[aM]at hlt;obtain⟨bs,rfl⟩:=dO (hi.get (show Has _ (lvC A c T)from Zh)) Wq1;have hx:T[m]? =some (T.getD m 0):=bR;have hu:fX T m at_=T.set m (if at_>T.getD m 0 then at_ else T.getD m 0):=(by unfold fX;grind);obtain⟨t,ht⟩:=Zgn (T.getD m 0);rw[ht]at hx hu;obtain⟨t2,ht2⟩:=Zgn ((if at_>t then at_ else t));rw[ht2]at hu;refine bL ⟨λj=>List.elem j [11],tx b [.slice (sA bs) T.length c]⟩ Zk (iW 0 rfl Zk Zk Zk (bF Zrf (Zv rfl)) Wq3 (bK (t:=346) Zh) rfl (ZE 1 ?_));refine iW 2 rfl Zk Zk Zk (bF Zrf (Zv rfl)) Wq3 (bK (t:=346) Zh) rfl (ZE 3 ?_);refine Zy4 4 rfl (bV (j:=m) (sz:=3) (r:=m*3) rfl Zrf (Zv rfl) (Zv rfl) Zrf (λ_=>hlt) Wq1) ?_;refine ZFe 5 2 ?_;refine Zy5 6 rfl (bF Zrf Zv0) (Fe Zh (ko T 0 m (j:=2) hx rfl)) ?_;refine ZE 7 ?_;refine Zy4 8 rfl (wQ Zv0 Zv0 ht2) ?_;refine Zy4 9 rfl (bV (j:=m) (sz:=3) (r:=m*3) rfl Zrf (Zv rfl) (Zv rfl) Zrf (λ_=>hlt) Wq1) ?_;refine ZFe 10 2 ?_;refine cn 11 Zk (fO rfl rfl (E4 Zrf rfl rfl rfl Za Wq1) (λ_=>by rintro _ _ ⟨rfl,rfl⟩;exact bK (t:=346) Zh) ?_);rintro _ _ ⟨rfl,rfl⟩;refine eQ ?_;refine iY (cs':=[row b [.slice (sA bs) T.length c] 346,slv 351 3 (sA bs) T.length c ((fv 0 T).set (m*3+2) (.i t2))]) (.inr rfl) Zu rfl ?_;rw[hu,xy,show T.length=(T.set m t2).length by simp]
 simp only[ac]at hc0;have hu:fX T n at_=T:=(by unfold fX;grind);refine Zc (iY (cs':=lvF b A c T) (.inr rfl) Zu rfl ?_);rw[hu]
theorem lof_ok(p:Pg)(Q:PAd)(hf:tM p)(hr:p.R7=true)(w:World)(h:Gt p Q w):
  Ctr prog 230 [pgv p Q] w [] (λr cs=>∃A c,r= .slice A (gl p).length c/\cs=[lvC A c (gl p)]):=by
 have hv3:p.values=p.code.length:=hf.Si;have hm64:=hf.Se;have hrc:=h.code;have hrD:=h.RV;have hrR:=h.RX;obtain⟨u1,u2,u3,u4⟩:=rE hr;obtain⟨N,hN⟩:=Zgn (p.code.length);rw[hN]at hv3 hm64 u2 u3 u4;have hlv:[p.RV,p.RX,[p.flags,p.target]].foldl (λT l=>jJ T l N) (eZ p.code 0 (iota N))=gl p:=by unfold gl;rw[hN];rfl
 obtain⟨L0,hL0⟩:=Zgn (eZ p.code 0 (iota N));rw[hL0]at hlv;refine Zfs func230 ntmps230 ?_;refine Z_2 ?_;refine ZO λb1=>?_;refine Z_7 ?_;refine ZSe (λw hi=>vO p Q hf w (h.RU hi)) ?_;rw[hr];refine ji ?_;refine Z_4 ?_;refine ZN λb3=>?_;refine Z_5 ?_;refine cT 351 3 ?_
 try rw[hv3]
 refine Z_6 ?_;refine bN (λq:Nat×List Int×Option Addr×Nat=>[(1,.p b1),(3,.p b3),(16,.i p.values),(17,.i (q.1:Int))]) (λq=>[row b1 (jD p Q) 258,row b3 [.slice q.2.2.1 q.2.1.length q.2.2.2] 346,slv 351 3 q.2.2.1 q.2.1.length q.2.2.2 (fv 0 q.2.1)]) (λq=>q.1<=N/\q.2.1=iota q.1) (λq=>N - q.1) (⟨0,[],none,0⟩) ?_ ?_ ?_ ?_
 .exact⟨au _,rfl⟩
 .exact Zwk
 .exact Zu
 rintro⟨k,T,A1,c1⟩ ⟨hk,hT⟩;dsimp only at hk hT|-;have hTl:T.length=k:=(by rw[hT,qL]);refine Zw6 ?_ ?_<;>intro hc5
 .simp only[ae]at hc5;rw[hv3]at hc5;have hsp:fv 0 T++[.i (k:Int),.i (k:Int),.i (k:Int)]=fv 0 (T++[(k:Int)]):=(by rw[GX,hTl,Nat.zero_add]);refine sw ?_;refine jj ?_;rintro _ _ ⟨b25,rfl,rfl⟩;refine fW (cj (e:=351) (sz:=3) (bytes:=24) rfl rfl Za rfl rfl (λw hi=>hi.rd (show Has _ (slv 351 3 (sA b25) 1 1 [.i (k:Int),.i (k:Int),.i (k:Int)])from Zh)) (one3 _ _ _) gq Wq1) rfl ?_;rintro _ _ ⟨A2,c2,rfl,rfl⟩;rw[hsp,show T.length+1=(T++[(k:Int)]).length by simp];refine ZL ?_;refine gh ?_;refine bJ ((⟨k+1,T++[(k:Int)],A2,c2⟩:Nat×List Int×Option Addr×Nat)) ?_ ?_ ?_
  .exact⟨⟨by omega,by dsimp only;rw[Lp,hT]⟩,by omega⟩
  .exact Zwk
  exact Zj
 simp only[ac]at hc5;rw[hv3]at hc5;obtain rfl:k=N:=by omega
 refine Z_7 ?_;refine Zy (lX rfl) ?_;refine kM ?_;refine bN (λq:Nat×List Int=>[(1,.p b1),(3,.p b3),(5,.func (.func 267) #[] #[.p b3]),(30,.slice Q.Ac p.code.length Q.cc),(31,.i p.code.length),(32,.i (q.1:Int))]) (λq=>[row b1 (jD p Q) 258,row b3 [.slice A1 q.2.length c1] 346,slv 351 3 A1 q.2.length c1 (fv 0 q.2)]) (λq=>q.1<=k/\q.2.length=k/\eZ (p.code.drop q.1) q.1 q.2=L0) (λq=>k - q.1) (⟨0,T⟩) ?_ ?_ ?_ ?_
 .grind
 .exact Zwk
 .exact Zu
 rintro⟨i,T⟩ ⟨hi2,hTl,hL⟩;dsimp only at hi2 hTl hL|-;refine Zw6 ?_ ?_<;>intro hc11
 .simp only[ae]at hc11;rw[hN]at hc11;have hil:i<p.code.length:=Wq1;obtain⟨ad,had⟩:=hrc.some_ Wq1;have hrc2:=hrc;rw[had]at hrc2;obtain⟨x,hx⟩:∃x,p.code[i]? =some x:=⟨_,aa hil⟩;have hu:=u1 i x hx;rw[jz hx]at hL;have hL:eZ (p.code.drop (i+1)) (i+1) (bif ly x then fX (fX T x.a i) x.b i else T)=L0:=hL;obtain⟨op,dst,xa,xb,imm⟩:=x;dsimp only at hL hu;refine Z_7 ?_;refine Zy (fI (j:=i) had rfl Zrf Zv0 Zv0 Zrf (λ_=>hil)) ?_;refine Wq172 ?_;refine ZN λb7=>?_
  refine ZA ?_;refine ZM ?_;refine AN ?_ ?_<;>intro hc13
  .have hab:ly ⟨op,dst,xa,xb,imm⟩=true:=hc13;obtain⟨⟨ha1,ha2⟩,hb1,hb2⟩:=hu hab;rw[hab,ai]at hL;refine Z_6 ?_;refine fW (iM (lvF b3 A1 c1 T) rfl rfl (λ_ _=>rfl) Zi (λw hi hin=>Jm b3 A1 c1 T xa i Wq2 w hin)) rfl ?_;rintro _ _ ⟨_,rfl,rfl⟩;refine Z_7 ?_;refine fW (iM (lvF b3 A1 c1 (fX T xa i)) rfl rfl (λ_ _=>rfl) Zi (λw hi hin=>Jm b3 A1 c1 (fX T xa i) xb i (λ_=>by rw[qa];omega) w hin)) rfl ?_;rintro _ _ ⟨_,rfl,rfl⟩;refine gh ?_;refine bJ ((⟨i+1,fX (fX T xa i) xb i⟩:Nat×List Int)) ?_ ?_ ?_
   .exact⟨⟨by omega,by dsimp only;rw[qa,qa,hTl],hL⟩,by omega⟩
   .exact Zwk
   exact Zj
  have hab:ly ⟨op,dst,xa,xb,imm⟩=false:=hc13;rw[hab,ah]at hL;refine gh ?_;refine bJ ((⟨i+1,T⟩:Nat×List Int)) ?_ ?_ ?_
  .grind
  .exact Zwk
  exact Zj
 simp only[ac]at hc11;rw[hN]at hc11;obtain rfl:i=k:=by omega
 rw[List.drop_of_length_le Wq1]at hL;obtain rfl:T=L0:=hL;refine sw ?_;refine kY ?_;rintro _ _ ⟨b64,rfl,rfl⟩;refine kY ?_;rintro _ _ ⟨b65,rfl,rfl⟩;refine Z_5 ?_;refine bN (λq:Nat×List Int=>[(1,.p b1),(3,.p b3),(5,.func (.func 267) #[] #[.p b3]),(65,.slice (sA b65) 3 3),(66,.i 3),(67,.i (q.1:Int))]) (λq=>[row b1 (jD p Q) 258,row b3 [.slice A1 q.2.length c1] 346,slv 351 3 A1 q.2.length c1 (fv 0 q.2),slv 3 1 (sA b64) 2 2 (ints .i64 [p.flags,p.target]),slv 55 1 (sA b65) 3 3 [.slice Q.Ad p.RV.length Q.cd,.slice Q.Ar p.RX.length Q.cr,.slice (sA b64) 2 2]]) (λq=>q.1<=3/\q.2.length=i/\([p.RV,p.RX,[p.flags,p.target]].drop q.1).foldl (λT l=>jJ T l i) q.2=gl p) (λq=>3 - q.1) (⟨0,T⟩) ?_ ?_ ?_ ?_
 .grind
 .exact Zwk
 .exact Zu
 rintro⟨k2,T2⟩ ⟨hk2,hTl2,hF⟩;dsimp only at hk2 hTl2 hF|-;refine Zw6 ?_ ?_<;>intro hc18
 .simp only[ae]at hc18;obtain⟨A9,c9,l9,hx1,hx2,had9,hR9,hb9,hlen9⟩:∃(A9:Option Addr) (c9:Nat) (l9:List Int),[Value.slice Q.Ad p.RV.length Q.cd,.slice Q.Ar p.RX.length Q.cr,.slice (sA b64) 2 2][k2]? =some (.slice A9 l9.length c9)/\[p.RV,p.RX,[p.flags,p.target]][k2]? =some l9/\(0<l9.length->∃ad,A9=some ad)/\(∀(cs:List bC) (w':World),Inv w [] cs w'->Has cs (slv 3 1 (sA b64) 2 2 (ints .i64 [p.flags,p.target]))->RdV w' 1 A9 l9.length c9 (ints .i64 l9))/\(∀x,x∈l9->0<=x->x<i)/\l9.length<=100:=(by have h9:k2=0\/k2=1\/k2=2:=Wq1;rcases h9 with rfl|rfl|rfl;exact⟨_,_,p.RV,rfl,rfl,λh=>hrD.some_ h,λ_ _ hi _=>hrD.RU hi,λx hx _=>(u2 x (Or.inl hx)).2,hf.RV⟩;exact⟨_,_,p.RX,rfl,rfl,λh=>hrR.some_ h,λ_ _ hi _=>hrR.RU hi,λx hx _=>(u2 x (Or.inr hx)).2,hf.RX⟩;exact⟨_,_,[p.flags,p.target],rfl,rfl,λ_=>⟨_,rfl⟩,λ_ _ hi hh=>hi.rd hh,λx hx h0=>bR,by grind⟩);rw[jz hx2]at hF;have hF:([p.RV,p.RX,[p.flags,p.target]].drop (k2+1)).foldl (λT l=>jJ T l i) (jJ T2 l9 i)=gl p:=hF;obtain⟨R9,hR9e⟩:=Zgn (jJ T2 l9 i);rw[hR9e]at hF;refine Z_6 ?_;refine Zy (bS (j:=k2) rfl Zrf (Zv rfl) (Zv rfl) Wq2 Wq2) ?_;refine dK (bF Zrf Zv0) (u5 Zh hx1) rfl (gK ?_);refine bN (λq:Nat×List Int=>[(1,.p b1),(3,.p b3),(5,.func (.func 267) #[] #[.p b3]),(65,.slice (sA b65) 3 3),(66,.i 3),(67,.i (k2:Int)),(71,.slice A9 l9.length c9),(72,.i l9.length),(73,.i (q.1:Int))]) (λq=>[row b1 (jD p Q) 258,row b3 [.slice A1 q.2.length c1] 346,slv 351 3 A1 q.2.length c1 (fv 0 q.2),slv 3 1 (sA b64) 2 2 (ints .i64 [p.flags,p.target]),slv 55 1 (sA b65) 3 3 [.slice Q.Ad p.RV.length Q.cd,.slice Q.Ar p.RX.length Q.cr,.slice (sA b64) 2 2]]) (λq=>q.1<=l9.length/\q.2.length=i/\jJ q.2 (l9.drop q.1) i=R9) (λq=>l9.length - q.1) (⟨0,T2⟩) ?_ ?_ ?_ ?_
  .grind
  .exact Zwk
  .exact Zu
  rintro⟨k3,T3⟩ ⟨hk3,hTl3,hF3⟩;dsimp only at hk3 hTl3 hF3|-;refine Zw6 ?_ ?_<;>intro hc21
  .simp only[ae]at hc21;have hkl:k3<l9.length:=Wq1;obtain⟨ad9,rfl⟩:=had9 Wq1;obtain⟨x,hx⟩:∃x,l9[k3]? =some x:=⟨_,aa hkl⟩;have hxb:=hb9 x (ak hx);rw[jz hx]at hF3;have hF3:jJ (fX T3 x i) (l9.drop (k3+1)) i=R9:=hF3;refine Z_6 ?_;refine Zy (bS (j:=k3) rfl Zrf (Zv rfl) (Zv rfl) Wq2 Wq2) ?_;refine dK (bF Zrf Zv0) (Oh (λw hi=>hR9 _ w hi Zh) (cq hx)) rfl (Z_9 ?_);refine fW (iM (lvF b3 A1 c1 T3) rfl rfl (λ_ _=>rfl) Zi (λw hi hin=>Jm b3 A1 c1 T3 x p.code.length (λh0=>by omega) w hin)) rfl ?_;rintro _ _ ⟨_,rfl,rfl⟩;rw[show fX T3 x (p.code.length:Int)=fX T3 x i by rw[hN]];refine gh ?_;refine bJ ((⟨k3+1,fX T3 x i⟩:Nat×List Int)) ?_ ?_ ?_
   .exact⟨⟨by omega,by dsimp only;rw[qa,hTl3],hF3⟩,by omega⟩
   .exact Zwk
   exact Zj
  simp only[ac]at hc21;obtain rfl:k3=l9.length:=by omega
  rw[List.drop_length]at hF3;obtain rfl:T3=R9:=hF3;refine Z_7 ?_;refine Wq6 ?_;refine bJ ((⟨k2+1,T3⟩:Nat×List Int)) ?_ ?_ ?_
  .grind
  .exact Zwk
  exact Zj
 simp only[ac]at hc18;obtain rfl:k2=3:=by omega
 obtain rfl:T2=gl p:=hF;refine fD ?_;refine Zrb ([lvC A1 c1 (gl p)]) ?_;exact⟨A1,c1,rfl,rfl⟩
theorem and64r(n:Nat)(hn:n<=64):bits .and .u64 (n:Int) 4294967295=n:=by
 have h:∀k:Fin 65,bits .and .u64 ((k.val:Nat):Int) 4294967295=((k.val:Nat):Int):=by decide+kernel
 exact h ⟨n,by omega⟩
theorem Ra(n:Nat)(hn:n<=64):(n:Int).fdiv (2^(min (32:Int).toNat IntKind.u64.bits))=0:=by
 show(n:Int).fdiv 4294967296=0
 grind
theorem mul1r(n:Nat)(hn:n<=64):IntKind.u64.wrap (1*(n:Int))=n:=by rw[aK];omega
theorem mul0r(n:Nat):IntKind.u64.wrap (0*(n:Int))=0:=by rw[Int.zero_mul];rfl
def G8(m n:Nat):List Value:=List.replicate m (.i (-1))++List.replicate (n - m) (.i 0)
theorem BI{m n:Nat}:(G8 m n).take m=List.replicate m (.i (-1)):=by grind [G8]
theorem rep0(n:Nat):(List.replicate n (.i 0:Value)).take 0++(ints .i64 [-1]).take (min 1 n)++(List.replicate n (.i 0)).drop (0+min 1 n)=G8 (min 1 n) n:=by
 unfold G8;rw[List.take_zero,aP,List.drop_replicate,Nat.zero_add];cases n with
 |zero=>rfl
 |succ n=>rw[show min 1 (n+1)=1 by omega];rfl
theorem Ob{m n:Nat}(h:m<=n):(G8 m n).take m++(List.replicate m (.i (-1):Value)).take (min m (n - m))++(G8 m n).drop (m+min m (n - m))=G8 (m+min m (n - m)) n:=by
 grind [BI,G8,min,List.drop_append,List.length_replicate,List.drop_of_length_le,List.replicate_append_replicate]
theorem Od(n:Nat):G8 n n=ints .i64 (List.replicate n (-1)):=by unfold G8;simp[ints]
theorem Oc{m:Nat}:∀u∈List.replicate m (.i (-1):Value),u.oneCell'=true:=λu h=>by
 obtain rfl:=List.eq_of_mem_replicate h;rfl
theorem RdV.head{w:World}{A:Option Addr}{n c m:Nat}{xs:List Value}(h:RdV w 1 A n c xs)(hm:m<=n):RdV w 1 A m c (xs.take m):=
 ⟨by simp_all [h.len],by have:=h.cap;omega,h.max,λe=>by have:=h.nil e;omega,λad e j u hu=>h.at_ ad e j u bR⟩
theorem OS(n:Nat)(hn:n<=64)(w:World):Ctr prog 286 [.int .u64 1,.int .u64 n] w [] (λr cs=>r= .tuple #[.int .u64 0,.int .u64 n]/\cs=[]):=by
 refine Zfs func286 ntmps286 ?_;refine Z_9 ?_;refine Zy (sH (Zv rfl) (Zv rfl) (show _=(1:Int)from rfl)) ?_;refine Z_6 ?_;refine Zy (lW (Zv rfl) (Zv rfl) Wq1 (show _=(0:Int)from rfl)) ?_;refine Z_6 ?_;refine Zy (sH Zv0 Zv0 (and64r n hn)) ?_;refine Z_6 ?_;refine Zy (lW (Zv rfl) (Zv rfl) Wq1 (Ra n hn)) ?_;refine Z_7 ?_;refine Zy (jR Zv0 Zv0 (mul1r n hn)) ?_;refine Z_7 ?_;refine Zy (jR Zv0 Zv0 (mul0r n)) ?_;refine ZA ?_;refine Zy (lW (Zv rfl) (Zv rfl) Wq1 (Ra n hn)) ?_;refine Zy (ef (Zv rfl) (Zv rfl) (show _=(0:Int)from rfl)) ?_;refine Z_6 ?_;refine Zy (sH (Zv rfl) (Zv rfl) (show _=(0:Int)from rfl)) ?_;refine Z_6 ?_;refine Zy (lW (Zv rfl) (Zv rfl) Wq1 (show _=(0:Int)from rfl)) ?_;refine Z_8 ?_;refine Zy (jR (Zv rfl) (Zv rfl) (show _=(0:Int)from rfl)) ?_;refine Zy (ef (Zv rfl) (Zv rfl) (show _=(0:Int)from rfl)) ?_;refine Z_7 ?_;refine Zy (jR (Zv rfl) (Zv rfl) (show _=(0:Int)from rfl)) ?_;refine ZA ?_;refine Zy (ef (Zv rfl) (Zv rfl) (show _=(0:Int)from rfl)) ?_;refine ZA ?_;refine Zy (lW (Zv rfl) (Zv rfl) Wq1 (show _=(0:Int)from rfl)) ?_;refine Zy (ef (Zv rfl) (Zv rfl) (show _=(0:Int)from rfl)) ?_;refine Z_7 ?_;refine Zy (jR Zv0 Zv0 (mul1r n hn)) ?_;refine Z_4 ?_;exact lQ
theorem mul_ok(n:Nat)(hn:n<=64)(w:World):Ctr prog 266 [.int .u64 1,.int .u64 n] w [] (λr cs=>r= .tuple #[.int .u64 0,.int .u64 n]/\cs=[]):=by
 refine Zfs func266 ntmps266 ?_;refine Z_7 ?_;refine iU ?_;refine Z_6 ?_;refine ZSe (λw hi=>OS n hn w) ?_;refine sw ?_;exact lQ
theorem Kb(n:Nat)(hn:n<=64)(A:Option Addr)(c:Nat)(w:World)(h:Rd w .i64 A 1 c [-1]):
  Ctr prog 229 [.slice A 1 c,.i n] w [] (λr cs=>∃A',r= .slice A' n n/\cs=[sl .i64 3 A' n n (List.replicate n (-1))]):=by
 refine Zfs func229 ntmps229 ?_;refine fD ?_;refine cJ rfl (ar Wq1) (Z_6 ?_);refine Zy (cQ rfl rfl (Zv rfl) (show _=(1:Int)from rfl)) ?_;refine ZA ?_;refine tJ ?_;refine ZSe (λw hi=>mul_ok n hn w) ?_;refine AO ?_;refine cJ rfl (gZ) (Z_5 ?_);refine wO ?_;refine fW (lC (bytes:=8) (n:=n) rfl rfl rfl rfl rfl rfl rfl Wq1 gq) rfl ?_;rintro _ _ ⟨b30,rfl,rfl⟩;refine Z_7 ?_;refine fW (Bt rfl rfl Za rfl rfl (λw hi=>h.RU hi) di Wq1) rfl ?_;rintro _ _ ⟨rfl,rfl⟩;rw[rep0 n];refine Z_5 ?_;refine bN (λm:Nat=>[(7,.slice (sA b30) n n),(8,.i (m:Int))]) (λm=>[slv 3 1 (sA b30) n n (G8 m n)]) (λm=>m<=n/\(0<n->0<m)) (λm=>n - m) ((min 1 n)) ?_ ?_ ?_ ?_
 .omega
 .exact Zwk
 .exact Zu
 rintro m ⟨hm,hm0⟩;refine Zw9 ?_ ?_<;>intro hc8
 .simp only[ae]at hc8;refine Z_3 ?_;refine bL ⟨λj=>List.elem j [7],[]⟩ Zk (kQ ?_);refine Zy4 3 rfl (lV (sz:=1) (lo:=m) (hi:=n) (r:=m) rfl Zrf (Zv rfl) (.inr ⟨_,_,rfl,(Zv rfl)⟩) (.inl ⟨rfl,rfl⟩) Wq1 Wq1 Wq1 Wq1) ?_;refine ZE 4 ?_;refine ZE 5 ?_;refine Zy4 6 rfl (fH m rfl Zrf (Zv rfl) (Zv rfl) AH Wq2) ?_;refine cn 7 Zk (jT rfl rfl (Bt rfl rfl Za rfl rfl (λw hi=>BI▸(hi.rd (show Has _ (slv 3 1 (sA b30) n n (G8 m n))from Zh)).head hm) Oc Wq1) ZJ rfl ?_);rintro _ _ ⟨rfl,rfl⟩;rw[Ob hm];refine Zy4 8 rfl (ef Zv0 Zv0 Zl) ?_;refine ZE 9 ?_;refine eQ ?_;refine Zo (dM (m+min m (n - m)) ?_ ?_ ?_)
  .omega
  .exact Zwk
  exact Zu
 simp only[ac]at hc8;obtain rfl:m=n:=by omega
 refine fD ?_;refine Zrb ([slv 3 1 (sA b30) m m (G8 m m)]) ?_;exact⟨_,rfl,by rw[Od]⟩
theorem nC{l:List Int}{i:Nat}(h:i<l.length):l[i]? =some (l.getD i 0):=by grind
theorem LY{T l:List Int}{n k:Nat}(h:kF T l n (l.length - k) k=fF T l n)(hk:k<=l.length)(ht:eV T l n k l.length=true):k<l.length/\kF T l n (l.length - (k+1)) (k+1)=fF T l n:=by
 rcases Nat.lt_or_ge k l.length with h9|h9
 .refine⟨h9,?_⟩;rw[show l.length - k=(l.length - (k+1))+1 by omega]at h
  grind [eV,kF,fF]
 obtain rfl:k=l.length:=by omega
 rw[Nat.sub_self]at h;have h:l.length=fF T l n:=h
 grind [sf]
theorem PD{T l:List Int}{n k:Nat}(h:kF T l n (l.length - k) k=fF T l n)(hk:k<=l.length)(ht:eV T l n k l.length=false):fF T l n=k:=by
 rcases Nat.lt_or_ge k l.length with h9|h9
 .rw[show l.length - k=(l.length - (k+1))+1 by omega]at h
  grind [eV,kF,fF]
 obtain rfl:k=l.length:=by omega
 rw[Nat.sub_self]at h;exact h.symm
structure SAd where
 Ar:Option Addr
 cr:Nat
 As:Option Addr
 cs:Nat
 Av:Option Addr
 cv:Nat
abbrev scR(b:Nat)(X:SAd)(N:Nat)(Sm:Int):bC:=row b [.slice X.Ar N X.cr,.slice X.As N X.cs,.i Sm,.slice X.Av N X.cv] 349
theorem F1(b:Nat)(X:SAd)(N:Nat)(Sm:Int)(T l:List Int)(hT:T.length=N)(hl:l.length=N)(hN:N<=64)(A:Option Addr)(c:Nat)(n:Nat)(hn:n<N)(w:World)(h:(scR b X N Sm).ok w)(h2:Rd w .i64 A N c l)(h3:RdV w 3 X.Av N X.cv (fv 0 T)):
  Ctr prog 231 [.p b,.slice A N c,.i n] w [] (λr cs=>r= .i (fF T l n)/\cs=[]):=by
 obtain⟨av,hav⟩:=h3.some_ Wq1;rw[hav]at h3;have hxn:T[n]? =some (T.getD n 0):=nC Wq1;refine Zfs func231 ntmps231 ?_;refine gK ?_;refine bN (λk:Nat=>[(0,.p b),(1,.slice A N c),(2,.i n),(7,.i (k:Int))]) (λ_=>[]) (λk=>k<=N/\kF T l n (l.length - k) k=fF T l n) (λk=>N+1 - k) (0) ?_ ?_ ?_ ?_
 .exact⟨au _,rfl⟩
 .exact Zwk
 .exact Zu
 rintro k ⟨hk,hF⟩;refine sw ?_;refine bN (λj:Nat=>[(0,.p b),(1,.slice A N c),(2,.i n),(7,.i (k:Int)),(8,.bool (eV T l n k j)),(13,.slice A N c),(14,.i N),(15,.i (j:Int))]) (λ_=>[]) (λj=>j<=N) (λj=>N - j) (0) ?_ ?_ ?_ ?_
 .omega
 .exact Zwk
 .exact Zu
 rintro j hj;refine Zw6 ?_ ?_<;>intro hc5
 .simp only[ae]at hc5;have hjN:j<N:=Wq1;obtain⟨ad,rfl⟩:=h2.some_ Wq1;have hx:l[j]? =some (l.getD j 0):=nC Wq1;have hxj:T[j]? =some (T.getD j 0):=nC Wq1;refine Z_7 ?_;refine Zy (bS (j:=j) rfl Zrf (Zv rfl) (Zv rfl) Wq2 Wq2) ?_;refine dK (bF Zrf Zv0) (dL h2 (cq hx)) rfl (Z_4 ?_);refine Dd ?_;refine ZF 2 ?_;refine ZF 3 ?_;refine ZF 4 ?_;refine ZF 5 ?_;refine ZF 6 ?_;refine ZF 7 ?_;refine ZFf 8 3 ?_;refine Zy7 9 rfl (cu rfl rfl) (bF Zrf (bU rfl)) (dc h rfl) ?_;refine ZF 10 ?_;refine Zy6 11 rfl (cu rfl rfl) (fI (j:=j) hav rfl Zrf (bU rfl) (bU rfl) Zrf (λ_=>hjN)) ?_;refine Zy7 12 rfl (cu rfl rfl) (bP (vs:=[.i j,.i j,.i (T.getD j 0)]) Zrf Zrf (bU rfl)) (dY h3 (λi v hv=>ko T 0 j hxj bR)) ?_;refine ZF 13 ?_;refine ZF 14 ?_;refine ZFf 15 3 ?_;refine Zy7 16 rfl (cu rfl rfl) (bF Zrf (bU rfl)) (dc h rfl) ?_;refine ZF 17 ?_;refine Zy6 18 rfl (cu rfl rfl) (fI (j:=n) hav rfl Zrf (bU rfl) (bU rfl) Zrf (λ_=>hn)) ?_;refine Zy7 19 rfl (cu rfl rfl) (bP (vs:=[.i n,.i n,.i (T.getD n 0)]) Zrf Zrf (bU rfl)) (dY h3 (λi v hv=>ko T 0 n hxn bR)) ?_;refine cn 20 Zk (EU rfl (cu rfl rfl) (.cons (bU rfl) (.cons (bU rfl) .nil)) (λ_ _=>rfl) (λhg w hi=>KT T j n w) rfl (ZF 21 ?_));refine ZE 22 ?_;refine ZE 23 ?_;refine eQ ?_;refine Z_3 ?_;refine Wq6 ?_;refine dM (j+1) ?_ ?_ ?_
  .omega
  .exact Zwk
  exact Zu
 simp only[ac]at hc5;obtain rfl:j=N:=by omega
 refine gK ?_;refine ZW ?_ ?_<;>intro hc9
 .have htk:eV T l n k l.length=false:=bR;refine rf ?_;exact⟨by rw[PD hF Wq1 htk],rfl⟩
 have htk:eV T l n k l.length=true:=bR;obtain⟨hk2,hF2⟩:=LY hF Wq1 htk;refine gv ?_;refine dM (k+1) ?_ ?_ ?_
 .omega
 .exact Zwk
 exact Zu
theorem nB{k:IntKind}(l:List Int)(n:Nat)(v:Int):(ints k l).set n (.int k v)=ints k (l.set n v):=by simp[ints]
structure SBk where
 br:Nat
 cr:Nat
 bs:Nat
 cs:Nat
 bv:Nat
 cv:Nat
abbrev SBk.X(Y:SBk):SAd:=⟨some ⟨Y.br,0,none⟩,Y.cr,some ⟨Y.bs,0,none⟩,Y.cs,some ⟨Y.bv,0,none⟩,Y.cv⟩
abbrev scF(b:Nat)(X:SAd)(N:Nat)(T:List Int)(pl:Pl):List bC:=[scR b X N pl.Sm,sl .i64 3 X.Ar N X.cr pl.reg,sl .i64 3 X.As N X.cs pl.slot,slv 351 3 X.Av N X.cv (fv 0 T)]
theorem E7(b br cr bs cs bv cv:Nat)(N:Nat)(T:List Int)(pl:Pl)(hT:T.length=N)(hrl:pl.reg.length=N)(hsl:pl.slot.length=N)(hN:N<=64)(n:Nat)(hn:n<N)(w:World)(hi:Inv w (bD (scF b ⟨some ⟨br,0,none⟩,cr,some ⟨bs,0,none⟩,cs,some ⟨bv,0,none⟩,cv⟩ N T pl)) (scF b ⟨some ⟨br,0,none⟩,cr,some ⟨bs,0,none⟩,cs,some ⟨bv,0,none⟩,cv⟩ N T pl) w):
  Ctr prog 233 [.p b,.i n] w (scF b ⟨some ⟨br,0,none⟩,cr,some ⟨bs,0,none⟩,cs,some ⟨bv,0,none⟩,cv⟩ N T pl) (λ_ c=>c=scF b ⟨some ⟨br,0,none⟩,cr,some ⟨bs,0,none⟩,cs,some ⟨bv,0,none⟩,cv⟩ N T (lh T pl n)):=by
 obtain⟨reg,slot,Sm⟩:=pl;dsimp only at hrl hsl;have hfl:=(sf T slot n).2.1;obtain⟨f,hf⟩:=Zgn (fF T slot n);have hsp:lh T ⟨reg,slot,Sm⟩ n=⟨reg.set n (-1),slot.set n f,if(f:Int)+1>Sm then(f:Int)+1 else Sm⟩:=by unfold lh;rw[hf]
 have hFr:=F1 b ⟨some ⟨br,0,none⟩,cr,some ⟨bs,0,none⟩,cs,some ⟨bv,0,none⟩,cv⟩ N Sm T slot hT hsl hN (sA bs) cs n hn;rw[hf]at hFr hfl;rw[hsp];have hx:(slot.set n (f:Int))[n]? =some (f:Int):=by rw[List.getElem?_set_self Wq1]
 refine Zfn func233 ntmps233 hi ?_;refine Z_8 ?_;refine Zy (bV (j:=n) (sz:=1) (r:=n) rfl Zrf (Zv rfl) (Zv rfl) Wq2 Wq2 Wq1) ?_;refine eE (iK Zrf rfl rfl rfl Za Wq1) ?_;rintro _ _ ⟨rfl,rfl⟩;rw[nB];refine Z_3 ?_;refine bL ⟨λj=>List.elem j [15],[]⟩ Zk (lU ?_);refine ZFe 2 0 ?_;refine ZFe 3 1 ?_;refine ZG 4 ?_;refine mE ?_;refine ZE 7 ?_;refine ZE 8 ?_;refine ZFe 9 0 ?_;refine ZFe 10 1 ?_;refine ZG 11 ?_;refine ZE 12 ?_;refine cn 13 Zk (ZTn (λw hi=>hFr w (hi.get Zh) (dp (hi.get (show Has _ (sl .i64 3 (sA bs) N cs slot)from Zh))) (dp (hi.get (show Has _ (slv 351 3 (sA bv) N cv (fv 0 T))from Zh)))) ?_);rintro _ _ ⟨rfl,rfl⟩;refine Zy4 14 rfl (bV (j:=n) (sz:=1) (r:=n) rfl Zrf (Zv rfl) (Zv rfl) Zrf (λ_=>hn) Wq1) ?_;refine cn 15 Zk (fO rfl rfl (iK Zrf rfl rfl rfl Za Wq1) ZJ ?_);rintro _ _ ⟨rfl,rfl⟩;rw[nB];refine eQ ?_;refine Zt (bL ⟨λj=>List.elem j [19],[]⟩ Zk ?_);refine kQ ?_;refine ZFe 3 0 ?_;refine ZFe 4 2 ?_;refine ZG 5 ?_;refine ZE 6 ?_;refine ZE 7 ?_;refine ZFe 8 0 ?_;refine ZFe 9 1 ?_;refine ZG 10 ?_;refine ZE 11 ?_;refine Zy4 12 rfl (bV (j:=n) (sz:=1) (r:=n) rfl Zrf (Zv rfl) (Zv rfl) Zrf (λ_=>hn) Wq1) ?_;refine Zy5 13 rfl (bF Zrf Zv0) (cM Zh (cq hx)) ?_;refine Zy4 14 rfl (ef Zv0 Zv0 Zl) ?_;refine Zy4 15 rfl (wQ Zv0 Zv0 rfl) ?_;refine ZE 16 ?_;refine ZFe 17 0 ?_;refine ZFe 18 2 ?_;refine cn 19 Zk (Wq316 ?_)
 rfl
theorem qr(T:List Int)(So:Int)(N:Nat):∀n,(jr T So N n).reg.length=N/\(jr T So N n).slot.length=N
 :=by intro y1;induction y1<;>grind [jr,qm,lh,fF,gj]
theorem G7(v:Int)(n:Nat)(hv:v=n)(hn:n<=64)(A:Option Addr)(c:Nat)(w:World)(h:Rd w .i64 A 1 c [-1]):
  Ctr prog 229 [.slice A 1 c,.i v] w [] (λr cs=>∃A',r= .slice A' n n/\cs=[sl .i64 3 A' n n (List.replicate n (-1))]):=by
 grind [Kb]
theorem lofN_ok(p:Pg)(Q:PAd)(hf:tM p)(hr:p.R7=true)(T:List Int)(N:Nat)(hT:gl p=T)(hN:T.length=N)(w:World)(h:Gt p Q w):
  Ctr prog 230 [pgv p Q] w [] (λr cs=>∃A c,r= .slice A N c/\cs=[slv 351 3 A N c (fv 0 T)]):=by
 grind [lof_ok]
abbrev RA(b:Nat):bC:=row b [.slice none 0 0,.slice none 0 0,.i 0] 295
theorem Qm(p:Pg)(Q:PAd)(hf:tM p)(hr:p.R7=true)(w:World)(h:Gt p Q w):
  Ctr prog 183 [pgv p Q,.i 7] w [] (λr cs=>∃Ar cr As c2,r= .tuple #[.agg #[.slice Ar p.code.length cr,.slice As p.code.length c2,.i (dP p).Sm],.i 0]/\cs=[sl .i64 3 Ar p.code.length cr (dP p).reg,sl .i64 3 As p.code.length c2 (dP p).slot]):=by
 have hv3:p.values=p.code.length:=hf.Si;have hm64:=hf.Se;have hpl:dP p=jr (gl p) 7 p.code.length p.code.length:=rfl;have hTl:=Pa p;obtain⟨T,hT⟩:=Zgn (gl p);rw[hT]at hpl hTl;have hlo:=lofN_ok p Q hf hr T _ hT hTl;have hrp:=G7 p.values p.code.length hv3 hm64;have hpl0:jr T 7 p.code.length 0=⟨List.replicate p.code.length (-1),List.replicate p.code.length (-1),0⟩:=rfl;rw[hpl];obtain⟨N,hN⟩:=Zgn (p.code.length);rw[hN]at hlo hTl hrp hpl0 hm64|-;have hlens:=qr T 7 N;have hst:∀k,jr T 7 N (k+1)=qm T 7 (jr T 7 N k) k:=λ_=>rfl
 refine Zfs func183 ntmps183 ?_;refine Z_2 ?_;refine ZO λb2=>?_;refine ZN λb4=>?_
 refine Z_7 ?_;refine ZSe (λw hi=>vO p Q hf w (h.RU hi)) ?_;rw[hr];refine Z_3 ?_;refine dU (bE rfl rfl) (.cons (bU rfl) .nil) (λ_ _=>rfl) (λhg w hi=>BJ w) rfl (Z_4 ?_);refine iU ?_;refine Z_2 ?_;refine cD (λq:Nat×SAd=>[(1,.i 7),(2,.p b2),(4,.p b4),(5,.i 0),(6,.p q.1)]) (λq=>[row b4 [.slice none 0 0,.slice none 0 0,.i 0] 295,scR q.1 q.2 N 0,sl .i64 3 q.2.Ar N q.2.cr (List.replicate N (-1)),sl .i64 3 q.2.As N q.2.cs (List.replicate N (-1)),slv 351 3 q.2.Av N q.2.cv (fv 0 T)]) (λ_=>True) ?_ ?_
 .refine bL ⟨λj=>List.elem j [],[]⟩ Zk (ZFe 1 13 ?_);refine ZG 2 ?_;refine ZFe 5 13 ?_;refine ZG 6 ?_;refine ZI 9 ?_;refine ke 0 4 Zk ?_ ?_
  .refine AR ?_;rintro _ _ ⟨b22,rfl,rfl⟩;refine ke 3 4 Zk ?_ ?_
   .refine Wq251 ?_;rintro _ _ ⟨_,⟨Ar,rfl,rfl⟩,rfl⟩;refine cn 4 Zk (AR ?_);rintro _ _ ⟨b26,rfl,rfl⟩;refine Wq216 ?_;rintro _ _ ⟨_,⟨As,rfl,rfl⟩,rfl⟩;refine ZE 8 ?_;refine cn 10 Zk (ZTn (λw hi=>hlo w (h.RU hi)) ?_);rintro _ _ ⟨Av,cv,rfl,rfl⟩;refine ZE 11 ?_;refine cn 12 Zk (jT rfl rfl (Du rfl rfl) ZJ rfl ?_);rintro _ _ ⟨b34,rfl,rfl⟩;refine ZE 13 ?_;refine eQ ?_;refine bJ (((b34,⟨Ar,N,As,N,Av,cv⟩):Nat×SAd)) ?_ ?_ ?_
    .trivial
    .exact Zwk
    exact Zj
   refine AR ?_;rintro _ _ ⟨b26,rfl,rfl⟩;refine cn 3 Zk (Wq251 ?_);rintro _ _ ⟨_,⟨Ar,rfl,rfl⟩,rfl⟩;refine Wq216 ?_;rintro _ _ ⟨_,⟨As,rfl,rfl⟩,rfl⟩;refine ZE 8 ?_;refine cn 10 Zk (ZTn (λw hi=>hlo w (h.RU hi)) ?_);rintro _ _ ⟨Av,cv,rfl,rfl⟩;refine ZE 11 ?_;refine cn 12 Zk (jT rfl rfl (Du rfl rfl) ZJ rfl ?_);rintro _ _ ⟨b34,rfl,rfl⟩;refine ZE 13 ?_;refine eQ ?_;refine bJ (((b34,⟨Ar,N,As,N,Av,cv⟩):Nat×SAd)) ?_ ?_ ?_
   .trivial
   .exact Zwk
   exact Zj
  refine AR ?_;rintro _ _ ⟨b26,rfl,rfl⟩;refine cn 0 Zk (AR ?_);rintro _ _ ⟨b22,rfl,rfl⟩;refine cn 3 Zk (Wq251 ?_);rintro _ _ ⟨_,⟨Ar,rfl,rfl⟩,rfl⟩;refine Wq216 ?_;rintro _ _ ⟨_,⟨As,rfl,rfl⟩,rfl⟩;refine ZE 8 ?_;refine cn 10 Zk (ZTn (λw hi=>hlo w (h.RU hi)) ?_);rintro _ _ ⟨Av,cv,rfl,rfl⟩;refine ZE 11 ?_;refine cn 12 Zk (jT rfl rfl (Du rfl rfl) ZJ rfl ?_);rintro _ _ ⟨b34,rfl,rfl⟩;refine ZE 13 ?_;refine eQ ?_;refine bJ (((b34,⟨Ar,N,As,N,Av,cv⟩):Nat×SAd)) ?_ ?_ ?_
  .trivial
  .exact Zwk
  exact Zj
 rintro⟨b6,X⟩ -;dsimp only;refine fD ?_;refine bN (λk:Nat=>[(1,.i 7),(2,.p b2),(4,.p b4),(5,.i 0),(6,.p b6),(38,.slice X.Av N X.cv),(39,.i N),(40,.i (k:Int))]) (λk=>RA b4::scF b6 X N T (jr T 7 N k)) (λk=>k<=N) (λk=>N - k) (0) ?_ ?_ ?_ ?_
 .omega
 .exact Zwk
 .exact Zu
 rintro k hk;obtain⟨hrl,hsl⟩:=hlens k;have hstk:=hst k;obtain⟨pl,hplk⟩:=Zgn (jr T 7 N k);rw[hplk]at hrl hsl hstk;dsimp only;rw[hplk];refine Zw6 ?_ ?_<;>intro hc5
 .simp only[ae]at hc5;have hkN:k<N:=Wq1;have hxk:T[k]? =some (T.getD k 0):=nC Wq1;have hfl:=(sf T pl.reg k).2.1;obtain⟨f,hfe⟩:=Zgn (fF T pl.reg k);rw[hfe]at hfl;refine Z_6 ?_;refine dZ (λw hi=>dV (hi.get (show Has _ (sl .i64 3 X.Ar N X.cr pl.reg)from Zh)) Wq1) (λh1=>?_);refine dZ (λw hi=>dV (hi.get (show Has _ (sl .i64 3 X.As N X.cs pl.slot)from Zh)) Wq1) (λh2=>?_);refine dZ (λw hi=>dO (hi.get (show Has _ (slv 351 3 X.Av N X.cv (fv 0 T))from Zh)) Wq1) (λh3=>?_);refine dZ (λw hi=>(dp (hi.get (show Has _ (slv 351 3 X.Av N X.cv (fv 0 T))from Zh))).cap) (λh4=>?_);obtain⟨Ar,cr,As,c2,Av,cv⟩:=X;dsimp only at h1 h2 h3 h4|-;obtain⟨br,rfl⟩:=h1;obtain⟨bs,rfl⟩:=h2;obtain⟨bv,rfl⟩:=h3;have hFr:=F1 b6 ⟨some ⟨br,0,none⟩,cr,some ⟨bs,0,none⟩,c2,some ⟨bv,0,none⟩,cv⟩ N pl.Sm T pl.reg hTl hrl hm64 (sA br) cr k hkN;rw[hfe]at hFr;refine ZA ?_;refine CS ?_;refine dK (bP (vs:=[.i k,.i k,.i (T.getD k 0)]) Zrf Zrf (Zv rfl)) (BB Zh (λi v hv=>ko T 0 k hxk bR)) rfl ?_;refine ZN λb8=>?_
  refine ZA ?_;refine ZM ?_;refine gK ?_;refine ZSe (λw hi=>hFr w (hi.get Zh) (dp (hi.get (show Has _ (sl .i64 3 (sA br) N cr pl.reg)from Zh))) (dp (hi.get (show Has _ (slv 351 3 (sA bv) N cv (fv 0 T))from Zh)))) ?_;refine gK ?_;refine ZW ?_ ?_<;>intro hc8
  .have hsc:qm T 7 pl k=⟨pl.reg.set k f,pl.slot,pl.Sm⟩:=(by unfold qm;grind);rw[hsc]at hstk;refine Z_9 ?_;refine Wq79 ?_;rintro _ _ ⟨rfl,rfl⟩;rw[nB];refine Z_7 ?_;refine Wq6 ?_;refine bJ (k+1) ?_ ?_ ?_
   .omega
   .exact Zwk
   exact(show AT _ _ from by(try dsimp only);rw[hstk];exact Zj)
  have hsc:qm T 7 pl k=(bif(gj T pl.reg k k !=k)then lh T ⟨pl.reg.set k (pl.reg.getD (gj T pl.reg k k) 0),pl.slot,pl.Sm⟩ (gj T pl.reg k k)else lh T pl k):=(by unfold qm;grind);rw[hsc]at hstk;refine sw ?_;refine Zy (fH (A:=some ⟨bv,0,none⟩) (n:=N) (c:=cv) k rfl Zrf (Zv rfl) (Zv rfl) Zrf Wq2) ?_;refine Z_5 ?_;refine bN (λj:Nat=>[(1,.i 7),(2,.p b2),(4,.p b4),(5,.i 0),(6,.p b6),(7,.i k),(8,.p b8),(10,.i (gj T pl.reg k j:Nat)),(38,.slice (sA bv) N cv),(39,.i N),(40,.i (k:Int)),(70,.slice (sA bv) k cv),(71,.i k),(72,.i (j:Int))]) (λj=>[RA b4,scR b6 ⟨some ⟨br,0,none⟩,cr,some ⟨bs,0,none⟩,c2,some ⟨bv,0,none⟩,cv⟩ N pl.Sm,sl .i64 3 (sA br) N cr pl.reg,sl .i64 3 (sA bs) N c2 pl.slot,slv 351 3 (sA bv) N cv (fv 0 T),row b8 [.i k,.i k,.i (T.getD k 0)] 351]) (λj=>j<=k) (λj=>k - j) (0) ?_ ?_ ?_ ?_
  .omega
  .exact Zwk
  .exact Zu
  rintro j hj;have hL:gj T pl.reg k j<=k:=(by rcases vF T pl.reg k j with h|⟨h, -⟩<;>omega);have hLs:gj T pl.reg k (j+1)=bif((pl.reg.getD j 0 != -1)&&np T k j)&&decide (T.getD (gj T pl.reg k j) 0<T.getD j 0)then j else gj T pl.reg k j:=rfl
  obtain⟨L,hLe⟩:=Zgn (gj T pl.reg k j);rw[hLe]at hL hLs;dsimp only;rw[hLe];refine Zw6 ?_ ?_<;>intro hc12
  .simp only[ae]at hc12;have hjk:j<k:=Wq1;have hxj:T[j]? =some (T.getD j 0):=nC Wq1;have hxL:T[L]? =some (T.getD L 0):=nC Wq1;have hxr:pl.reg[j]? =some (pl.reg.getD j 0):=nC Wq1;refine Z_7 ?_;refine Zy (bS (j:=j) rfl Zrf (Zv rfl) (Zv rfl) Wq2 Wq2) ?_;refine dK (bP (vs:=[.i j,.i j,.i (T.getD j 0)]) Zrf Zrf (Zv rfl)) (BB Zh (λi v hv=>ko T 0 j hxj bR)) rfl ?_;refine ZN λb12=>?_
   refine ZA ?_;refine mD ?_;refine Dd ?_;refine ZFe 2 0 ?_;refine ZFe 3 0 ?_;refine ZG 4 ?_;refine ZE 5 ?_;refine Zy4 6 rfl (bV (j:=j) (sz:=1) (r:=j) rfl Zrf (Zv rfl) (Zv rfl) Zrf Wq2 Wq1) ?_;refine Zy5 7 rfl (bF Zrf Zv0) (cM Zh (cq hxr)) ?_;refine ZE 8 ?_;refine ZE 9 ?_;refine oY 10 rfl Zk Zk Zk Zk (bM rfl rfl) Zh Zrf Zrf (Zv rfl) rfl (oY 11 rfl Zk Zk Zk Zk (bM rfl rfl) Zh Zrf Zrf (Zv rfl) rfl (cn 12 Zk (EU rfl (bM rfl rfl) (.cons (bU rfl) (.cons (bU rfl) .nil)) (λ_ _=>rfl) (λhg w hi=>KT T k j w) rfl (ZE 13 ?_))));refine ZE 14 ?_;refine ZFf 15 2 ?_;refine Zy7 16 rfl (bM rfl rfl) (bF Zrf (bU rfl)) (cN Zh rfl) ?_;refine ZF 17 ?_;refine ZF 18 ?_;refine ZFf 19 3 ?_;refine Zy7 20 rfl (bM rfl rfl) (bF Zrf (bU rfl)) (cN Zh rfl) ?_;refine ZF 21 ?_;refine Zy6 22 rfl (bM rfl rfl) (bV (bb:=bv) (o:=0) (n:=N) (c:=cv) (j:=L) (sz:=3) (r:=L*3) rfl Zrf (bU rfl) (bU rfl) Zrf Wq2 Wq1) ?_;refine ZFf 23 2 ?_;refine Zy7 24 rfl (bM rfl rfl) (bF Zrf (bU rfl)) (Fe Zh (ko T 0 L (j:=2) hxL rfl)) ?_;refine ZF 25 ?_;refine ZE 26 ?_;refine eQ ?_;refine Zt (ZW ?_ ?_)<;>intro hc14
   .rw[hc14,ai]at hLs;refine Z_7 ?_;refine Wq6 ?_;refine bJ (j+1) ?_ ?_ ?_
    .exact⟨hjk,by omega⟩
    .exact Zwk
    exact Zj
   rw[hc14,ah]at hLs;refine gh ?_;refine bJ (j+1) ?_ ?_ ?_
   .exact⟨hjk,by omega⟩
   .exact Zwk
   exact Zj
  simp only[ac]at hc12;obtain rfl:j=k:=by omega
  rw[hLe]at hstk;refine uw ?_ ?_<;>intro hc17
  .have hne:(L !=j)=true:=bR;rw[hne,ai]at hstk;have hxr:pl.reg[L]? =some (pl.reg.getD L 0):=nC Wq1;refine bL ⟨λj=>List.elem j [15],[]⟩ Zk (lU ?_);refine ZFe 2 0 ?_;refine ZFe 3 0 ?_;refine ZG 4 ?_;refine mE ?_;refine ZE 7 ?_;refine ZFe 8 0 ?_;refine ZFe 9 0 ?_;refine ZG 10 ?_;refine ZE 11 ?_;refine Zy4 12 rfl (bV (j:=L) (sz:=1) (r:=L) rfl Zrf (Zv rfl) (Zv rfl) Zrf Wq2 Wq1) ?_;refine Zy5 13 rfl (bF Zrf Zv0) (cM Zh (cq hxr)) ?_;refine Zy4 14 rfl (bV (j:=j) (sz:=1) (r:=j) rfl Zrf (Zv rfl) (Zv rfl) Zrf Wq2 Wq1) ?_;refine cn 15 Zk (fO rfl rfl (iK Zrf rfl rfl rfl Za Wq1) ZJ ?_);rintro _ _ ⟨rfl,rfl⟩;rw[nB];refine eQ ?_;refine Z_4 ?_;refine ZcL (scF b6 ⟨some ⟨br,0,none⟩,cr,some ⟨bs,0,none⟩,c2,some ⟨bv,0,none⟩,cv⟩ N T ⟨pl.reg.set j (pl.reg.getD L 0),pl.slot,pl.Sm⟩) (λw hi hin=>E7 b6 br cr bs c2 bv cv N T ⟨pl.reg.set j (pl.reg.getD L 0),pl.slot,pl.Sm⟩ hTl (by simp[hrl]) hsl hm64 L Wq1 w hin) ?_;rintro _ _ ⟨_,rfl,rfl⟩;refine gh ?_;refine bJ (j+1) ?_ ?_ ?_
   .omega
   .exact Zwk
   exact(show AT _ _ from by(try dsimp only);rw[hstk];exact Zj)
  have hne:(L !=j)=false:=bR;rw[hne,ah]at hstk;obtain rfl:L=j:=bR;refine Z_5 ?_;refine ZcL (scF b6 ⟨some ⟨br,0,none⟩,cr,some ⟨bs,0,none⟩,c2,some ⟨bv,0,none⟩,cv⟩ N T pl) (λw hi hin=>E7 b6 br cr bs c2 bv cv N T pl hTl hrl hsl hm64 L Wq1 w hin) ?_;rintro _ _ ⟨_,rfl,rfl⟩;refine gh ?_;refine bJ (L+1) ?_ ?_ ?_
  .omega
  .exact Zwk
  exact(show AT _ _ from by(try dsimp only);rw[hstk];exact Zj)
 simp only[ac]at hc5;obtain rfl:k=N:=by omega
 refine fB ?_;refine dK (bP (vs:=[.slice X.Ar k X.cr,.slice X.As k X.cs,.i pl.Sm]) Zrf Zrf Zv0) (cO Zh rfl) rfl (iD ?_);refine ph (cs':=[sl .i64 3 X.Ar k X.cr pl.reg,sl .i64 3 X.As k X.cs pl.slot]) (.inl rfl) Zu rfl rfl rfl Zh Zrf Zrf ?_;rw[hplk];exact⟨_,_,_,_,rfl,rfl⟩
end
end Go.Ink
