/- Lemmas. -/
import Derived.Test.YtgpahfcaecojgaaGreatDoorPaq
set_option linter.all false
set_option maxRecDepth 100000
set_option maxHeartbeats 4000000
namespace Go.Ink
open Go.RowKit Go.Proofs.Tryz
abbrev span(i:Nat)(t:Int):List Value:=[.i i,.i i,.i t]
def fB:Nat->List Int->List Value
 |_,[]=>[]
 |k,t::T=> .i k:: .i k:: .i t::fB (k+1) T
theorem JV:∀(T:Li) (k:Nat) (t:Int),fB k (T++[t])=fB k T++[.i ((k+T.length:Nat):Int),.i ((k+T.length:Nat):Int),.i t]
 :=by intro y1;induction y1<;>grind [fB]
theorem kA:∀(T:Li) (k i:Nat) {t:Int} {j:Nat} {v:Value},T[i]? =some t->(span (k+i) t)[j]? =some v->(fB k T)[i*3+j]? =some v
 |[],_,_,_,_,_,h,_=>by simp at h
 |x::T,k,0,t,j,v,h,hj=>by
  obtain rfl:x=t:=by grind
  rw[Nat.zero_mul,Nat.zero_add]
  match j,hj with
  |0,hj=>exact hj
  |1,hj=>exact hj
  |2,hj=>exact hj
  |j+3,hj=>simp at hj
 |x::T,k,i+1,t,j,v,h,hj=>by
  have:=kA T (k+1) i (t:=t) (j:=j) (v:=v) bY bY;rw[show(i+1)*3+j=(i*3+j)+3 by omega];exact this
theorem yF:∀(T:Li) (k i:Nat) (t:Int),(fB k T).set (i*3+2) (.i t)=fB k (T.set i t)
 |[],_,_,_=>rfl
 |x::T,k,0,t=>rfl
 |x::T,k,i+1,t=>by
  have:=yF T (k+1) i t
  grind [fB]
theorem JU:∀(T:Li) (k:Nat),∀u∈fB k T,u.oneCell'=true
 |[],_,u,h=>by cases h
 |x::T,k,u,h=>by
  have h:u∈(.i k:: .i k:: .i x::fB (k+1) T:List Value):=h;simp only[aJ]at h;rcases h with rfl|rfl|rfl|h
  .rfl
  .rfl
  .rfl
  exact JU T (k+1) u h
theorem qb(T:Li)(n a:Int):(fW T n a).length=T.length:=(j5 T n a).1
theorem OD(n:Nat):iota (n+1)=iota n++[(n:Int)]:=by grind [iota,List.range_succ]
variable{k:Nat}
theorem jA{α:Type}{l:List α}{x:α}(h:l[k]? =some x):l.drop k=x::l.drop (k+1):=by
 grind [Nat.lt_or_ge,List.drop_eq_getElem_cons,List.getElem?_eq_getElem,Option.some.inj,List.getElem?_eq_none]
variable{n c:Nat}{xs:List Value}
theorem RL{w0:World}{S:List Nat}{cs:List bJ}{j:Nat}{ad:Addr}{v:Value}(h:∀w,Inv w0 S cs w->RdV w 1 (some ad) n c xs)(hv:xs[j]? =some v):∀w,Inv w0 S cs w->cells [(ad.add (j*1),v)] w:=λw hi z hz=>by
 rw[aC]at hz;subst hz;rw[Nat.mul_one];exact(h w hi).at_ ad rfl j v hv
theorem one3(a b c:Int):∀u∈([.i a,.i b,.i c]:List Value),u.oneCell'=true:=λu h=>by
 simp only[aJ,aY,or_false]at h;rcases h with rfl|rfl|rfl<;>rfl
theorem Jo.Wh{p:Pg}{Q:PAd}{w0 w:World}{cs:List bJ}(h:Jo p Q w0)(hi:Inv w0 [] cs w):Jo p Q w:=⟨h.code.Wh hi,h.Wo.Wh hi,h.Wp.Wh hi⟩
theorem rQ{p:Pg}(h:p.Ws=true):(∀(k:Nat) (x:II),p.code[k]? =some x->lH x=true->(0<=x.a/\x.a<k)/\(0<=x.b/\x.b<k))/\(∀n,n∈p.Wo\/n∈p.Wp->0<=n/\n<p.code.length)/\(0<=p.flags->p.flags<p.code.length)/\(0<=p.target->p.target<p.code.length):=by
 unfold Pg.Ws at h;simp only[au]at h;obtain⟨-,h1,h2,h3,h4⟩:=h;have hv:∀a b,tG a b=true->0<=a/\a<b:=λa b h=>by grind [tG]
 refine⟨λk x hx hab=>?_,λn hn=>?_,λh0=>?_,λh0=>?_⟩
 .have hm:=zK p.code 0 h1 k x hx
  grind [lH,kE,tG]
 .grind
 .grind [Pg.W8]
 grind [Pg.W8]
section
attribute [local irreducible] OpY bN
abbrev lvC(A:Oa)(c:Nat)(T:Li):bJ:=slv 389 3 A T.length c (fB 0 T)
abbrev lvF(b:Nat)(A:Oa)(c:Nat)(T:Li):List bJ:=[row b [.slice A T.length c] 384,lvC A c T]
theorem NU(T:Li)(i j:Nat)(w:World):CW prog 261 [.agg #[.i i,.i i,.i (T.getD i 0)],.agg #[.i j,.i j,.i (T.getD j 0)]] w (.bool (nO T i j)):=by
 obtain⟨ti,hti⟩:=Zgn (T.getD i 0);obtain⟨tj,htj⟩:=Zgn (T.getD j 0);unfold nO;rw[hti,htj];refine Zfs func261 ntmps261 ?_;refine Z_2 ?_;refine ZO λb2=>?_;refine ZO λb3=>?_
 refine om ?_;refine gm ?_;exact⟨by grind,rfl⟩
theorem Mi(b:Nat)(A:Oa)(c:Nat)(T:Li)(n at_:Int)(hn:0<=n->n.toNat<T.length):CI prog 296 [.i n,.i at_,.p b] (lvF b A c T) (λ_ cs=>cs=lvF b A c (fW T n at_)):=λw hi=>by
 refine Zfn func296 ntmps296 hi ?_;refine Zw6 ?_ ?_<;>intro hc0
 .simp only[ac]at hc0;have hlt:=hn hc0;obtain⟨m,rfl⟩:∃m:Nat,n=m:=ao hc0;rw[aN]at hlt;obtain⟨bs,rfl⟩:=dV (hi.get (Zhc (lvC A c T))) Wq1;have hx:T[m]? =some (T.getD m 0):=bY;have hu:fW T m at_=T.set m (if at_>T.getD m 0 then at_ else T.getD m 0):=(by unfold fW;grind);obtain⟨t,ht⟩:=Zgn (T.getD m 0);rw[ht]at hx hu;obtain⟨t2,ht2⟩:=Zgn ((if at_>t then at_ else t));rw[ht2]at hu;refine bU (Zdr [11] (mU b [.slice (sA bs) T.length c])) Zk (eu 0 rfl Zk Zk Zk (bM Zrf Zv0) (dg rfl) (bL (t:=384) Zh) rfl (ZE 1 ?_));refine eu 2 rfl Zk Zk Zk (bM Zrf Zv0) (dg rfl) (bL (t:=384) Zh) rfl (ZE 3 ?_);refine Zy4 4 rfl (cw (j:=m) (sz:=3) (r:=m*3) rfl Zrf (Zv rfl) (Zv rfl) Zrf (λ_=>hlt) Wq1) ?_;refine ZFe 5 2 ?_;refine Zy5 6 rfl (bM Zrf Zv0) (Hc Zh (kA T 0 m (j:=2) hx rfl)) ?_;refine ZE 7 ?_;refine Zy4 8 rfl (Jt Zv0 Zv0 ht2) ?_;refine Zy4 9 rfl (cw (j:=m) (sz:=3) (r:=m*3) rfl Zrf (Zv rfl) (Zv rfl) Zrf (λ_=>hlt) Wq1) ?_;refine ZFe 10 2 ?_;refine cW 11 Zk (fy rfl rfl (uv Zrf rfl rfl rfl Za Wq1) (λ_=>by rintro _ _ ⟨rfl,rfl⟩;exact bL (t:=384) Zh) ?_);rintro _ _ ⟨rfl,rfl⟩;refine dR ?_;refine jE (cs':=[row b [.slice (sA bs) T.length c] 384,slv 389 3 (sA bs) T.length c ((fB 0 T).set (m*3+2) (.i t2))]) (.inr rfl) Zu rfl ?_;rw[hu,yF,show T.length=(T.set m t2).length by simp]
 simp only[aa]at hc0;have hu:fW T n at_=T:=(by unfold fW;grind);refine Zc (jE (cs':=lvF b A c T) (.inr rfl) Zu rfl ?_);rw[hu]
theorem lof_ok(p:Pg)(Q:PAd)(hf:uo p)(hr:p.Ws=true)(w:World)(h:Jo p Q w):
  Ctr prog 259 [pgv p Q] w [] (λr cs=>∃A c,r= .slice A (gg p).length c/\cs=[lvC A c (gg p)]):=by
 have hv3:p.values=p.code.length:=hf.WE;have hm64:=hf.Wz;have hrc:=h.code;have hrD:=h.Wo;have hrR:=h.Wp;obtain⟨u1,u2,u3,u4⟩:=rQ hr;obtain⟨N,hN⟩:=Zgn (p.code.length);rw[hN]at hv3 hm64 u2 u3 u4;have hlv:[p.Wo,p.Wp,[p.flags,p.target]].foldl (λT l=>jW T l N) (fj p.code 0 (iota N))=gg p:=by unfold gg;rw[hN];rfl
 obtain⟨L0,hL0⟩:=Zgn (fj p.code 0 (iota N));rw[hL0]at hlv;refine Zfs func259 ntmps259 ?_;refine Z_2 ?_;refine ZO λb1=>?_;refine Z_7 ?_;refine ZSe (λw hi=>wy p Q hf w (h.Wh hi)) ?_;rw[hr];refine iX ?_;refine Z_4 ?_;refine ZN λb3=>?_;refine Z_5 ?_;refine cY 389 3 ?_
 try rw[hv3]
 refine Z_6 ?_;refine wLo (λq:Nat×List Int×Option Addr×Nat=>[(1,.p b1),(3,.p b3),(16,.i p.values),(17,.i (q.1:Int))]) (λq=>[row b1 (jL p Q) 297,row b3 [.slice q.2.2.1 q.2.1.length q.2.2.2] 384,slv 389 3 q.2.2.1 q.2.1.length q.2.2.2 (fB 0 q.2.1)]) (λq=>q.1<=N/\q.2.1=iota q.1) (λq=>N - q.1) (⟨0,[],none,0⟩) ⟨ap _,rfl⟩ ?_;rintro⟨k,T,A1,c1⟩ ⟨hk,hT⟩;dsimp only at hk hT|-;have hTl:T.length=k:=(by rw[hT,qJ]);refine Zw6 ?_ ?_<;>intro hc5
 .simp only[ac]at hc5;rw[hv3]at hc5;have hsp:fB 0 T++[.i (k:Int),.i (k:Int),.i (k:Int)]=fB 0 (T++[(k:Int)]):=(by rw[JV,hTl,Nat.zero_add]);refine rc ?_;refine pZ ?_;rintro _ _ ⟨b25,rfl,rfl⟩;refine fo (bV (e:=389) (sz:=3) (bytes:=24) rfl rfl Za rfl rfl (λw hi=>hi.rd (Zhc (slv 389 3 (sA b25) 1 1 [.i (k:Int),.i (k:Int),.i (k:Int)]))) (one3 _ _ _) Wq9 Wq1) rfl ?_;rintro _ _ ⟨A2,c2,rfl,rfl⟩;rw[hsp,show T.length+1=(T++[(k:Int)]).length by simp];refine ZL ?_;refine jS ?_;refine qMP ((⟨k+1,T++[(k:Int)],A2,c2⟩:Nat×List Int×Option Addr×Nat)) ⟨⟨by omega,by dsimp only;rw[OD,hT]⟩,by omega⟩
 simp only[aa]at hc5;rw[hv3]at hc5;obtain rfl:k=N:=by omega
 refine Z_7 ?_;refine Zy (mi rfl) ?_;refine ng ?_;refine wLo (λq:Nat×List Int=>[(1,.p b1),(3,.p b3),(5,.func (.func 296) #[] #[.p b3]),(30,.slice Q.Ac p.code.length Q.cc),(31,.i p.code.length),(32,.i (q.1:Int))]) (λq=>[row b1 (jL p Q) 297,row b3 [.slice A1 q.2.length c1] 384,slv 389 3 A1 q.2.length c1 (fB 0 q.2)]) (λq=>q.1<=k/\q.2.length=k/\fj (p.code.drop q.1) q.1 q.2=L0) (λq=>k - q.1) (⟨0,T⟩) bY ?_;rintro⟨i,T⟩ ⟨hi2,hTl,hL⟩;dsimp only at hi2 hTl hL|-;refine Zw6 ?_ ?_<;>intro hc11
 .simp only[ac]at hc11;rw[hN]at hc11;have hil:i<p.code.length:=Wq1;obtain⟨ad,had⟩:=hrc.some_ Wq1;have hrc2:=hrc;rw[had]at hrc2;obtain⟨x,hx⟩:∃x,p.code[i]? =some x:=⟨_,ae hil⟩;have hu:=u1 i x hx;rw[jA hx]at hL;have hL:fj (p.code.drop (i+1)) (i+1) (bif lH x then fW (fW T x.a i) x.b i else T)=L0:=hL;obtain⟨op,dst,xa,xb,imm⟩:=x;dsimp only at hL hu;refine Z_7 ?_;refine Zy (ii (j:=i) had rfl Zrf Zv0 Zv0 Zrf (λ_=>hil)) ?_;refine Wq183 ?_;refine ZN λb7=>?_
  refine ZA ?_;refine ZM ?_;refine Cc ?_ ?_<;>intro hc13
  .have hab:lH ⟨op,dst,xa,xb,imm⟩=true:=hc13;obtain⟨⟨ha1,ha2⟩,hb1,hb2⟩:=hu hab;rw[hab,ai]at hL;refine Z_6 ?_;refine fo (iO (lvF b3 A1 c1 T) rfl rfl (λ_ _=>rfl) Zi (λw hi hin=>Mi b3 A1 c1 T xa i Wq2 w hin)) rfl ?_;rintro _ _ ⟨_,rfl,rfl⟩;refine Z_7 ?_;refine fo (iO (lvF b3 A1 c1 (fW T xa i)) rfl rfl (λ_ _=>rfl) Zi (λw hi hin=>Mi b3 A1 c1 (fW T xa i) xb i (λ_=>by rw[qb];omega) w hin)) rfl ?_;rintro _ _ ⟨_,rfl,rfl⟩;refine jS ?_;refine qMP ((⟨i+1,fW (fW T xa i) xb i⟩:Nat×List Int)) ⟨⟨by omega,by dsimp only;rw[qb,qb,hTl],hL⟩,by omega⟩
  have hab:lH ⟨op,dst,xa,xb,imm⟩=false:=hc13;rw[hab,ah]at hL;refine jS ?_;refine qMP ((⟨i+1,T⟩:Nat×List Int)) bY
 simp only[aa]at hc11;rw[hN]at hc11;obtain rfl:i=k:=by omega
 rw[List.drop_of_length_le Wq1]at hL;obtain rfl:T=L0:=hL;refine rc ?_;refine jD ?_;rintro _ _ ⟨b64,rfl,rfl⟩;refine jD ?_;rintro _ _ ⟨b65,rfl,rfl⟩;refine Z_5 ?_;refine wLo (λq:Nat×List Int=>[(1,.p b1),(3,.p b3),(5,.func (.func 296) #[] #[.p b3]),(65,.slice (sA b65) 3 3),(66,.i 3),(67,.i (q.1:Int))]) (λq=>[row b1 (jL p Q) 297,row b3 [.slice A1 q.2.length c1] 384,slv 389 3 A1 q.2.length c1 (fB 0 q.2),slv 3 1 (sA b64) 2 2 (ints .i64 [p.flags,p.target]),slv 72 1 (sA b65) 3 3 [.slice Q.Ad p.Wo.length Q.cd,.slice Q.Ar p.Wp.length Q.cr,.slice (sA b64) 2 2]]) (λq=>q.1<=3/\q.2.length=i/\([p.Wo,p.Wp,[p.flags,p.target]].drop q.1).foldl (λT l=>jW T l i) q.2=gg p) (λq=>3 - q.1) (⟨0,T⟩) bY ?_;rintro⟨k2,T2⟩ ⟨hk2,hTl2,hF⟩;dsimp only at hk2 hTl2 hF|-;refine Zw6 ?_ ?_<;>intro hc18
 .simp only[ac]at hc18;obtain⟨A9,c9,l9,hx1,hx2,had9,hR9,hb9,hlen9⟩:∃(A9:Oa) (c9:Nat) (l9:Li),[Value.slice Q.Ad p.Wo.length Q.cd,.slice Q.Ar p.Wp.length Q.cr,.slice (sA b64) 2 2][k2]? =some (.slice A9 l9.length c9)/\[p.Wo,p.Wp,[p.flags,p.target]][k2]? =some l9/\(0<l9.length->∃ad,A9=some ad)/\(∀(cs:List bJ) (w':World),Inv w [] cs w'->Has cs (slv 3 1 (sA b64) 2 2 (ints .i64 [p.flags,p.target]))->RdV w' 1 A9 l9.length c9 (ints .i64 l9))/\(∀x,x∈l9->0<=x->x<i)/\l9.length<=100:=(by have h9:k2=0\/k2=1\/k2=2:=Wq1;rcases h9 with rfl|rfl|rfl;exact⟨_,_,p.Wo,rfl,rfl,λh=>hrD.some_ h,λ_ _ hi _=>hrD.Wh hi,λx hx _=>(u2 x (Or.inl hx)).2,hf.Wo⟩;exact⟨_,_,p.Wp,rfl,rfl,λh=>hrR.some_ h,λ_ _ hi _=>hrR.Wh hi,λx hx _=>(u2 x (Or.inr hx)).2,hf.Wp⟩;exact⟨_,_,[p.flags,p.target],rfl,rfl,λ_=>⟨_,rfl⟩,λ_ _ hi hh=>hi.rd hh,λx hx h0=>bY,by grind⟩);rw[jA hx2]at hF;have hF:([p.Wo,p.Wp,[p.flags,p.target]].drop (k2+1)).foldl (λT l=>jW T l i) (jW T2 l9 i)=gg p:=hF;obtain⟨R9,hR9e⟩:=Zgn (jW T2 l9 i);rw[hR9e]at hF;refine Wq492 ?_;refine wLo (λq:Nat×List Int=>[(1,.p b1),(3,.p b3),(5,.func (.func 296) #[] #[.p b3]),(65,.slice (sA b65) 3 3),(66,.i 3),(67,.i (k2:Int)),(71,.slice A9 l9.length c9),(72,.i l9.length),(73,.i (q.1:Int))]) (λq=>[row b1 (jL p Q) 297,row b3 [.slice A1 q.2.length c1] 384,slv 389 3 A1 q.2.length c1 (fB 0 q.2),slv 3 1 (sA b64) 2 2 (ints .i64 [p.flags,p.target]),slv 72 1 (sA b65) 3 3 [.slice Q.Ad p.Wo.length Q.cd,.slice Q.Ar p.Wp.length Q.cr,.slice (sA b64) 2 2]]) (λq=>q.1<=l9.length/\q.2.length=i/\jW q.2 (l9.drop q.1) i=R9) (λq=>l9.length - q.1) (⟨0,T2⟩) bY ?_;rintro⟨k3,T3⟩ ⟨hk3,hTl3,hF3⟩;dsimp only at hk3 hTl3 hF3|-;refine Zw6 ?_ ?_<;>intro hc21
  .simp only[ac]at hc21;have hkl:k3<l9.length:=Wq1;obtain⟨ad9,rfl⟩:=had9 Wq1;obtain⟨x,hx⟩:∃x,l9[k3]? =some x:=⟨_,ae hkl⟩;have hxb:=hb9 x (ak hx);rw[jA hx]at hF3;have hF3:jW (fW T3 x i) (l9.drop (k3+1)) i=R9:=hF3;refine Z_6 ?_;refine Zy (cC (j:=k3) rfl Zrf (Zv rfl) (Zv rfl) Wq2 Wq2) ?_;refine dQ (bM Zrf Zv0) (RL (λw hi=>hR9 _ w hi Zh) (cK hx)) rfl (Z_9 ?_);refine fo (iO (lvF b3 A1 c1 T3) rfl rfl (λ_ _=>rfl) Zi (λw hi hin=>Mi b3 A1 c1 T3 x p.code.length (λh0=>by omega) w hin)) rfl ?_;rintro _ _ ⟨_,rfl,rfl⟩;rw[show fW T3 x (p.code.length:Int)=fW T3 x i by rw[hN]];refine jS ?_;refine qMP ((⟨k3+1,fW T3 x i⟩:Nat×List Int)) ⟨⟨by omega,by dsimp only;rw[qb,hTl3],hF3⟩,by omega⟩
  simp only[aa]at hc21;obtain rfl:k3=l9.length:=by omega
  rw[List.drop_length]at hF3;obtain rfl:T3=R9:=hF3;refine Z_7 ?_;refine Wq6 ?_;refine qMP ((⟨k2+1,T3⟩:Nat×List Int)) bY
 simp only[aa]at hc18;obtain rfl:k2=3:=by omega
 obtain rfl:T2=gg p:=hF;refine fb ?_;refine Zrb ([lvC A1 c1 (gg p)]) ?_;exact⟨A1,c1,rfl,rfl⟩
theorem and64r(n:Nat)(hn:n<=64):bits .and .u64 (n:Int) 4294967295=n:=by
 have h:∀k:Fin 65,bits .and .u64 ((k.val:Nat):Int) 4294967295=((k.val:Nat):Int):=by decide+kernel
 exact h ⟨n,by omega⟩
theorem Vt(n:Nat)(hn:n<=64):(n:Int).fdiv (2^(min (32:Int).toNat IntKind.u64.bits))=0:=by
 show(n:Int).fdiv 4294967296=0
 grind
theorem mul1r(n:Nat)(hn:n<=64):IntKind.u64.wrap (1*(n:Int))=n:=by rw[aU];omega
theorem mul0r(n:Nat):IntKind.u64.wrap (0*(n:Int))=0:=by rw[Int.zero_mul];rfl
def Ke(m n:Nat):List Value:=List.replicate m (.i (-1))++List.replicate (n - m) (.i 0)
variable{m:Nat}
theorem CX:(Ke m n).take m=List.replicate m (.i (-1)):=by grind [Ke]
theorem rep0(n:Nat):(List.replicate n (.i 0:Value)).take 0++(ints .i64 [-1]).take (min 1 n)++(List.replicate n (.i 0)).drop (0+min 1 n)=Ke (min 1 n) n:=by
 unfold Ke;rw[List.take_zero,aR,List.drop_replicate,Nat.zero_add];cases n with
 |zero=>rfl
 |succ n=>rw[show min 1 (n+1)=1 by omega];rfl
theorem RG(h:m<=n):(Ke m n).take m++(List.replicate m (.i (-1):Value)).take (min m (n - m))++(Ke m n).drop (m+min m (n - m))=Ke (m+min m (n - m)) n:=by
 grind [CX,Ke,min,List.drop_append,List.length_replicate,List.drop_of_length_le,List.replicate_append_replicate]
theorem RI(n:Nat):Ke n n=ints .i64 (List.replicate n (-1)):=by unfold Ke;simp[ints]
theorem RH:∀u∈List.replicate m (.i (-1):Value),u.oneCell'=true:=λu h=>by
 obtain rfl:=List.eq_of_mem_replicate h;rfl
theorem RdV.head{w:World}{A:Oa}(h:RdV w 1 A n c xs)(hm:m<=n):RdV w 1 A m c (xs.take m):=
 ⟨by simp_all [h.len],by have:=h.cap;omega,h.max,λe=>by have:=h.nil e;omega,λad e j u hu=>h.at_ ad e j u bY⟩
theorem Sr(n:Nat)(hn:n<=64)(w:World):CW prog 315 [.int .u64 1,.int .u64 n] w (.tuple #[.int .u64 0,.int .u64 n]):=by
 refine Zfs func315 ntmps315 ?_;refine Z_9 ?_;refine Zy (sN (Zv rfl) (Zv rfl) (show _=(1:Int)from rfl)) ?_;refine Z_6 ?_;refine Zy (lJ (Zv rfl) (Zv rfl) Wq1 (show _=(0:Int)from rfl)) ?_;refine Z_6 ?_;refine Zy (sN Zv0 Zv0 (and64r n hn)) ?_;refine Z_6 ?_;refine Zy (lJ (Zv rfl) (Zv rfl) Wq1 (Vt n hn)) ?_;refine Z_7 ?_;refine Zy (jF Zv0 Zv0 (mul1r n hn)) ?_;refine Z_7 ?_;refine Zy (jF Zv0 Zv0 (mul0r n)) ?_;refine ZA ?_;refine Zy (lJ (Zv rfl) (Zv rfl) Wq1 (Vt n hn)) ?_;refine Uw ?_;refine Z_6 ?_;refine Zy (sN (Zv rfl) (Zv rfl) (show _=(0:Int)from rfl)) ?_;refine Z_6 ?_;refine Zy (lJ (Zv rfl) (Zv rfl) Wq1 (show _=(0:Int)from rfl)) ?_;refine Z_8 ?_;refine Zy (jF (Zv rfl) (Zv rfl) (show _=(0:Int)from rfl)) ?_;refine Uw ?_;refine Z_7 ?_;refine Zy (jF (Zv rfl) (Zv rfl) (show _=(0:Int)from rfl)) ?_;refine ZA ?_;refine Uw ?_;refine ZA ?_;refine Zy (lJ (Zv rfl) (Zv rfl) Wq1 (show _=(0:Int)from rfl)) ?_;refine Uw ?_;refine Z_7 ?_;refine Zy (jF Zv0 Zv0 (mul1r n hn)) ?_;refine Z_4 ?_;exact lc
theorem mul_ok(n:Nat)(hn:n<=64)(w:World):CW prog 295 [.int .u64 1,.int .u64 n] w (.tuple #[.int .u64 0,.int .u64 n]):=by
 refine Zfs func295 ntmps295 ?_;refine Z_7 ?_;refine kv ?_;refine Z_6 ?_;refine ZSe (λw hi=>Sr n hn w) ?_;refine rc ?_;exact lc
theorem Nd(n:Nat)(hn:n<=64)(A:Oa)(c:Nat)(w:World)(h:Rd w .i64 A 1 c [-1]):
  Ctr prog 258 [.slice A 1 c,.i n] w [] (λr cs=>∃A',r= .slice A' n n/\cs=[sl .i64 3 A' n n (List.replicate n (-1))]):=by
 refine Zfs func258 ntmps258 ?_;refine fb ?_;refine cy rfl (aF Wq1) (Z_6 ?_);refine Zy (cU rfl rfl (Zv rfl) (show _=(1:Int)from rfl)) ?_;refine ZA ?_;refine xC ?_;refine ZSe (λw hi=>mul_ok n hn w) ?_;refine EU ?_;refine cy rfl (gW) (Z_5 ?_);refine lD ?_;refine fo (mS (bytes:=8) (n:=n) rfl rfl rfl rfl rfl rfl rfl Wq1 Wq9) rfl ?_;rintro _ _ ⟨b30,rfl,rfl⟩;refine Z_7 ?_;refine Wq485 ?_;rintro _ _ ⟨rfl,rfl⟩;rw[rep0 n];refine Z_5 ?_;refine wLo (λm:Nat=>[(7,.slice (sA b30) n n),(8,.i (m:Int))]) (λm=>[slv 3 1 (sA b30) n n (Ke m n)]) (λm=>m<=n/\(0<n->0<m)) (λm=>n - m) ((min 1 n)) Wq1 ?_;rintro m ⟨hm,hm0⟩;refine Zw9 ?_ ?_<;>intro hc8
 .simp only[ac]at hc8;refine Z_3 ?_;refine bU (Zdn [7]) Zk (pS ?_);refine Zy4 3 rfl (mg (sz:=1) (lo:=m) (hi:=n) (r:=m) rfl Zrf (Zv rfl) (.inr ⟨_,_,rfl,(Zv rfl)⟩) (.inl ⟨rfl,rfl⟩) Wq1 Wq1 Wq1 Wq1) ?_;refine ZE 4 ?_;refine ZE 5 ?_;refine Zy4 6 rfl (eC m rfl Zrf (Zv rfl) (Zv rfl) pe Wq2) ?_;refine ic ?_;refine gX rfl rfl (MP rfl rfl Za rfl rfl (λw hi=>CX▸(hi.rd (Zhc (slv 3 1 (sA b30) n n (Ke m n)))).head hm) RH Wq1) ZJ rfl ?_;rintro _ _ ⟨rfl,rfl⟩;rw[RG hm];refine Zy4 8 rfl (eK Zv0 Zv0 Zl) ?_;refine ZE 9 ?_;refine dR ?_;refine Zo (qMM (m+min m (n - m)) Wq1)
 simp only[aa]at hc8;obtain rfl:m=n:=by omega
 refine fb ?_;refine Zrb ([slv 3 1 (sA b30) m m (Ke m m)]) ?_;exact⟨_,rfl,by rw[RI]⟩
theorem nY{l:Li}{i:Nat}(h:i<l.length):l[i]? =some (l.getD i 0):=by grind
theorem O7{T l:Li}(h:kK T l n (l.length - k) k=fJ T l n)(hk:k<=l.length)(ht:eZ T l n k l.length=true):k<l.length/\kK T l n (l.length - (k+1)) (k+1)=fJ T l n:=by
 rcases Nat.lt_or_ge k l.length with h9|h9
 .refine⟨h9,?_⟩;rw[show l.length - k=(l.length - (k+1))+1 by omega]at h
  grind [eZ,kK,fJ]
 obtain rfl:k=l.length:=by omega
 rw[Nat.sub_self]at h;have h:l.length=fJ T l n:=h
 grind [sf]
theorem Tj{T l:Li}(h:kK T l n (l.length - k) k=fJ T l n)(hk:k<=l.length)(ht:eZ T l n k l.length=false):fJ T l n=k:=by
 rcases Nat.lt_or_ge k l.length with h9|h9
 .rw[show l.length - k=(l.length - (k+1))+1 by omega]at h
  grind [eZ,kK,fJ]
 obtain rfl:k=l.length:=by omega
 rw[Nat.sub_self]at h;exact h.symm
structure SAd where
 Ar:Option Addr
 cr:Nat
 As:Option Addr
 cs:Nat
 Av:Option Addr
 cv:Nat
abbrev scR(b:Nat)(X:SAd)(N:Nat)(WG:Int):bJ:=row b [.slice X.Ar N X.cr,.slice X.As N X.cs,.i WG,.slice X.Av N X.cv] 387
theorem IE(b:Nat)(X:SAd)(N:Nat)(WG:Int)(T l:Li)(hT:T.length=N)(hl:l.length=N)(hN:N<=64)(A:Oa)(c:Nat)(n:Nat)(hn:n<N)(w:World)(h:(scR b X N WG).ok w)(h2:Rd w .i64 A N c l)(h3:RdV w 3 X.Av N X.cv (fB 0 T)):
  CW prog 260 [.p b,.slice A N c,.i n] w (.i (fJ T l n)):=by
 obtain⟨av,hav⟩:=h3.some_ Wq1;rw[hav]at h3;have hxn:T[n]? =some (T.getD n 0):=nY Wq1;refine Zfs func260 ntmps260 ?_;refine gq ?_;refine wLo (λk:Nat=>[(0,.p b),(1,.slice A N c),(2,.i n),(7,.i (k:Int))]) (λ_=>[]) (λk=>k<=N/\kK T l n (l.length - k) k=fJ T l n) (λk=>N+1 - k) (0) ⟨ap _,rfl⟩ ?_;rintro k ⟨hk,hF⟩;refine rc ?_;refine wLo (λj:Nat=>[(0,.p b),(1,.slice A N c),(2,.i n),(7,.i (k:Int)),(8,.bool (eZ T l n k j)),(13,.slice A N c),(14,.i N),(15,.i (j:Int))]) (λ_=>[]) (λj=>j<=N) (λj=>N - j) (0) Wq1 ?_;rintro j hj;refine Zw6 ?_ ?_<;>intro hc5
 .simp only[ac]at hc5;have hjN:j<N:=Wq1;obtain⟨ad,rfl⟩:=h2.some_ Wq1;have hx:l[j]? =some (l.getD j 0):=nY Wq1;have hxj:T[j]? =some (T.getD j 0):=nY Wq1;refine Z_7 ?_;refine EK ?_;refine dQ (bM Zrf Zv0) (dJ h2 (cK hx)) rfl (Z_4 ?_);refine uf ?_;refine ZF 2 ?_;refine ZF 3 ?_;refine ZF 4 ?_;refine ZF 5 ?_;refine ZF 6 ?_;refine ZF 7 ?_;refine ZFf 8 3 ?_;refine Zy7 9 rfl (df rfl rfl) (bM Zrf (cA rfl)) (dr h rfl) ?_;refine ZF 10 ?_;refine Zy6 11 rfl (df rfl rfl) (ii (j:=j) hav rfl Zrf (cA rfl) (cA rfl) Zrf (λ_=>hjN)) ?_;refine Zy7 12 rfl (df rfl rfl) (bW (vs:=[.i j,.i j,.i (T.getD j 0)]) Zrf Zrf (cA rfl)) (cE h3 (λi v hv=>kA T 0 j hxj bY)) ?_;refine ZF 13 ?_;refine ZF 14 ?_;refine ZFf 15 3 ?_;refine Zy7 16 rfl (df rfl rfl) (bM Zrf (cA rfl)) (dr h rfl) ?_;refine ZF 17 ?_;refine Zy6 18 rfl (df rfl rfl) (ii (j:=n) hav rfl Zrf (cA rfl) (cA rfl) Zrf (λ_=>hn)) ?_;refine Zy7 19 rfl (df rfl rfl) (bW (vs:=[.i n,.i n,.i (T.getD n 0)]) Zrf Zrf (cA rfl)) (cE h3 (λi v hv=>kA T 0 n hxn bY)) ?_;refine cW 20 Zk (ur rfl (df rfl rfl) (.cons (cA rfl) (.cons (cA rfl) .nil)) (λ_ _=>rfl) (λhg w hi=>NU T j n w) rfl (ZF 21 ?_));refine ZE 22 ?_;refine ZE 23 ?_;refine dR ?_;refine Z_3 ?_;refine Wq6 ?_;refine qMM (j+1) Wq1
 simp only[aa]at hc5;obtain rfl:j=N:=by omega
 refine xL ?_ ?_<;>intro hc9
 .have htk:eZ T l n k l.length=false:=bY;refine oo ?_;exact⟨by rw[Tj hF Wq1 htk],rfl⟩
 have htk:eZ T l n k l.length=true:=bY;obtain⟨hk2,hF2⟩:=O7 hF Wq1 htk;refine lI ?_;refine qMM (k+1) Wq1
theorem nW{k:IntKind}(l:Li)(n:Nat)(v:Int):(ints k l).set n (.int k v)=ints k (l.set n v):=by simp[ints]
structure SBk where
 br:Nat
 cr:Nat
 bs:Nat
 cs:Nat
 bv:Nat
 cv:Nat
abbrev SBk.X(Y:SBk):SAd:=⟨some ⟨Y.br,0,none⟩,Y.cr,some ⟨Y.bs,0,none⟩,Y.cs,some ⟨Y.bv,0,none⟩,Y.cv⟩
abbrev scF(b:Nat)(X:SAd)(N:Nat)(T:Li)(pl:Pl):List bJ:=[scR b X N pl.WG,sl .i64 3 X.Ar N X.cr pl.reg,sl .i64 3 X.As N X.cs pl.slot,slv 389 3 X.Av N X.cv (fB 0 T)]
theorem G5(b br cr bs cs bv cv:Nat)(N:Nat)(T:Li)(pl:Pl)(hT:T.length=N)(hrl:pl.reg.length=N)(hsl:pl.slot.length=N)(hN:N<=64)(n:Nat)(hn:n<N):CI prog 262 [.p b,.i n] (scF b ⟨some ⟨br,0,none⟩,cr,some ⟨bs,0,none⟩,cs,some ⟨bv,0,none⟩,cv⟩ N T pl) (λ_ c=>c=scF b ⟨some ⟨br,0,none⟩,cr,some ⟨bs,0,none⟩,cs,some ⟨bv,0,none⟩,cv⟩ N T (lw T pl n)):=λw hi=>by
 obtain⟨reg,slot,WG⟩:=pl;dsimp only at hrl hsl;have hfl:=(sf T slot n).2.1;obtain⟨f,hf⟩:=Zgn (fJ T slot n);have hsp:lw T ⟨reg,slot,WG⟩ n=⟨reg.set n (-1),slot.set n f,if(f:Int)+1>WG then(f:Int)+1 else WG⟩:=by unfold lw;rw[hf]
 have hFr:=IE b ⟨some ⟨br,0,none⟩,cr,some ⟨bs,0,none⟩,cs,some ⟨bv,0,none⟩,cv⟩ N WG T slot hT hsl hN (sA bs) cs n hn;rw[hf]at hFr hfl;rw[hsp];have hx:(slot.set n (f:Int))[n]? =some (f:Int):=by rw[List.getElem?_set_self Wq1]
 refine Zfn func262 ntmps262 hi ?_;refine Z_8 ?_;refine Zy (cw (j:=n) (sz:=1) (r:=n) rfl Zrf (Zv rfl) (Zv rfl) Wq2 Wq2 Wq1) ?_;refine Qj ?_;rintro _ _ ⟨rfl,rfl⟩;rw[nW];refine Z_3 ?_;refine bU (Zdn [15]) Zk (uj ?_);refine ZFe 3 1 ?_;refine BW ?_;refine ZE 7 ?_;refine ZE 8 ?_;refine ZFe 9 0 ?_;refine ZFe 10 1 ?_;refine ZG 11 ?_;refine ZE 12 ?_;refine cW 13 Zk (ZTn (λw hi=>hFr w (hi.get Zh) (dx (hi.get (Zhc (sl .i64 3 (sA bs) N cs slot)))) (dx (hi.get (Zhc (slv 389 3 (sA bv) N cv (fB 0 T)))))) ?_);rintro _ _ ⟨rfl,rfl⟩;refine Zy4 14 rfl (cw (j:=n) (sz:=1) (r:=n) rfl Zrf (Zv rfl) (Zv rfl) Zrf (λ_=>hn) Wq1) ?_;refine cW 15 Zk (Us ?_);rintro _ _ ⟨rfl,rfl⟩;rw[nW];refine dR ?_;refine Zt (bU (Zdn [19]) Zk ?_);refine yn ?_;refine ZFe 4 2 ?_;refine ZG 5 ?_;refine ZE 6 ?_;refine ZE 7 ?_;refine ZFe 8 0 ?_;refine ZFe 9 1 ?_;refine ZG 10 ?_;refine ZE 11 ?_;refine Zy4 12 rfl (cw (j:=n) (sz:=1) (r:=n) rfl Zrf (Zv rfl) (Zv rfl) Zrf (λ_=>hn) Wq1) ?_;refine Zy5 13 rfl (bM Zrf Zv0) (dG Zh (cK hx)) ?_;refine Zy4 14 rfl (eK Zv0 Zv0 Zl) ?_;refine Zy4 15 rfl (Jt Zv0 Zv0 rfl) ?_;refine ZE 16 ?_;refine ZFe 17 0 ?_;refine ZFe 18 2 ?_;refine cW 19 Zk (Wq326 ?_)
 rfl
theorem qw(T:Li)(WJ:Int)(N:Nat):∀n,(jt T WJ N n).reg.length=N/\(jt T WJ N n).slot.length=N
 :=by intro y1;induction y1<;>grind [jt,qn,lw,fJ,gf]
theorem Kd(v:Int)(n:Nat)(hv:v=n)(hn:n<=64)(A:Oa)(c:Nat)(w:World)(h:Rd w .i64 A 1 c [-1]):
  Ctr prog 258 [.slice A 1 c,.i v] w [] (λr cs=>∃A',r= .slice A' n n/\cs=[sl .i64 3 A' n n (List.replicate n (-1))]):=by
 grind [Nd]
theorem lofN_ok(p:Pg)(Q:PAd)(hf:uo p)(hr:p.Ws=true)(T:Li)(N:Nat)(hT:gg p=T)(hN:T.length=N)(w:World)(h:Jo p Q w):
  Ctr prog 259 [pgv p Q] w [] (λr cs=>∃A c,r= .slice A N c/\cs=[slv 389 3 A N c (fB 0 T)]):=by
 grind [lof_ok]
abbrev VX(b:Nat):bJ:=row b [.slice none 0 0,.slice none 0 0,.i 0] 333
theorem Ue(p:Pg)(Q:PAd)(hf:uo p)(hr:p.Ws=true)(w:World)(h:Jo p Q w):
  Ctr prog 212 [pgv p Q,.i 7] w [] (λr cs=>∃Ar cr As c2,r= .tuple #[.agg #[.slice Ar p.code.length cr,.slice As p.code.length c2,.i (dW p).WG],.i 0]/\cs=[sl .i64 3 Ar p.code.length cr (dW p).reg,sl .i64 3 As p.code.length c2 (dW p).slot]):=by
 have hv3:p.values=p.code.length:=hf.WE;have hm64:=hf.Wz;have hpl:dW p=jt (gg p) 7 p.code.length p.code.length:=rfl;have hTl:=SK p;obtain⟨T,hT⟩:=Zgn (gg p);rw[hT]at hpl hTl;have hlo:=lofN_ok p Q hf hr T _ hT hTl;have hrp:=Kd p.values p.code.length hv3 hm64;have hpl0:jt T 7 p.code.length 0=⟨List.replicate p.code.length (-1),List.replicate p.code.length (-1),0⟩:=rfl;rw[hpl];obtain⟨N,hN⟩:=Zgn (p.code.length);rw[hN]at hlo hTl hrp hpl0 hm64|-;have hlens:=qw T 7 N;have hst:∀k,jt T 7 N (k+1)=qn T 7 (jt T 7 N k) k:=λ_=>rfl
 refine Zfs func212 ntmps212 ?_;refine Z_2 ?_;refine ZO λb2=>?_;refine ZN λb4=>?_
 refine Z_7 ?_;refine ZSe (λw hi=>wy p Q hf w (h.Wh hi)) ?_;rw[hr];refine Z_3 ?_;refine dE (bQ rfl rfl) (.cons (cA rfl) .nil) (λ_ _=>rfl) (λhg w hi=>CY w) rfl (Z_4 ?_);refine kv ?_;refine Z_2 ?_;refine cL (λq:Nat×SAd=>[(1,.i 7),(2,.p b2),(4,.p b4),(5,.i 0),(6,.p q.1)]) (λq=>[row b4 [.slice none 0 0,.slice none 0 0,.i 0] 333,scR q.1 q.2 N 0,sl .i64 3 q.2.Ar N q.2.cr (List.replicate N (-1)),sl .i64 3 q.2.As N q.2.cs (List.replicate N (-1)),slv 389 3 q.2.Av N q.2.cv (fB 0 T)]) (λ_=>True) ?_ ?_
 .refine bU (Zdn []) Zk (ZFe 1 13 ?_);refine ZG 2 ?_;refine ZFe 5 13 ?_;refine ZG 6 ?_;refine ZI 9 ?_;refine kW 0 4 Zk ?_ ?_
  .refine EA ?_;rintro _ _ ⟨b22,rfl,rfl⟩;refine kW 3 4 Zk ?_ ?_
   .refine Wq296 ?_;rintro _ _ ⟨_,⟨Ar,rfl,rfl⟩,rfl⟩;refine cW 4 Zk (EA ?_);rintro _ _ ⟨b26,rfl,rfl⟩;refine Wq240 ?_;rintro _ _ ⟨_,⟨As,rfl,rfl⟩,rfl⟩;refine ZE 8 ?_;refine mb ?_;refine ZTn (λw hi=>hlo w (h.Wh hi)) ?_;rintro _ _ ⟨Av,cv,rfl,rfl⟩;refine Gw ?_;refine Ll ?_;rintro _ _ ⟨b34,rfl,rfl⟩;refine ZE 13 ?_;refine dR ?_;refine qMP (((b34,⟨Ar,N,As,N,Av,cv⟩):Nat×SAd)) kY
   refine EA ?_;rintro _ _ ⟨b26,rfl,rfl⟩;refine cW 3 Zk (Wq296 ?_);rintro _ _ ⟨_,⟨Ar,rfl,rfl⟩,rfl⟩;refine Wq240 ?_;rintro _ _ ⟨_,⟨As,rfl,rfl⟩,rfl⟩;refine ZE 8 ?_;refine mb ?_;refine ZTn (λw hi=>hlo w (h.Wh hi)) ?_;rintro _ _ ⟨Av,cv,rfl,rfl⟩;refine Gw ?_;refine Ll ?_;rintro _ _ ⟨b34,rfl,rfl⟩;refine ZE 13 ?_;refine dR ?_;refine qMP (((b34,⟨Ar,N,As,N,Av,cv⟩):Nat×SAd)) kY
  refine EA ?_;rintro _ _ ⟨b26,rfl,rfl⟩;refine cW 0 Zk (EA ?_);rintro _ _ ⟨b22,rfl,rfl⟩;refine cW 3 Zk (Wq296 ?_);rintro _ _ ⟨_,⟨Ar,rfl,rfl⟩,rfl⟩;refine Wq240 ?_;rintro _ _ ⟨_,⟨As,rfl,rfl⟩,rfl⟩;refine ZE 8 ?_;refine mb ?_;refine ZTn (λw hi=>hlo w (h.Wh hi)) ?_;rintro _ _ ⟨Av,cv,rfl,rfl⟩;refine Gw ?_;refine Ll ?_;rintro _ _ ⟨b34,rfl,rfl⟩;refine ZE 13 ?_;refine dR ?_;refine qMP (((b34,⟨Ar,N,As,N,Av,cv⟩):Nat×SAd)) kY
 rintro⟨b6,X⟩ -;dsimp only;refine fb ?_;refine wLo (λk:Nat=>[(1,.i 7),(2,.p b2),(4,.p b4),(5,.i 0),(6,.p b6),(38,.slice X.Av N X.cv),(39,.i N),(40,.i (k:Int))]) (λk=>VX b4::scF b6 X N T (jt T 7 N k)) (λk=>k<=N) (λk=>N - k) (0) Wq1 ?_;rintro k hk;obtain⟨hrl,hsl⟩:=hlens k;have hstk:=hst k;obtain⟨pl,hplk⟩:=Zgn (jt T 7 N k);rw[hplk]at hrl hsl hstk;dsimp only;rw[hplk];refine Zw6 ?_ ?_<;>intro hc5
 .simp only[ac]at hc5;have hkN:k<N:=Wq1;have hxk:T[k]? =some (T.getD k 0):=nY Wq1;have hfl:=(sf T pl.reg k).2.1;obtain⟨f,hfe⟩:=Zgn (fJ T pl.reg k);rw[hfe]at hfl;refine Z_6 ?_;refine dU (λw hi=>eM (hi.get (Zhc (sl .i64 3 X.Ar N X.cr pl.reg))) Wq1) (λh1=>?_);refine dU (λw hi=>eM (hi.get (Zhc (sl .i64 3 X.As N X.cs pl.slot))) Wq1) (λh2=>?_);refine dU (λw hi=>dV (hi.get (Zhc (slv 389 3 X.Av N X.cv (fB 0 T)))) Wq1) (λh3=>?_);refine dU (λw hi=>(dx (hi.get (Zhc (slv 389 3 X.Av N X.cv (fB 0 T))))).cap) (λh4=>?_);obtain⟨Ar,cr,As,c2,Av,cv⟩:=X;dsimp only at h1 h2 h3 h4|-;obtain⟨br,rfl⟩:=h1;obtain⟨bs,rfl⟩:=h2;obtain⟨bv,rfl⟩:=h3;have hFr:=IE b6 ⟨some ⟨br,0,none⟩,cr,some ⟨bs,0,none⟩,c2,some ⟨bv,0,none⟩,cv⟩ N pl.WG T pl.reg hTl hrl hm64 (sA br) cr k hkN;rw[hfe]at hFr;refine ZA ?_;refine Ex ?_;refine dQ (bW (vs:=[.i k,.i k,.i (T.getD k 0)]) Zrf Zrf (Zv rfl)) (CL Zh (λi v hv=>kA T 0 k hxk bY)) rfl ?_;refine ZN λb8=>?_
  refine ZA ?_;refine ZM ?_;refine gq ?_;refine ZSe (λw hi=>hFr w (hi.get Zh) (dx (hi.get (Zhc (sl .i64 3 (sA br) N cr pl.reg)))) (dx (hi.get (Zhc (slv 389 3 (sA bv) N cv (fB 0 T)))))) ?_;refine xL ?_ ?_<;>intro hc8
  .have hsc:qn T 7 pl k=⟨pl.reg.set k f,pl.slot,pl.WG⟩:=(by unfold qn;grind);rw[hsc]at hstk;refine Z_9 ?_;refine Wq74 ?_;rintro _ _ ⟨rfl,rfl⟩;rw[nW];refine Z_7 ?_;refine Wq6 ?_;refine yS (k+1) ?_ ?_ ?_
   .omega
   .exact Zwk
   exact Wq490
  have hsc:qn T 7 pl k=(bif(gf T pl.reg k k !=k)then lw T ⟨pl.reg.set k (pl.reg.getD (gf T pl.reg k k) 0),pl.slot,pl.WG⟩ (gf T pl.reg k k)else lw T pl k):=(by unfold qn;grind);rw[hsc]at hstk;refine rc ?_;refine Zy (eC (A:=some ⟨bv,0,none⟩) (n:=N) (c:=cv) k rfl Zrf (Zv rfl) (Zv rfl) Zrf Wq2) ?_;refine Z_5 ?_;refine wLo (λj:Nat=>[(1,.i 7),(2,.p b2),(4,.p b4),(5,.i 0),(6,.p b6),(7,.i k),(8,.p b8),(10,.i (gf T pl.reg k j:Nat)),(38,.slice (sA bv) N cv),(39,.i N),(40,.i (k:Int)),(70,.slice (sA bv) k cv),(71,.i k),(72,.i (j:Int))]) (λj=>[VX b4,scR b6 ⟨some ⟨br,0,none⟩,cr,some ⟨bs,0,none⟩,c2,some ⟨bv,0,none⟩,cv⟩ N pl.WG,sl .i64 3 (sA br) N cr pl.reg,sl .i64 3 (sA bs) N c2 pl.slot,slv 389 3 (sA bv) N cv (fB 0 T),row b8 [.i k,.i k,.i (T.getD k 0)] 389]) (λj=>j<=k) (λj=>k - j) (0) Wq1 ?_;rintro j hj;have hL:gf T pl.reg k j<=k:=(by rcases wh T pl.reg k j with h|⟨h, -⟩<;>omega);have hLs:gf T pl.reg k (j+1)=bif((pl.reg.getD j 0 != -1)&&nO T k j)&&decide (T.getD (gf T pl.reg k j) 0<T.getD j 0)then j else gf T pl.reg k j:=rfl
  obtain⟨L,hLe⟩:=Zgn (gf T pl.reg k j);rw[hLe]at hL hLs;dsimp only;rw[hLe];refine Zw6 ?_ ?_<;>intro hc12
  .simp only[ac]at hc12;have hjk:j<k:=Wq1;have hxj:T[j]? =some (T.getD j 0):=nY Wq1;have hxL:T[L]? =some (T.getD L 0):=nY Wq1;have hxr:pl.reg[j]? =some (pl.reg.getD j 0):=nY Wq1;refine Z_7 ?_;refine EK ?_;refine dQ (bW (vs:=[.i j,.i j,.i (T.getD j 0)]) Zrf Zrf (Zv rfl)) (CL Zh (λi v hv=>kA T 0 j hxj bY)) rfl ?_;refine ZN λb12=>?_
   refine ZA ?_;refine iC ?_;refine uf ?_;refine ZFe 2 0 ?_;refine ZFe 3 0 ?_;refine ZG 4 ?_;refine ZE 5 ?_;refine Zy4 6 rfl (cw (j:=j) (sz:=1) (r:=j) rfl Zrf (Zv rfl) (Zv rfl) Zrf Wq2 Wq1) ?_;refine Zy5 7 rfl (bM Zrf Zv0) (dG Zh (cK hxr)) ?_;refine ZE 8 ?_;refine ZE 9 ?_;refine i7 10 rfl Zk Zk Zk Zk (bS rfl rfl) Zh Zrf Zrf (Zv rfl) rfl (i7 11 rfl Zk Zk Zk Zk (bS rfl rfl) Zh Zrf Zrf (Zv rfl) rfl (cW 12 Zk (ur rfl (bS rfl rfl) (.cons (cA rfl) (.cons (cA rfl) .nil)) (λ_ _=>rfl) (λhg w hi=>NU T k j w) rfl (ZE 13 ?_))));refine ZE 14 ?_;refine ZFf 15 2 ?_;refine Zy7 16 rfl (bS rfl rfl) (bM Zrf (cA rfl)) (cB Zh rfl) ?_;refine ZF 17 ?_;refine ZF 18 ?_;refine ZFf 19 3 ?_;refine Zy7 20 rfl (bS rfl rfl) (bM Zrf (cA rfl)) (cB Zh rfl) ?_;refine ZF 21 ?_;refine Zy6 22 rfl (bS rfl rfl) (cw (bb:=bv) (o:=0) (n:=N) (c:=cv) (j:=L) (sz:=3) (r:=L*3) rfl Zrf (cA rfl) (cA rfl) Zrf Wq2 Wq1) ?_;refine ZFf 23 2 ?_;refine Zy7 24 rfl (bS rfl rfl) (bM Zrf (cA rfl)) (Hc Zh (kA T 0 L (j:=2) hxL rfl)) ?_;refine ZF 25 ?_;refine ZE 26 ?_;refine ug ?_;refine ZW ?_ ?_<;>intro hc14
   .rw[hc14,ai]at hLs;refine Z_7 ?_;refine Wq6 ?_;refine qMP (j+1) ⟨hjk,by omega⟩
   rw[hc14,ah]at hLs;refine jS ?_;refine qMP (j+1) ⟨hjk,by omega⟩
  simp only[aa]at hc12;obtain rfl:j=k:=by omega
  rw[hLe]at hstk;refine yk ?_ ?_<;>intro hc17
  .have hne:(L !=j)=true:=bY;rw[hne,ai]at hstk;have hxr:pl.reg[L]? =some (pl.reg.getD L 0):=nY Wq1;refine bU (Zdn [15]) Zk (uj ?_);refine ZFe 3 0 ?_;refine BW ?_;refine ZE 7 ?_;refine ZFe 8 0 ?_;refine ZFe 9 0 ?_;refine ZG 10 ?_;refine ZE 11 ?_;refine Zy4 12 rfl (cw (j:=L) (sz:=1) (r:=L) rfl Zrf (Zv rfl) (Zv rfl) Zrf Wq2 Wq1) ?_;refine Zy5 13 rfl (bM Zrf Zv0) (dG Zh (cK hxr)) ?_;refine Zy4 14 rfl (cw (j:=j) (sz:=1) (r:=j) rfl Zrf (Zv rfl) (Zv rfl) Zrf Wq2 Wq1) ?_;refine cW 15 Zk (Us ?_);rintro _ _ ⟨rfl,rfl⟩;rw[nW];refine dR ?_;refine Z_4 ?_;refine ZcL (scF b6 ⟨some ⟨br,0,none⟩,cr,some ⟨bs,0,none⟩,c2,some ⟨bv,0,none⟩,cv⟩ N T ⟨pl.reg.set j (pl.reg.getD L 0),pl.slot,pl.WG⟩) (λw hi hin=>G5 b6 br cr bs c2 bv cv N T ⟨pl.reg.set j (pl.reg.getD L 0),pl.slot,pl.WG⟩ hTl (by simp[hrl]) hsl hm64 L Wq1 w hin) ?_;rintro _ _ ⟨_,rfl,rfl⟩;refine jS ?_;refine yS (j+1) ?_ ?_ ?_
   .omega
   .exact Zwk
   exact Wq490
  have hne:(L !=j)=false:=bY;rw[hne,ah]at hstk;obtain rfl:L=j:=bY;refine Z_5 ?_;refine ZcL (scF b6 ⟨some ⟨br,0,none⟩,cr,some ⟨bs,0,none⟩,c2,some ⟨bv,0,none⟩,cv⟩ N T pl) (λw hi hin=>G5 b6 br cr bs c2 bv cv N T pl hTl hrl hsl hm64 L Wq1 w hin) ?_;rintro _ _ ⟨_,rfl,rfl⟩;refine jS ?_;refine yS (L+1) ?_ ?_ ?_
  .omega
  .exact Zwk
  exact Wq490
 simp only[aa]at hc5;obtain rfl:k=N:=by omega
 refine fH ?_;refine dQ (bW (vs:=[.slice X.Ar k X.cr,.slice X.As k X.cs,.i pl.WG]) Zrf Zrf Zv0) (cX Zh rfl) rfl (jC ?_);refine px (cs':=[sl .i64 3 X.Ar k X.cr pl.reg,sl .i64 3 X.As k X.cs pl.slot]) (.inl rfl) Zu rfl rfl rfl Zh Zrf Zrf ?_;rw[hplk];exact⟨_,_,_,_,rfl,rfl⟩
end
end Go.Ink
